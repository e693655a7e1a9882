/- Laid by a program of this session (mend.py) out of the text that print.sh wrote for this claim: renamed, and mended where it fell in Lean. -/
import Derived.Test.YtejjlklecmdpiaaMFnHeapx0
import Derived.Test.YtejjlklecmdpiaaMFnHeapx1
import Derived.Test.YtejjlklecmdpiaaMFnHeapx3
import Derived.Test.YtejjlklecmdpiaaMFnHeapx4
import Derived.Test.YtejjlklecmdpiaaMFnHeapx6
import Derived.Test.YtejjlklecmdpiaaMFnHeapx7
import Derived.Test.YtejjlklecmdpiaaMFnHeapx8
namespace Go.Proofs.Ytejjlklecmdpiaa.PFnHeap
open Go.RowKit Go.Proofs.YtejjlklecmdpiaaW.PrintWords Go.Proofs.YtejjlklecmdpiaaW.PrintLast Go.Proofs.YtejjlklecmdpiaaW.PrintMore
attribute [local go_sem] max2_int min2_int max_two min_two max_three min_three max_four min_four   -- for this text's walks alone
set_option linter.unusedVariables false
set_option linter.unusedSimpArgs false

/-! ### laws_FnHeap: function 6 -/
mutual
def laws_FnHeap.j0 : Nat → ByteArray → Int → Bool → List ByteArray → List ByteArray → Option (Bool)
  | 0, _, _, _, _, _ => none
  | k + 1, x4, x6, x67, x347000, x353000 => if x67 = true then (some false) else (laws_FnHeap.l0 k x4 x6 0 x347000 x353000)
def laws_FnHeap.l0 : Nat → ByteArray → Int → Int → List ByteArray → List ByteArray → Option (Bool)
  | 0, _, _, _, _, _ => none
  | k + 1, x4, x6, x13, x347000, x353000 => if x13 < (x347000.length : Int) then ((impl_NameAt.f k x347000 x13).bind fun bt362 => ((impl_NameAt.f k x353000 x13).bind fun bt364 => (if x13 = x6 then (laws_FnHeap.l0 k x4 x6 (wrap64 (x13 + 1)) x347000 x353000) else (if (bt362.2 != bt364.2) = true then (some false) else (if bt362.1.toList = bt364.1.toList then (laws_FnHeap.l0 k x4 x6 (wrap64 (x13 + 1)) x347000 x353000) else (some false)))))) else ((impl_DropName.f k x353000 x6).bind fun bt366 => ((impl_EncodeHeap.f k x353000).bind fun t371 => ((impl_DecodeHeap.f k t371).bind fun bt372 => (if bt366.2 = 0 then (if bt372.2 = true then ((spec_SameHeap.f k bt372.1 x353000).bind fun t377 => (laws_FnHeap.j2 k x4 x6 (!t377) x353000 bt366.1)) else (laws_FnHeap.j2 k x4 x6 true x353000 bt366.1)) else (laws_FnHeap.j2 k x4 x6 true x353000 bt366.1)))))
def laws_FnHeap.j2 : Nat → ByteArray → Int → Bool → List ByteArray → List ByteArray → Option (Bool)
  | 0, _, _, _, _, _ => none
  | k + 1, x4, x6, x123, x353000, x371000 => if x123 = true then (some false) else ((impl_NameAt.f k x371000 x6).bind fun bt378 => (if bt378.2 = true then (some false) else ((impl_SlotOf.f k x353000 x4).bind fun t380 => (if t380 ≥ 0 then ((impl_SlotOf.f k x353000 x4).bind fun t381 => (some (decide (t381 ≤ x6)))) else (some false)))))
end
def laws_FnHeap.f (k : Nat) (l0 : List Int) : Option (Bool) := (laws_b2Long.f l0).bind fun t341 => (if t341 = true then (some true) else ((spec_DrawPutName.f k l0).bind fun bt342 => ((impl_PutName.f k bt342.1 bt342.2).bind fun bt347 => (if bt347.2.2 = 0 then ((impl_NameAt.f k bt347.1 bt347.2.1).bind fun bt359 => (if bt359.2 = true then (if bt359.1.toList = bt342.2.toList then ((spec_ValidHeap.f k bt347.1).bind fun t361 => (laws_FnHeap.j0 k bt342.2 bt347.2.1 (!t361) bt342.1 bt347.1)) else (laws_FnHeap.j0 k bt342.2 bt347.2.1 true bt342.1 bt347.1)) else (laws_FnHeap.j0 k bt342.2 bt347.2.1 true bt342.1 bt347.1))) else ((spec_PutName.f k bt342.1 bt342.2).bind fun bt353 => (some (bt347.2.2 == bt353.2.2)))))))
theorem laws_FnHeap.mono_l : ∀ k, (∀ y0 y1 y2 y3 y4, LeO (laws_FnHeap.j0 k y0 y1 y2 y3 y4) (laws_FnHeap.j0 (k + 1) y0 y1 y2 y3 y4)) ∧ (∀ y0 y1 y2 y3 y4, LeO (laws_FnHeap.l0 k y0 y1 y2 y3 y4) (laws_FnHeap.l0 (k + 1) y0 y1 y2 y3 y4)) ∧ (∀ y0 y1 y2 y3 y4, LeO (laws_FnHeap.j2 k y0 y1 y2 y3 y4) (laws_FnHeap.j2 (k + 1) y0 y1 y2 y3 y4))
  | 0 => ⟨fun _ _ _ _ _ r h => by simp [laws_FnHeap.j0] at h, fun _ _ _ _ _ r h => by simp [laws_FnHeap.l0] at h, fun _ _ _ _ _ r h => by simp [laws_FnHeap.j2] at h⟩
  | k + 1 => by
    obtain ⟨ih0, ih1, ih2⟩ := laws_FnHeap.mono_l k
    refine ⟨?_, ?_, ?_⟩
    · intro y0 y1 y2 y3 y4
      unfold laws_FnHeap.j0
      repeat' first
      | (with_reducible exact ih0 _ _ _ _ _)
      | (with_reducible exact ih1 _ _ _ _ _)
      | (with_reducible exact ih2 _ _ _ _ _)
      | (with_reducible exact impl_DecodeHeap.mono _ _)
      | (with_reducible exact impl_DropName.mono _ _ _)
      | (with_reducible exact impl_EncodeHeap.mono _ _)
      | (with_reducible exact impl_NameAt.mono _ _ _)
      | (with_reducible exact impl_PutName.mono _ _ _)
      | (with_reducible exact impl_SlotOf.mono _ _ _)
      | (with_reducible exact spec_DrawPutName.mono _ _)
      | (with_reducible exact spec_PutName.mono _ _ _)
      | (with_reducible exact spec_SameHeap.mono _ _ _)
      | (with_reducible exact spec_ValidHeap.mono _ _)
      | (with_reducible exact LeO.refl _)
      | (with_reducible exact LeO.none _)
      | (with_reducible refine LeO.ite ?_ ?_)
      | (with_reducible refine LeO.bind ?_ (fun _ => ?_))
      | exact ih0 _ _ _ _ _
      | exact ih1 _ _ _ _ _
      | exact ih2 _ _ _ _ _
      | exact impl_DecodeHeap.mono _ _
      | exact impl_DropName.mono _ _ _
      | exact impl_EncodeHeap.mono _ _
      | exact impl_NameAt.mono _ _ _
      | exact impl_PutName.mono _ _ _
      | exact impl_SlotOf.mono _ _ _
      | exact spec_DrawPutName.mono _ _
      | exact spec_PutName.mono _ _ _
      | exact spec_SameHeap.mono _ _ _
      | exact spec_ValidHeap.mono _ _
      | exact LeO.none _
      | refine LeO.ite ?_ ?_
      | refine LeO.bind ?_ (fun _ => ?_)
    · intro y0 y1 y2 y3 y4
      unfold laws_FnHeap.l0
      repeat' first
      | (with_reducible exact ih0 _ _ _ _ _)
      | (with_reducible exact ih1 _ _ _ _ _)
      | (with_reducible exact ih2 _ _ _ _ _)
      | (with_reducible exact impl_DecodeHeap.mono _ _)
      | (with_reducible exact impl_DropName.mono _ _ _)
      | (with_reducible exact impl_EncodeHeap.mono _ _)
      | (with_reducible exact impl_NameAt.mono _ _ _)
      | (with_reducible exact impl_PutName.mono _ _ _)
      | (with_reducible exact impl_SlotOf.mono _ _ _)
      | (with_reducible exact spec_DrawPutName.mono _ _)
      | (with_reducible exact spec_PutName.mono _ _ _)
      | (with_reducible exact spec_SameHeap.mono _ _ _)
      | (with_reducible exact spec_ValidHeap.mono _ _)
      | (with_reducible exact LeO.refl _)
      | (with_reducible exact LeO.none _)
      | (with_reducible refine LeO.ite ?_ ?_)
      | (with_reducible refine LeO.bind ?_ (fun _ => ?_))
      | exact ih0 _ _ _ _ _
      | exact ih1 _ _ _ _ _
      | exact ih2 _ _ _ _ _
      | exact impl_DecodeHeap.mono _ _
      | exact impl_DropName.mono _ _ _
      | exact impl_EncodeHeap.mono _ _
      | exact impl_NameAt.mono _ _ _
      | exact impl_PutName.mono _ _ _
      | exact impl_SlotOf.mono _ _ _
      | exact spec_DrawPutName.mono _ _
      | exact spec_PutName.mono _ _ _
      | exact spec_SameHeap.mono _ _ _
      | exact spec_ValidHeap.mono _ _
      | exact LeO.none _
      | refine LeO.ite ?_ ?_
      | refine LeO.bind ?_ (fun _ => ?_)
    · intro y0 y1 y2 y3 y4
      unfold laws_FnHeap.j2
      repeat' first
      | (with_reducible exact ih0 _ _ _ _ _)
      | (with_reducible exact ih1 _ _ _ _ _)
      | (with_reducible exact ih2 _ _ _ _ _)
      | (with_reducible exact impl_DecodeHeap.mono _ _)
      | (with_reducible exact impl_DropName.mono _ _ _)
      | (with_reducible exact impl_EncodeHeap.mono _ _)
      | (with_reducible exact impl_NameAt.mono _ _ _)
      | (with_reducible exact impl_PutName.mono _ _ _)
      | (with_reducible exact impl_SlotOf.mono _ _ _)
      | (with_reducible exact spec_DrawPutName.mono _ _)
      | (with_reducible exact spec_PutName.mono _ _ _)
      | (with_reducible exact spec_SameHeap.mono _ _ _)
      | (with_reducible exact spec_ValidHeap.mono _ _)
      | (with_reducible exact LeO.refl _)
      | (with_reducible exact LeO.none _)
      | (with_reducible refine LeO.ite ?_ ?_)
      | (with_reducible refine LeO.bind ?_ (fun _ => ?_))
      | exact ih0 _ _ _ _ _
      | exact ih1 _ _ _ _ _
      | exact ih2 _ _ _ _ _
      | exact impl_DecodeHeap.mono _ _
      | exact impl_DropName.mono _ _ _
      | exact impl_EncodeHeap.mono _ _
      | exact impl_NameAt.mono _ _ _
      | exact impl_PutName.mono _ _ _
      | exact impl_SlotOf.mono _ _ _
      | exact spec_DrawPutName.mono _ _
      | exact spec_PutName.mono _ _ _
      | exact spec_SameHeap.mono _ _ _
      | exact spec_ValidHeap.mono _ _
      | exact LeO.none _
      | refine LeO.ite ?_ ?_
      | refine LeO.bind ?_ (fun _ => ?_)
theorem laws_FnHeap.mono : ∀ a0 k, LeO (laws_FnHeap.f k a0) (laws_FnHeap.f (k + 1) a0) := by
  intro a0 k
  obtain ⟨ih0, ih1, ih2⟩ := laws_FnHeap.mono_l k
  unfold laws_FnHeap.f
  repeat' first
      | (with_reducible exact ih0 _ _ _ _ _)
      | (with_reducible exact ih1 _ _ _ _ _)
      | (with_reducible exact ih2 _ _ _ _ _)
      | (with_reducible exact impl_DecodeHeap.mono _ _)
      | (with_reducible exact impl_DropName.mono _ _ _)
      | (with_reducible exact impl_EncodeHeap.mono _ _)
      | (with_reducible exact impl_NameAt.mono _ _ _)
      | (with_reducible exact impl_PutName.mono _ _ _)
      | (with_reducible exact impl_SlotOf.mono _ _ _)
      | (with_reducible exact spec_DrawPutName.mono _ _)
      | (with_reducible exact spec_PutName.mono _ _ _)
      | (with_reducible exact spec_SameHeap.mono _ _ _)
      | (with_reducible exact spec_ValidHeap.mono _ _)
      | (with_reducible exact LeO.refl _)
      | (with_reducible exact LeO.none _)
      | (with_reducible refine LeO.ite ?_ ?_)
      | (with_reducible refine LeO.bind ?_ (fun _ => ?_))
      | exact ih0 _ _ _ _ _
      | exact ih1 _ _ _ _ _
      | exact ih2 _ _ _ _ _
      | exact impl_DecodeHeap.mono _ _
      | exact impl_DropName.mono _ _ _
      | exact impl_EncodeHeap.mono _ _
      | exact impl_NameAt.mono _ _ _
      | exact impl_PutName.mono _ _ _
      | exact impl_SlotOf.mono _ _ _
      | exact spec_DrawPutName.mono _ _
      | exact spec_PutName.mono _ _ _
      | exact spec_SameHeap.mono _ _ _
      | exact spec_ValidHeap.mono _ _
      | exact LeO.none _
      | refine LeO.ite ?_ ?_
      | refine LeO.bind ?_ (fun _ => ?_)
set_option maxHeartbeats 8000000 in
set_option maxRecDepth 100000 in
theorem laws_FnHeap.calls (k : Nat) (A0 : Option Addr) (c0 : Nat) (l0 : List Int) (r : Bool) (w : World) (hr0 : Kd.C (Kd.int .u8) w A0 l0.length l0) (hc0 : l0.length ≤ c0) (h : laws_FnHeap.f k l0 = some r) :
    Calls Try.prog 6 #[.slice A0 l0.length c0] w fun e w' => e = .returned (.bool r) ∧ Below w.heap.size w w' := by
  have hu52 := Try.underlying52
  have HR0 := Aside0.mk hr0
  have HC0 := Aside0.mk hc0
  clear hr0 hc0
  have HB := Aside0.mk (Below.refl w.heap.size w)
  have H : ((laws_b2Long.f l0).bind fun t341 => (if t341 = true then (some true) else ((spec_DrawPutName.f k l0).bind fun bt342 => ((impl_PutName.f k bt342.1 bt342.2).bind fun bt347 => (if bt347.2.2 = 0 then ((impl_NameAt.f k bt347.1 bt347.2.1).bind fun bt359 => (if bt359.2 = true then (if bt359.1.toList = bt342.2.toList then ((spec_ValidHeap.f k bt347.1).bind fun t361 => (laws_FnHeap.j0 k bt342.2 bt347.2.1 (!t361) bt342.1 bt347.1)) else (laws_FnHeap.j0 k bt342.2 bt347.2.1 true bt342.1 bt347.1)) else (laws_FnHeap.j0 k bt342.2 bt347.2.1 true bt342.1 bt347.1))) else ((spec_PutName.f k bt342.1 bt342.2).bind fun bt353 => (some (bt347.2.2 == bt353.2.2)))))))) = some r := h
  clear h
  replace H := Option.bind_eq_some_iff.mp H
  obtain ⟨t341, A20, H⟩ := H
  replace H : (if t341 = true then (some true) else ((spec_DrawPutName.f k l0).bind fun bt342 => ((impl_PutName.f k bt342.1 bt342.2).bind fun bt347 => (if bt347.2.2 = 0 then ((impl_NameAt.f k bt347.1 bt347.2.1).bind fun bt359 => (if bt359.2 = true then (if bt359.1.toList = bt342.2.toList then ((spec_ValidHeap.f k bt347.1).bind fun t361 => (laws_FnHeap.j0 k bt342.2 bt347.2.1 (!t361) bt342.1 bt347.1)) else (laws_FnHeap.j0 k bt342.2 bt347.2.1 true bt342.1 bt347.1)) else (laws_FnHeap.j0 k bt342.2 bt347.2.1 true bt342.1 bt347.1))) else ((spec_PutName.f k bt342.1 bt342.2).bind fun bt353 => (some (bt347.2.2 == bt353.2.2))))))) = some r := H
  have A2 := Aside0.mk A20
  clear A20
  by_cases c3 : t341 = true
  · subst c3
    have H1 : (some true) = some r := by rw [if_pos rfl] at H; exact H
    clear H
    have H := H1
    clear H1
    obtain rfl := Option.some.inj H
    go_enter Try.func6, Try.ntmps6
    go_wp2_with (first | ((with_reducible refine gate_callee (f := 25) rfl ?_); refine goesL_ (some 25) rfl rfl Try.func25 (by kernel_rfl) rfl #[.slice A0 l0.length c0] rfl (by (try simp only [List.map_toArray, List.map_cons, List.map_nil]); first | done | rfl | (simp only [List.length_drop, List.length_take]; rfl)) ?_; (with_reducible refine (laws_b2Long.calls _ _ l0 true _ ?side1 ?side2 A2.out).mono ?_); (case side1 => repeat (first | exact HR0.out | (with_reducible refine Kd.C_alloc ?_ _) | (with_reducible refine Kd.C_drewN ?_ _) | (with_reducible refine Kd.C_drew ?_))); (case side2 => exact HC0.out); rintro e w' ⟨rfl, ⟨nd, rfl⟩⟩; refine ⟨_, rfl, ?_⟩))
    go_ret
    exact ⟨by first | rfl | (simp [errW_none, errW_some] <;> rfl) | (simp [*, errW_none, errW_some] <;> rfl), by repeat (first | (with_reducible first | exact HB.out | apply below_alloc | apply pw_below_drewN | apply below_drew1) | exact HB.out)⟩
  · replace c3 := Bool.eq_false_iff.mpr c3
    subst c3
    have H1 : ((spec_DrawPutName.f k l0).bind fun bt342 => ((impl_PutName.f k bt342.1 bt342.2).bind fun bt347 => (if bt347.2.2 = 0 then ((impl_NameAt.f k bt347.1 bt347.2.1).bind fun bt359 => (if bt359.2 = true then (if bt359.1.toList = bt342.2.toList then ((spec_ValidHeap.f k bt347.1).bind fun t361 => (laws_FnHeap.j0 k bt342.2 bt347.2.1 (!t361) bt342.1 bt347.1)) else (laws_FnHeap.j0 k bt342.2 bt347.2.1 true bt342.1 bt347.1)) else (laws_FnHeap.j0 k bt342.2 bt347.2.1 true bt342.1 bt347.1))) else ((spec_PutName.f k bt342.1 bt342.2).bind fun bt353 => (some (bt347.2.2 == bt353.2.2)))))) = some r := by rw [if_neg (show ¬ (false = true) by decide)] at H; exact H
    clear H
    have H := H1
    clear H1
    replace H := Option.bind_eq_some_iff.mp H
    obtain ⟨⟨t342, t345⟩, A40, H⟩ := H
    replace H : ((impl_PutName.f k t342 t345).bind fun bt347 => (if bt347.2.2 = 0 then ((impl_NameAt.f k bt347.1 bt347.2.1).bind fun bt359 => (if bt359.2 = true then (if bt359.1.toList = t345.toList then ((spec_ValidHeap.f k bt347.1).bind fun t361 => (laws_FnHeap.j0 k t345 bt347.2.1 (!t361) t342 bt347.1)) else (laws_FnHeap.j0 k t345 bt347.2.1 true t342 bt347.1)) else (laws_FnHeap.j0 k t345 bt347.2.1 true t342 bt347.1))) else ((spec_PutName.f k t342 t345).bind fun bt353 => (some (bt347.2.2 == bt353.2.2))))) = some r := H
    have A4 := Aside0.mk A40
    clear A40
    replace H := Option.bind_eq_some_iff.mp H
    obtain ⟨⟨t347, t350, t351⟩, A50, H⟩ := H
    replace H : (if t351 = 0 then ((impl_NameAt.f k t347 t350).bind fun bt359 => (if bt359.2 = true then (if bt359.1.toList = t345.toList then ((spec_ValidHeap.f k t347).bind fun t361 => (laws_FnHeap.j0 k t345 t350 (!t361) t342 t347)) else (laws_FnHeap.j0 k t345 t350 true t342 t347)) else (laws_FnHeap.j0 k t345 t350 true t342 t347))) else ((spec_PutName.f k t342 t345).bind fun bt353 => (some (t351 == bt353.2.2)))) = some r := H
    have A5 := Aside0.mk A50
    clear A50
    by_cases c6 : t351 = 0
    · rw [if_pos c6] at H
      have c6b0 : (t351 == 0) = true := beq_iff_eq.mpr c6
      have c6b1 : (t351 != 0) = false := bne_eq_false_iff_eq.mpr c6
      clear c6
      replace H := Option.bind_eq_some_iff.mp H
      obtain ⟨⟨t359, t360⟩, A70, H⟩ := H
      replace H : (if t360 = true then (if t359.toList = t345.toList then ((spec_ValidHeap.f k t347).bind fun t361 => (laws_FnHeap.j0 k t345 t350 (!t361) t342 t347)) else (laws_FnHeap.j0 k t345 t350 true t342 t347)) else (laws_FnHeap.j0 k t345 t350 true t342 t347)) = some r := H
      have A7 := Aside0.mk A70
      clear A70
      have HC8 := Aside0.mk H
      clear H
      go_enter Try.func6, Try.ntmps6
      go_upto_region 9 with (first | ((with_reducible refine gate_callee (f := 25) rfl ?_); refine goesL_ (some 25) rfl rfl Try.func25 (by kernel_rfl) rfl #[.slice A0 l0.length c0] rfl (by (try simp only [List.map_toArray, List.map_cons, List.map_nil]); first | done | rfl | (simp only [List.length_drop, List.length_take]; rfl)) ?_; (with_reducible refine (laws_b2Long.calls _ _ l0 false _ ?side1 ?side2 A2.out).mono ?_); (case side1 => repeat (first | exact HR0.out | (with_reducible refine Kd.C_alloc ?_ _) | (with_reducible refine Kd.C_drewN ?_ _) | (with_reducible refine Kd.C_drew ?_))); (case side2 => exact HC0.out); rintro e w' ⟨rfl, ⟨nd, rfl⟩⟩; refine ⟨_, rfl, ?_⟩) | ((with_reducible refine gate_callee (f := 26) rfl ?_); refine goesL_ (some 28) rfl rfl Try.func26 (by kernel_rfl) rfl #[.slice A0 l0.length c0] rfl (by (try simp only [List.map_toArray, List.map_cons, List.map_nil]); first | done | rfl | (simp only [List.length_drop, List.length_take]; rfl)) ?_; (with_reducible refine (spec_DrawPutName.calls k _ _ l0 t342 t345 _ ?side1 ?side2 A4.out).mono ?_); (case side1 => repeat (first | exact HR0.out | (with_reducible refine Kd.C_alloc ?_ _) | (with_reducible refine Kd.C_drewN ?_ _) | (with_reducible refine Kd.C_drew ?_))); (case side2 => exact HC0.out); rintro e w9 ⟨v343, rfl, ho0, hb⟩; refine ⟨_, rfl, ?_⟩; have n0_ := Aside0.mk (Kd.R_lower ho0 (below_size (by repeat (first | (with_reducible first | exact HB.out | apply below_alloc | apply pw_below_drewN | apply below_drew1) | exact HB.out)))); have n1_ := Aside0.mk (below_step (by repeat (first | (with_reducible first | exact HB.out | apply below_alloc | apply pw_below_drewN | apply below_drew1) | exact HB.out)) hb); clear HB; have HO344 := n0_; have HB := n1_; clear n0_ n1_; (try clear hb); (try clear hb2); (try clear hk); (try clear hi); (try clear ho0)) | ((with_reducible refine gate_dst (N := 3) rfl ?_); refine box_event ?hg (N := 3) ?hd (cs := #[.slice none 0 0]) (t := 52) ?hr ?_; (case hd => rfl); (case hg => rfl); (case hr => first | (go_simp; done) | (go_simp; rfl)); intro gb346 hg w10 hbox hb; have n0_ := Aside0.mk (Kd.R_below (by (with_reducible repeat (first | apply Kd.R_alloc | apply Kd.R_drewN | apply Kd.R_drew)); exact HO344.out) hb); have n1_ := Aside0.mk (below_step (by repeat (first | (with_reducible first | exact HB.out | apply below_alloc | apply pw_below_drewN | apply below_drew1) | exact HB.out)) hb); have n2_ := Aside0.mk (hbox); have n3_ := Aside0.mk ((by rw [hg]; exact (below_size (by repeat (first | (with_reducible first | exact HB.out | apply below_alloc | apply pw_below_drewN | apply below_drew1) | exact HB.out))) : w.heap.size ≤ gb346)); have n4_ := Aside0.mk ((by rw [hg]; exact (below_size (by repeat (first | (with_reducible first | exact HB.out | apply below_alloc | apply pw_below_drewN | apply below_drew1) | exact HB.out))) : w.heap.size ≤ gb346)); clear HO344; clear HB; have HO344 := n0_; have HB := n1_; have BK346 := n2_; have GW346 := n3_; have GE346 := n4_; clear n0_ n1_ n2_ n3_ n4_; clear hb hbox hg; obtain ⟨Ao11, co11, eo11⟩ := Kd.R_slice HO344.out; subst eo11; have hcz12_0 : w10.cell? ⟨gb346, 0, none⟩ = some (.slice none 0 0) := (blk_cell BK346.out 0).trans rfl; have hfz12_0 := blk_frozen BK346.out 0) | ((with_reducible refine gate_callee (f := 27) rfl ?_); refine goesL_ (some 34) rfl rfl Try.func27 (by kernel_rfl) rfl #[.agg #[.slice Ao11 t342.length co11], .string t345] rfl (by (try simp only [List.map_toArray, List.map_cons, List.map_nil]); first | done | rfl | (simp only [List.length_drop, List.length_take]; rfl)) ?_; (with_reducible refine (impl_PutName.calls k _ _ t342 t345 t347 t350 t351 _ ?side1 ?side2 A5.out).mono ?_); (case side1 => refine (Kd.R_reads' (e := 9) (base := w.heap.size) (ok := fun k_ => True) (n := t342.length) (c := co11) ?_).2.2; exact (by (with_reducible repeat (first | apply Kd.R_alloc | apply Kd.R_drewN | apply Kd.R_drew)); exact (Kd.R_mono (Kd.R_far (p := ⟨gb346, 0, none⟩) (Kd.R_types HO344.out BK346.out (by decide)) (fun _ hk => hk.2) (.slice Ao11 t342.length co11)) (fun _ h_ => h_.1)))); (case side2 => exact (Kd.R_reads' HO344.out).2.1); rintro e w13 ⟨v348, rfl, ho0, hb⟩; refine ⟨_, rfl, ?_⟩; have n0_ := Aside0.mk (Kd.R_elder' (by (with_reducible repeat (first | apply Kd.R_alloc | apply Kd.R_drewN | apply Kd.R_drew)); exact (Kd.R_mono (Kd.R_far (p := ⟨gb346, 0, none⟩) (Kd.R_types HO344.out BK346.out (by decide)) (fun _ hk => hk.2) (.slice Ao11 t342.length co11)) (fun _ h_ => h_.1))) (Kd.R_base ho0) hb); have n1_ := Aside0.mk (Kd.R_lower (Kd.R_new' ho0 (Kd.R_lt (by (with_reducible repeat (first | apply Kd.R_alloc | apply Kd.R_drewN | apply Kd.R_drew)); exact (Kd.R_mono (Kd.R_far (p := ⟨gb346, 0, none⟩) (Kd.R_types HO344.out BK346.out (by decide)) (fun _ hk => hk.2) (.slice Ao11 t342.length co11)) (fun _ h_ => h_.1))))) (below_size (by repeat (first | (with_reducible first | exact HB.out | apply below_alloc | apply pw_below_drewN | apply below_drew1 | refine below_set ?_ GE346.out) | exact HB.out)))); have n2_ := Aside0.mk (blk_below (g := gb346) (o := .cells #[.slice Ao11 t342.length co11] 52 (0, 0)) (by (with_reducible repeat (first | refine blk_drewN ?_ _ | refine blk_drew ?_ | refine blk_alloc ?_ _)); refine blk_put (cs := #[.slice none 0 0]) ?_ 0 _ rfl; (with_reducible repeat (first | refine blk_drewN ?_ _ | refine blk_drew ?_ | refine blk_alloc ?_ _)); exact BK346.out) hb); have n3_ := Aside0.mk (below_step (by repeat (first | (with_reducible first | exact HB.out | apply below_alloc | apply pw_below_drewN | apply below_drew1 | refine below_set ?_ GE346.out) | exact HB.out)) hb); clear HO344; clear BK346; clear HB; have HO344 := n0_; have HO349 := n1_; have BK346 := n2_; have HB := n3_; clear n0_ n1_ n2_ n3_; (try clear hb); (try clear hb2); (try clear hk); (try clear hi); (try clear ho0)) | ((with_reducible refine gate_dst (N := 5) rfl ?_); refine box_event ?hg (N := 5) ?hd (cs := #[.slice none 0 0]) (t := 52) ?hr ?_; (case hd => rfl); (case hg => rfl); (case hr => first | (go_simp; done) | (go_simp; rfl)); intro gb352 hg w14 hbox hb; have n0_ := Aside0.mk (Kd.R_below (by (with_reducible repeat (first | apply Kd.R_alloc | apply Kd.R_drewN | apply Kd.R_drew)); exact HO344.out) hb); have n1_ := Aside0.mk (Kd.R_below (by (with_reducible repeat (first | apply Kd.R_alloc | apply Kd.R_drewN | apply Kd.R_drew)); exact HO349.out) hb); have n2_ := Aside0.mk (blk_below (g := gb346) (o := .cells #[.slice Ao11 t342.length co11] 52 (0, 0)) (by (with_reducible repeat (first | refine blk_drewN ?_ _ | refine blk_drew ?_ | refine blk_alloc ?_ _)); exact BK346.out) hb); have n3_ := Aside0.mk (below_step (by repeat (first | (with_reducible first | exact HB.out | apply below_alloc | apply pw_below_drewN | apply below_drew1 | refine below_set ?_ GE346.out) | exact HB.out)) hb); have n4_ := Aside0.mk (hbox); have n5_ := Aside0.mk ((by rw [hg]; exact (below_size (by repeat (first | (with_reducible first | exact HB.out | apply below_alloc | apply pw_below_drewN | apply below_drew1 | refine below_set ?_ GE346.out) | exact HB.out))) : w.heap.size ≤ gb352)); have n6_ := Aside0.mk ((by rw [hg]; exact (below_size (by repeat (first | (with_reducible first | exact HB.out | apply below_alloc | apply pw_below_drewN | apply below_drew1 | refine below_set ?_ GE346.out) | exact HB.out))) : w.heap.size ≤ gb352)); have n7_ := Aside0.mk ((by rw [hg]; exact Nat.ne_of_lt (blk_lt (g := gb346) (o := .cells #[.slice Ao11 t342.length co11] 52 (0, 0)) (by (with_reducible repeat (first | refine blk_drewN ?_ _ | refine blk_drew ?_ | refine blk_alloc ?_ _)); exact BK346.out)) : gb346 ≠ gb352)); have n8_ := Aside0.mk ((by rw [hg]; exact Nat.ne_of_gt (blk_lt (g := gb346) (o := .cells #[.slice Ao11 t342.length co11] 52 (0, 0)) (by (with_reducible repeat (first | refine blk_drewN ?_ _ | refine blk_drew ?_ | refine blk_alloc ?_ _)); exact BK346.out)) : gb352 ≠ gb346)); clear HO344; clear HO349; clear BK346; clear HB; have HO344 := n0_; have HO349 := n1_; have BK346 := n2_; have HB := n3_; have BK352 := n4_; have GW352 := n5_; have GE352 := n6_; have NB346_352 := n7_; have NB352_346 := n8_; clear n0_ n1_ n2_ n3_ n4_ n5_ n6_ n7_ n8_; clear hb hbox hg; obtain ⟨Ao15, co15, eo15⟩ := Kd.R_slice HO349.out; subst eo15; have hnb16 := NB352_346.out; have hnc16 := NB346_352.out; have hcz17_0 : w14.cell? ⟨gb352, 0, none⟩ = some (.slice none 0 0) := (blk_cell BK352.out 0).trans rfl; have hfz17_0 := blk_frozen BK352.out 0) | ((with_reducible refine gate_callee (f := 29) rfl ?_); refine goesL_ (some 53) rfl rfl Try.func29 (by kernel_rfl) rfl #[.agg #[.slice Ao15 t347.length co15], .int .i64 t350] rfl (by (try simp only [List.map_toArray, List.map_cons, List.map_nil]); first | done | rfl | (simp only [List.length_drop, List.length_take]; rfl)) ?_; (with_reducible refine (impl_NameAt.calls k _ _ t347 t350 t359 t360 _ ?side1 ?side2 A7.out).mono ?_); (case side1 => refine (Kd.R_reads' (e := 9) (base := w.heap.size) (ok := fun k_ => (True ∧ some k_ ≠ (.slice Ao11 t342.length co11 : Value).ownBlock)) (n := t347.length) (c := co15) ?_).2.2; exact (by (with_reducible repeat (first | apply Kd.R_alloc | apply Kd.R_drewN | apply Kd.R_drew)); exact (Kd.R_mono (Kd.R_far (p := ⟨gb352, 0, none⟩) (Kd.R_types HO349.out BK352.out (by decide)) (fun _ hk => hk.2) (.slice Ao15 t347.length co15)) (fun _ h_ => h_.1)))); (case side2 => exact (Kd.R_reads' HO349.out).2.1); rintro e w18 ⟨rfl, hb⟩; refine ⟨_, rfl, ?_⟩; have n0_ := Aside0.mk (Kd.R_below (by (with_reducible repeat (first | apply Kd.R_alloc | apply Kd.R_drewN | apply Kd.R_drew)); exact (Kd.R_mono (Kd.R_far (p := ⟨gb352, 0, none⟩) (Kd.R_types HO344.out BK352.out (by decide)) (fun _ hk => hk.2) (.slice Ao15 t347.length co15)) (fun _ h_ => h_.1))) hb); have n1_ := Aside0.mk (Kd.R_below (by (with_reducible repeat (first | apply Kd.R_alloc | apply Kd.R_drewN | apply Kd.R_drew)); exact (Kd.R_mono (Kd.R_far (p := ⟨gb352, 0, none⟩) (Kd.R_types HO349.out BK352.out (by decide)) (fun _ hk => hk.2) (.slice Ao15 t347.length co15)) (fun _ h_ => h_.1))) hb); have n2_ := Aside0.mk (blk_below (g := gb346) (o := .cells #[.slice Ao11 t342.length co11] 52 (0, 0)) (by (with_reducible repeat (first | refine blk_drewN ?_ _ | refine blk_drew ?_ | refine blk_alloc ?_ _)); refine blk_far ?_ NB346_352.out _; (with_reducible repeat (first | refine blk_drewN ?_ _ | refine blk_drew ?_ | refine blk_alloc ?_ _)); exact BK346.out) hb); have n3_ := Aside0.mk (blk_below (g := gb352) (o := .cells #[.slice Ao15 t347.length co15] 52 (0, 0)) (by (with_reducible repeat (first | refine blk_drewN ?_ _ | refine blk_drew ?_ | refine blk_alloc ?_ _)); refine blk_put (cs := #[.slice none 0 0]) ?_ 0 _ rfl; (with_reducible repeat (first | refine blk_drewN ?_ _ | refine blk_drew ?_ | refine blk_alloc ?_ _)); exact BK352.out) hb); have n4_ := Aside0.mk (below_step (by repeat (first | (with_reducible first | exact HB.out | apply below_alloc | apply pw_below_drewN | apply below_drew1 | refine below_set ?_ GE346.out | refine below_set ?_ GE352.out) | exact HB.out)) hb); clear HO344; clear HO349; clear BK346; clear BK352; clear HB; have HO344 := n0_; have HO349 := n1_; have BK346 := n2_; have BK352 := n3_; have HB := n4_; clear n0_ n1_ n2_ n3_ n4_; (try clear hb); (try clear hb2); (try clear hk); (try clear hi)))
      (try simp only [Act.put, List.setIfInBounds_toArray, List.set_cons_zero, List.set_cons_succ])
      go_cut [67] (fun v67 wc => ∃ (kq : Nat) (x67_7 : Bool), v67 = .bool x67_7 ∧ Aside0 (laws_FnHeap.j0 kq t345 t350 x67_7 t342 t347 = some r) ∧ Aside0 (kq ≤ k) ∧ Aside0 (Kd.R Kd.string 9 wc w.heap.size (fun k_ => some k_ ≠ ((.slice Ao15 t347.length co15) : Value).ownBlock) (.slice Ao11 t342.length co11) t342) ∧ Aside0 (Kd.R Kd.string 9 wc w.heap.size (fun k_ => some k_ ≠ ((.slice Ao11 t342.length co11) : Value).ownBlock) (.slice Ao15 t347.length co15) t347) ∧ Aside0 (wc.heap[gb346]? = some (.cells #[(.slice Ao11 t342.length co11)] 52 (0, 0))) ∧ Aside0 (wc.heap[gb352]? = some (.cells #[(.slice Ao15 t347.length co15)] 52 (0, 0))) ∧ Aside0 (Below w.heap.size w wc))
      case first =>
        have H := HC8.out
        clear HC8
        by_cases c19 : t360 = true
        · subst c19
          have H1 : (if t359.toList = t345.toList then ((spec_ValidHeap.f k t347).bind fun t361 => (laws_FnHeap.j0 k t345 t350 (!t361) t342 t347)) else (laws_FnHeap.j0 k t345 t350 true t342 t347)) = some r := by rw [if_pos rfl] at H; exact H
          clear H
          have H := H1
          clear H1
          by_cases c20 : t359.toList = t345.toList
          · rw [if_pos c20] at H
            have c20b0 : (t359.toList == t345.toList) = true := beq_iff_eq.mpr c20
            have c20b1 : (t359.toList != t345.toList) = false := bne_eq_false_iff_eq.mpr c20
            clear c20
            (first | rw [c20b0] | (simp only [i64_w, i32_w]; rw [c20b0]) | skip)
            replace H := Option.bind_eq_some_iff.mp H
            obtain ⟨t361, A210, H⟩ := H
            replace H : (laws_FnHeap.j0 k t345 t350 (!t361) t342 t347) = some r := H
            have A21 := Aside0.mk A210
            clear A210
            have H' := Aside0.mk H
            clear H
            have hnb22 := NB352_346.out
            have hnc22 := NB346_352.out
            have hcz23_0 : w18.cell? ⟨gb352, 0, none⟩ = some (.slice Ao15 t347.length co15) := (blk_cell BK352.out 0).trans rfl
            have hfz23_0 := blk_frozen BK352.out 0
            go_wp2_with (first | (go_at_call 30; (with_reducible refine (spec_ValidHeap.calls k _ _ t347 t361 _ ?side1 ?side2 A21.out).mono ?_); (case side1 => repeat (first | exact (Kd.R_reads' HO349.out).2.2 | (with_reducible refine Kd.C_alloc ?_ _) | (with_reducible refine Kd.C_drewN ?_ _) | (with_reducible refine Kd.C_drew ?_))); (case side2 => exact (Kd.R_reads' HO349.out).2.1); rintro e w24 ⟨rfl, hb⟩; have n0_ := Aside0.mk (Kd.R_below (by (with_reducible repeat (first | apply Kd.R_alloc | apply Kd.R_drewN | apply Kd.R_drew)); exact HO344.out) hb); have n1_ := Aside0.mk (Kd.R_below (by (with_reducible repeat (first | apply Kd.R_alloc | apply Kd.R_drewN | apply Kd.R_drew)); exact HO349.out) hb); have n2_ := Aside0.mk (blk_below (g := gb346) (o := .cells #[.slice Ao11 t342.length co11] 52 (0, 0)) (by (with_reducible repeat (first | refine blk_drewN ?_ _ | refine blk_drew ?_ | refine blk_alloc ?_ _)); exact BK346.out) hb); have n3_ := Aside0.mk (blk_below (g := gb352) (o := .cells #[.slice Ao15 t347.length co15] 52 (0, 0)) (by (with_reducible repeat (first | refine blk_drewN ?_ _ | refine blk_drew ?_ | refine blk_alloc ?_ _)); exact BK352.out) hb); have n4_ := Aside0.mk (below_step (by repeat (first | (with_reducible first | exact HB.out | apply below_alloc | apply pw_below_drewN | apply below_drew1 | refine below_set ?_ GE346.out | refine below_set ?_ GE352.out) | exact HB.out)) hb); clear HO344; clear HO349; clear BK346; clear BK352; clear HB; have HO344 := n0_; have HO349 := n1_; have BK346 := n2_; have BK352 := n3_; have HB := n4_; clear n0_ n1_ n2_ n3_ n4_; (try clear hb); (try clear hb2); (try clear hk); (try clear hi)))
            go_meet
            case rel => exact ⟨_, (!t361), (by first | rfl | (simp; done) | (simp [*]; done)), H', ⟨by first | omega | exact Nat.le_refl _⟩, ⟨by (with_reducible repeat (first | apply Kd.R_alloc | apply Kd.R_drewN | apply Kd.R_drew)); exact Kd.R_mono HO344.out (fun _ hk => hk.2)⟩, ⟨by (with_reducible repeat (first | apply Kd.R_alloc | apply Kd.R_drewN | apply Kd.R_drew)); exact Kd.R_mono HO349.out (fun _ hk => hk.2)⟩, ⟨by (with_reducible repeat (first | refine blk_drewN ?_ _ | refine blk_drew ?_ | refine blk_alloc ?_ _)); exact BK346.out⟩, ⟨by (with_reducible repeat (first | refine blk_drewN ?_ _ | refine blk_drew ?_ | refine blk_alloc ?_ _)); exact BK352.out⟩, ⟨by repeat (first | (with_reducible first | exact HB.out | apply below_alloc | apply pw_below_drewN | apply below_drew1 | refine below_set ?_ GE346.out | refine below_set ?_ GE352.out) | exact HB.out)⟩⟩
          · rw [if_neg c20] at H
            have c20b0 : (t359.toList == t345.toList) = false := beq_eq_false_iff_ne.mpr c20
            have c20b1 : (t359.toList != t345.toList) = true := bne_iff_ne.mpr c20
            (first | rw [c20b0] | (simp only [i64_w, i32_w]; rw [c20b0]) | skip)
            have H' := Aside0.mk H
            clear H
            go_wp2
            go_meet
            case rel => exact ⟨_, (true), (by first | rfl | (simp; done) | (simp [*]; done)), H', ⟨by first | omega | exact Nat.le_refl _⟩, ⟨by (with_reducible repeat (first | apply Kd.R_alloc | apply Kd.R_drewN | apply Kd.R_drew)); exact Kd.R_mono HO344.out (fun _ hk => hk.2)⟩, ⟨by (with_reducible repeat (first | apply Kd.R_alloc | apply Kd.R_drewN | apply Kd.R_drew)); exact Kd.R_mono HO349.out (fun _ hk => hk.2)⟩, ⟨by (with_reducible repeat (first | refine blk_drewN ?_ _ | refine blk_drew ?_ | refine blk_alloc ?_ _)); exact BK346.out⟩, ⟨by (with_reducible repeat (first | refine blk_drewN ?_ _ | refine blk_drew ?_ | refine blk_alloc ?_ _)); exact BK352.out⟩, ⟨by repeat (first | (with_reducible first | exact HB.out | apply below_alloc | apply pw_below_drewN | apply below_drew1 | refine below_set ?_ GE346.out | refine below_set ?_ GE352.out) | exact HB.out)⟩⟩
        · replace c19 := Bool.eq_false_iff.mpr c19
          subst c19
          have H1 : (laws_FnHeap.j0 k t345 t350 true t342 t347) = some r := by rw [if_neg (show ¬ (false = true) by decide)] at H; exact H
          clear H
          have H := H1
          clear H1
          have H' := Aside0.mk H
          clear H
          go_wp2
          go_meet
          case rel => exact ⟨_, (true), (by first | rfl | (simp; done) | (simp [*]; done)), H', ⟨by first | omega | exact Nat.le_refl _⟩, ⟨by (with_reducible repeat (first | apply Kd.R_alloc | apply Kd.R_drewN | apply Kd.R_drew)); exact Kd.R_mono HO344.out (fun _ hk => hk.2)⟩, ⟨by (with_reducible repeat (first | apply Kd.R_alloc | apply Kd.R_drewN | apply Kd.R_drew)); exact Kd.R_mono HO349.out (fun _ hk => hk.2)⟩, ⟨by (with_reducible repeat (first | refine blk_drewN ?_ _ | refine blk_drew ?_ | refine blk_alloc ?_ _)); exact BK346.out⟩, ⟨by (with_reducible repeat (first | refine blk_drewN ?_ _ | refine blk_drew ?_ | refine blk_alloc ?_ _)); exact BK352.out⟩, ⟨by repeat (first | (with_reducible first | exact HB.out | apply below_alloc | apply pw_below_drewN | apply below_drew1 | refine below_set ?_ GE346.out | refine below_set ?_ GE352.out) | exact HB.out)⟩⟩
      case rest =>
        clear HC8
        try clear c1
        try clear c2
        try clear p2
        try clear c3
        try clear c6
        try clear c6b0
        try clear c6b1
        try clear c16
        try clear c19
        try clear c20
        try clear c20b0
        try clear c20b1
        try clear c22
        try clear hcz12_0
        try clear hcz17_0
        try clear hcz23_0
        try clear hfz12_0
        try clear hfz17_0
        try clear hfz23_0
        obtain ⟨kq, x67_7, rfl, HA, HJ7, HO_347000, HO_353000, BK346, BK352, HB⟩ := hcut
        cases kq with
        | zero => exact absurd HA.out (by simp [laws_FnHeap.j0])
        | succ kj7 =>
          have H := HA.out
          clear HA
          simp only [laws_FnHeap.j0] at H
          by_cases c25 : x67_7 = true
          · subst c25
            have H1 : (some false) = some r := by rw [if_pos rfl] at H; exact H
            clear H
            have H := H1
            clear H1
            obtain rfl := Option.some.inj H
            go_wp2
            go_ret
            exact ⟨by first | rfl | (simp [errW_none, errW_some] <;> rfl) | (simp [*, errW_none, errW_some] <;> rfl), by repeat (first | (with_reducible first | exact HB.out | apply below_alloc | apply pw_below_drewN | apply below_drew1 | refine below_set ?_ GE346.out | refine below_set ?_ GE352.out) | exact HB.out)⟩
          · replace c25 := Bool.eq_false_iff.mpr c25
            subst c25
            have H1 : (laws_FnHeap.l0 kj7 t345 t350 0 t342 t347) = some r := by rw [if_neg (show ¬ (false = true) by decide)] at H; exact H
            clear H
            have H := H1
            clear H1
            have H' := Aside0.mk H
            clear H
            go_wp2
            go_loopg [13] kj7 (fun kq v13 w' => ∃ (x13_2 : Int), v13 = .int .i64 x13_2 ∧ Aside0 (laws_FnHeap.l0 kq t345 t350 x13_2 t342 t347 = some r) ∧ Aside0 (kq ≤ kj7) ∧ Aside0 (Kd.R Kd.string 9 w' w.heap.size (fun k_ => some k_ ≠ ((.slice Ao15 t347.length co15) : Value).ownBlock) (.slice Ao11 t342.length co11) t342) ∧ Aside0 (Kd.R Kd.string 9 w' w.heap.size (fun k_ => some k_ ≠ ((.slice Ao11 t342.length co11) : Value).ownBlock) (.slice Ao15 t347.length co15) t347) ∧ Aside0 (w'.heap[gb346]? = some (.cells #[(.slice Ao11 t342.length co11)] 52 (0, 0))) ∧ Aside0 (w'.heap[gb352]? = some (.cells #[(.slice Ao15 t347.length co15)] 52 (0, 0))) ∧ Aside0 (Below w.heap.size w w'))
            case atStart => exact ⟨(0), (by first | rfl | (simp; done) | (simp [*]; done)), H', ⟨Nat.le_refl _⟩, ⟨by (with_reducible repeat (first | apply Kd.R_alloc | apply Kd.R_drewN | apply Kd.R_drew)); exact HO_347000.out⟩, ⟨by (with_reducible repeat (first | apply Kd.R_alloc | apply Kd.R_drewN | apply Kd.R_drew)); exact HO_353000.out⟩, ⟨by (with_reducible repeat (first | refine blk_drewN ?_ _ | refine blk_drew ?_ | refine blk_alloc ?_ _)); exact BK346.out⟩, ⟨by (with_reducible repeat (first | refine blk_drewN ?_ _ | refine blk_drew ?_ | refine blk_alloc ?_ _)); exact BK352.out⟩, ⟨by repeat (first | (with_reducible first | exact HB.out | apply below_alloc | apply pw_below_drewN | apply below_drew1 | refine below_set ?_ GE346.out | refine below_set ?_ GE352.out) | exact HB.out)⟩⟩
            case round =>
              clear H'
              try clear c1
              try clear c2
              try clear p2
              try clear c3
              try clear c6
              try clear c6b0
              try clear c6b1
              try clear c16
              try clear c19
              try clear c20
              try clear c20b0
              try clear c20b1
              try clear c22
              try clear c25
              try clear hcz12_0
              try clear hcz17_0
              try clear hcz23_0
              try clear hfz12_0
              try clear hfz17_0
              try clear hfz23_0
              try clear p2
              obtain ⟨x13_2, rfl, HA, HK2, HO_347000, HO_353000, BK346, BK352, HB⟩ := hrel
              cases gk with
              | zero => exact absurd HA.out (by simp [laws_FnHeap.l0])
              | succ k2 =>
                have H := HA.out
                clear HA
                simp only [laws_FnHeap.l0] at H
                by_cases c26 : x13_2 < (t342.length : Int)
                · rw [if_pos c26] at H
                  have c26b0 : decide (x13_2 < (t342.length : Int)) = true := decide_eq_true c26
                  clear c26
                  replace H := Option.bind_eq_some_iff.mp H
                  obtain ⟨⟨t362, t363⟩, A270, H⟩ := H
                  replace H : ((impl_NameAt.f k2 t347 x13_2).bind fun bt364 => (if x13_2 = t350 then (laws_FnHeap.l0 k2 t345 t350 (wrap64 (x13_2 + 1)) t342 t347) else (if (t363 != bt364.2) = true then (some false) else (if t362.toList = bt364.1.toList then (laws_FnHeap.l0 k2 t345 t350 (wrap64 (x13_2 + 1)) t342 t347) else (some false))))) = some r := H
                  have A27 := Aside0.mk A270
                  clear A270
                  replace H := Option.bind_eq_some_iff.mp H
                  obtain ⟨⟨t364, t365⟩, A280, H⟩ := H
                  replace H : (if x13_2 = t350 then (laws_FnHeap.l0 k2 t345 t350 (wrap64 (x13_2 + 1)) t342 t347) else (if (t363 != t365) = true then (some false) else (if t362.toList = t364.toList then (laws_FnHeap.l0 k2 t345 t350 (wrap64 (x13_2 + 1)) t342 t347) else (some false)))) = some r := H
                  have A28 := Aside0.mk A280
                  clear A280
                  by_cases c29 : x13_2 = t350
                  · rw [if_pos c29] at H
                    have c29b0 : (x13_2 == t350) = true := beq_iff_eq.mpr c29
                    have c29b1 : (x13_2 != t350) = false := bne_eq_false_iff_eq.mpr c29
                    clear c29
                    have H' := Aside0.mk H
                    clear H
                    have hnb30 := NB346_352.out
                    have hnc30 := NB352_346.out
                    have hcz31_0 : wr.cell? ⟨gb346, 0, none⟩ = some (.slice Ao11 t342.length co11) := (blk_cell BK346.out 0).trans rfl
                    have hfz31_0 := blk_frozen BK346.out 0
                    go_wp2_with (first | ((with_reducible refine gate_callee (f := 29) rfl ?_); refine goesL_ (some 78) rfl rfl Try.func29 (by kernel_rfl) rfl #[.agg #[.slice Ao11 t342.length co11], .int .i64 x13_2] rfl (by (try simp only [List.map_toArray, List.map_cons, List.map_nil]); first | done | rfl | (simp only [List.length_drop, List.length_take]; rfl)) ?_; (with_reducible refine (impl_NameAt.calls k2 _ _ t342 x13_2 t362 t363 _ ?side1 ?side2 A27.out).mono ?_); (case side1 => repeat (first | exact (Kd.R_reads' HO_347000.out).2.2 | (with_reducible refine Kd.C_alloc ?_ _) | (with_reducible refine Kd.C_drewN ?_ _) | (with_reducible refine Kd.C_drew ?_))); (case side2 => exact (Kd.R_reads' HO_347000.out).2.1); rintro e w32 ⟨rfl, hb⟩; refine ⟨_, rfl, ?_⟩; have n0_ := Aside0.mk (Kd.R_below (by (with_reducible repeat (first | apply Kd.R_alloc | apply Kd.R_drewN | apply Kd.R_drew)); exact HO_347000.out) hb); have n1_ := Aside0.mk (Kd.R_below (by (with_reducible repeat (first | apply Kd.R_alloc | apply Kd.R_drewN | apply Kd.R_drew)); exact HO_353000.out) hb); have n2_ := Aside0.mk (blk_below (g := gb346) (o := .cells #[.slice Ao11 t342.length co11] 52 (0, 0)) (by (with_reducible repeat (first | refine blk_drewN ?_ _ | refine blk_drew ?_ | refine blk_alloc ?_ _)); exact BK346.out) hb); have n3_ := Aside0.mk (blk_below (g := gb352) (o := .cells #[.slice Ao15 t347.length co15] 52 (0, 0)) (by (with_reducible repeat (first | refine blk_drewN ?_ _ | refine blk_drew ?_ | refine blk_alloc ?_ _)); exact BK352.out) hb); have n4_ := Aside0.mk (below_step (by repeat (first | (with_reducible first | exact HB.out | apply below_alloc | apply pw_below_drewN | apply below_drew1 | refine below_set ?_ GE346.out | refine below_set ?_ GE352.out) | exact HB.out)) hb); clear HO_347000; clear HO_353000; clear BK346; clear BK352; clear HB; have HO_347000 := n0_; have HO_353000 := n1_; have BK346 := n2_; have BK352 := n3_; have HB := n4_; clear n0_ n1_ n2_ n3_ n4_; (try clear hb); (try clear hb2); (try clear hk); (try clear hi); have hcz33_0 : w32.cell? ⟨gb352, 0, none⟩ = some (.slice Ao15 t347.length co15) := (blk_cell BK352.out 0).trans rfl; have hfz33_0 := blk_frozen BK352.out 0) | ((with_reducible refine gate_callee (f := 29) rfl ?_); refine goesL_ (some 84) rfl rfl Try.func29 (by kernel_rfl) rfl #[.agg #[.slice Ao15 t347.length co15], .int .i64 x13_2] rfl (by (try simp only [List.map_toArray, List.map_cons, List.map_nil]); first | done | rfl | (simp only [List.length_drop, List.length_take]; rfl)) ?_; (with_reducible refine (impl_NameAt.calls k2 _ _ t347 x13_2 t364 t365 _ ?side1 ?side2 A28.out).mono ?_); (case side1 => repeat (first | exact (Kd.R_reads' HO_353000.out).2.2 | (with_reducible refine Kd.C_alloc ?_ _) | (with_reducible refine Kd.C_drewN ?_ _) | (with_reducible refine Kd.C_drew ?_))); (case side2 => exact (Kd.R_reads' HO_353000.out).2.1); rintro e w34 ⟨rfl, hb⟩; refine ⟨_, rfl, ?_⟩; have n0_ := Aside0.mk (Kd.R_below (by (with_reducible repeat (first | apply Kd.R_alloc | apply Kd.R_drewN | apply Kd.R_drew)); exact HO_347000.out) hb); have n1_ := Aside0.mk (Kd.R_below (by (with_reducible repeat (first | apply Kd.R_alloc | apply Kd.R_drewN | apply Kd.R_drew)); exact HO_353000.out) hb); have n2_ := Aside0.mk (blk_below (g := gb346) (o := .cells #[.slice Ao11 t342.length co11] 52 (0, 0)) (by (with_reducible repeat (first | refine blk_drewN ?_ _ | refine blk_drew ?_ | refine blk_alloc ?_ _)); exact BK346.out) hb); have n3_ := Aside0.mk (blk_below (g := gb352) (o := .cells #[.slice Ao15 t347.length co15] 52 (0, 0)) (by (with_reducible repeat (first | refine blk_drewN ?_ _ | refine blk_drew ?_ | refine blk_alloc ?_ _)); exact BK352.out) hb); have n4_ := Aside0.mk (below_step (by repeat (first | (with_reducible first | exact HB.out | apply below_alloc | apply pw_below_drewN | apply below_drew1 | refine below_set ?_ GE346.out | refine below_set ?_ GE352.out) | exact HB.out)) hb); clear HO_347000; clear HO_353000; clear BK346; clear BK352; clear HB; have HO_347000 := n0_; have HO_353000 := n1_; have BK346 := n2_; have BK352 := n3_; have HB := n4_; clear n0_ n1_ n2_ n3_ n4_; (try clear hb); (try clear hb2); (try clear hk); (try clear hi)))
                    go_roundg k2
                    case measure => have := HJ7.out; have := HK2.out; omega
                    case rel => exact ⟨(wrap64 (x13_2 + 1)), (by first | rfl | (simp; done) | (simp [*]; done)), H', ⟨by have := HJ7.out; have := HK2.out; omega⟩, ⟨by (with_reducible repeat (first | apply Kd.R_alloc | apply Kd.R_drewN | apply Kd.R_drew)); exact HO_347000.out⟩, ⟨by (with_reducible repeat (first | apply Kd.R_alloc | apply Kd.R_drewN | apply Kd.R_drew)); exact HO_353000.out⟩, ⟨by (with_reducible repeat (first | refine blk_drewN ?_ _ | refine blk_drew ?_ | refine blk_alloc ?_ _)); exact BK346.out⟩, ⟨by (with_reducible repeat (first | refine blk_drewN ?_ _ | refine blk_drew ?_ | refine blk_alloc ?_ _)); exact BK352.out⟩, ⟨by repeat (first | (with_reducible first | exact HB.out | apply below_alloc | apply pw_below_drewN | apply below_drew1 | refine below_set ?_ GE346.out | refine below_set ?_ GE352.out) | exact HB.out)⟩⟩
                  · rw [if_neg c29] at H
                    have c29b0 : (x13_2 == t350) = false := beq_eq_false_iff_ne.mpr c29
                    have c29b1 : (x13_2 != t350) = true := bne_iff_ne.mpr c29
                    by_cases c35 : (t363 != t365) = true
                    · rw [if_pos c35] at H
                      have c35b0 : (t363 != t365) = true := c35
                      (try (have c35b1 : decide (t363 = t365) = false := by simpa using c35))
                      (try (have c35b2 : (t363 == t365) = false := by simpa using c35))
                      (try (have c35b3 : ¬ (t363 = t365) := by simpa using c35))
                      clear c35
                      obtain rfl := Option.some.inj H
                      have hnb36 := NB346_352.out
                      have hnc36 := NB352_346.out
                      have hcz37_0 : wr.cell? ⟨gb346, 0, none⟩ = some (.slice Ao11 t342.length co11) := (blk_cell BK346.out 0).trans rfl
                      have hfz37_0 := blk_frozen BK346.out 0
                      go_wp2_with (first | ((with_reducible refine gate_callee (f := 29) rfl ?_); refine goesL_ (some 78) rfl rfl Try.func29 (by kernel_rfl) rfl #[.agg #[.slice Ao11 t342.length co11], .int .i64 x13_2] rfl (by (try simp only [List.map_toArray, List.map_cons, List.map_nil]); first | done | rfl | (simp only [List.length_drop, List.length_take]; rfl)) ?_; (with_reducible refine (impl_NameAt.calls k2 _ _ t342 x13_2 t362 t363 _ ?side1 ?side2 A27.out).mono ?_); (case side1 => repeat (first | exact (Kd.R_reads' HO_347000.out).2.2 | (with_reducible refine Kd.C_alloc ?_ _) | (with_reducible refine Kd.C_drewN ?_ _) | (with_reducible refine Kd.C_drew ?_))); (case side2 => exact (Kd.R_reads' HO_347000.out).2.1); rintro e w38 ⟨rfl, hb⟩; refine ⟨_, rfl, ?_⟩; have n0_ := Aside0.mk (Kd.R_below (by (with_reducible repeat (first | apply Kd.R_alloc | apply Kd.R_drewN | apply Kd.R_drew)); exact HO_347000.out) hb); have n1_ := Aside0.mk (Kd.R_below (by (with_reducible repeat (first | apply Kd.R_alloc | apply Kd.R_drewN | apply Kd.R_drew)); exact HO_353000.out) hb); have n2_ := Aside0.mk (blk_below (g := gb346) (o := .cells #[.slice Ao11 t342.length co11] 52 (0, 0)) (by (with_reducible repeat (first | refine blk_drewN ?_ _ | refine blk_drew ?_ | refine blk_alloc ?_ _)); exact BK346.out) hb); have n3_ := Aside0.mk (blk_below (g := gb352) (o := .cells #[.slice Ao15 t347.length co15] 52 (0, 0)) (by (with_reducible repeat (first | refine blk_drewN ?_ _ | refine blk_drew ?_ | refine blk_alloc ?_ _)); exact BK352.out) hb); have n4_ := Aside0.mk (below_step (by repeat (first | (with_reducible first | exact HB.out | apply below_alloc | apply pw_below_drewN | apply below_drew1 | refine below_set ?_ GE346.out | refine below_set ?_ GE352.out) | exact HB.out)) hb); clear HO_347000; clear HO_353000; clear BK346; clear BK352; clear HB; have HO_347000 := n0_; have HO_353000 := n1_; have BK346 := n2_; have BK352 := n3_; have HB := n4_; clear n0_ n1_ n2_ n3_ n4_; (try clear hb); (try clear hb2); (try clear hk); (try clear hi); have hcz39_0 : w38.cell? ⟨gb352, 0, none⟩ = some (.slice Ao15 t347.length co15) := (blk_cell BK352.out 0).trans rfl; have hfz39_0 := blk_frozen BK352.out 0) | ((with_reducible refine gate_callee (f := 29) rfl ?_); refine goesL_ (some 84) rfl rfl Try.func29 (by kernel_rfl) rfl #[.agg #[.slice Ao15 t347.length co15], .int .i64 x13_2] rfl (by (try simp only [List.map_toArray, List.map_cons, List.map_nil]); first | done | rfl | (simp only [List.length_drop, List.length_take]; rfl)) ?_; (with_reducible refine (impl_NameAt.calls k2 _ _ t347 x13_2 t364 t365 _ ?side1 ?side2 A28.out).mono ?_); (case side1 => repeat (first | exact (Kd.R_reads' HO_353000.out).2.2 | (with_reducible refine Kd.C_alloc ?_ _) | (with_reducible refine Kd.C_drewN ?_ _) | (with_reducible refine Kd.C_drew ?_))); (case side2 => exact (Kd.R_reads' HO_353000.out).2.1); rintro e w40 ⟨rfl, hb⟩; refine ⟨_, rfl, ?_⟩; have n0_ := Aside0.mk (Kd.R_below (by (with_reducible repeat (first | apply Kd.R_alloc | apply Kd.R_drewN | apply Kd.R_drew)); exact HO_347000.out) hb); have n1_ := Aside0.mk (Kd.R_below (by (with_reducible repeat (first | apply Kd.R_alloc | apply Kd.R_drewN | apply Kd.R_drew)); exact HO_353000.out) hb); have n2_ := Aside0.mk (blk_below (g := gb346) (o := .cells #[.slice Ao11 t342.length co11] 52 (0, 0)) (by (with_reducible repeat (first | refine blk_drewN ?_ _ | refine blk_drew ?_ | refine blk_alloc ?_ _)); exact BK346.out) hb); have n3_ := Aside0.mk (blk_below (g := gb352) (o := .cells #[.slice Ao15 t347.length co15] 52 (0, 0)) (by (with_reducible repeat (first | refine blk_drewN ?_ _ | refine blk_drew ?_ | refine blk_alloc ?_ _)); exact BK352.out) hb); have n4_ := Aside0.mk (below_step (by repeat (first | (with_reducible first | exact HB.out | apply below_alloc | apply pw_below_drewN | apply below_drew1 | refine below_set ?_ GE346.out | refine below_set ?_ GE352.out) | exact HB.out)) hb); clear HO_347000; clear HO_353000; clear BK346; clear BK352; clear HB; have HO_347000 := n0_; have HO_353000 := n1_; have BK346 := n2_; have BK352 := n3_; have HB := n4_; clear n0_ n1_ n2_ n3_ n4_; (try clear hb); (try clear hb2); (try clear hk); (try clear hi)))
                      go_ret
                      exact ⟨by first | rfl | (simp [errW_none, errW_some] <;> rfl) | (simp [*, errW_none, errW_some] <;> rfl), by repeat (first | (with_reducible first | exact HB.out | apply below_alloc | apply pw_below_drewN | apply below_drew1 | refine below_set ?_ GE346.out | refine below_set ?_ GE352.out) | exact HB.out)⟩
                    · rw [if_neg c35] at H
                      have c35b0 : (t363 != t365) = false := by simpa using c35
                      (try (have c35b1 : decide (t363 = t365) = true := by simpa using c35))
                      (try (have c35b2 : (t363 == t365) = true := by simpa using c35))
                      clear c35
                      by_cases c41 : t362.toList = t364.toList
                      · rw [if_pos c41] at H
                        have c41b0 : (t362.toList == t364.toList) = true := beq_iff_eq.mpr c41
                        have c41b1 : (t362.toList != t364.toList) = false := bne_eq_false_iff_eq.mpr c41
                        clear c41
                        have H' := Aside0.mk H
                        clear H
                        have hnb42 := NB346_352.out
                        have hnc42 := NB352_346.out
                        have hcz43_0 : wr.cell? ⟨gb346, 0, none⟩ = some (.slice Ao11 t342.length co11) := (blk_cell BK346.out 0).trans rfl
                        have hfz43_0 := blk_frozen BK346.out 0
                        go_wp2_with (first | ((with_reducible refine gate_callee (f := 29) rfl ?_); refine goesL_ (some 78) rfl rfl Try.func29 (by kernel_rfl) rfl #[.agg #[.slice Ao11 t342.length co11], .int .i64 x13_2] rfl (by (try simp only [List.map_toArray, List.map_cons, List.map_nil]); first | done | rfl | (simp only [List.length_drop, List.length_take]; rfl)) ?_; (with_reducible refine (impl_NameAt.calls k2 _ _ t342 x13_2 t362 t363 _ ?side1 ?side2 A27.out).mono ?_); (case side1 => repeat (first | exact (Kd.R_reads' HO_347000.out).2.2 | (with_reducible refine Kd.C_alloc ?_ _) | (with_reducible refine Kd.C_drewN ?_ _) | (with_reducible refine Kd.C_drew ?_))); (case side2 => exact (Kd.R_reads' HO_347000.out).2.1); rintro e w44 ⟨rfl, hb⟩; refine ⟨_, rfl, ?_⟩; have n0_ := Aside0.mk (Kd.R_below (by (with_reducible repeat (first | apply Kd.R_alloc | apply Kd.R_drewN | apply Kd.R_drew)); exact HO_347000.out) hb); have n1_ := Aside0.mk (Kd.R_below (by (with_reducible repeat (first | apply Kd.R_alloc | apply Kd.R_drewN | apply Kd.R_drew)); exact HO_353000.out) hb); have n2_ := Aside0.mk (blk_below (g := gb346) (o := .cells #[.slice Ao11 t342.length co11] 52 (0, 0)) (by (with_reducible repeat (first | refine blk_drewN ?_ _ | refine blk_drew ?_ | refine blk_alloc ?_ _)); exact BK346.out) hb); have n3_ := Aside0.mk (blk_below (g := gb352) (o := .cells #[.slice Ao15 t347.length co15] 52 (0, 0)) (by (with_reducible repeat (first | refine blk_drewN ?_ _ | refine blk_drew ?_ | refine blk_alloc ?_ _)); exact BK352.out) hb); have n4_ := Aside0.mk (below_step (by repeat (first | (with_reducible first | exact HB.out | apply below_alloc | apply pw_below_drewN | apply below_drew1 | refine below_set ?_ GE346.out | refine below_set ?_ GE352.out) | exact HB.out)) hb); clear HO_347000; clear HO_353000; clear BK346; clear BK352; clear HB; have HO_347000 := n0_; have HO_353000 := n1_; have BK346 := n2_; have BK352 := n3_; have HB := n4_; clear n0_ n1_ n2_ n3_ n4_; (try clear hb); (try clear hb2); (try clear hk); (try clear hi); have hcz45_0 : w44.cell? ⟨gb352, 0, none⟩ = some (.slice Ao15 t347.length co15) := (blk_cell BK352.out 0).trans rfl; have hfz45_0 := blk_frozen BK352.out 0) | ((with_reducible refine gate_callee (f := 29) rfl ?_); refine goesL_ (some 84) rfl rfl Try.func29 (by kernel_rfl) rfl #[.agg #[.slice Ao15 t347.length co15], .int .i64 x13_2] rfl (by (try simp only [List.map_toArray, List.map_cons, List.map_nil]); first | done | rfl | (simp only [List.length_drop, List.length_take]; rfl)) ?_; (with_reducible refine (impl_NameAt.calls k2 _ _ t347 x13_2 t364 t365 _ ?side1 ?side2 A28.out).mono ?_); (case side1 => repeat (first | exact (Kd.R_reads' HO_353000.out).2.2 | (with_reducible refine Kd.C_alloc ?_ _) | (with_reducible refine Kd.C_drewN ?_ _) | (with_reducible refine Kd.C_drew ?_))); (case side2 => exact (Kd.R_reads' HO_353000.out).2.1); rintro e w46 ⟨rfl, hb⟩; refine ⟨_, rfl, ?_⟩; have n0_ := Aside0.mk (Kd.R_below (by (with_reducible repeat (first | apply Kd.R_alloc | apply Kd.R_drewN | apply Kd.R_drew)); exact HO_347000.out) hb); have n1_ := Aside0.mk (Kd.R_below (by (with_reducible repeat (first | apply Kd.R_alloc | apply Kd.R_drewN | apply Kd.R_drew)); exact HO_353000.out) hb); have n2_ := Aside0.mk (blk_below (g := gb346) (o := .cells #[.slice Ao11 t342.length co11] 52 (0, 0)) (by (with_reducible repeat (first | refine blk_drewN ?_ _ | refine blk_drew ?_ | refine blk_alloc ?_ _)); exact BK346.out) hb); have n3_ := Aside0.mk (blk_below (g := gb352) (o := .cells #[.slice Ao15 t347.length co15] 52 (0, 0)) (by (with_reducible repeat (first | refine blk_drewN ?_ _ | refine blk_drew ?_ | refine blk_alloc ?_ _)); exact BK352.out) hb); have n4_ := Aside0.mk (below_step (by repeat (first | (with_reducible first | exact HB.out | apply below_alloc | apply pw_below_drewN | apply below_drew1 | refine below_set ?_ GE346.out | refine below_set ?_ GE352.out) | exact HB.out)) hb); clear HO_347000; clear HO_353000; clear BK346; clear BK352; clear HB; have HO_347000 := n0_; have HO_353000 := n1_; have BK346 := n2_; have BK352 := n3_; have HB := n4_; clear n0_ n1_ n2_ n3_ n4_; (try clear hb); (try clear hb2); (try clear hk); (try clear hi)))
                        go_roundg k2
                        case measure => have := HJ7.out; have := HK2.out; omega
                        case rel => exact ⟨(wrap64 (x13_2 + 1)), (by first | rfl | (simp; done) | (simp [*]; done)), H', ⟨by have := HJ7.out; have := HK2.out; omega⟩, ⟨by (with_reducible repeat (first | apply Kd.R_alloc | apply Kd.R_drewN | apply Kd.R_drew)); exact HO_347000.out⟩, ⟨by (with_reducible repeat (first | apply Kd.R_alloc | apply Kd.R_drewN | apply Kd.R_drew)); exact HO_353000.out⟩, ⟨by (with_reducible repeat (first | refine blk_drewN ?_ _ | refine blk_drew ?_ | refine blk_alloc ?_ _)); exact BK346.out⟩, ⟨by (with_reducible repeat (first | refine blk_drewN ?_ _ | refine blk_drew ?_ | refine blk_alloc ?_ _)); exact BK352.out⟩, ⟨by repeat (first | (with_reducible first | exact HB.out | apply below_alloc | apply pw_below_drewN | apply below_drew1 | refine below_set ?_ GE346.out | refine below_set ?_ GE352.out) | exact HB.out)⟩⟩
                      · rw [if_neg c41] at H
                        have c41b0 : (t362.toList == t364.toList) = false := beq_eq_false_iff_ne.mpr c41
                        have c41b1 : (t362.toList != t364.toList) = true := bne_iff_ne.mpr c41
                        obtain rfl := Option.some.inj H
                        have hnb47 := NB346_352.out
                        have hnc47 := NB352_346.out
                        have hcz48_0 : wr.cell? ⟨gb346, 0, none⟩ = some (.slice Ao11 t342.length co11) := (blk_cell BK346.out 0).trans rfl
                        have hfz48_0 := blk_frozen BK346.out 0
                        go_wp2_with (first | ((with_reducible refine gate_callee (f := 29) rfl ?_); refine goesL_ (some 78) rfl rfl Try.func29 (by kernel_rfl) rfl #[.agg #[.slice Ao11 t342.length co11], .int .i64 x13_2] rfl (by (try simp only [List.map_toArray, List.map_cons, List.map_nil]); first | done | rfl | (simp only [List.length_drop, List.length_take]; rfl)) ?_; (with_reducible refine (impl_NameAt.calls k2 _ _ t342 x13_2 t362 t363 _ ?side1 ?side2 A27.out).mono ?_); (case side1 => repeat (first | exact (Kd.R_reads' HO_347000.out).2.2 | (with_reducible refine Kd.C_alloc ?_ _) | (with_reducible refine Kd.C_drewN ?_ _) | (with_reducible refine Kd.C_drew ?_))); (case side2 => exact (Kd.R_reads' HO_347000.out).2.1); rintro e w49 ⟨rfl, hb⟩; refine ⟨_, rfl, ?_⟩; have n0_ := Aside0.mk (Kd.R_below (by (with_reducible repeat (first | apply Kd.R_alloc | apply Kd.R_drewN | apply Kd.R_drew)); exact HO_347000.out) hb); have n1_ := Aside0.mk (Kd.R_below (by (with_reducible repeat (first | apply Kd.R_alloc | apply Kd.R_drewN | apply Kd.R_drew)); exact HO_353000.out) hb); have n2_ := Aside0.mk (blk_below (g := gb346) (o := .cells #[.slice Ao11 t342.length co11] 52 (0, 0)) (by (with_reducible repeat (first | refine blk_drewN ?_ _ | refine blk_drew ?_ | refine blk_alloc ?_ _)); exact BK346.out) hb); have n3_ := Aside0.mk (blk_below (g := gb352) (o := .cells #[.slice Ao15 t347.length co15] 52 (0, 0)) (by (with_reducible repeat (first | refine blk_drewN ?_ _ | refine blk_drew ?_ | refine blk_alloc ?_ _)); exact BK352.out) hb); have n4_ := Aside0.mk (below_step (by repeat (first | (with_reducible first | exact HB.out | apply below_alloc | apply pw_below_drewN | apply below_drew1 | refine below_set ?_ GE346.out | refine below_set ?_ GE352.out) | exact HB.out)) hb); clear HO_347000; clear HO_353000; clear BK346; clear BK352; clear HB; have HO_347000 := n0_; have HO_353000 := n1_; have BK346 := n2_; have BK352 := n3_; have HB := n4_; clear n0_ n1_ n2_ n3_ n4_; (try clear hb); (try clear hb2); (try clear hk); (try clear hi); have hcz50_0 : w49.cell? ⟨gb352, 0, none⟩ = some (.slice Ao15 t347.length co15) := (blk_cell BK352.out 0).trans rfl; have hfz50_0 := blk_frozen BK352.out 0) | ((with_reducible refine gate_callee (f := 29) rfl ?_); refine goesL_ (some 84) rfl rfl Try.func29 (by kernel_rfl) rfl #[.agg #[.slice Ao15 t347.length co15], .int .i64 x13_2] rfl (by (try simp only [List.map_toArray, List.map_cons, List.map_nil]); first | done | rfl | (simp only [List.length_drop, List.length_take]; rfl)) ?_; (with_reducible refine (impl_NameAt.calls k2 _ _ t347 x13_2 t364 t365 _ ?side1 ?side2 A28.out).mono ?_); (case side1 => repeat (first | exact (Kd.R_reads' HO_353000.out).2.2 | (with_reducible refine Kd.C_alloc ?_ _) | (with_reducible refine Kd.C_drewN ?_ _) | (with_reducible refine Kd.C_drew ?_))); (case side2 => exact (Kd.R_reads' HO_353000.out).2.1); rintro e w51 ⟨rfl, hb⟩; refine ⟨_, rfl, ?_⟩; have n0_ := Aside0.mk (Kd.R_below (by (with_reducible repeat (first | apply Kd.R_alloc | apply Kd.R_drewN | apply Kd.R_drew)); exact HO_347000.out) hb); have n1_ := Aside0.mk (Kd.R_below (by (with_reducible repeat (first | apply Kd.R_alloc | apply Kd.R_drewN | apply Kd.R_drew)); exact HO_353000.out) hb); have n2_ := Aside0.mk (blk_below (g := gb346) (o := .cells #[.slice Ao11 t342.length co11] 52 (0, 0)) (by (with_reducible repeat (first | refine blk_drewN ?_ _ | refine blk_drew ?_ | refine blk_alloc ?_ _)); exact BK346.out) hb); have n3_ := Aside0.mk (blk_below (g := gb352) (o := .cells #[.slice Ao15 t347.length co15] 52 (0, 0)) (by (with_reducible repeat (first | refine blk_drewN ?_ _ | refine blk_drew ?_ | refine blk_alloc ?_ _)); exact BK352.out) hb); have n4_ := Aside0.mk (below_step (by repeat (first | (with_reducible first | exact HB.out | apply below_alloc | apply pw_below_drewN | apply below_drew1 | refine below_set ?_ GE346.out | refine below_set ?_ GE352.out) | exact HB.out)) hb); clear HO_347000; clear HO_353000; clear BK346; clear BK352; clear HB; have HO_347000 := n0_; have HO_353000 := n1_; have BK346 := n2_; have BK352 := n3_; have HB := n4_; clear n0_ n1_ n2_ n3_ n4_; (try clear hb); (try clear hb2); (try clear hk); (try clear hi)))
                        go_ret
                        exact ⟨by first | rfl | (simp [errW_none, errW_some] <;> rfl) | (simp [*, errW_none, errW_some] <;> rfl), by repeat (first | (with_reducible first | exact HB.out | apply below_alloc | apply pw_below_drewN | apply below_drew1 | refine below_set ?_ GE346.out | refine below_set ?_ GE352.out) | exact HB.out)⟩
                · rw [if_neg c26] at H
                  have c26b0 : decide (x13_2 < (t342.length : Int)) = false := decide_eq_false c26
                  clear c26
                  replace H := Option.bind_eq_some_iff.mp H
                  obtain ⟨⟨t366, t369⟩, A520, H⟩ := H
                  replace H : ((impl_EncodeHeap.f k2 t347).bind fun t371 => ((impl_DecodeHeap.f k2 t371).bind fun bt372 => (if t369 = 0 then (if bt372.2 = true then ((spec_SameHeap.f k2 bt372.1 t347).bind fun t377 => (laws_FnHeap.j2 k2 t345 t350 (!t377) t347 t366)) else (laws_FnHeap.j2 k2 t345 t350 true t347 t366)) else (laws_FnHeap.j2 k2 t345 t350 true t347 t366)))) = some r := H
                  have A52 := Aside0.mk A520
                  clear A520
                  replace H := Option.bind_eq_some_iff.mp H
                  obtain ⟨t371, A530, H⟩ := H
                  replace H : ((impl_DecodeHeap.f k2 t371).bind fun bt372 => (if t369 = 0 then (if bt372.2 = true then ((spec_SameHeap.f k2 bt372.1 t347).bind fun t377 => (laws_FnHeap.j2 k2 t345 t350 (!t377) t347 t366)) else (laws_FnHeap.j2 k2 t345 t350 true t347 t366)) else (laws_FnHeap.j2 k2 t345 t350 true t347 t366))) = some r := H
                  have A53 := Aside0.mk A530
                  clear A530
                  replace H := Option.bind_eq_some_iff.mp H
                  obtain ⟨⟨t372, t375⟩, A540, H⟩ := H
                  replace H : (if t369 = 0 then (if t375 = true then ((spec_SameHeap.f k2 t372 t347).bind fun t377 => (laws_FnHeap.j2 k2 t345 t350 (!t377) t347 t366)) else (laws_FnHeap.j2 k2 t345 t350 true t347 t366)) else (laws_FnHeap.j2 k2 t345 t350 true t347 t366)) = some r := H
                  have A54 := Aside0.mk A540
                  clear A540
                  have HC55 := Aside0.mk H
                  clear H
                  have hnb56 := NB346_352.out
                  have hnc56 := NB352_346.out
                  have hcz57_0 : wr.cell? ⟨gb346, 0, none⟩ = some (.slice Ao11 t342.length co11) := (blk_cell BK346.out 0).trans rfl
                  have hfz57_0 := blk_frozen BK346.out 0
                  have hcz58_0 : wr.cell? ⟨gb352, 0, none⟩ = some (.slice Ao15 t347.length co15) := (blk_cell BK352.out 0).trans rfl
                  have hfz58_0 := blk_frozen BK352.out 0
                  go_upto_region 20 with (first | ((with_reducible refine gate_callee (f := 31) rfl ?_); refine goesL_ (some 103) rfl rfl Try.func31 (by kernel_rfl) rfl #[.agg #[.slice Ao15 t347.length co15], .int .i64 t350] rfl (by (try simp only [List.map_toArray, List.map_cons, List.map_nil]); first | done | rfl | (simp only [List.length_drop, List.length_take]; rfl)) ?_; (with_reducible refine (impl_DropName.calls k2 _ _ t347 t350 t366 t369 _ ?side1 ?side2 A52.out).mono ?_); (case side1 => repeat (first | exact (Kd.R_reads' HO_353000.out).2.2 | (with_reducible refine Kd.C_alloc ?_ _) | (with_reducible refine Kd.C_drewN ?_ _) | (with_reducible refine Kd.C_drew ?_))); (case side2 => exact (Kd.R_reads' HO_353000.out).2.1); rintro e w59 ⟨v367, rfl, ho0, hb⟩; refine ⟨_, rfl, ?_⟩; have n0_ := Aside0.mk (Kd.R_elder' (by (with_reducible repeat (first | apply Kd.R_alloc | apply Kd.R_drewN | apply Kd.R_drew)); exact HO_347000.out) (Kd.R_base ho0) hb); have n1_ := Aside0.mk (Kd.R_elder' (by (with_reducible repeat (first | apply Kd.R_alloc | apply Kd.R_drewN | apply Kd.R_drew)); exact HO_353000.out) (Kd.R_base ho0) hb); have n2_ := Aside0.mk (Kd.R_lower (Kd.R_new' (Kd.R_new' ho0 (Kd.R_lt (by (with_reducible repeat (first | apply Kd.R_alloc | apply Kd.R_drewN | apply Kd.R_drew)); exact HO_347000.out))) (Kd.R_lt (by (with_reducible repeat (first | apply Kd.R_alloc | apply Kd.R_drewN | apply Kd.R_drew)); exact HO_353000.out))) (below_size (by repeat (first | (with_reducible first | exact HB.out | apply below_alloc | apply pw_below_drewN | apply below_drew1 | refine below_set ?_ GE346.out | refine below_set ?_ GE352.out) | exact HB.out)))); have n3_ := Aside0.mk (blk_below (g := gb346) (o := .cells #[.slice Ao11 t342.length co11] 52 (0, 0)) (by (with_reducible repeat (first | refine blk_drewN ?_ _ | refine blk_drew ?_ | refine blk_alloc ?_ _)); exact BK346.out) hb); have n4_ := Aside0.mk (blk_below (g := gb352) (o := .cells #[.slice Ao15 t347.length co15] 52 (0, 0)) (by (with_reducible repeat (first | refine blk_drewN ?_ _ | refine blk_drew ?_ | refine blk_alloc ?_ _)); exact BK352.out) hb); have n5_ := Aside0.mk (below_step (by repeat (first | (with_reducible first | exact HB.out | apply below_alloc | apply pw_below_drewN | apply below_drew1 | refine below_set ?_ GE346.out | refine below_set ?_ GE352.out) | exact HB.out)) hb); clear HO_347000; clear HO_353000; clear BK346; clear BK352; clear HB; have HO_347000 := n0_; have HO_353000 := n1_; have HO368 := n2_; have BK346 := n3_; have BK352 := n4_; have HB := n5_; clear n0_ n1_ n2_ n3_ n4_ n5_; (try clear hb); (try clear hb2); (try clear hk); (try clear hi); (try clear ho0)) | ((with_reducible refine gate_dst (N := 18) rfl ?_); refine box_event ?hg (N := 18) ?hd (cs := #[.slice none 0 0]) (t := 52) ?hr ?_; (case hd => rfl); (case hg => rfl); (case hr => first | (go_simp; done) | (go_simp; rfl)); intro gb370 hg w60 hbox hb; have n0_ := Aside0.mk (Kd.R_below (by (with_reducible repeat (first | apply Kd.R_alloc | apply Kd.R_drewN | apply Kd.R_drew)); exact HO_347000.out) hb); have n1_ := Aside0.mk (Kd.R_below (by (with_reducible repeat (first | apply Kd.R_alloc | apply Kd.R_drewN | apply Kd.R_drew)); exact HO_353000.out) hb); have n2_ := Aside0.mk (Kd.R_below (by (with_reducible repeat (first | apply Kd.R_alloc | apply Kd.R_drewN | apply Kd.R_drew)); exact HO368.out) hb); have n3_ := Aside0.mk (blk_below (g := gb346) (o := .cells #[.slice Ao11 t342.length co11] 52 (0, 0)) (by (with_reducible repeat (first | refine blk_drewN ?_ _ | refine blk_drew ?_ | refine blk_alloc ?_ _)); exact BK346.out) hb); have n4_ := Aside0.mk (blk_below (g := gb352) (o := .cells #[.slice Ao15 t347.length co15] 52 (0, 0)) (by (with_reducible repeat (first | refine blk_drewN ?_ _ | refine blk_drew ?_ | refine blk_alloc ?_ _)); exact BK352.out) hb); have n5_ := Aside0.mk (below_step (by repeat (first | (with_reducible first | exact HB.out | apply below_alloc | apply pw_below_drewN | apply below_drew1 | refine below_set ?_ GE346.out | refine below_set ?_ GE352.out) | exact HB.out)) hb); have n6_ := Aside0.mk (hbox); have n7_ := Aside0.mk ((by rw [hg]; exact (below_size (by repeat (first | (with_reducible first | exact HB.out | apply below_alloc | apply pw_below_drewN | apply below_drew1 | refine below_set ?_ GE346.out | refine below_set ?_ GE352.out) | exact HB.out))) : w.heap.size ≤ gb370)); have n8_ := Aside0.mk ((by rw [hg]; exact (below_size (by repeat (first | (with_reducible first | exact HB.out | apply below_alloc | apply pw_below_drewN | apply below_drew1 | refine below_set ?_ GE346.out | refine below_set ?_ GE352.out) | exact HB.out))) : w.heap.size ≤ gb370)); have n9_ := Aside0.mk ((by rw [hg]; exact Nat.ne_of_lt (blk_lt (g := gb346) (o := .cells #[.slice Ao11 t342.length co11] 52 (0, 0)) (by (with_reducible repeat (first | refine blk_drewN ?_ _ | refine blk_drew ?_ | refine blk_alloc ?_ _)); exact BK346.out)) : gb346 ≠ gb370)); have n10_ := Aside0.mk ((by rw [hg]; exact Nat.ne_of_gt (blk_lt (g := gb346) (o := .cells #[.slice Ao11 t342.length co11] 52 (0, 0)) (by (with_reducible repeat (first | refine blk_drewN ?_ _ | refine blk_drew ?_ | refine blk_alloc ?_ _)); exact BK346.out)) : gb370 ≠ gb346)); have n11_ := Aside0.mk ((by rw [hg]; exact Nat.ne_of_lt (blk_lt (g := gb352) (o := .cells #[.slice Ao15 t347.length co15] 52 (0, 0)) (by (with_reducible repeat (first | refine blk_drewN ?_ _ | refine blk_drew ?_ | refine blk_alloc ?_ _)); exact BK352.out)) : gb352 ≠ gb370)); have n12_ := Aside0.mk ((by rw [hg]; exact Nat.ne_of_gt (blk_lt (g := gb352) (o := .cells #[.slice Ao15 t347.length co15] 52 (0, 0)) (by (with_reducible repeat (first | refine blk_drewN ?_ _ | refine blk_drew ?_ | refine blk_alloc ?_ _)); exact BK352.out)) : gb370 ≠ gb352)); clear HO_347000; clear HO_353000; clear HO368; clear BK346; clear BK352; clear HB; have HO_347000 := n0_; have HO_353000 := n1_; have HO368 := n2_; have BK346 := n3_; have BK352 := n4_; have HB := n5_; have BK370 := n6_; have GW370 := n7_; have GE370 := n8_; have NB346_370 := n9_; have NB370_346 := n10_; have NB352_370 := n11_; have NB370_352 := n12_; clear n0_ n1_ n2_ n3_ n4_ n5_ n6_ n7_ n8_ n9_ n10_ n11_ n12_; clear hb hbox hg; obtain ⟨Ao61, co61, eo61⟩ := Kd.R_slice HO368.out; subst eo61; have hnb62 := NB370_346.out; have hnc62 := NB346_370.out; have hnb63 := NB370_352.out; have hnc63 := NB352_370.out; have hcz64_0 : w60.cell? ⟨gb370, 0, none⟩ = some (.slice none 0 0) := (blk_cell BK370.out 0).trans rfl; have hfz64_0 := blk_frozen BK370.out 0; have hcz65_0 : w60.cell? ⟨gb352, 0, none⟩ = some (.slice Ao15 t347.length co15) := (blk_cell BK352.out 0).trans rfl; have hfz65_0 := blk_frozen BK352.out 0) | ((with_reducible refine gate_callee (f := 33) rfl ?_); refine goesL_ (some 108) rfl rfl Try.func33 (by kernel_rfl) rfl #[.agg #[.slice Ao15 t347.length co15]] rfl (by (try simp only [List.map_toArray, List.map_cons, List.map_nil]); first | done | rfl | (simp only [List.length_drop, List.length_take]; rfl)) ?_; (with_reducible refine (impl_EncodeHeap.calls k2 _ _ t347 t371 _ ?side1 ?side2 A53.out).mono ?_); (case side1 => refine (Kd.R_reads' (e := 9) (base := w.heap.size) (ok := fun k_ => (some k_ ≠ (.slice Ao11 t342.length co11 : Value).ownBlock ∧ some k_ ≠ (.slice Ao61 t366.length co61 : Value).ownBlock)) (n := t347.length) (c := co15) ?_).2.2; exact (by (with_reducible repeat (first | apply Kd.R_alloc | apply Kd.R_drewN | apply Kd.R_drew)); exact (Kd.R_mono (Kd.R_far (p := ⟨gb370, 0, none⟩) (Kd.R_types HO_353000.out BK370.out (by decide)) (fun _ hk => hk.2) (.slice Ao61 t366.length co61)) (fun _ h_ => h_.1)))); (case side2 => exact (Kd.R_reads' HO_353000.out).2.1); rintro e w66 ⟨rfl, hb⟩; refine ⟨_, rfl, ?_⟩; have n0_ := Aside0.mk (Kd.R_below (by (with_reducible repeat (first | apply Kd.R_alloc | apply Kd.R_drewN | apply Kd.R_drew)); exact (Kd.R_mono (Kd.R_far (p := ⟨gb370, 0, none⟩) (Kd.R_types HO_347000.out BK370.out (by decide)) (fun _ hk => hk.2) (.slice Ao61 t366.length co61)) (fun _ h_ => h_.1))) hb); have n1_ := Aside0.mk (Kd.R_below (by (with_reducible repeat (first | apply Kd.R_alloc | apply Kd.R_drewN | apply Kd.R_drew)); exact (Kd.R_mono (Kd.R_far (p := ⟨gb370, 0, none⟩) (Kd.R_types HO_353000.out BK370.out (by decide)) (fun _ hk => hk.2) (.slice Ao61 t366.length co61)) (fun _ h_ => h_.1))) hb); have n2_ := Aside0.mk (Kd.R_below (by (with_reducible repeat (first | apply Kd.R_alloc | apply Kd.R_drewN | apply Kd.R_drew)); exact (Kd.R_mono (Kd.R_far (p := ⟨gb370, 0, none⟩) (Kd.R_types HO368.out BK370.out (by decide)) (fun _ hk => hk.2) (.slice Ao61 t366.length co61)) (fun _ h_ => h_.1))) hb); have n3_ := Aside0.mk (blk_below (g := gb346) (o := .cells #[.slice Ao11 t342.length co11] 52 (0, 0)) (by (with_reducible repeat (first | refine blk_drewN ?_ _ | refine blk_drew ?_ | refine blk_alloc ?_ _)); refine blk_far ?_ NB346_370.out _; (with_reducible repeat (first | refine blk_drewN ?_ _ | refine blk_drew ?_ | refine blk_alloc ?_ _)); exact BK346.out) hb); have n4_ := Aside0.mk (blk_below (g := gb352) (o := .cells #[.slice Ao15 t347.length co15] 52 (0, 0)) (by (with_reducible repeat (first | refine blk_drewN ?_ _ | refine blk_drew ?_ | refine blk_alloc ?_ _)); refine blk_far ?_ NB352_370.out _; (with_reducible repeat (first | refine blk_drewN ?_ _ | refine blk_drew ?_ | refine blk_alloc ?_ _)); exact BK352.out) hb); have n5_ := Aside0.mk (blk_below (g := gb370) (o := .cells #[.slice Ao61 t366.length co61] 52 (0, 0)) (by (with_reducible repeat (first | refine blk_drewN ?_ _ | refine blk_drew ?_ | refine blk_alloc ?_ _)); refine blk_put (cs := #[.slice none 0 0]) ?_ 0 _ rfl; (with_reducible repeat (first | refine blk_drewN ?_ _ | refine blk_drew ?_ | refine blk_alloc ?_ _)); exact BK370.out) hb); have n6_ := Aside0.mk (below_step (by repeat (first | (with_reducible first | exact HB.out | apply below_alloc | apply pw_below_drewN | apply below_drew1 | refine below_set ?_ GE346.out | refine below_set ?_ GE352.out | refine below_set ?_ GE370.out) | exact HB.out)) hb); clear HO_347000; clear HO_353000; clear HO368; clear BK346; clear BK352; clear BK370; clear HB; have HO_347000 := n0_; have HO_353000 := n1_; have HO368 := n2_; have BK346 := n3_; have BK352 := n4_; have BK370 := n5_; have HB := n6_; clear n0_ n1_ n2_ n3_ n4_ n5_ n6_; (try clear hb); (try clear hb2); (try clear hk); (try clear hi)) | ((with_reducible refine gate_callee (f := 32) rfl ?_); refine goesL_ (some 109) rfl rfl Try.func32 (by kernel_rfl) rfl #[.string t371] rfl (by (try simp only [List.map_toArray, List.map_cons, List.map_nil]); first | done | rfl | (simp only [List.length_drop, List.length_take]; rfl)) ?_; (with_reducible refine (impl_DecodeHeap.calls k2 t371 t372 t375 _ A54.out).mono ?_); rintro e w67 ⟨v373, rfl, ho0, hb⟩; refine ⟨_, rfl, ?_⟩; have n0_ := Aside0.mk (Kd.R_elder' (by (with_reducible repeat (first | apply Kd.R_alloc | apply Kd.R_drewN | apply Kd.R_drew)); exact HO_347000.out) (Kd.R_base ho0) hb); have n1_ := Aside0.mk (Kd.R_elder' (by (with_reducible repeat (first | apply Kd.R_alloc | apply Kd.R_drewN | apply Kd.R_drew)); exact HO_353000.out) (Kd.R_base ho0) hb); have n2_ := Aside0.mk (Kd.R_elder' (by (with_reducible repeat (first | apply Kd.R_alloc | apply Kd.R_drewN | apply Kd.R_drew)); exact HO368.out) (Kd.R_base ho0) hb); have n3_ := Aside0.mk (Kd.R_lower (Kd.R_new' (Kd.R_new' (Kd.R_new' ho0 (Kd.R_lt (by (with_reducible repeat (first | apply Kd.R_alloc | apply Kd.R_drewN | apply Kd.R_drew)); exact HO_347000.out))) (Kd.R_lt (by (with_reducible repeat (first | apply Kd.R_alloc | apply Kd.R_drewN | apply Kd.R_drew)); exact HO_353000.out))) (Kd.R_lt (by (with_reducible repeat (first | apply Kd.R_alloc | apply Kd.R_drewN | apply Kd.R_drew)); exact HO368.out))) (below_size (by repeat (first | (with_reducible first | exact HB.out | apply below_alloc | apply pw_below_drewN | apply below_drew1 | refine below_set ?_ GE346.out | refine below_set ?_ GE352.out | refine below_set ?_ GE370.out) | exact HB.out)))); have n4_ := Aside0.mk (blk_below (g := gb346) (o := .cells #[.slice Ao11 t342.length co11] 52 (0, 0)) (by (with_reducible repeat (first | refine blk_drewN ?_ _ | refine blk_drew ?_ | refine blk_alloc ?_ _)); exact BK346.out) hb); have n5_ := Aside0.mk (blk_below (g := gb352) (o := .cells #[.slice Ao15 t347.length co15] 52 (0, 0)) (by (with_reducible repeat (first | refine blk_drewN ?_ _ | refine blk_drew ?_ | refine blk_alloc ?_ _)); exact BK352.out) hb); have n6_ := Aside0.mk (blk_below (g := gb370) (o := .cells #[.slice Ao61 t366.length co61] 52 (0, 0)) (by (with_reducible repeat (first | refine blk_drewN ?_ _ | refine blk_drew ?_ | refine blk_alloc ?_ _)); exact BK370.out) hb); have n7_ := Aside0.mk (below_step (by repeat (first | (with_reducible first | exact HB.out | apply below_alloc | apply pw_below_drewN | apply below_drew1 | refine below_set ?_ GE346.out | refine below_set ?_ GE352.out | refine below_set ?_ GE370.out) | exact HB.out)) hb); clear HO_347000; clear HO_353000; clear HO368; clear BK346; clear BK352; clear BK370; clear HB; have HO_347000 := n0_; have HO_353000 := n1_; have HO368 := n2_; have HO374 := n3_; have BK346 := n4_; have BK352 := n5_; have BK370 := n6_; have HB := n7_; clear n0_ n1_ n2_ n3_ n4_ n5_ n6_ n7_; (try clear hb); (try clear hb2); (try clear hk); (try clear hi); (try clear ho0)) | ((with_reducible refine gate_dst (N := 20) rfl ?_); refine box_event ?hg (N := 20) ?hd (cs := #[.slice none 0 0]) (t := 52) ?hr ?_; (case hd => rfl); (case hg => rfl); (case hr => first | (go_simp; done) | (go_simp; rfl)); intro gb376 hg w68 hbox hb; have n0_ := Aside0.mk (Kd.R_below (by (with_reducible repeat (first | apply Kd.R_alloc | apply Kd.R_drewN | apply Kd.R_drew)); exact HO_347000.out) hb); have n1_ := Aside0.mk (Kd.R_below (by (with_reducible repeat (first | apply Kd.R_alloc | apply Kd.R_drewN | apply Kd.R_drew)); exact HO_353000.out) hb); have n2_ := Aside0.mk (Kd.R_below (by (with_reducible repeat (first | apply Kd.R_alloc | apply Kd.R_drewN | apply Kd.R_drew)); exact HO368.out) hb); have n3_ := Aside0.mk (Kd.R_below (by (with_reducible repeat (first | apply Kd.R_alloc | apply Kd.R_drewN | apply Kd.R_drew)); exact HO374.out) hb); have n4_ := Aside0.mk (blk_below (g := gb346) (o := .cells #[.slice Ao11 t342.length co11] 52 (0, 0)) (by (with_reducible repeat (first | refine blk_drewN ?_ _ | refine blk_drew ?_ | refine blk_alloc ?_ _)); exact BK346.out) hb); have n5_ := Aside0.mk (blk_below (g := gb352) (o := .cells #[.slice Ao15 t347.length co15] 52 (0, 0)) (by (with_reducible repeat (first | refine blk_drewN ?_ _ | refine blk_drew ?_ | refine blk_alloc ?_ _)); exact BK352.out) hb); have n6_ := Aside0.mk (blk_below (g := gb370) (o := .cells #[.slice Ao61 t366.length co61] 52 (0, 0)) (by (with_reducible repeat (first | refine blk_drewN ?_ _ | refine blk_drew ?_ | refine blk_alloc ?_ _)); exact BK370.out) hb); have n7_ := Aside0.mk (below_step (by repeat (first | (with_reducible first | exact HB.out | apply below_alloc | apply pw_below_drewN | apply below_drew1 | refine below_set ?_ GE346.out | refine below_set ?_ GE352.out | refine below_set ?_ GE370.out) | exact HB.out)) hb); have n8_ := Aside0.mk (hbox); have n9_ := Aside0.mk ((by rw [hg]; exact (below_size (by repeat (first | (with_reducible first | exact HB.out | apply below_alloc | apply pw_below_drewN | apply below_drew1 | refine below_set ?_ GE346.out | refine below_set ?_ GE352.out | refine below_set ?_ GE370.out) | exact HB.out))) : w.heap.size ≤ gb376)); have n10_ := Aside0.mk ((by rw [hg]; exact (below_size (by repeat (first | (with_reducible first | exact HB.out | apply below_alloc | apply pw_below_drewN | apply below_drew1 | refine below_set ?_ GE346.out | refine below_set ?_ GE352.out | refine below_set ?_ GE370.out) | exact HB.out))) : w.heap.size ≤ gb376)); have n11_ := Aside0.mk ((by rw [hg]; exact Nat.ne_of_lt (blk_lt (g := gb346) (o := .cells #[.slice Ao11 t342.length co11] 52 (0, 0)) (by (with_reducible repeat (first | refine blk_drewN ?_ _ | refine blk_drew ?_ | refine blk_alloc ?_ _)); exact BK346.out)) : gb346 ≠ gb376)); have n12_ := Aside0.mk ((by rw [hg]; exact Nat.ne_of_gt (blk_lt (g := gb346) (o := .cells #[.slice Ao11 t342.length co11] 52 (0, 0)) (by (with_reducible repeat (first | refine blk_drewN ?_ _ | refine blk_drew ?_ | refine blk_alloc ?_ _)); exact BK346.out)) : gb376 ≠ gb346)); have n13_ := Aside0.mk ((by rw [hg]; exact Nat.ne_of_lt (blk_lt (g := gb352) (o := .cells #[.slice Ao15 t347.length co15] 52 (0, 0)) (by (with_reducible repeat (first | refine blk_drewN ?_ _ | refine blk_drew ?_ | refine blk_alloc ?_ _)); exact BK352.out)) : gb352 ≠ gb376)); have n14_ := Aside0.mk ((by rw [hg]; exact Nat.ne_of_gt (blk_lt (g := gb352) (o := .cells #[.slice Ao15 t347.length co15] 52 (0, 0)) (by (with_reducible repeat (first | refine blk_drewN ?_ _ | refine blk_drew ?_ | refine blk_alloc ?_ _)); exact BK352.out)) : gb376 ≠ gb352)); have n15_ := Aside0.mk ((by rw [hg]; exact Nat.ne_of_lt (blk_lt (g := gb370) (o := .cells #[.slice Ao61 t366.length co61] 52 (0, 0)) (by (with_reducible repeat (first | refine blk_drewN ?_ _ | refine blk_drew ?_ | refine blk_alloc ?_ _)); exact BK370.out)) : gb370 ≠ gb376)); have n16_ := Aside0.mk ((by rw [hg]; exact Nat.ne_of_gt (blk_lt (g := gb370) (o := .cells #[.slice Ao61 t366.length co61] 52 (0, 0)) (by (with_reducible repeat (first | refine blk_drewN ?_ _ | refine blk_drew ?_ | refine blk_alloc ?_ _)); exact BK370.out)) : gb376 ≠ gb370)); clear HO_347000; clear HO_353000; clear HO368; clear HO374; clear BK346; clear BK352; clear BK370; clear HB; have HO_347000 := n0_; have HO_353000 := n1_; have HO368 := n2_; have HO374 := n3_; have BK346 := n4_; have BK352 := n5_; have BK370 := n6_; have HB := n7_; have BK376 := n8_; have GW376 := n9_; have GE376 := n10_; have NB346_376 := n11_; have NB376_346 := n12_; have NB352_376 := n13_; have NB376_352 := n14_; have NB370_376 := n15_; have NB376_370 := n16_; clear n0_ n1_ n2_ n3_ n4_ n5_ n6_ n7_ n8_ n9_ n10_ n11_ n12_ n13_ n14_ n15_ n16_; clear hb hbox hg; obtain ⟨Ao69, co69, eo69⟩ := Kd.R_slice HO374.out; subst eo69; have hnb70 := NB376_346.out; have hnc70 := NB346_376.out; have hnb71 := NB376_352.out; have hnc71 := NB352_376.out; have hnb72 := NB376_370.out; have hnc72 := NB370_376.out; have hcz73_0 : w68.cell? ⟨gb376, 0, none⟩ = some (.slice none 0 0) := (blk_cell BK376.out 0).trans rfl; have hfz73_0 := blk_frozen BK376.out 0))
                  (try simp only [Act.put, List.setIfInBounds_toArray, List.set_cons_zero, List.set_cons_succ])
                  go_cut [123] (fun v123 wc => ∃ (kq : Nat) (x123_54 : Bool), v123 = .bool x123_54 ∧ Aside0 (laws_FnHeap.j2 kq t345 t350 x123_54 t347 t366 = some r) ∧ Aside0 (kq ≤ k2) ∧ Aside0 (Kd.R Kd.string 9 wc w.heap.size (fun k_ => some k_ ≠ ((.slice Ao15 t347.length co15) : Value).ownBlock ∧ some k_ ≠ ((.slice Ao61 t366.length co61) : Value).ownBlock ∧ some k_ ≠ ((.slice Ao69 t372.length co69) : Value).ownBlock) (.slice Ao11 t342.length co11) t342) ∧ Aside0 (Kd.R Kd.string 9 wc w.heap.size (fun k_ => some k_ ≠ ((.slice Ao11 t342.length co11) : Value).ownBlock ∧ some k_ ≠ ((.slice Ao61 t366.length co61) : Value).ownBlock ∧ some k_ ≠ ((.slice Ao69 t372.length co69) : Value).ownBlock) (.slice Ao15 t347.length co15) t347) ∧ Aside0 (Kd.R Kd.string 9 wc w.heap.size (fun k_ => some k_ ≠ ((.slice Ao11 t342.length co11) : Value).ownBlock ∧ some k_ ≠ ((.slice Ao15 t347.length co15) : Value).ownBlock ∧ some k_ ≠ ((.slice Ao69 t372.length co69) : Value).ownBlock) (.slice Ao61 t366.length co61) t366) ∧ Aside0 (Kd.R Kd.string 9 wc w.heap.size (fun k_ => some k_ ≠ ((.slice Ao11 t342.length co11) : Value).ownBlock ∧ some k_ ≠ ((.slice Ao15 t347.length co15) : Value).ownBlock ∧ some k_ ≠ ((.slice Ao61 t366.length co61) : Value).ownBlock) (.slice Ao69 t372.length co69) t372) ∧ Aside0 (wc.heap[gb346]? = some (.cells #[(.slice Ao11 t342.length co11)] 52 (0, 0))) ∧ Aside0 (wc.heap[gb352]? = some (.cells #[(.slice Ao15 t347.length co15)] 52 (0, 0))) ∧ Aside0 (wc.heap[gb370]? = some (.cells #[(.slice Ao61 t366.length co61)] 52 (0, 0))) ∧ Aside0 (wc.heap[gb376]? = some (.cells #[(.slice Ao69 t372.length co69)] 52 (0, 0))) ∧ Aside0 (Below w.heap.size w wc))
                  case first =>
                    have H := HC55.out
                    clear HC55
                    by_cases c74 : t369 = 0
                    · rw [if_pos c74] at H
                      have c74b0 : (t369 == 0) = true := beq_iff_eq.mpr c74
                      have c74b1 : (t369 != 0) = false := bne_eq_false_iff_eq.mpr c74
                      clear c74
                      (first | rw [c74b0] | (simp only [i64_w, i32_w]; rw [c74b0]) | skip)
                      by_cases c75 : t375 = true
                      · subst c75
                        have H1 : ((spec_SameHeap.f k2 t372 t347).bind fun t377 => (laws_FnHeap.j2 k2 t345 t350 (!t377) t347 t366)) = some r := by rw [if_pos rfl] at H; exact H
                        clear H
                        have H := H1
                        clear H1
                        replace H := Option.bind_eq_some_iff.mp H
                        obtain ⟨t377, A760, H⟩ := H
                        replace H : (laws_FnHeap.j2 k2 t345 t350 (!t377) t347 t366) = some r := H
                        have A76 := Aside0.mk A760
                        clear A760
                        have H' := Aside0.mk H
                        clear H
                        have hnb77 := NB376_346.out
                        have hnc77 := NB346_376.out
                        have hnb78 := NB376_352.out
                        have hnc78 := NB352_376.out
                        have hnb79 := NB376_370.out
                        have hnc79 := NB370_376.out
                        have hcz80_0 : w68.cell? ⟨gb376, 0, none⟩ = some (.slice none 0 0) := (blk_cell BK376.out 0).trans rfl
                        have hfz80_0 := blk_frozen BK376.out 0
                        have hnb81 := NB352_346.out
                        have hnc81 := NB346_352.out
                        have hnb82 := NB352_370.out
                        have hnc82 := NB370_352.out
                        have hcz83_0 : w68.cell? ⟨gb352, 0, none⟩ = some (.slice Ao15 t347.length co15) := (blk_cell BK352.out 0).trans rfl
                        have hfz83_0 := blk_frozen BK352.out 0
                        go_wp2_with (first | (go_at_call 34; (with_reducible refine (spec_SameHeap.calls k2 _ _ t372 _ _ t347 t377 _ ?side1 ?side2 ?side3 ?side4 A76.out).mono ?_); (case side1 => refine (Kd.R_reads' (e := 9) (base := w.heap.size) (ok := fun k_ => (((True ∧ some k_ ≠ (.slice Ao11 t342.length co11 : Value).ownBlock) ∧ some k_ ≠ (.slice Ao15 t347.length co15 : Value).ownBlock) ∧ some k_ ≠ (.slice Ao61 t366.length co61 : Value).ownBlock)) (n := t372.length) (c := co69) ?_).2.2; exact (by (with_reducible repeat (first | apply Kd.R_alloc | apply Kd.R_drewN | apply Kd.R_drew)); exact (Kd.R_mono (Kd.R_far (p := ⟨gb376, 0, none⟩) (Kd.R_types HO374.out BK376.out (by decide)) (fun _ hk => hk.2) (.slice Ao69 t372.length co69)) (fun _ h_ => h_.1)))); (case side2 => exact (Kd.R_reads' HO374.out).2.1); (case side3 => refine (Kd.R_reads' (e := 9) (base := w.heap.size) (ok := fun k_ => ((some k_ ≠ (.slice Ao11 t342.length co11 : Value).ownBlock ∧ some k_ ≠ (.slice Ao61 t366.length co61 : Value).ownBlock) ∧ some k_ ≠ (.slice Ao69 t372.length co69 : Value).ownBlock)) (n := t347.length) (c := co15) ?_).2.2; exact (by (with_reducible repeat (first | apply Kd.R_alloc | apply Kd.R_drewN | apply Kd.R_drew)); exact (Kd.R_mono (Kd.R_far (p := ⟨gb376, 0, none⟩) (Kd.R_types HO_353000.out BK376.out (by decide)) (fun _ hk => hk.2) (.slice Ao69 t372.length co69)) (fun _ h_ => h_.1)))); (case side4 => exact (Kd.R_reads' HO_353000.out).2.1); rintro e w84 ⟨rfl, hb⟩; have n0_ := Aside0.mk (Kd.R_below (by (with_reducible repeat (first | apply Kd.R_alloc | apply Kd.R_drewN | apply Kd.R_drew)); exact (Kd.R_mono (Kd.R_far (p := ⟨gb376, 0, none⟩) (Kd.R_types HO_347000.out BK376.out (by decide)) (fun _ hk => hk.2) (.slice Ao69 t372.length co69)) (fun _ h_ => h_.1))) hb); have n1_ := Aside0.mk (Kd.R_below (by (with_reducible repeat (first | apply Kd.R_alloc | apply Kd.R_drewN | apply Kd.R_drew)); exact (Kd.R_mono (Kd.R_far (p := ⟨gb376, 0, none⟩) (Kd.R_types HO_353000.out BK376.out (by decide)) (fun _ hk => hk.2) (.slice Ao69 t372.length co69)) (fun _ h_ => h_.1))) hb); have n2_ := Aside0.mk (Kd.R_below (by (with_reducible repeat (first | apply Kd.R_alloc | apply Kd.R_drewN | apply Kd.R_drew)); exact (Kd.R_mono (Kd.R_far (p := ⟨gb376, 0, none⟩) (Kd.R_types HO368.out BK376.out (by decide)) (fun _ hk => hk.2) (.slice Ao69 t372.length co69)) (fun _ h_ => h_.1))) hb); have n3_ := Aside0.mk (Kd.R_below (by (with_reducible repeat (first | apply Kd.R_alloc | apply Kd.R_drewN | apply Kd.R_drew)); exact (Kd.R_mono (Kd.R_far (p := ⟨gb376, 0, none⟩) (Kd.R_types HO374.out BK376.out (by decide)) (fun _ hk => hk.2) (.slice Ao69 t372.length co69)) (fun _ h_ => h_.1))) hb); have n4_ := Aside0.mk (blk_below (g := gb346) (o := .cells #[.slice Ao11 t342.length co11] 52 (0, 0)) (by (with_reducible repeat (first | refine blk_drewN ?_ _ | refine blk_drew ?_ | refine blk_alloc ?_ _)); refine blk_far ?_ NB346_376.out _; (with_reducible repeat (first | refine blk_drewN ?_ _ | refine blk_drew ?_ | refine blk_alloc ?_ _)); exact BK346.out) hb); have n5_ := Aside0.mk (blk_below (g := gb352) (o := .cells #[.slice Ao15 t347.length co15] 52 (0, 0)) (by (with_reducible repeat (first | refine blk_drewN ?_ _ | refine blk_drew ?_ | refine blk_alloc ?_ _)); refine blk_far ?_ NB352_376.out _; (with_reducible repeat (first | refine blk_drewN ?_ _ | refine blk_drew ?_ | refine blk_alloc ?_ _)); exact BK352.out) hb); have n6_ := Aside0.mk (blk_below (g := gb370) (o := .cells #[.slice Ao61 t366.length co61] 52 (0, 0)) (by (with_reducible repeat (first | refine blk_drewN ?_ _ | refine blk_drew ?_ | refine blk_alloc ?_ _)); refine blk_far ?_ NB370_376.out _; (with_reducible repeat (first | refine blk_drewN ?_ _ | refine blk_drew ?_ | refine blk_alloc ?_ _)); exact BK370.out) hb); have n7_ := Aside0.mk (blk_below (g := gb376) (o := .cells #[.slice Ao69 t372.length co69] 52 (0, 0)) (by (with_reducible repeat (first | refine blk_drewN ?_ _ | refine blk_drew ?_ | refine blk_alloc ?_ _)); refine blk_put (cs := #[.slice none 0 0]) ?_ 0 _ rfl; (with_reducible repeat (first | refine blk_drewN ?_ _ | refine blk_drew ?_ | refine blk_alloc ?_ _)); exact BK376.out) hb); have n8_ := Aside0.mk (below_step (by repeat (first | (with_reducible first | exact HB.out | apply below_alloc | apply pw_below_drewN | apply below_drew1 | refine below_set ?_ GE346.out | refine below_set ?_ GE352.out | refine below_set ?_ GE370.out | refine below_set ?_ GE376.out) | exact HB.out)) hb); clear HO_347000; clear HO_353000; clear HO368; clear HO374; clear BK346; clear BK352; clear BK370; clear BK376; clear HB; have HO_347000 := n0_; have HO_353000 := n1_; have HO368 := n2_; have HO374 := n3_; have BK346 := n4_; have BK352 := n5_; have BK370 := n6_; have BK376 := n7_; have HB := n8_; clear n0_ n1_ n2_ n3_ n4_ n5_ n6_ n7_ n8_; (try clear hb); (try clear hb2); (try clear hk); (try clear hi)))
                        go_meet
                        case rel => exact ⟨_, (!t377), (by first | rfl | (simp; done) | (simp [*]; done)), H', ⟨by have := HJ7.out; have := HK2.out; first | omega | exact Nat.le_refl _⟩, ⟨by (with_reducible repeat (first | apply Kd.R_alloc | apply Kd.R_drewN | apply Kd.R_drew)); exact Kd.R_mono HO_347000.out (fun _ hk => ⟨hk.1.1, ⟨hk.1.2, hk.2⟩⟩)⟩, ⟨by (with_reducible repeat (first | apply Kd.R_alloc | apply Kd.R_drewN | apply Kd.R_drew)); exact Kd.R_mono HO_353000.out (fun _ hk => ⟨hk.1.1, ⟨hk.1.2, hk.2⟩⟩)⟩, ⟨by (with_reducible repeat (first | apply Kd.R_alloc | apply Kd.R_drewN | apply Kd.R_drew)); exact Kd.R_mono HO368.out (fun _ hk => ⟨hk.1.1.2, ⟨hk.1.2, hk.2⟩⟩)⟩, ⟨by (with_reducible repeat (first | apply Kd.R_alloc | apply Kd.R_drewN | apply Kd.R_drew)); exact Kd.R_mono HO374.out (fun _ hk => ⟨hk.1.1.2, ⟨hk.1.2, hk.2⟩⟩)⟩, ⟨by (with_reducible repeat (first | refine blk_drewN ?_ _ | refine blk_drew ?_ | refine blk_alloc ?_ _)); exact BK346.out⟩, ⟨by (with_reducible repeat (first | refine blk_drewN ?_ _ | refine blk_drew ?_ | refine blk_alloc ?_ _)); exact BK352.out⟩, ⟨by (with_reducible repeat (first | refine blk_drewN ?_ _ | refine blk_drew ?_ | refine blk_alloc ?_ _)); exact BK370.out⟩, ⟨by (with_reducible repeat (first | refine blk_drewN ?_ _ | refine blk_drew ?_ | refine blk_alloc ?_ _)); exact BK376.out⟩, ⟨by repeat (first | (with_reducible first | exact HB.out | apply below_alloc | apply pw_below_drewN | apply below_drew1 | refine below_set ?_ GE346.out | refine below_set ?_ GE352.out | refine below_set ?_ GE370.out | refine below_set ?_ GE376.out) | exact HB.out)⟩⟩
                      · replace c75 := Bool.eq_false_iff.mpr c75
                        subst c75
                        have H1 : (laws_FnHeap.j2 k2 t345 t350 true t347 t366) = some r := by rw [if_neg (show ¬ (false = true) by decide)] at H; exact H
                        clear H
                        have H := H1
                        clear H1
                        have H' := Aside0.mk H
                        clear H
                        go_wp2
                        go_meet
                        case rel => exact ⟨_, (true), (by first | rfl | (simp; done) | (simp [*]; done)), H', ⟨by have := HJ7.out; have := HK2.out; first | omega | exact Nat.le_refl _⟩, ⟨by (with_reducible repeat (first | apply Kd.R_alloc | apply Kd.R_drewN | apply Kd.R_drew)); exact Kd.R_mono (Kd.R_far (p := ⟨gb376, 0, none⟩) (Kd.R_types HO_347000.out BK376.out (by decide)) (fun _ hk => hk.2) (.slice Ao69 t372.length co69)) (fun _ hk => ⟨hk.1.1.1, ⟨hk.1.1.2, hk.1.2⟩⟩)⟩, ⟨by (with_reducible repeat (first | apply Kd.R_alloc | apply Kd.R_drewN | apply Kd.R_drew)); exact Kd.R_mono (Kd.R_far (p := ⟨gb376, 0, none⟩) (Kd.R_types HO_353000.out BK376.out (by decide)) (fun _ hk => hk.2) (.slice Ao69 t372.length co69)) (fun _ hk => ⟨hk.1.1.1, ⟨hk.1.1.2, hk.1.2⟩⟩)⟩, ⟨by (with_reducible repeat (first | apply Kd.R_alloc | apply Kd.R_drewN | apply Kd.R_drew)); exact Kd.R_mono (Kd.R_far (p := ⟨gb376, 0, none⟩) (Kd.R_types HO368.out BK376.out (by decide)) (fun _ hk => hk.2) (.slice Ao69 t372.length co69)) (fun _ hk => ⟨hk.1.1.1.2, ⟨hk.1.1.2, hk.1.2⟩⟩)⟩, ⟨by (with_reducible repeat (first | apply Kd.R_alloc | apply Kd.R_drewN | apply Kd.R_drew)); exact Kd.R_mono (Kd.R_far (p := ⟨gb376, 0, none⟩) (Kd.R_types HO374.out BK376.out (by decide)) (fun _ hk => hk.2) (.slice Ao69 t372.length co69)) (fun _ hk => ⟨hk.1.1.1.2, ⟨hk.1.1.2, hk.1.2⟩⟩)⟩, ⟨by (with_reducible repeat (first | refine blk_drewN ?_ _ | refine blk_drew ?_ | refine blk_alloc ?_ _)); refine blk_far ?_ NB346_376.out _; (with_reducible repeat (first | refine blk_drewN ?_ _ | refine blk_drew ?_ | refine blk_alloc ?_ _)); exact BK346.out⟩, ⟨by (with_reducible repeat (first | refine blk_drewN ?_ _ | refine blk_drew ?_ | refine blk_alloc ?_ _)); refine blk_far ?_ NB352_376.out _; (with_reducible repeat (first | refine blk_drewN ?_ _ | refine blk_drew ?_ | refine blk_alloc ?_ _)); exact BK352.out⟩, ⟨by (with_reducible repeat (first | refine blk_drewN ?_ _ | refine blk_drew ?_ | refine blk_alloc ?_ _)); refine blk_far ?_ NB370_376.out _; (with_reducible repeat (first | refine blk_drewN ?_ _ | refine blk_drew ?_ | refine blk_alloc ?_ _)); exact BK370.out⟩, ⟨by (with_reducible repeat (first | refine blk_drewN ?_ _ | refine blk_drew ?_ | refine blk_alloc ?_ _)); refine blk_put (cs := #[.slice none 0 0]) ?_ 0 _ rfl; (with_reducible repeat (first | refine blk_drewN ?_ _ | refine blk_drew ?_ | refine blk_alloc ?_ _)); exact BK376.out⟩, ⟨by repeat (first | (with_reducible first | exact HB.out | apply below_alloc | apply pw_below_drewN | apply below_drew1 | refine below_set ?_ GE346.out | refine below_set ?_ GE352.out | refine below_set ?_ GE370.out | refine below_set ?_ GE376.out) | exact HB.out)⟩⟩
                    · rw [if_neg c74] at H
                      have c74b0 : (t369 == 0) = false := beq_eq_false_iff_ne.mpr c74
                      have c74b1 : (t369 != 0) = true := bne_iff_ne.mpr c74
                      (first | rw [c74b0] | (simp only [i64_w, i32_w]; rw [c74b0]) | skip)
                      have H' := Aside0.mk H
                      clear H
                      go_wp2
                      go_meet
                      case rel => exact ⟨_, (true), (by first | rfl | (simp; done) | (simp [*]; done)), H', ⟨by have := HJ7.out; have := HK2.out; first | omega | exact Nat.le_refl _⟩, ⟨by (with_reducible repeat (first | apply Kd.R_alloc | apply Kd.R_drewN | apply Kd.R_drew)); exact Kd.R_mono (Kd.R_far (p := ⟨gb376, 0, none⟩) (Kd.R_types HO_347000.out BK376.out (by decide)) (fun _ hk => hk.2) (.slice Ao69 t372.length co69)) (fun _ hk => ⟨hk.1.1.1, ⟨hk.1.1.2, hk.1.2⟩⟩)⟩, ⟨by (with_reducible repeat (first | apply Kd.R_alloc | apply Kd.R_drewN | apply Kd.R_drew)); exact Kd.R_mono (Kd.R_far (p := ⟨gb376, 0, none⟩) (Kd.R_types HO_353000.out BK376.out (by decide)) (fun _ hk => hk.2) (.slice Ao69 t372.length co69)) (fun _ hk => ⟨hk.1.1.1, ⟨hk.1.1.2, hk.1.2⟩⟩)⟩, ⟨by (with_reducible repeat (first | apply Kd.R_alloc | apply Kd.R_drewN | apply Kd.R_drew)); exact Kd.R_mono (Kd.R_far (p := ⟨gb376, 0, none⟩) (Kd.R_types HO368.out BK376.out (by decide)) (fun _ hk => hk.2) (.slice Ao69 t372.length co69)) (fun _ hk => ⟨hk.1.1.1.2, ⟨hk.1.1.2, hk.1.2⟩⟩)⟩, ⟨by (with_reducible repeat (first | apply Kd.R_alloc | apply Kd.R_drewN | apply Kd.R_drew)); exact Kd.R_mono (Kd.R_far (p := ⟨gb376, 0, none⟩) (Kd.R_types HO374.out BK376.out (by decide)) (fun _ hk => hk.2) (.slice Ao69 t372.length co69)) (fun _ hk => ⟨hk.1.1.1.2, ⟨hk.1.1.2, hk.1.2⟩⟩)⟩, ⟨by (with_reducible repeat (first | refine blk_drewN ?_ _ | refine blk_drew ?_ | refine blk_alloc ?_ _)); refine blk_far ?_ NB346_376.out _; (with_reducible repeat (first | refine blk_drewN ?_ _ | refine blk_drew ?_ | refine blk_alloc ?_ _)); exact BK346.out⟩, ⟨by (with_reducible repeat (first | refine blk_drewN ?_ _ | refine blk_drew ?_ | refine blk_alloc ?_ _)); refine blk_far ?_ NB352_376.out _; (with_reducible repeat (first | refine blk_drewN ?_ _ | refine blk_drew ?_ | refine blk_alloc ?_ _)); exact BK352.out⟩, ⟨by (with_reducible repeat (first | refine blk_drewN ?_ _ | refine blk_drew ?_ | refine blk_alloc ?_ _)); refine blk_far ?_ NB370_376.out _; (with_reducible repeat (first | refine blk_drewN ?_ _ | refine blk_drew ?_ | refine blk_alloc ?_ _)); exact BK370.out⟩, ⟨by (with_reducible repeat (first | refine blk_drewN ?_ _ | refine blk_drew ?_ | refine blk_alloc ?_ _)); refine blk_put (cs := #[.slice none 0 0]) ?_ 0 _ rfl; (with_reducible repeat (first | refine blk_drewN ?_ _ | refine blk_drew ?_ | refine blk_alloc ?_ _)); exact BK376.out⟩, ⟨by repeat (first | (with_reducible first | exact HB.out | apply below_alloc | apply pw_below_drewN | apply below_drew1 | refine below_set ?_ GE346.out | refine below_set ?_ GE352.out | refine below_set ?_ GE370.out | refine below_set ?_ GE376.out) | exact HB.out)⟩⟩
                  case rest =>
                    clear HC55
                    try clear c1
                    try clear c2
                    try clear p2
                    try clear c3
                    try clear c4
                    try clear c5
                    try clear c6
                    try clear c6b0
                    try clear c6b1
                    try clear p6
                    try clear c7
                    try clear c8
                    try clear c16
                    try clear c19
                    try clear c20
                    try clear c20b0
                    try clear c20b1
                    try clear c22
                    try clear c25
                    try clear c26
                    try clear c26b0
                    try clear c27
                    try clear c29
                    try clear c29b0
                    try clear c29b1
                    try clear c30
                    try clear c31
                    try clear c32
                    try clear c33
                    try clear c35
                    try clear c35b0
                    try clear c35b1
                    try clear c35b2
                    try clear c36
                    try clear c41
                    try clear c41b0
                    try clear c41b1
                    try clear c42
                    try clear c47
                    try clear c56
                    try clear c62
                    try clear c63
                    try clear p64
                    try clear c70
                    try clear c71
                    try clear c72
                    try clear c74
                    try clear c74b0
                    try clear c74b1
                    try clear c75
                    try clear c77
                    try clear c78
                    try clear c79
                    try clear c81
                    try clear c82
                    try clear hcz12_0
                    try clear hcz17_0
                    try clear hcz23_0
                    try clear hcz31_0
                    try clear hcz33_0
                    try clear hcz37_0
                    try clear hcz39_0
                    try clear hcz43_0
                    try clear hcz45_0
                    try clear hcz48_0
                    try clear hcz50_0
                    try clear hcz57_0
                    try clear hcz58_0
                    try clear hcz64_0
                    try clear hcz65_0
                    try clear hcz73_0
                    try clear hcz80_0
                    try clear hcz83_0
                    try clear hfz12_0
                    try clear hfz17_0
                    try clear hfz23_0
                    try clear hfz31_0
                    try clear hfz33_0
                    try clear hfz37_0
                    try clear hfz39_0
                    try clear hfz43_0
                    try clear hfz45_0
                    try clear hfz48_0
                    try clear hfz50_0
                    try clear hfz57_0
                    try clear hfz58_0
                    try clear hfz64_0
                    try clear hfz65_0
                    try clear hfz73_0
                    try clear hfz80_0
                    try clear hfz83_0
                    try clear p2
                    obtain ⟨kq, x123_54, rfl, HA, HJ54, HO_347000, HO_353000, HO_371000, HO_377000, BK346, BK352, BK370, BK376, HB⟩ := hcut
                    cases kq with
                    | zero => exact absurd HA.out (by simp [laws_FnHeap.j2])
                    | succ kj54 =>
                      have H := HA.out
                      clear HA
                      simp only [laws_FnHeap.j2] at H
                      by_cases c85 : x123_54 = true
                      · subst c85
                        have H1 : (some false) = some r := by rw [if_pos rfl] at H; exact H
                        clear H
                        have H := H1
                        clear H1
                        obtain rfl := Option.some.inj H
                        go_wp2
                        go_ret
                        exact ⟨by first | rfl | (simp [errW_none, errW_some] <;> rfl) | (simp [*, errW_none, errW_some] <;> rfl), by repeat (first | (with_reducible first | exact HB.out | apply below_alloc | apply pw_below_drewN | apply below_drew1 | refine below_set ?_ GE346.out | refine below_set ?_ GE352.out | refine below_set ?_ GE370.out | refine below_set ?_ GE376.out) | exact HB.out)⟩
                      · replace c85 := Bool.eq_false_iff.mpr c85
                        subst c85
                        have H1 : ((impl_NameAt.f kj54 t366 t350).bind fun bt378 => (if bt378.2 = true then (some false) else ((impl_SlotOf.f kj54 t347 t345).bind fun t380 => (if t380 ≥ 0 then ((impl_SlotOf.f kj54 t347 t345).bind fun t381 => (some (decide (t381 ≤ t350)))) else (some false))))) = some r := by rw [if_neg (show ¬ (false = true) by decide)] at H; exact H
                        clear H
                        have H := H1
                        clear H1
                        replace H := Option.bind_eq_some_iff.mp H
                        obtain ⟨⟨t378, t379⟩, A860, H⟩ := H
                        replace H : (if t379 = true then (some false) else ((impl_SlotOf.f kj54 t347 t345).bind fun t380 => (if t380 ≥ 0 then ((impl_SlotOf.f kj54 t347 t345).bind fun t381 => (some (decide (t381 ≤ t350)))) else (some false)))) = some r := H
                        have A86 := Aside0.mk A860
                        clear A860
                        by_cases c87 : t379 = true
                        · subst c87
                          have H1 : (some false) = some r := by rw [if_pos rfl] at H; exact H
                          clear H
                          have H := H1
                          clear H1
                          obtain rfl := Option.some.inj H
                          have hnb88 := NB370_346.out
                          have hnc88 := NB346_370.out
                          have hnb89 := NB370_352.out
                          have hnc89 := NB352_370.out
                          have hnb90 := NB370_376.out
                          have hnc90 := NB376_370.out
                          have hcz91_0 : wc.cell? ⟨gb370, 0, none⟩ = some (.slice Ao61 t366.length co61) := (blk_cell BK370.out 0).trans rfl
                          have hfz91_0 := blk_frozen BK370.out 0
                          go_wp2_with (first | ((with_reducible refine gate_callee (f := 29) rfl ?_); refine goesL_ (some 127) rfl rfl Try.func29 (by kernel_rfl) rfl #[.agg #[.slice Ao61 t366.length co61], .int .i64 t350] rfl (by (try simp only [List.map_toArray, List.map_cons, List.map_nil]); first | done | rfl | (simp only [List.length_drop, List.length_take]; rfl)) ?_; (with_reducible refine (impl_NameAt.calls kj54 _ _ t366 t350 t378 true _ ?side1 ?side2 A86.out).mono ?_); (case side1 => repeat (first | exact (Kd.R_reads' HO_371000.out).2.2 | (with_reducible refine Kd.C_alloc ?_ _) | (with_reducible refine Kd.C_drewN ?_ _) | (with_reducible refine Kd.C_drew ?_))); (case side2 => exact (Kd.R_reads' HO_371000.out).2.1); rintro e w92 ⟨rfl, hb⟩; refine ⟨_, rfl, ?_⟩; have n0_ := Aside0.mk (Kd.R_below (by (with_reducible repeat (first | apply Kd.R_alloc | apply Kd.R_drewN | apply Kd.R_drew)); exact HO_347000.out) hb); have n1_ := Aside0.mk (Kd.R_below (by (with_reducible repeat (first | apply Kd.R_alloc | apply Kd.R_drewN | apply Kd.R_drew)); exact HO_353000.out) hb); have n2_ := Aside0.mk (Kd.R_below (by (with_reducible repeat (first | apply Kd.R_alloc | apply Kd.R_drewN | apply Kd.R_drew)); exact HO_371000.out) hb); have n3_ := Aside0.mk (Kd.R_below (by (with_reducible repeat (first | apply Kd.R_alloc | apply Kd.R_drewN | apply Kd.R_drew)); exact HO_377000.out) hb); have n4_ := Aside0.mk (blk_below (g := gb346) (o := .cells #[.slice Ao11 t342.length co11] 52 (0, 0)) (by (with_reducible repeat (first | refine blk_drewN ?_ _ | refine blk_drew ?_ | refine blk_alloc ?_ _)); exact BK346.out) hb); have n5_ := Aside0.mk (blk_below (g := gb352) (o := .cells #[.slice Ao15 t347.length co15] 52 (0, 0)) (by (with_reducible repeat (first | refine blk_drewN ?_ _ | refine blk_drew ?_ | refine blk_alloc ?_ _)); exact BK352.out) hb); have n6_ := Aside0.mk (blk_below (g := gb370) (o := .cells #[.slice Ao61 t366.length co61] 52 (0, 0)) (by (with_reducible repeat (first | refine blk_drewN ?_ _ | refine blk_drew ?_ | refine blk_alloc ?_ _)); exact BK370.out) hb); have n7_ := Aside0.mk (blk_below (g := gb376) (o := .cells #[.slice Ao69 t372.length co69] 52 (0, 0)) (by (with_reducible repeat (first | refine blk_drewN ?_ _ | refine blk_drew ?_ | refine blk_alloc ?_ _)); exact BK376.out) hb); have n8_ := Aside0.mk (below_step (by repeat (first | (with_reducible first | exact HB.out | apply below_alloc | apply pw_below_drewN | apply below_drew1 | refine below_set ?_ GE346.out | refine below_set ?_ GE352.out | refine below_set ?_ GE370.out | refine below_set ?_ GE376.out) | exact HB.out)) hb); clear HO_347000; clear HO_353000; clear HO_371000; clear HO_377000; clear BK346; clear BK352; clear BK370; clear BK376; clear HB; have HO_347000 := n0_; have HO_353000 := n1_; have HO_371000 := n2_; have HO_377000 := n3_; have BK346 := n4_; have BK352 := n5_; have BK370 := n6_; have BK376 := n7_; have HB := n8_; clear n0_ n1_ n2_ n3_ n4_ n5_ n6_ n7_ n8_; (try clear hb); (try clear hb2); (try clear hk); (try clear hi)))
                          go_ret
                          exact ⟨by first | rfl | (simp [errW_none, errW_some] <;> rfl) | (simp [*, errW_none, errW_some] <;> rfl), by repeat (first | (with_reducible first | exact HB.out | apply below_alloc | apply pw_below_drewN | apply below_drew1 | refine below_set ?_ GE346.out | refine below_set ?_ GE352.out | refine below_set ?_ GE370.out | refine below_set ?_ GE376.out) | exact HB.out)⟩
                        · replace c87 := Bool.eq_false_iff.mpr c87
                          subst c87
                          have H1 : ((impl_SlotOf.f kj54 t347 t345).bind fun t380 => (if t380 ≥ 0 then ((impl_SlotOf.f kj54 t347 t345).bind fun t381 => (some (decide (t381 ≤ t350)))) else (some false))) = some r := by rw [if_neg (show ¬ (false = true) by decide)] at H; exact H
                          clear H
                          have H := H1
                          clear H1
                          replace H := Option.bind_eq_some_iff.mp H
                          obtain ⟨t380, A930, H⟩ := H
                          replace H : (if t380 ≥ 0 then ((impl_SlotOf.f kj54 t347 t345).bind fun t381 => (some (decide (t381 ≤ t350)))) else (some false)) = some r := H
                          have A93 := Aside0.mk A930
                          clear A930
                          by_cases c94 : t380 ≥ 0
                          · rw [if_pos c94] at H
                            have c94b0 : decide (0 ≤ t380) = true := decide_eq_true c94
                            clear c94
                            replace H := Option.bind_eq_some_iff.mp H
                            obtain ⟨t381, A950, H⟩ := H
                            replace H : (some (decide (t381 ≤ t350))) = some r := H
                            have A95 := Aside0.mk A950
                            clear A950
                            obtain rfl := Option.some.inj H
                            have hnb96 := NB370_346.out
                            have hnc96 := NB346_370.out
                            have hnb97 := NB370_352.out
                            have hnc97 := NB352_370.out
                            have hnb98 := NB370_376.out
                            have hnc98 := NB376_370.out
                            have hcz99_0 : wc.cell? ⟨gb370, 0, none⟩ = some (.slice Ao61 t366.length co61) := (blk_cell BK370.out 0).trans rfl
                            have hfz99_0 := blk_frozen BK370.out 0
                            go_wp2_with (first | ((with_reducible refine gate_callee (f := 29) rfl ?_); refine goesL_ (some 127) rfl rfl Try.func29 (by kernel_rfl) rfl #[.agg #[.slice Ao61 t366.length co61], .int .i64 t350] rfl (by (try simp only [List.map_toArray, List.map_cons, List.map_nil]); first | done | rfl | (simp only [List.length_drop, List.length_take]; rfl)) ?_; (with_reducible refine (impl_NameAt.calls kj54 _ _ t366 t350 t378 false _ ?side1 ?side2 A86.out).mono ?_); (case side1 => repeat (first | exact (Kd.R_reads' HO_371000.out).2.2 | (with_reducible refine Kd.C_alloc ?_ _) | (with_reducible refine Kd.C_drewN ?_ _) | (with_reducible refine Kd.C_drew ?_))); (case side2 => exact (Kd.R_reads' HO_371000.out).2.1); rintro e w100 ⟨rfl, hb⟩; refine ⟨_, rfl, ?_⟩; have n0_ := Aside0.mk (Kd.R_below (by (with_reducible repeat (first | apply Kd.R_alloc | apply Kd.R_drewN | apply Kd.R_drew)); exact HO_347000.out) hb); have n1_ := Aside0.mk (Kd.R_below (by (with_reducible repeat (first | apply Kd.R_alloc | apply Kd.R_drewN | apply Kd.R_drew)); exact HO_353000.out) hb); have n2_ := Aside0.mk (Kd.R_below (by (with_reducible repeat (first | apply Kd.R_alloc | apply Kd.R_drewN | apply Kd.R_drew)); exact HO_371000.out) hb); have n3_ := Aside0.mk (Kd.R_below (by (with_reducible repeat (first | apply Kd.R_alloc | apply Kd.R_drewN | apply Kd.R_drew)); exact HO_377000.out) hb); have n4_ := Aside0.mk (blk_below (g := gb346) (o := .cells #[.slice Ao11 t342.length co11] 52 (0, 0)) (by (with_reducible repeat (first | refine blk_drewN ?_ _ | refine blk_drew ?_ | refine blk_alloc ?_ _)); exact BK346.out) hb); have n5_ := Aside0.mk (blk_below (g := gb352) (o := .cells #[.slice Ao15 t347.length co15] 52 (0, 0)) (by (with_reducible repeat (first | refine blk_drewN ?_ _ | refine blk_drew ?_ | refine blk_alloc ?_ _)); exact BK352.out) hb); have n6_ := Aside0.mk (blk_below (g := gb370) (o := .cells #[.slice Ao61 t366.length co61] 52 (0, 0)) (by (with_reducible repeat (first | refine blk_drewN ?_ _ | refine blk_drew ?_ | refine blk_alloc ?_ _)); exact BK370.out) hb); have n7_ := Aside0.mk (blk_below (g := gb376) (o := .cells #[.slice Ao69 t372.length co69] 52 (0, 0)) (by (with_reducible repeat (first | refine blk_drewN ?_ _ | refine blk_drew ?_ | refine blk_alloc ?_ _)); exact BK376.out) hb); have n8_ := Aside0.mk (below_step (by repeat (first | (with_reducible first | exact HB.out | apply below_alloc | apply pw_below_drewN | apply below_drew1 | refine below_set ?_ GE346.out | refine below_set ?_ GE352.out | refine below_set ?_ GE370.out | refine below_set ?_ GE376.out) | exact HB.out)) hb); clear HO_347000; clear HO_353000; clear HO_371000; clear HO_377000; clear BK346; clear BK352; clear BK370; clear BK376; clear HB; have HO_347000 := n0_; have HO_353000 := n1_; have HO_371000 := n2_; have HO_377000 := n3_; have BK346 := n4_; have BK352 := n5_; have BK370 := n6_; have BK376 := n7_; have HB := n8_; clear n0_ n1_ n2_ n3_ n4_ n5_ n6_ n7_ n8_; (try clear hb); (try clear hb2); (try clear hk); (try clear hi); have hnb101 := NB352_346.out; have hnc101 := NB346_352.out; have hnb102 := NB352_376.out; have hnc102 := NB376_352.out; have hcz103_0 : w100.cell? ⟨gb352, 0, none⟩ = some (.slice Ao15 t347.length co15) := (blk_cell BK352.out 0).trans rfl; have hfz103_0 := blk_frozen BK352.out 0) | (go_at_call 35; (with_reducible refine (impl_SlotOf.calls kj54 _ _ t347 t345 t380 _ ?side1 ?side2 A93.out).mono ?_); (case side1 => repeat (first | exact (Kd.R_reads' HO_353000.out).2.2 | (with_reducible refine Kd.C_alloc ?_ _) | (with_reducible refine Kd.C_drewN ?_ _) | (with_reducible refine Kd.C_drew ?_))); (case side2 => exact (Kd.R_reads' HO_353000.out).2.1); rintro e w104 ⟨rfl, hb⟩; have n0_ := Aside0.mk (Kd.R_below (by (with_reducible repeat (first | apply Kd.R_alloc | apply Kd.R_drewN | apply Kd.R_drew)); exact HO_347000.out) hb); have n1_ := Aside0.mk (Kd.R_below (by (with_reducible repeat (first | apply Kd.R_alloc | apply Kd.R_drewN | apply Kd.R_drew)); exact HO_353000.out) hb); have n2_ := Aside0.mk (Kd.R_below (by (with_reducible repeat (first | apply Kd.R_alloc | apply Kd.R_drewN | apply Kd.R_drew)); exact HO_371000.out) hb); have n3_ := Aside0.mk (Kd.R_below (by (with_reducible repeat (first | apply Kd.R_alloc | apply Kd.R_drewN | apply Kd.R_drew)); exact HO_377000.out) hb); have n4_ := Aside0.mk (blk_below (g := gb346) (o := .cells #[.slice Ao11 t342.length co11] 52 (0, 0)) (by (with_reducible repeat (first | refine blk_drewN ?_ _ | refine blk_drew ?_ | refine blk_alloc ?_ _)); exact BK346.out) hb); have n5_ := Aside0.mk (blk_below (g := gb352) (o := .cells #[.slice Ao15 t347.length co15] 52 (0, 0)) (by (with_reducible repeat (first | refine blk_drewN ?_ _ | refine blk_drew ?_ | refine blk_alloc ?_ _)); exact BK352.out) hb); have n6_ := Aside0.mk (blk_below (g := gb370) (o := .cells #[.slice Ao61 t366.length co61] 52 (0, 0)) (by (with_reducible repeat (first | refine blk_drewN ?_ _ | refine blk_drew ?_ | refine blk_alloc ?_ _)); exact BK370.out) hb); have n7_ := Aside0.mk (blk_below (g := gb376) (o := .cells #[.slice Ao69 t372.length co69] 52 (0, 0)) (by (with_reducible repeat (first | refine blk_drewN ?_ _ | refine blk_drew ?_ | refine blk_alloc ?_ _)); exact BK376.out) hb); have n8_ := Aside0.mk (below_step (by repeat (first | (with_reducible first | exact HB.out | apply below_alloc | apply pw_below_drewN | apply below_drew1 | refine below_set ?_ GE346.out | refine below_set ?_ GE352.out | refine below_set ?_ GE370.out | refine below_set ?_ GE376.out) | exact HB.out)) hb); clear HO_347000; clear HO_353000; clear HO_371000; clear HO_377000; clear BK346; clear BK352; clear BK370; clear BK376; clear HB; have HO_347000 := n0_; have HO_353000 := n1_; have HO_371000 := n2_; have HO_377000 := n3_; have BK346 := n4_; have BK352 := n5_; have BK370 := n6_; have BK376 := n7_; have HB := n8_; clear n0_ n1_ n2_ n3_ n4_ n5_ n6_ n7_ n8_; (try clear hb); (try clear hb2); (try clear hk); (try clear hi); have hcz105_0 : w104.cell? ⟨gb352, 0, none⟩ = some (.slice Ao15 t347.length co15) := (blk_cell BK352.out 0).trans rfl; have hfz105_0 := blk_frozen BK352.out 0) | (go_at_call 35; (with_reducible refine (impl_SlotOf.calls kj54 _ _ t347 t345 t381 _ ?side1 ?side2 A95.out).mono ?_); (case side1 => repeat (first | exact (Kd.R_reads' HO_353000.out).2.2 | (with_reducible refine Kd.C_alloc ?_ _) | (with_reducible refine Kd.C_drewN ?_ _) | (with_reducible refine Kd.C_drew ?_))); (case side2 => exact (Kd.R_reads' HO_353000.out).2.1); rintro e w106 ⟨rfl, hb⟩; have n0_ := Aside0.mk (Kd.R_below (by (with_reducible repeat (first | apply Kd.R_alloc | apply Kd.R_drewN | apply Kd.R_drew)); exact HO_347000.out) hb); have n1_ := Aside0.mk (Kd.R_below (by (with_reducible repeat (first | apply Kd.R_alloc | apply Kd.R_drewN | apply Kd.R_drew)); exact HO_353000.out) hb); have n2_ := Aside0.mk (Kd.R_below (by (with_reducible repeat (first | apply Kd.R_alloc | apply Kd.R_drewN | apply Kd.R_drew)); exact HO_371000.out) hb); have n3_ := Aside0.mk (Kd.R_below (by (with_reducible repeat (first | apply Kd.R_alloc | apply Kd.R_drewN | apply Kd.R_drew)); exact HO_377000.out) hb); have n4_ := Aside0.mk (blk_below (g := gb346) (o := .cells #[.slice Ao11 t342.length co11] 52 (0, 0)) (by (with_reducible repeat (first | refine blk_drewN ?_ _ | refine blk_drew ?_ | refine blk_alloc ?_ _)); exact BK346.out) hb); have n5_ := Aside0.mk (blk_below (g := gb352) (o := .cells #[.slice Ao15 t347.length co15] 52 (0, 0)) (by (with_reducible repeat (first | refine blk_drewN ?_ _ | refine blk_drew ?_ | refine blk_alloc ?_ _)); exact BK352.out) hb); have n6_ := Aside0.mk (blk_below (g := gb370) (o := .cells #[.slice Ao61 t366.length co61] 52 (0, 0)) (by (with_reducible repeat (first | refine blk_drewN ?_ _ | refine blk_drew ?_ | refine blk_alloc ?_ _)); exact BK370.out) hb); have n7_ := Aside0.mk (blk_below (g := gb376) (o := .cells #[.slice Ao69 t372.length co69] 52 (0, 0)) (by (with_reducible repeat (first | refine blk_drewN ?_ _ | refine blk_drew ?_ | refine blk_alloc ?_ _)); exact BK376.out) hb); have n8_ := Aside0.mk (below_step (by repeat (first | (with_reducible first | exact HB.out | apply below_alloc | apply pw_below_drewN | apply below_drew1 | refine below_set ?_ GE346.out | refine below_set ?_ GE352.out | refine below_set ?_ GE370.out | refine below_set ?_ GE376.out) | exact HB.out)) hb); clear HO_347000; clear HO_353000; clear HO_371000; clear HO_377000; clear BK346; clear BK352; clear BK370; clear BK376; clear HB; have HO_347000 := n0_; have HO_353000 := n1_; have HO_371000 := n2_; have HO_377000 := n3_; have BK346 := n4_; have BK352 := n5_; have BK370 := n6_; have BK376 := n7_; have HB := n8_; clear n0_ n1_ n2_ n3_ n4_ n5_ n6_ n7_ n8_; (try clear hb); (try clear hb2); (try clear hk); (try clear hi)))
                            go_ret
                            (try (have e_ : t380 = t381 := Option.some.inj (A93.out.symm.trans A95.out); subst e_))
                            exact ⟨by first | rfl | (simp [errW_none, errW_some] <;> rfl) | (simp [*, errW_none, errW_some] <;> rfl), by repeat (first | (with_reducible first | exact HB.out | apply below_alloc | apply pw_below_drewN | apply below_drew1 | refine below_set ?_ GE346.out | refine below_set ?_ GE352.out | refine below_set ?_ GE370.out | refine below_set ?_ GE376.out) | exact HB.out)⟩
                          · rw [if_neg c94] at H
                            have c94b0 : decide (0 ≤ t380) = false := decide_eq_false c94
                            clear c94
                            obtain rfl := Option.some.inj H
                            have hnb107 := NB370_346.out
                            have hnc107 := NB346_370.out
                            have hnb108 := NB370_352.out
                            have hnc108 := NB352_370.out
                            have hnb109 := NB370_376.out
                            have hnc109 := NB376_370.out
                            have hcz110_0 : wc.cell? ⟨gb370, 0, none⟩ = some (.slice Ao61 t366.length co61) := (blk_cell BK370.out 0).trans rfl
                            have hfz110_0 := blk_frozen BK370.out 0
                            go_wp2_with (first | ((with_reducible refine gate_callee (f := 29) rfl ?_); refine goesL_ (some 127) rfl rfl Try.func29 (by kernel_rfl) rfl #[.agg #[.slice Ao61 t366.length co61], .int .i64 t350] rfl (by (try simp only [List.map_toArray, List.map_cons, List.map_nil]); first | done | rfl | (simp only [List.length_drop, List.length_take]; rfl)) ?_; (with_reducible refine (impl_NameAt.calls kj54 _ _ t366 t350 t378 false _ ?side1 ?side2 A86.out).mono ?_); (case side1 => repeat (first | exact (Kd.R_reads' HO_371000.out).2.2 | (with_reducible refine Kd.C_alloc ?_ _) | (with_reducible refine Kd.C_drewN ?_ _) | (with_reducible refine Kd.C_drew ?_))); (case side2 => exact (Kd.R_reads' HO_371000.out).2.1); rintro e w111 ⟨rfl, hb⟩; refine ⟨_, rfl, ?_⟩; have n0_ := Aside0.mk (Kd.R_below (by (with_reducible repeat (first | apply Kd.R_alloc | apply Kd.R_drewN | apply Kd.R_drew)); exact HO_347000.out) hb); have n1_ := Aside0.mk (Kd.R_below (by (with_reducible repeat (first | apply Kd.R_alloc | apply Kd.R_drewN | apply Kd.R_drew)); exact HO_353000.out) hb); have n2_ := Aside0.mk (Kd.R_below (by (with_reducible repeat (first | apply Kd.R_alloc | apply Kd.R_drewN | apply Kd.R_drew)); exact HO_371000.out) hb); have n3_ := Aside0.mk (Kd.R_below (by (with_reducible repeat (first | apply Kd.R_alloc | apply Kd.R_drewN | apply Kd.R_drew)); exact HO_377000.out) hb); have n4_ := Aside0.mk (blk_below (g := gb346) (o := .cells #[.slice Ao11 t342.length co11] 52 (0, 0)) (by (with_reducible repeat (first | refine blk_drewN ?_ _ | refine blk_drew ?_ | refine blk_alloc ?_ _)); exact BK346.out) hb); have n5_ := Aside0.mk (blk_below (g := gb352) (o := .cells #[.slice Ao15 t347.length co15] 52 (0, 0)) (by (with_reducible repeat (first | refine blk_drewN ?_ _ | refine blk_drew ?_ | refine blk_alloc ?_ _)); exact BK352.out) hb); have n6_ := Aside0.mk (blk_below (g := gb370) (o := .cells #[.slice Ao61 t366.length co61] 52 (0, 0)) (by (with_reducible repeat (first | refine blk_drewN ?_ _ | refine blk_drew ?_ | refine blk_alloc ?_ _)); exact BK370.out) hb); have n7_ := Aside0.mk (blk_below (g := gb376) (o := .cells #[.slice Ao69 t372.length co69] 52 (0, 0)) (by (with_reducible repeat (first | refine blk_drewN ?_ _ | refine blk_drew ?_ | refine blk_alloc ?_ _)); exact BK376.out) hb); have n8_ := Aside0.mk (below_step (by repeat (first | (with_reducible first | exact HB.out | apply below_alloc | apply pw_below_drewN | apply below_drew1 | refine below_set ?_ GE346.out | refine below_set ?_ GE352.out | refine below_set ?_ GE370.out | refine below_set ?_ GE376.out) | exact HB.out)) hb); clear HO_347000; clear HO_353000; clear HO_371000; clear HO_377000; clear BK346; clear BK352; clear BK370; clear BK376; clear HB; have HO_347000 := n0_; have HO_353000 := n1_; have HO_371000 := n2_; have HO_377000 := n3_; have BK346 := n4_; have BK352 := n5_; have BK370 := n6_; have BK376 := n7_; have HB := n8_; clear n0_ n1_ n2_ n3_ n4_ n5_ n6_ n7_ n8_; (try clear hb); (try clear hb2); (try clear hk); (try clear hi); have hnb112 := NB352_346.out; have hnc112 := NB346_352.out; have hnb113 := NB352_376.out; have hnc113 := NB376_352.out; have hcz114_0 : w111.cell? ⟨gb352, 0, none⟩ = some (.slice Ao15 t347.length co15) := (blk_cell BK352.out 0).trans rfl; have hfz114_0 := blk_frozen BK352.out 0) | (go_at_call 35; (with_reducible refine (impl_SlotOf.calls kj54 _ _ t347 t345 t380 _ ?side1 ?side2 A93.out).mono ?_); (case side1 => repeat (first | exact (Kd.R_reads' HO_353000.out).2.2 | (with_reducible refine Kd.C_alloc ?_ _) | (with_reducible refine Kd.C_drewN ?_ _) | (with_reducible refine Kd.C_drew ?_))); (case side2 => exact (Kd.R_reads' HO_353000.out).2.1); rintro e w115 ⟨rfl, hb⟩; have n0_ := Aside0.mk (Kd.R_below (by (with_reducible repeat (first | apply Kd.R_alloc | apply Kd.R_drewN | apply Kd.R_drew)); exact HO_347000.out) hb); have n1_ := Aside0.mk (Kd.R_below (by (with_reducible repeat (first | apply Kd.R_alloc | apply Kd.R_drewN | apply Kd.R_drew)); exact HO_353000.out) hb); have n2_ := Aside0.mk (Kd.R_below (by (with_reducible repeat (first | apply Kd.R_alloc | apply Kd.R_drewN | apply Kd.R_drew)); exact HO_371000.out) hb); have n3_ := Aside0.mk (Kd.R_below (by (with_reducible repeat (first | apply Kd.R_alloc | apply Kd.R_drewN | apply Kd.R_drew)); exact HO_377000.out) hb); have n4_ := Aside0.mk (blk_below (g := gb346) (o := .cells #[.slice Ao11 t342.length co11] 52 (0, 0)) (by (with_reducible repeat (first | refine blk_drewN ?_ _ | refine blk_drew ?_ | refine blk_alloc ?_ _)); exact BK346.out) hb); have n5_ := Aside0.mk (blk_below (g := gb352) (o := .cells #[.slice Ao15 t347.length co15] 52 (0, 0)) (by (with_reducible repeat (first | refine blk_drewN ?_ _ | refine blk_drew ?_ | refine blk_alloc ?_ _)); exact BK352.out) hb); have n6_ := Aside0.mk (blk_below (g := gb370) (o := .cells #[.slice Ao61 t366.length co61] 52 (0, 0)) (by (with_reducible repeat (first | refine blk_drewN ?_ _ | refine blk_drew ?_ | refine blk_alloc ?_ _)); exact BK370.out) hb); have n7_ := Aside0.mk (blk_below (g := gb376) (o := .cells #[.slice Ao69 t372.length co69] 52 (0, 0)) (by (with_reducible repeat (first | refine blk_drewN ?_ _ | refine blk_drew ?_ | refine blk_alloc ?_ _)); exact BK376.out) hb); have n8_ := Aside0.mk (below_step (by repeat (first | (with_reducible first | exact HB.out | apply below_alloc | apply pw_below_drewN | apply below_drew1 | refine below_set ?_ GE346.out | refine below_set ?_ GE352.out | refine below_set ?_ GE370.out | refine below_set ?_ GE376.out) | exact HB.out)) hb); clear HO_347000; clear HO_353000; clear HO_371000; clear HO_377000; clear BK346; clear BK352; clear BK370; clear BK376; clear HB; have HO_347000 := n0_; have HO_353000 := n1_; have HO_371000 := n2_; have HO_377000 := n3_; have BK346 := n4_; have BK352 := n5_; have BK370 := n6_; have BK376 := n7_; have HB := n8_; clear n0_ n1_ n2_ n3_ n4_ n5_ n6_ n7_ n8_; (try clear hb); (try clear hb2); (try clear hk); (try clear hi)))
                            go_ret
                            exact ⟨by first | rfl | (simp [errW_none, errW_some] <;> rfl) | (simp [*, errW_none, errW_some] <;> rfl), by repeat (first | (with_reducible first | exact HB.out | apply below_alloc | apply pw_below_drewN | apply below_drew1 | refine below_set ?_ GE346.out | refine below_set ?_ GE352.out | refine below_set ?_ GE370.out | refine below_set ?_ GE376.out) | exact HB.out)⟩
    · rw [if_neg c6] at H
      have c6b0 : (t351 == 0) = false := beq_eq_false_iff_ne.mpr c6
      have c6b1 : (t351 != 0) = true := bne_iff_ne.mpr c6
      replace H := Option.bind_eq_some_iff.mp H
      obtain ⟨⟨t353, t356, t357⟩, A1160, H⟩ := H
      replace H : (some (t351 == t357)) = some r := H
      have A116 := Aside0.mk A1160
      clear A1160
      obtain rfl := Option.some.inj H
      go_enter Try.func6, Try.ntmps6
      go_wp2_with (first | ((with_reducible refine gate_callee (f := 25) rfl ?_); refine goesL_ (some 25) rfl rfl Try.func25 (by kernel_rfl) rfl #[.slice A0 l0.length c0] rfl (by (try simp only [List.map_toArray, List.map_cons, List.map_nil]); first | done | rfl | (simp only [List.length_drop, List.length_take]; rfl)) ?_; (with_reducible refine (laws_b2Long.calls _ _ l0 false _ ?side1 ?side2 A2.out).mono ?_); (case side1 => repeat (first | exact HR0.out | (with_reducible refine Kd.C_alloc ?_ _) | (with_reducible refine Kd.C_drewN ?_ _) | (with_reducible refine Kd.C_drew ?_))); (case side2 => exact HC0.out); rintro e w' ⟨rfl, ⟨nd, rfl⟩⟩; refine ⟨_, rfl, ?_⟩) | ((with_reducible refine gate_callee (f := 26) rfl ?_); refine goesL_ (some 28) rfl rfl Try.func26 (by kernel_rfl) rfl #[.slice A0 l0.length c0] rfl (by (try simp only [List.map_toArray, List.map_cons, List.map_nil]); first | done | rfl | (simp only [List.length_drop, List.length_take]; rfl)) ?_; (with_reducible refine (spec_DrawPutName.calls k _ _ l0 t342 t345 _ ?side1 ?side2 A4.out).mono ?_); (case side1 => repeat (first | exact HR0.out | (with_reducible refine Kd.C_alloc ?_ _) | (with_reducible refine Kd.C_drewN ?_ _) | (with_reducible refine Kd.C_drew ?_))); (case side2 => exact HC0.out); rintro e w117 ⟨v343, rfl, ho0, hb⟩; refine ⟨_, rfl, ?_⟩; have n0_ := Aside0.mk (Kd.R_lower ho0 (below_size (by repeat (first | (with_reducible first | exact HB.out | apply below_alloc | apply pw_below_drewN | apply below_drew1) | exact HB.out)))); have n1_ := Aside0.mk (below_step (by repeat (first | (with_reducible first | exact HB.out | apply below_alloc | apply pw_below_drewN | apply below_drew1) | exact HB.out)) hb); clear HB; have HO344 := n0_; have HB := n1_; clear n0_ n1_; (try clear hb); (try clear hb2); (try clear hk); (try clear hi); (try clear ho0)) | ((with_reducible refine gate_dst (N := 3) rfl ?_); refine box_event ?hg (N := 3) ?hd (cs := #[.slice none 0 0]) (t := 52) ?hr ?_; (case hd => rfl); (case hg => rfl); (case hr => first | (go_simp; done) | (go_simp; rfl)); intro gb346 hg w118 hbox hb; have n0_ := Aside0.mk (Kd.R_below (by (with_reducible repeat (first | apply Kd.R_alloc | apply Kd.R_drewN | apply Kd.R_drew)); exact HO344.out) hb); have n1_ := Aside0.mk (below_step (by repeat (first | (with_reducible first | exact HB.out | apply below_alloc | apply pw_below_drewN | apply below_drew1) | exact HB.out)) hb); have n2_ := Aside0.mk (hbox); have n3_ := Aside0.mk ((by rw [hg]; exact (below_size (by repeat (first | (with_reducible first | exact HB.out | apply below_alloc | apply pw_below_drewN | apply below_drew1) | exact HB.out))) : w.heap.size ≤ gb346)); have n4_ := Aside0.mk ((by rw [hg]; exact (below_size (by repeat (first | (with_reducible first | exact HB.out | apply below_alloc | apply pw_below_drewN | apply below_drew1) | exact HB.out))) : w.heap.size ≤ gb346)); clear HO344; clear HB; have HO344 := n0_; have HB := n1_; have BK346 := n2_; have GW346 := n3_; have GE346 := n4_; clear n0_ n1_ n2_ n3_ n4_; clear hb hbox hg; obtain ⟨Ao119, co119, eo119⟩ := Kd.R_slice HO344.out; subst eo119; have hcz120_0 : w118.cell? ⟨gb346, 0, none⟩ = some (.slice none 0 0) := (blk_cell BK346.out 0).trans rfl; have hfz120_0 := blk_frozen BK346.out 0) | ((with_reducible refine gate_callee (f := 27) rfl ?_); refine goesL_ (some 34) rfl rfl Try.func27 (by kernel_rfl) rfl #[.agg #[.slice Ao119 t342.length co119], .string t345] rfl (by (try simp only [List.map_toArray, List.map_cons, List.map_nil]); first | done | rfl | (simp only [List.length_drop, List.length_take]; rfl)) ?_; (with_reducible refine (impl_PutName.calls k _ _ t342 t345 t347 t350 t351 _ ?side1 ?side2 A5.out).mono ?_); (case side1 => refine (Kd.R_reads' (e := 9) (base := w.heap.size) (ok := fun k_ => True) (n := t342.length) (c := co119) ?_).2.2; exact (by (with_reducible repeat (first | apply Kd.R_alloc | apply Kd.R_drewN | apply Kd.R_drew)); exact (Kd.R_mono (Kd.R_far (p := ⟨gb346, 0, none⟩) (Kd.R_types HO344.out BK346.out (by decide)) (fun _ hk => hk.2) (.slice Ao119 t342.length co119)) (fun _ h_ => h_.1)))); (case side2 => exact (Kd.R_reads' HO344.out).2.1); rintro e w121 ⟨v348, rfl, ho0, hb⟩; refine ⟨_, rfl, ?_⟩; have n0_ := Aside0.mk (Kd.R_elder' (by (with_reducible repeat (first | apply Kd.R_alloc | apply Kd.R_drewN | apply Kd.R_drew)); exact (Kd.R_mono (Kd.R_far (p := ⟨gb346, 0, none⟩) (Kd.R_types HO344.out BK346.out (by decide)) (fun _ hk => hk.2) (.slice Ao119 t342.length co119)) (fun _ h_ => h_.1))) (Kd.R_base ho0) hb); have n1_ := Aside0.mk (Kd.R_lower (Kd.R_new' ho0 (Kd.R_lt (by (with_reducible repeat (first | apply Kd.R_alloc | apply Kd.R_drewN | apply Kd.R_drew)); exact (Kd.R_mono (Kd.R_far (p := ⟨gb346, 0, none⟩) (Kd.R_types HO344.out BK346.out (by decide)) (fun _ hk => hk.2) (.slice Ao119 t342.length co119)) (fun _ h_ => h_.1))))) (below_size (by repeat (first | (with_reducible first | exact HB.out | apply below_alloc | apply pw_below_drewN | apply below_drew1 | refine below_set ?_ GE346.out) | exact HB.out)))); have n2_ := Aside0.mk (blk_below (g := gb346) (o := .cells #[.slice Ao119 t342.length co119] 52 (0, 0)) (by (with_reducible repeat (first | refine blk_drewN ?_ _ | refine blk_drew ?_ | refine blk_alloc ?_ _)); refine blk_put (cs := #[.slice none 0 0]) ?_ 0 _ rfl; (with_reducible repeat (first | refine blk_drewN ?_ _ | refine blk_drew ?_ | refine blk_alloc ?_ _)); exact BK346.out) hb); have n3_ := Aside0.mk (below_step (by repeat (first | (with_reducible first | exact HB.out | apply below_alloc | apply pw_below_drewN | apply below_drew1 | refine below_set ?_ GE346.out) | exact HB.out)) hb); clear HO344; clear BK346; clear HB; have HO344 := n0_; have HO349 := n1_; have BK346 := n2_; have HB := n3_; clear n0_ n1_ n2_ n3_; (try clear hb); (try clear hb2); (try clear hk); (try clear hi); (try clear ho0)) | ((with_reducible refine gate_dst (N := 5) rfl ?_); refine box_event ?hg (N := 5) ?hd (cs := #[.slice none 0 0]) (t := 52) ?hr ?_; (case hd => rfl); (case hg => rfl); (case hr => first | (go_simp; done) | (go_simp; rfl)); intro gb352 hg w122 hbox hb; have n0_ := Aside0.mk (Kd.R_below (by (with_reducible repeat (first | apply Kd.R_alloc | apply Kd.R_drewN | apply Kd.R_drew)); exact HO344.out) hb); have n1_ := Aside0.mk (Kd.R_below (by (with_reducible repeat (first | apply Kd.R_alloc | apply Kd.R_drewN | apply Kd.R_drew)); exact HO349.out) hb); have n2_ := Aside0.mk (blk_below (g := gb346) (o := .cells #[.slice Ao119 t342.length co119] 52 (0, 0)) (by (with_reducible repeat (first | refine blk_drewN ?_ _ | refine blk_drew ?_ | refine blk_alloc ?_ _)); exact BK346.out) hb); have n3_ := Aside0.mk (below_step (by repeat (first | (with_reducible first | exact HB.out | apply below_alloc | apply pw_below_drewN | apply below_drew1 | refine below_set ?_ GE346.out) | exact HB.out)) hb); have n4_ := Aside0.mk (hbox); have n5_ := Aside0.mk ((by rw [hg]; exact (below_size (by repeat (first | (with_reducible first | exact HB.out | apply below_alloc | apply pw_below_drewN | apply below_drew1 | refine below_set ?_ GE346.out) | exact HB.out))) : w.heap.size ≤ gb352)); have n6_ := Aside0.mk ((by rw [hg]; exact (below_size (by repeat (first | (with_reducible first | exact HB.out | apply below_alloc | apply pw_below_drewN | apply below_drew1 | refine below_set ?_ GE346.out) | exact HB.out))) : w.heap.size ≤ gb352)); have n7_ := Aside0.mk ((by rw [hg]; exact Nat.ne_of_lt (blk_lt (g := gb346) (o := .cells #[.slice Ao119 t342.length co119] 52 (0, 0)) (by (with_reducible repeat (first | refine blk_drewN ?_ _ | refine blk_drew ?_ | refine blk_alloc ?_ _)); exact BK346.out)) : gb346 ≠ gb352)); have n8_ := Aside0.mk ((by rw [hg]; exact Nat.ne_of_gt (blk_lt (g := gb346) (o := .cells #[.slice Ao119 t342.length co119] 52 (0, 0)) (by (with_reducible repeat (first | refine blk_drewN ?_ _ | refine blk_drew ?_ | refine blk_alloc ?_ _)); exact BK346.out)) : gb352 ≠ gb346)); clear HO344; clear HO349; clear BK346; clear HB; have HO344 := n0_; have HO349 := n1_; have BK346 := n2_; have HB := n3_; have BK352 := n4_; have GW352 := n5_; have GE352 := n6_; have NB346_352 := n7_; have NB352_346 := n8_; clear n0_ n1_ n2_ n3_ n4_ n5_ n6_ n7_ n8_; clear hb hbox hg; obtain ⟨Ao123, co123, eo123⟩ := Kd.R_slice HO349.out; subst eo123; have hnb124 := NB352_346.out; have hnc124 := NB346_352.out; have hcz125_0 : w122.cell? ⟨gb352, 0, none⟩ = some (.slice none 0 0) := (blk_cell BK352.out 0).trans rfl; have hfz125_0 := blk_frozen BK352.out 0; have hcz126_0 : w122.cell? ⟨gb346, 0, none⟩ = some (.slice Ao119 t342.length co119) := (blk_cell BK346.out 0).trans rfl; have hfz126_0 := blk_frozen BK346.out 0) | ((with_reducible refine gate_callee (f := 28) rfl ?_); refine goesL_ (some 43) rfl rfl Try.func28 (by kernel_rfl) rfl #[.agg #[.slice Ao119 t342.length co119], .string t345] rfl (by (try simp only [List.map_toArray, List.map_cons, List.map_nil]); first | done | rfl | (simp only [List.length_drop, List.length_take]; rfl)) ?_; (with_reducible refine (spec_PutName.calls k _ _ t342 t345 t353 t356 t357 _ ?side1 ?side2 A116.out).mono ?_); (case side1 => refine (Kd.R_reads' (e := 9) (base := w.heap.size) (ok := fun k_ => (True ∧ some k_ ≠ (.slice Ao123 t347.length co123 : Value).ownBlock)) (n := t342.length) (c := co119) ?_).2.2; exact (by (with_reducible repeat (first | apply Kd.R_alloc | apply Kd.R_drewN | apply Kd.R_drew)); exact (Kd.R_mono (Kd.R_far (p := ⟨gb352, 0, none⟩) (Kd.R_types HO344.out BK352.out (by decide)) (fun _ hk => hk.2) (.slice Ao123 t347.length co123)) (fun _ h_ => h_.1)))); (case side2 => exact (Kd.R_reads' HO344.out).2.1); rintro e w127 ⟨v354, rfl, ho0, hb⟩; refine ⟨_, rfl, ?_⟩; have n0_ := Aside0.mk (Kd.R_elder' (by (with_reducible repeat (first | apply Kd.R_alloc | apply Kd.R_drewN | apply Kd.R_drew)); exact (Kd.R_mono (Kd.R_far (p := ⟨gb352, 0, none⟩) (Kd.R_types HO344.out BK352.out (by decide)) (fun _ hk => hk.2) (.slice Ao123 t347.length co123)) (fun _ h_ => h_.1))) (Kd.R_base ho0) hb); have n1_ := Aside0.mk (Kd.R_elder' (by (with_reducible repeat (first | apply Kd.R_alloc | apply Kd.R_drewN | apply Kd.R_drew)); exact (Kd.R_mono (Kd.R_far (p := ⟨gb352, 0, none⟩) (Kd.R_types HO349.out BK352.out (by decide)) (fun _ hk => hk.2) (.slice Ao123 t347.length co123)) (fun _ h_ => h_.1))) (Kd.R_base ho0) hb); have n2_ := Aside0.mk (Kd.R_lower (Kd.R_new' (Kd.R_new' ho0 (Kd.R_lt (by (with_reducible repeat (first | apply Kd.R_alloc | apply Kd.R_drewN | apply Kd.R_drew)); exact (Kd.R_mono (Kd.R_far (p := ⟨gb352, 0, none⟩) (Kd.R_types HO344.out BK352.out (by decide)) (fun _ hk => hk.2) (.slice Ao123 t347.length co123)) (fun _ h_ => h_.1))))) (Kd.R_lt (by (with_reducible repeat (first | apply Kd.R_alloc | apply Kd.R_drewN | apply Kd.R_drew)); exact (Kd.R_mono (Kd.R_far (p := ⟨gb352, 0, none⟩) (Kd.R_types HO349.out BK352.out (by decide)) (fun _ hk => hk.2) (.slice Ao123 t347.length co123)) (fun _ h_ => h_.1))))) (below_size (by repeat (first | (with_reducible first | exact HB.out | apply below_alloc | apply pw_below_drewN | apply below_drew1 | refine below_set ?_ GE346.out | refine below_set ?_ GE352.out) | exact HB.out)))); have n3_ := Aside0.mk (blk_below (g := gb346) (o := .cells #[.slice Ao119 t342.length co119] 52 (0, 0)) (by (with_reducible repeat (first | refine blk_drewN ?_ _ | refine blk_drew ?_ | refine blk_alloc ?_ _)); refine blk_far ?_ NB346_352.out _; (with_reducible repeat (first | refine blk_drewN ?_ _ | refine blk_drew ?_ | refine blk_alloc ?_ _)); exact BK346.out) hb); have n4_ := Aside0.mk (blk_below (g := gb352) (o := .cells #[.slice Ao123 t347.length co123] 52 (0, 0)) (by (with_reducible repeat (first | refine blk_drewN ?_ _ | refine blk_drew ?_ | refine blk_alloc ?_ _)); refine blk_put (cs := #[.slice none 0 0]) ?_ 0 _ rfl; (with_reducible repeat (first | refine blk_drewN ?_ _ | refine blk_drew ?_ | refine blk_alloc ?_ _)); exact BK352.out) hb); have n5_ := Aside0.mk (below_step (by repeat (first | (with_reducible first | exact HB.out | apply below_alloc | apply pw_below_drewN | apply below_drew1 | refine below_set ?_ GE346.out | refine below_set ?_ GE352.out) | exact HB.out)) hb); clear HO344; clear HO349; clear BK346; clear BK352; clear HB; have HO344 := n0_; have HO349 := n1_; have HO355 := n2_; have BK346 := n3_; have BK352 := n4_; have HB := n5_; clear n0_ n1_ n2_ n3_ n4_ n5_; (try clear hb); (try clear hb2); (try clear hk); (try clear hi); (try clear ho0)) | ((with_reducible refine gate_dst (N := 8) rfl ?_); refine box_event ?hg (N := 8) ?hd (cs := #[.slice none 0 0]) (t := 52) ?hr ?_; (case hd => rfl); (case hg => rfl); (case hr => first | (go_simp; done) | (go_simp; rfl)); intro gb358 hg w128 hbox hb; have n0_ := Aside0.mk (Kd.R_below (by (with_reducible repeat (first | apply Kd.R_alloc | apply Kd.R_drewN | apply Kd.R_drew)); exact HO344.out) hb); have n1_ := Aside0.mk (Kd.R_below (by (with_reducible repeat (first | apply Kd.R_alloc | apply Kd.R_drewN | apply Kd.R_drew)); exact HO349.out) hb); have n2_ := Aside0.mk (Kd.R_below (by (with_reducible repeat (first | apply Kd.R_alloc | apply Kd.R_drewN | apply Kd.R_drew)); exact HO355.out) hb); have n3_ := Aside0.mk (blk_below (g := gb346) (o := .cells #[.slice Ao119 t342.length co119] 52 (0, 0)) (by (with_reducible repeat (first | refine blk_drewN ?_ _ | refine blk_drew ?_ | refine blk_alloc ?_ _)); exact BK346.out) hb); have n4_ := Aside0.mk (blk_below (g := gb352) (o := .cells #[.slice Ao123 t347.length co123] 52 (0, 0)) (by (with_reducible repeat (first | refine blk_drewN ?_ _ | refine blk_drew ?_ | refine blk_alloc ?_ _)); exact BK352.out) hb); have n5_ := Aside0.mk (below_step (by repeat (first | (with_reducible first | exact HB.out | apply below_alloc | apply pw_below_drewN | apply below_drew1 | refine below_set ?_ GE346.out | refine below_set ?_ GE352.out) | exact HB.out)) hb); have n6_ := Aside0.mk (hbox); have n7_ := Aside0.mk ((by rw [hg]; exact (below_size (by repeat (first | (with_reducible first | exact HB.out | apply below_alloc | apply pw_below_drewN | apply below_drew1 | refine below_set ?_ GE346.out | refine below_set ?_ GE352.out) | exact HB.out))) : w.heap.size ≤ gb358)); have n8_ := Aside0.mk ((by rw [hg]; exact (below_size (by repeat (first | (with_reducible first | exact HB.out | apply below_alloc | apply pw_below_drewN | apply below_drew1 | refine below_set ?_ GE346.out | refine below_set ?_ GE352.out) | exact HB.out))) : w.heap.size ≤ gb358)); have n9_ := Aside0.mk ((by rw [hg]; exact Nat.ne_of_lt (blk_lt (g := gb346) (o := .cells #[.slice Ao119 t342.length co119] 52 (0, 0)) (by (with_reducible repeat (first | refine blk_drewN ?_ _ | refine blk_drew ?_ | refine blk_alloc ?_ _)); exact BK346.out)) : gb346 ≠ gb358)); have n10_ := Aside0.mk ((by rw [hg]; exact Nat.ne_of_gt (blk_lt (g := gb346) (o := .cells #[.slice Ao119 t342.length co119] 52 (0, 0)) (by (with_reducible repeat (first | refine blk_drewN ?_ _ | refine blk_drew ?_ | refine blk_alloc ?_ _)); exact BK346.out)) : gb358 ≠ gb346)); have n11_ := Aside0.mk ((by rw [hg]; exact Nat.ne_of_lt (blk_lt (g := gb352) (o := .cells #[.slice Ao123 t347.length co123] 52 (0, 0)) (by (with_reducible repeat (first | refine blk_drewN ?_ _ | refine blk_drew ?_ | refine blk_alloc ?_ _)); exact BK352.out)) : gb352 ≠ gb358)); have n12_ := Aside0.mk ((by rw [hg]; exact Nat.ne_of_gt (blk_lt (g := gb352) (o := .cells #[.slice Ao123 t347.length co123] 52 (0, 0)) (by (with_reducible repeat (first | refine blk_drewN ?_ _ | refine blk_drew ?_ | refine blk_alloc ?_ _)); exact BK352.out)) : gb358 ≠ gb352)); clear HO344; clear HO349; clear HO355; clear BK346; clear BK352; clear HB; have HO344 := n0_; have HO349 := n1_; have HO355 := n2_; have BK346 := n3_; have BK352 := n4_; have HB := n5_; have BK358 := n6_; have GW358 := n7_; have GE358 := n8_; have NB346_358 := n9_; have NB358_346 := n10_; have NB352_358 := n11_; have NB358_352 := n12_; clear n0_ n1_ n2_ n3_ n4_ n5_ n6_ n7_ n8_ n9_ n10_ n11_ n12_; clear hb hbox hg; obtain ⟨Ao129, co129, eo129⟩ := Kd.R_slice HO355.out; subst eo129; have hnb130 := NB358_346.out; have hnc130 := NB346_358.out; have hnb131 := NB358_352.out; have hnc131 := NB352_358.out; have hcz132_0 : w128.cell? ⟨gb358, 0, none⟩ = some (.slice none 0 0) := (blk_cell BK358.out 0).trans rfl; have hfz132_0 := blk_frozen BK358.out 0))
      go_ret
      exact ⟨by first | rfl | (simp [errW_none, errW_some] <;> rfl) | (simp [*, errW_none, errW_some] <;> rfl), by repeat (first | (with_reducible first | exact HB.out | apply below_alloc | apply pw_below_drewN | apply below_drew1 | refine below_set ?_ GE346.out | refine below_set ?_ GE352.out | refine below_set ?_ GE358.out) | exact HB.out)⟩

/-- THE ONE PURE STATEMENT of laws_FnHeap: yours. -/
def laws_FnHeap.Pure : Prop := ∀ (l0 : List Int), l0.length ≤ maxLen → l0.length * 1 ≤ 140737488351232 → (∀ x ∈ l0, (Lit.int .u8 x).wf = true) → ∃ k, laws_FnHeap.f k l0 = some true
theorem laws_FnHeap.walk (P : laws_FnHeap.Pure) (a0 : Option Addr) (len0 cap0 : Nat) (z0 : List Int) (w : World) (w0 : (a0 = none ∧ len0 = 0 ∧ cap0 = 0 ∧ z0 = []) ∨ ∃ x, a0 = some x ∧ len0 ≤ cap0 ∧ cap0 ≤ maxLen ∧ z0.length = cap0 ∧ (∀ i, i < z0.length → w.cell? (x.add i) = some (.int .u8 (z0.getD i 0))) ∧ ∀ n ∈ z0, (Lit.int .u8 n).wf = true) (y0 : len0 * 1 ≤ 140737488351232) :
    Calls Try.prog 6 #[.slice a0 len0 cap0] w fun e w' => e = .returned (.bool true) ∧ Below w.heap.size w w' := by
  obtain ⟨l0, rfl, hr0, hm0, hw0, hc0⟩ := ReadsInt.ofRowC w0
  obtain ⟨k, h⟩ := P l0 hm0 y0 hw0
  refine (laws_FnHeap.calls k _ _ l0 true w (Kd.C_of_reads (d := (0 : Int)) (h1 := fun _ => rfl) hr0) hc0 h).mono ?_
  rintro e w' ⟨rfl, hd⟩
  exact ⟨rfl, hd⟩

end Go.Proofs.Ytejjlklecmdpiaa.PFnHeap
