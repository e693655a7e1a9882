/- Laid by a program of this session (mend.py) out of the text that print.sh wrote for this claim: renamed, and mended where it fell in Lean. -/
import Derived.Test.YtejjlklecmdpiaaMFnHeapx0
import Derived.Test.YtejjlklecmdpiaaMFnHeapx1
namespace Go.Proofs.Ytejjlklecmdpiaa.PFnHeap
open Go.RowKit Go.Proofs.YtejjlklecmdpiaaW.PrintWords Go.Proofs.YtejjlklecmdpiaaW.PrintLast Go.Proofs.YtejjlklecmdpiaaW.PrintMore
attribute [local go_sem] max2_int min2_int max_two min_two max_three min_three max_four min_four   -- for this text's walks alone
set_option linter.unusedVariables false
set_option linter.unusedSimpArgs false

/-! ### spec_l16Draw: function 75 -/
mutual
def spec_l16Draw.l0 : Nat → Int → Int → List Int → Int → Int → List ByteArray → Option (List ByteArray × Int × Int)
  | 0, _, _, _, _, _, _ => none
  | k + 1, x1, x6, x1000, x1001, x1002, x124000 => if x6 > 0 then ((spec_l02DrawName.f x1000 x1001 x1002).bind fun bt127 => ((spec_l00Src_one.f x1000 bt127.2.1 bt127.2.2 4).bind fun bt130 => (if bt130.1 = true then (if x124000.length < 8796093022208 then (spec_l16Draw.l0 k x1 (wrap64 (x6 - 1)) x1000 bt130.2.1 bt130.2.2 (x124000 ++ [(⟨#[]⟩ : ByteArray)])) else (none)) else (if x124000.length < 8796093022208 then (spec_l16Draw.l0 k x1 (wrap64 (x6 - 1)) x1000 bt130.2.1 bt130.2.2 (x124000 ++ [bt127.1])) else (none))))) else ((spec_l00Src_one.f x1000 x1001 x1002 16).bind fun bt139 => (if bt139.1 = true then (spec_l16Draw.l1 k x1 x1000 bt139.2.1 bt139.2.2 x124000) else (spec_l16Draw.j2 k x1 x1000 bt139.2.1 bt139.2.2 x124000)))
def spec_l16Draw.j2 : Nat → Int → List Int → Int → Int → List ByteArray → Option (List ByteArray × Int × Int)
  | 0, _, _, _, _, _ => none
  | k + 1, x1, x1000, x1001, x1002, x124000 => if (x124000.length : Int) > 0 then (if 0 ≤ (wrap64 ((x124000.length : Int) - 1)) then (if (wrap64 ((x124000.length : Int) - 1)) < (x124000.length : Int) then (spec_l16Draw.j3 k x1 ((rdOf ByteArray.empty x124000 (wrap64 ((x124000.length : Int) - 1))).toList == ([] : List UInt8)) x1000 x1001 x1002 x124000) else (none)) else (none)) else (spec_l16Draw.j3 k x1 false x1000 x1001 x1002 x124000)
def spec_l16Draw.j3 : Nat → Int → Bool → List Int → Int → Int → List ByteArray → Option (List ByteArray × Int × Int)
  | 0, _, _, _, _, _, _ => none
  | k + 1, x1, x53, x1000, x1001, x1002, x124000 => if x53 = true then ((spec_l02DrawName.f x1000 x1001 x1002).bind fun bt149 => (if x124000.length < 8796093022208 then (spec_l16Draw.j4 k x1 x1000 bt149.2.1 bt149.2.2 (x124000 ++ [bt149.1])) else (none))) else (spec_l16Draw.j4 k x1 x1000 x1001 x1002 x124000)
def spec_l16Draw.j4 : Nat → Int → List Int → Int → Int → List ByteArray → Option (List ByteArray × Int × Int)
  | 0, _, _, _, _, _ => none
  | k + 1, x1, x1000, x1001, x1002, x124000 => (spec_l00Src_one.f x1000 x1001 x1002 x1).bind fun bt155 => (if bt155.1 = true then ((spec_l00Src_pick.f x1000 bt155.2.1 bt155.2.2 3).bind fun bt158 => (if bt158.1 = 0 then (if x124000.length < 8796093022208 then (some ((x124000 ++ [(⟨#[]⟩ : ByteArray)]), bt158.2.1, bt158.2.2)) else (none)) else (if bt158.1 = 1 then ((spec_l00Src_text.f x1000 bt158.2.1 bt158.2.2 (([(⟨#[49]⟩ : ByteArray), (⟨#[97, 32, 98]⟩ : ByteArray), (⟨#[65, 66, 67, 68, 69, 70, 71, 72, 73, 74, 75, 76, 77]⟩ : ByteArray)] : List ByteArray))).bind fun bt167 => (if x124000.length < 8796093022208 then (some ((x124000 ++ [bt167.1]), bt167.2.1, bt167.2.2)) else (none))) else (spec_l16Draw.l2 k x1000 bt158.2.1 bt158.2.2 x124000)))) else (some (x124000, bt155.2.1, bt155.2.2)))
def spec_l16Draw.l2 : Nat → List Int → Int → Int → List ByteArray → Option (List ByteArray × Int × Int)
  | 0, _, _, _, _ => none
  | k + 1, x1000, x1001, x1002, x124000 => if (x124000.length : Int) < 31 then (if x124000.length < 8796093022208 then (spec_l16Draw.l2 k x1000 x1001 x1002 (x124000 ++ [(⟨#[120]⟩ : ByteArray)])) else (none)) else (some (x124000, x1001, x1002))
def spec_l16Draw.l1 : Nat → Int → List Int → Int → Int → List ByteArray → Option (List ByteArray × Int × Int)
  | 0, _, _, _, _, _ => none
  | k + 1, x1, x1000, x1001, x1002, x124000 => (spec_l00Src_pick.f x1000 x1001 x1002 2).bind fun bt142 => (if (x124000.length : Int) < (wrap64 (29 + bt142.1)) then (if x124000.length < 8796093022208 then (spec_l16Draw.l1 k x1 x1000 bt142.2.1 bt142.2.2 (x124000 ++ [(⟨#[102, 117, 108, 108]⟩ : ByteArray)])) else (none)) else (spec_l16Draw.j2 k x1 x1000 bt142.2.1 bt142.2.2 x124000))
end
def spec_l16Draw.f (k : Nat) (s0_0 : List Int) (s0_1 : Int) (s0_2 : Int) (a1 : Int) : Option (List ByteArray × Int × Int) := (spec_l00Src_pick.f s0_0 s0_1 s0_2 7).bind fun bt124 => (spec_l16Draw.l0 k a1 bt124.1 s0_0 bt124.2.1 bt124.2.2 ([] : List ByteArray))
theorem spec_l16Draw.mono_l : ∀ k, (∀ y0 y1 y2 y3 y4 y5, LeO (spec_l16Draw.l0 k y0 y1 y2 y3 y4 y5) (spec_l16Draw.l0 (k + 1) y0 y1 y2 y3 y4 y5)) ∧ (∀ y0 y1 y2 y3 y4, LeO (spec_l16Draw.j2 k y0 y1 y2 y3 y4) (spec_l16Draw.j2 (k + 1) y0 y1 y2 y3 y4)) ∧ (∀ y0 y1 y2 y3 y4 y5, LeO (spec_l16Draw.j3 k y0 y1 y2 y3 y4 y5) (spec_l16Draw.j3 (k + 1) y0 y1 y2 y3 y4 y5)) ∧ (∀ y0 y1 y2 y3 y4, LeO (spec_l16Draw.j4 k y0 y1 y2 y3 y4) (spec_l16Draw.j4 (k + 1) y0 y1 y2 y3 y4)) ∧ (∀ y0 y1 y2 y3, LeO (spec_l16Draw.l2 k y0 y1 y2 y3) (spec_l16Draw.l2 (k + 1) y0 y1 y2 y3)) ∧ (∀ y0 y1 y2 y3 y4, LeO (spec_l16Draw.l1 k y0 y1 y2 y3 y4) (spec_l16Draw.l1 (k + 1) y0 y1 y2 y3 y4))
  | 0 => ⟨fun _ _ _ _ _ _ r h => by simp [spec_l16Draw.l0] at h, fun _ _ _ _ _ r h => by simp [spec_l16Draw.j2] at h, fun _ _ _ _ _ _ r h => by simp [spec_l16Draw.j3] at h, fun _ _ _ _ _ r h => by simp [spec_l16Draw.j4] at h, fun _ _ _ _ r h => by simp [spec_l16Draw.l2] at h, fun _ _ _ _ _ r h => by simp [spec_l16Draw.l1] at h⟩
  | k + 1 => by
    obtain ⟨ih0, ih1, ih2, ih3, ih4, ih5⟩ := spec_l16Draw.mono_l k
    refine ⟨?_, ?_, ?_, ?_, ?_, ?_⟩
    · intro y0 y1 y2 y3 y4 y5
      unfold spec_l16Draw.l0
      repeat' first
      | (with_reducible exact ih0 _ _ _ _ _ _)
      | (with_reducible exact ih1 _ _ _ _ _)
      | (with_reducible exact ih2 _ _ _ _ _ _)
      | (with_reducible exact ih3 _ _ _ _ _)
      | (with_reducible exact ih4 _ _ _ _)
      | (with_reducible exact ih5 _ _ _ _ _)
      | (with_reducible exact LeO.refl _)
      | (with_reducible exact LeO.none _)
      | (with_reducible refine LeO.ite ?_ ?_)
      | (with_reducible refine LeO.bind ?_ (fun _ => ?_))
      | exact ih0 _ _ _ _ _ _
      | exact ih1 _ _ _ _ _
      | exact ih2 _ _ _ _ _ _
      | exact ih3 _ _ _ _ _
      | exact ih4 _ _ _ _
      | exact ih5 _ _ _ _ _
      | exact LeO.none _
      | refine LeO.ite ?_ ?_
      | refine LeO.bind ?_ (fun _ => ?_)
    · intro y0 y1 y2 y3 y4
      unfold spec_l16Draw.j2
      repeat' first
      | (with_reducible exact ih0 _ _ _ _ _ _)
      | (with_reducible exact ih1 _ _ _ _ _)
      | (with_reducible exact ih2 _ _ _ _ _ _)
      | (with_reducible exact ih3 _ _ _ _ _)
      | (with_reducible exact ih4 _ _ _ _)
      | (with_reducible exact ih5 _ _ _ _ _)
      | (with_reducible exact LeO.refl _)
      | (with_reducible exact LeO.none _)
      | (with_reducible refine LeO.ite ?_ ?_)
      | (with_reducible refine LeO.bind ?_ (fun _ => ?_))
      | exact ih0 _ _ _ _ _ _
      | exact ih1 _ _ _ _ _
      | exact ih2 _ _ _ _ _ _
      | exact ih3 _ _ _ _ _
      | exact ih4 _ _ _ _
      | exact ih5 _ _ _ _ _
      | exact LeO.none _
      | refine LeO.ite ?_ ?_
      | refine LeO.bind ?_ (fun _ => ?_)
    · intro y0 y1 y2 y3 y4 y5
      unfold spec_l16Draw.j3
      repeat' first
      | (with_reducible exact ih0 _ _ _ _ _ _)
      | (with_reducible exact ih1 _ _ _ _ _)
      | (with_reducible exact ih2 _ _ _ _ _ _)
      | (with_reducible exact ih3 _ _ _ _ _)
      | (with_reducible exact ih4 _ _ _ _)
      | (with_reducible exact ih5 _ _ _ _ _)
      | (with_reducible exact LeO.refl _)
      | (with_reducible exact LeO.none _)
      | (with_reducible refine LeO.ite ?_ ?_)
      | (with_reducible refine LeO.bind ?_ (fun _ => ?_))
      | exact ih0 _ _ _ _ _ _
      | exact ih1 _ _ _ _ _
      | exact ih2 _ _ _ _ _ _
      | exact ih3 _ _ _ _ _
      | exact ih4 _ _ _ _
      | exact ih5 _ _ _ _ _
      | exact LeO.none _
      | refine LeO.ite ?_ ?_
      | refine LeO.bind ?_ (fun _ => ?_)
    · intro y0 y1 y2 y3 y4
      unfold spec_l16Draw.j4
      repeat' first
      | (with_reducible exact ih0 _ _ _ _ _ _)
      | (with_reducible exact ih1 _ _ _ _ _)
      | (with_reducible exact ih2 _ _ _ _ _ _)
      | (with_reducible exact ih3 _ _ _ _ _)
      | (with_reducible exact ih4 _ _ _ _)
      | (with_reducible exact ih5 _ _ _ _ _)
      | (with_reducible exact LeO.refl _)
      | (with_reducible exact LeO.none _)
      | (with_reducible refine LeO.ite ?_ ?_)
      | (with_reducible refine LeO.bind ?_ (fun _ => ?_))
      | exact ih0 _ _ _ _ _ _
      | exact ih1 _ _ _ _ _
      | exact ih2 _ _ _ _ _ _
      | exact ih3 _ _ _ _ _
      | exact ih4 _ _ _ _
      | exact ih5 _ _ _ _ _
      | exact LeO.none _
      | refine LeO.ite ?_ ?_
      | refine LeO.bind ?_ (fun _ => ?_)
    · intro y0 y1 y2 y3
      unfold spec_l16Draw.l2
      repeat' first
      | (with_reducible exact ih0 _ _ _ _ _ _)
      | (with_reducible exact ih1 _ _ _ _ _)
      | (with_reducible exact ih2 _ _ _ _ _ _)
      | (with_reducible exact ih3 _ _ _ _ _)
      | (with_reducible exact ih4 _ _ _ _)
      | (with_reducible exact ih5 _ _ _ _ _)
      | (with_reducible exact LeO.refl _)
      | (with_reducible exact LeO.none _)
      | (with_reducible refine LeO.ite ?_ ?_)
      | (with_reducible refine LeO.bind ?_ (fun _ => ?_))
      | exact ih0 _ _ _ _ _ _
      | exact ih1 _ _ _ _ _
      | exact ih2 _ _ _ _ _ _
      | exact ih3 _ _ _ _ _
      | exact ih4 _ _ _ _
      | exact ih5 _ _ _ _ _
      | exact LeO.none _
      | refine LeO.ite ?_ ?_
      | refine LeO.bind ?_ (fun _ => ?_)
    · intro y0 y1 y2 y3 y4
      unfold spec_l16Draw.l1
      repeat' first
      | (with_reducible exact ih0 _ _ _ _ _ _)
      | (with_reducible exact ih1 _ _ _ _ _)
      | (with_reducible exact ih2 _ _ _ _ _ _)
      | (with_reducible exact ih3 _ _ _ _ _)
      | (with_reducible exact ih4 _ _ _ _)
      | (with_reducible exact ih5 _ _ _ _ _)
      | (with_reducible exact LeO.refl _)
      | (with_reducible exact LeO.none _)
      | (with_reducible refine LeO.ite ?_ ?_)
      | (with_reducible refine LeO.bind ?_ (fun _ => ?_))
      | exact ih0 _ _ _ _ _ _
      | exact ih1 _ _ _ _ _
      | exact ih2 _ _ _ _ _ _
      | exact ih3 _ _ _ _ _
      | exact ih4 _ _ _ _
      | exact ih5 _ _ _ _ _
      | exact LeO.none _
      | refine LeO.ite ?_ ?_
      | refine LeO.bind ?_ (fun _ => ?_)
theorem spec_l16Draw.mono : ∀ a0 a1 a2 a3 k, LeO (spec_l16Draw.f k a0 a1 a2 a3) (spec_l16Draw.f (k + 1) a0 a1 a2 a3) := by
  intro a0 a1 a2 a3 k
  obtain ⟨ih0, ih1, ih2, ih3, ih4, ih5⟩ := spec_l16Draw.mono_l k
  unfold spec_l16Draw.f
  repeat' first
      | (with_reducible exact ih0 _ _ _ _ _ _)
      | (with_reducible exact ih1 _ _ _ _ _)
      | (with_reducible exact ih2 _ _ _ _ _ _)
      | (with_reducible exact ih3 _ _ _ _ _)
      | (with_reducible exact ih4 _ _ _ _)
      | (with_reducible exact ih5 _ _ _ _ _)
      | (with_reducible exact LeO.refl _)
      | (with_reducible exact LeO.none _)
      | (with_reducible refine LeO.ite ?_ ?_)
      | (with_reducible refine LeO.bind ?_ (fun _ => ?_))
      | exact ih0 _ _ _ _ _ _
      | exact ih1 _ _ _ _ _
      | exact ih2 _ _ _ _ _ _
      | exact ih3 _ _ _ _ _
      | exact ih4 _ _ _ _
      | exact ih5 _ _ _ _ _
      | exact LeO.none _
      | refine LeO.ite ?_ ?_
      | refine LeO.bind ?_ (fun _ => ?_)
def spec_l16Draw.T13 : Bool × List (List Nat × List Nat) := (true, [([], []), ([0], [0]), ([], []), ([2], [2]), ([3], [3]), ([1, 4, 3], [1, 4]), ([0, 1, 2, 3, 4, 5], []), ([6, 5, 5, 0, 1, 2, 3, 4, 5], [5, 6])])
def spec_l16Draw.B13 : List Nat := [0, 1, 0, 4, 12, 31, 63, 127]
theorem spec_l16Draw.tab13 : rtab .any (opsOf Try.f75 13) = spec_l16Draw.T13 := by kernel_rfl
theorem spec_l16Draw.bits13 : waitsOk spec_l16Draw.T13.2 spec_l16Draw.B13 = true := by kernel_rfl
def spec_l16Draw.T21 : Bool × List (List Nat × List Nat) := (true, [([], []), ([0], [0]), ([], []), ([], []), ([2, 3], [2, 3]), ([4], [4]), ([1, 5, 4], [1, 5]), ([0, 1, 2, 3, 4, 5, 6], []), ([7, 6, 6, 0, 1, 2, 3, 4, 5, 6], [6, 7])])
def spec_l16Draw.B21 : List Nat := [0, 1, 0, 0, 12, 28, 63, 127, 255]
theorem spec_l16Draw.tab21 : rtab .any (opsOf Try.f75 21) = spec_l16Draw.T21 := by kernel_rfl
theorem spec_l16Draw.bits21 : waitsOk spec_l16Draw.T21.2 spec_l16Draw.B21 = true := by kernel_rfl
set_option maxHeartbeats 8000000 in
set_option maxRecDepth 100000 in
theorem spec_l16Draw.calls (k : Nat) (g : Nat) (s0_0 : List Int) (s0_1 : Int) (s0_2 : Int) (a1 : Int) (r1 : List ByteArray) (r2 : Int) (r3 : Int) (w0 w : World) (hI : IsS115 w0 w g s0_0 s0_1 s0_2) (hB : Below w0.heap.size w0 w) (h : spec_l16Draw.f k s0_0 s0_1 s0_2 a1 = some (r1, r2, r3)) :
    Calls Try.prog 75 #[.pointer (some ⟨g, 0, none⟩), .int .i64 a1] w fun e w' => ∃ v0_ : Value, e = .returned (.agg #[v0_]) ∧ Kd.R Kd.string 9 w' w.heap.size (fun _ => True) v0_ r1 ∧ IsS115 w0 w' g s0_0 r2 r3 ∧ Below w0.heap.size w0 w' ∧ KeepBut w w' g none := by
  have hu52 := Try.underlying52
  have HI0 := Aside0.mk hI
  have HK := Aside0.mk (KeepBut.refl w g none)
  have HL := Aside0.mk hB.size
  clear hI
  have HW0 := Aside0.mk hB.size
  have HB := Aside0.mk hB
  clear hB
  have H : ((spec_l00Src_pick.f s0_0 s0_1 s0_2 7).bind fun bt124 => (spec_l16Draw.l0 k a1 bt124.1 s0_0 bt124.2.1 bt124.2.2 ([] : List ByteArray))) = some (r1, r2, r3) := h
  clear h
  replace H := Option.bind_eq_some_iff.mp H
  obtain ⟨⟨t124, t125, t126⟩, A30, H⟩ := H
  replace H : (spec_l16Draw.l0 k a1 t124 s0_0 t125 t126 ([] : List ByteArray)) = some (r1, r2, r3) := H
  have A3 := Aside0.mk A30
  clear A30
  have H' := Aside0.mk H
  clear H
  go_enter Try.func75, Try.ntmps75
  go_wp2_with (first | ((with_reducible refine gate_dst (N := 4) rfl ?_); (try (refine gate_guard (by rfl) ?_; dsimp only)); refine box_event ?hg (N := 4) ?hd (cs := #[.slice none 0 0]) (t := 52) ?hr ?_; (case hd => rfl); (case hg => rfl); (case hr => first | (go_simp; done) | (go_simp; rfl)); intro gb122 hg w4 hbox hb; have n0_ := Aside0.mk (IsS115.below (by repeat (first | (with_reducible first | exact HI0.out | apply IsS115.alloc | apply IsS115.drewN | apply IsS115.drew | apply IsS115.set_1 | apply IsS115.set_2) | exact HI0.out)) hb); have n1_ := Aside0.mk (KeepBut.trans (by repeat (first | (with_reducible first | exact HK.out | apply KeepBut.set_ | apply keep_drewN | apply keep_drew | apply keep_alloc) | exact HK.out)) (KeepBut.of_below hb g none) (.inl rfl)); have n2_ := Aside0.mk (below_step (by repeat (first | (with_reducible first | exact HB.out | apply below_alloc | apply pw_below_drewN | apply below_drew1 | refine below_set ?_ (IsS115.ge HI0.out)) | exact HB.out)) hb); have n3_ := Aside0.mk (hbox); have n4_ := Aside0.mk ((by rw [hg]; exact (keep_size (w := w) (g := g) (row := none) (by repeat (first | (with_reducible first | exact HK.out | apply KeepBut.set_ | apply keep_drewN | apply keep_drew | apply keep_alloc) | exact HK.out))) : w.heap.size ≤ gb122)); have n5_ := Aside0.mk ((Nat.le_trans HW0.out (by rw [hg]; exact (keep_size (w := w) (g := g) (row := none) (by repeat (first | (with_reducible first | exact HK.out | apply KeepBut.set_ | apply keep_drewN | apply keep_drew | apply keep_alloc) | exact HK.out))) : w.heap.size ≤ gb122) : w0.heap.size ≤ gb122)); have n6_ := Aside0.mk ((by rw [hg]; exact Nat.ne_of_lt (IsS115.lt (show IsS115 w0 _ g s0_0 s0_1 s0_2 from by repeat (first | (with_reducible first | exact HI0.out | apply IsS115.alloc | apply IsS115.drewN | apply IsS115.drew | apply IsS115.set_1 | apply IsS115.set_2) | exact HI0.out))) : g ≠ gb122)); have n7_ := Aside0.mk ((by rw [hg]; exact Nat.ne_of_gt (IsS115.lt (show IsS115 w0 _ g s0_0 s0_1 s0_2 from by repeat (first | (with_reducible first | exact HI0.out | apply IsS115.alloc | apply IsS115.drewN | apply IsS115.drew | apply IsS115.set_1 | apply IsS115.set_2) | exact HI0.out))) : gb122 ≠ g)); clear HI0; clear HK; clear HB; have HI0 := n0_; have HK := n1_; have HB := n2_; have BK122 := n3_; have GW122 := n4_; have GE122 := n5_; have NB0_122 := n6_; have NB122_0 := n7_; clear n0_ n1_ n2_ n3_ n4_ n5_ n6_ n7_; clear hb hbox hg) | ((with_reducible refine gate_dst (N := 5) rfl ?_); (try (refine gate_guard (by rfl) ?_; dsimp only)); refine box_event ?hg (N := 5) ?hd (cs := #[.slice none 0 0]) (t := 52) ?hr ?_; (case hd => rfl); (case hg => rfl); (case hr => first | (go_simp; done) | (go_simp; rfl)); intro gb123 hg w5 hbox hb; have n0_ := Aside0.mk (IsS115.below (by repeat (first | (with_reducible first | exact HI0.out | apply IsS115.alloc | apply IsS115.drewN | apply IsS115.drew | apply IsS115.set_1 | apply IsS115.set_2 | refine IsS115.far ?_ NB0_122.out _) | exact HI0.out)) hb); have n1_ := Aside0.mk (blk_below (g := gb122) (o := .cells #[.slice none 0 0] 52 (0, 0)) (by (with_reducible repeat (first | refine blk_drewN ?_ _ | refine blk_drew ?_ | refine blk_alloc ?_ _)); exact BK122.out) hb); have n2_ := Aside0.mk (KeepBut.trans (by repeat (first | (with_reducible first | exact HK.out | apply KeepBut.set_ | apply keep_drewN | apply keep_drew | apply keep_alloc | refine keep_far ?_ GW122.out _) | exact HK.out)) (KeepBut.of_below hb g none) (.inl rfl)); have n3_ := Aside0.mk (below_step (by repeat (first | (with_reducible first | exact HB.out | apply below_alloc | apply pw_below_drewN | apply below_drew1 | refine below_set ?_ (IsS115.ge HI0.out) | refine below_set ?_ GE122.out) | exact HB.out)) hb); have n4_ := Aside0.mk (hbox); have n5_ := Aside0.mk ((by rw [hg]; exact (keep_size (w := w) (g := g) (row := none) (by repeat (first | (with_reducible first | exact HK.out | apply KeepBut.set_ | apply keep_drewN | apply keep_drew | apply keep_alloc | refine keep_far ?_ GW122.out _) | exact HK.out))) : w.heap.size ≤ gb123)); have n6_ := Aside0.mk ((Nat.le_trans HW0.out (by rw [hg]; exact (keep_size (w := w) (g := g) (row := none) (by repeat (first | (with_reducible first | exact HK.out | apply KeepBut.set_ | apply keep_drewN | apply keep_drew | apply keep_alloc | refine keep_far ?_ GW122.out _) | exact HK.out))) : w.heap.size ≤ gb123) : w0.heap.size ≤ gb123)); have n7_ := Aside0.mk ((by rw [hg]; exact Nat.ne_of_lt (blk_lt (g := gb122) (o := .cells #[.slice none 0 0] 52 (0, 0)) (by (with_reducible repeat (first | refine blk_drewN ?_ _ | refine blk_drew ?_ | refine blk_alloc ?_ _)); exact BK122.out)) : gb122 ≠ gb123)); have n8_ := Aside0.mk ((by rw [hg]; exact Nat.ne_of_gt (blk_lt (g := gb122) (o := .cells #[.slice none 0 0] 52 (0, 0)) (by (with_reducible repeat (first | refine blk_drewN ?_ _ | refine blk_drew ?_ | refine blk_alloc ?_ _)); exact BK122.out)) : gb123 ≠ gb122)); have n9_ := Aside0.mk ((by rw [hg]; exact Nat.ne_of_lt (IsS115.lt (show IsS115 w0 _ g s0_0 s0_1 s0_2 from by repeat (first | (with_reducible first | exact HI0.out | apply IsS115.alloc | apply IsS115.drewN | apply IsS115.drew | apply IsS115.set_1 | apply IsS115.set_2 | refine IsS115.far ?_ NB0_122.out _) | exact HI0.out))) : g ≠ gb123)); have n10_ := Aside0.mk ((by rw [hg]; exact Nat.ne_of_gt (IsS115.lt (show IsS115 w0 _ g s0_0 s0_1 s0_2 from by repeat (first | (with_reducible first | exact HI0.out | apply IsS115.alloc | apply IsS115.drewN | apply IsS115.drew | apply IsS115.set_1 | apply IsS115.set_2 | refine IsS115.far ?_ NB0_122.out _) | exact HI0.out))) : gb123 ≠ g)); clear HI0; clear BK122; clear HK; clear HB; have HI0 := n0_; have BK122 := n1_; have HK := n2_; have HB := n3_; have BK123 := n4_; have GW123 := n5_; have GE123 := n6_; have NB122_123 := n7_; have NB123_122 := n8_; have NB0_123 := n9_; have NB123_0 := n10_; clear n0_ n1_ n2_ n3_ n4_ n5_ n6_ n7_ n8_ n9_ n10_; clear hb hbox hg; have hnb6 := NB123_122.out; have hnc6 := NB122_123.out; have hnb7 := NB123_0.out; have hnc7 := NB0_123.out; have hcz8_0 : w5.cell? ⟨gb123, 0, none⟩ = some (.slice none 0 0) := (blk_cell BK123.out 0).trans rfl; have hfz8_0 := blk_frozen BK123.out 0) | ((with_reducible refine gate_callee (f := 93) rfl ?_); refine goesL_ (some 10) rfl rfl Try.func93 (by kernel_rfl) rfl #[.pointer (some ⟨g, 0, none⟩), .int .i64 7] rfl (by (try simp only [List.map_toArray, List.map_cons, List.map_nil]); first | done | rfl | (simp only [List.length_drop, List.length_take]; rfl)) ?_; (with_reducible refine (spec_l00Src_pick.calls g s0_0 s0_1 s0_2 7 t124 t125 t126 w0 _ ?side1 ?side2 A3.out).mono ?_); (case side1 => repeat (first | (with_reducible first | exact HI0.out | apply IsS115.alloc | apply IsS115.drewN | apply IsS115.drew | apply IsS115.set_1 | apply IsS115.set_2 | refine IsS115.far ?_ NB0_122.out _ | refine IsS115.far ?_ NB0_123.out _) | exact HI0.out)); (case side2 => repeat (first | (with_reducible first | exact HB.out | apply below_alloc | apply pw_below_drewN | apply below_drew1 | refine below_set ?_ (IsS115.ge HI0.out) | refine below_set ?_ GE122.out | refine below_set ?_ GE123.out) | exact HB.out)); rintro e w9 ⟨rfl, hi, hb, hk⟩; refine ⟨_, rfl, ?_⟩; have n0_ := Aside0.mk (KeepBut.blk hk (g' := gb122) (o := .cells #[.slice none 0 0] 52 (0, 0)) (by (with_reducible repeat (first | refine blk_drewN ?_ _ | refine blk_drew ?_ | refine blk_alloc ?_ _)); refine blk_far ?_ NB122_123.out _; (with_reducible repeat (first | refine blk_drewN ?_ _ | refine blk_drew ?_ | refine blk_alloc ?_ _)); exact BK122.out) NB122_0.out (by simp)); have n1_ := Aside0.mk (KeepBut.blk hk (g' := gb123) (o := .cells #[.slice none 0 0] 52 (0, 0)) (by (with_reducible repeat (first | refine blk_drewN ?_ _ | refine blk_drew ?_ | refine blk_alloc ?_ _)); refine blk_put (cs := #[.slice none 0 0]) ?_ 0 _ rfl; (with_reducible repeat (first | refine blk_drewN ?_ _ | refine blk_drew ?_ | refine blk_alloc ?_ _)); exact BK123.out) NB123_0.out (by simp)); have n2_ := Aside0.mk (KeepBut.trans (by repeat (first | (with_reducible first | exact HK.out | apply KeepBut.set_ | apply keep_drewN | apply keep_drew | apply keep_alloc | refine keep_far ?_ GW122.out _ | refine keep_far ?_ GW123.out _) | exact HK.out)) hk (.inl rfl)); have n3_ := Aside0.mk (hb); have n4_ := Aside0.mk (hi); clear BK122; clear BK123; clear HK; clear HB; clear HI0; have BK122 := n0_; have BK123 := n1_; have HK := n2_; have HB := n3_; have HI0 := n4_; clear n0_ n1_ n2_ n3_ n4_; (try clear hb); (try clear hb2); (try clear hk); (try clear hi)))
  go_loopg [6] k (fun kq v6 w' => ∃ (x6_1 : Int) (x1001_1 : Int) (x1002_1 : Int) (x124000_1 : List ByteArray) (u124000 : Value), v6 = .int .i64 x6_1 ∧ Aside0 (spec_l16Draw.l0 kq a1 x6_1 s0_0 x1001_1 x1002_1 x124000_1 = some (r1, r2, r3)) ∧ Aside0 (kq ≤ k) ∧ Aside0 (Kd.R Kd.string 9 w' w.heap.size (fun _ => True) u124000 x124000_1) ∧ Aside0 (w'.heap[gb122]? = some (.cells #[(.slice none 0 0)] 52 (0, 0))) ∧ Aside0 (w'.heap[gb123]? = some (.cells #[u124000] 52 (0, 0))) ∧ Aside0 (IsS115 w0 w' g s0_0 x1001_1 x1002_1) ∧ Aside0 (KeepBut w w' g none) ∧ Aside0 (Below w0.heap.size w0 w'))
  case atStart => exact ⟨(t124), (t125), (t126), (([] : List ByteArray)), (.slice none 0 0), (by first | rfl | (simp; done) | (simp [*]; done)), H', ⟨Nat.le_refl _⟩, ⟨by first | exact Kd.R_nil _ _ _ _ _ | exact Kd.N_nil _ _ _ _ _ | exact Kd.V_nil _ _ _ _ _ | exact Kd.Q_nil _ _ _ _ _ | exact Kd.S_nil _ _ _ _ _⟩, ⟨by (with_reducible repeat (first | refine blk_drewN ?_ _ | refine blk_drew ?_ | refine blk_alloc ?_ _)); exact BK122.out⟩, ⟨by (with_reducible repeat (first | refine blk_drewN ?_ _ | refine blk_drew ?_ | refine blk_alloc ?_ _)); exact BK123.out⟩, ⟨by repeat (first | (with_reducible first | exact HI0.out | apply IsS115.alloc | apply IsS115.drewN | apply IsS115.drew | apply IsS115.set_1 | apply IsS115.set_2 | refine IsS115.far ?_ NB0_122.out _ | refine IsS115.far ?_ NB0_123.out _) | exact HI0.out)⟩, ⟨by repeat (first | (with_reducible first | exact HK.out | apply KeepBut.set_ | apply keep_drewN | apply keep_drew | apply keep_alloc | refine keep_far ?_ GW122.out _ | refine keep_far ?_ GW123.out _) | exact HK.out)⟩, ⟨by repeat (first | (with_reducible first | exact HB.out | apply below_alloc | apply pw_below_drewN | apply below_drew1 | refine below_set ?_ (IsS115.ge HI0.out) | refine below_set ?_ GE122.out | refine below_set ?_ GE123.out) | exact HB.out)⟩⟩
  case round =>
    clear H'
    try clear p2
    try clear c6
    try clear c7
    try clear c9
    try clear hcz8_0
    try clear hfz8_0
    obtain ⟨x6_1, x1001_1, x1002_1, x124000_1, u124000, rfl, HA, HK1, HO_124000, BK122, BK123, HI0, HK, HB⟩ := hrel
    cases gk with
    | zero => exact absurd HA.out (by simp [spec_l16Draw.l0])
    | succ k1 =>
      have H := HA.out
      clear HA
      simp only [spec_l16Draw.l0] at H
      by_cases c10 : x6_1 > 0
      · rw [if_pos c10] at H
        have c10b0 : decide (0 < x6_1) = true := decide_eq_true c10
        clear c10
        replace H := Option.bind_eq_some_iff.mp H
        obtain ⟨⟨t127, t128, t129⟩, A110, H⟩ := H
        replace H : ((spec_l00Src_one.f s0_0 t128 t129 4).bind fun bt130 => (if bt130.1 = true then (if x124000_1.length < 8796093022208 then (spec_l16Draw.l0 k1 a1 (wrap64 (x6_1 - 1)) s0_0 bt130.2.1 bt130.2.2 (x124000_1 ++ [(⟨#[]⟩ : ByteArray)])) else (none)) else (if x124000_1.length < 8796093022208 then (spec_l16Draw.l0 k1 a1 (wrap64 (x6_1 - 1)) s0_0 bt130.2.1 bt130.2.2 (x124000_1 ++ [t127])) else (none)))) = some (r1, r2, r3) := H
        have A11 := Aside0.mk A110
        clear A110
        replace H := Option.bind_eq_some_iff.mp H
        obtain ⟨⟨t130, t131, t132⟩, A120, H⟩ := H
        replace H : (if t130 = true then (if x124000_1.length < 8796093022208 then (spec_l16Draw.l0 k1 a1 (wrap64 (x6_1 - 1)) s0_0 t131 t132 (x124000_1 ++ [(⟨#[]⟩ : ByteArray)])) else (none)) else (if x124000_1.length < 8796093022208 then (spec_l16Draw.l0 k1 a1 (wrap64 (x6_1 - 1)) s0_0 t131 t132 (x124000_1 ++ [t127])) else (none))) = some (r1, r2, r3) := H
        have A12 := Aside0.mk A120
        clear A120
        by_cases c13 : t130 = true
        · subst c13
          have H1 : (if x124000_1.length < 8796093022208 then (spec_l16Draw.l0 k1 a1 (wrap64 (x6_1 - 1)) s0_0 t131 t132 (x124000_1 ++ [(⟨#[]⟩ : ByteArray)])) else (none)) = some (r1, r2, r3) := by rw [if_pos rfl] at H; exact H
          clear H
          have H := H1
          clear H1
          by_cases c14 : x124000_1.length < 8796093022208
          · rw [if_pos c14] at H
            have LMc14 := Aside0.mk c14
            clear c14
            obtain ⟨y133, hy133⟩ : ∃ y_ : List ByteArray, y_ = (x124000_1 ++ [(⟨#[]⟩ : ByteArray)]) := ⟨_, rfl⟩
            replace H : (spec_l16Draw.l0 k1 a1 (wrap64 (x6_1 - 1)) s0_0 t131 t132 y133) = some (r1, r2, r3) := by first | (rw [hy133]; with_reducible exact H) | (have H2_ := (Option.bind_some _ _).symm.trans H; rw [hy133]; with_reducible exact H2_) | (have H2_ := (Option.bind_some _ _).symm.trans H; with_reducible exact H2_) | with_reducible exact H | (rw [hy133]; exact H) | exact H
            have Ny133 := Aside0.mk hy133
            clear hy133
            have H' := Aside0.mk H
            clear H
            go_wp2_with (first | ((with_reducible refine gate_callee (f := 77) rfl ?_); refine goesL_ (some 16) rfl rfl Try.func77 (by kernel_rfl) rfl #[.pointer (some ⟨g, 0, none⟩)] rfl (by (try simp only [List.map_toArray, List.map_cons, List.map_nil]); first | done | rfl | (simp only [List.length_drop, List.length_take]; rfl)) ?_; (with_reducible refine (spec_l02DrawName.calls g s0_0 x1001_1 x1002_1 t127 t128 t129 w0 _ ?side1 ?side2 A11.out).mono ?_); (case side1 => repeat (first | (with_reducible first | exact HI0.out | apply IsS115.alloc | apply IsS115.drewN | apply IsS115.drew | apply IsS115.set_1 | apply IsS115.set_2 | refine IsS115.far ?_ NB0_122.out _ | refine IsS115.far ?_ NB0_123.out _) | exact HI0.out)); (case side2 => repeat (first | (with_reducible first | exact HB.out | apply below_alloc | apply pw_below_drewN | apply below_drew1 | refine below_set ?_ (IsS115.ge HI0.out) | refine below_set ?_ GE122.out | refine below_set ?_ GE123.out) | exact HB.out)); rintro e w15 ⟨rfl, hi, hb, hk⟩; refine ⟨_, rfl, ?_⟩; have n0_ := Aside0.mk (Kd.R_mono (Kd.R_keep (IsS115.apart (show IsS115 w0 _ g s0_0 x1001_1 x1002_1 from by repeat (first | (with_reducible first | exact HI0.out | apply IsS115.alloc | apply IsS115.drewN | apply IsS115.drew | apply IsS115.set_1 | apply IsS115.set_2 | refine IsS115.far ?_ NB0_122.out _ | refine IsS115.far ?_ NB0_123.out _) | exact HI0.out)) (by (with_reducible repeat (first | apply Kd.R_alloc | apply Kd.R_drewN | apply Kd.R_drew)); exact HO_124000.out) (by decide)) hk (fun _ h => h.2)) (fun _ h => h.1)); have n1_ := Aside0.mk (KeepBut.blk hk (g' := gb122) (o := .cells #[.slice none 0 0] 52 (0, 0)) (by (with_reducible repeat (first | refine blk_drewN ?_ _ | refine blk_drew ?_ | refine blk_alloc ?_ _)); exact BK122.out) NB122_0.out (by simp)); have n2_ := Aside0.mk (KeepBut.blk hk (g' := gb123) (o := .cells #[u124000] 52 (0, 0)) (by (with_reducible repeat (first | refine blk_drewN ?_ _ | refine blk_drew ?_ | refine blk_alloc ?_ _)); exact BK123.out) NB123_0.out (by simp)); have n3_ := Aside0.mk (KeepBut.trans (by repeat (first | (with_reducible first | exact HK.out | apply KeepBut.set_ | apply keep_drewN | apply keep_drew | apply keep_alloc | refine keep_far ?_ GW122.out _ | refine keep_far ?_ GW123.out _) | exact HK.out)) hk (.inl rfl)); have n4_ := Aside0.mk (hb); have n5_ := Aside0.mk (hi); clear HO_124000; clear BK122; clear BK123; clear HK; clear HB; clear HI0; have HO_124000 := n0_; have BK122 := n1_; have BK123 := n2_; have HK := n3_; have HB := n4_; have HI0 := n5_; clear n0_ n1_ n2_ n3_ n4_ n5_; (try clear hb); (try clear hb2); (try clear hk); (try clear hi)) | ((with_reducible refine gate_callee (f := 43) rfl ?_); refine goesL_ (some 18) rfl rfl Try.func43 (by kernel_rfl) rfl #[.pointer (some ⟨g, 0, none⟩), .int .i64 4] rfl (by (try simp only [List.map_toArray, List.map_cons, List.map_nil]); first | done | rfl | (simp only [List.length_drop, List.length_take]; rfl)) ?_; (with_reducible refine (spec_l00Src_one.calls g s0_0 t128 t129 4 true t131 t132 w0 _ ?side1 ?side2 A12.out).mono ?_); (case side1 => repeat (first | (with_reducible first | exact HI0.out | apply IsS115.alloc | apply IsS115.drewN | apply IsS115.drew | apply IsS115.set_1 | apply IsS115.set_2 | refine IsS115.far ?_ NB0_122.out _ | refine IsS115.far ?_ NB0_123.out _) | exact HI0.out)); (case side2 => repeat (first | (with_reducible first | exact HB.out | apply below_alloc | apply pw_below_drewN | apply below_drew1 | refine below_set ?_ (IsS115.ge HI0.out) | refine below_set ?_ GE122.out | refine below_set ?_ GE123.out) | exact HB.out)); rintro e w16 ⟨rfl, hi, hb, hk⟩; refine ⟨_, rfl, ?_⟩; have n0_ := Aside0.mk (Kd.R_mono (Kd.R_keep (IsS115.apart (show IsS115 w0 _ g s0_0 t128 t129 from by repeat (first | (with_reducible first | exact HI0.out | apply IsS115.alloc | apply IsS115.drewN | apply IsS115.drew | apply IsS115.set_1 | apply IsS115.set_2 | refine IsS115.far ?_ NB0_122.out _ | refine IsS115.far ?_ NB0_123.out _) | exact HI0.out)) (by (with_reducible repeat (first | apply Kd.R_alloc | apply Kd.R_drewN | apply Kd.R_drew)); exact HO_124000.out) (by decide)) hk (fun _ h => h.2)) (fun _ h => h.1)); have n1_ := Aside0.mk (KeepBut.blk hk (g' := gb122) (o := .cells #[.slice none 0 0] 52 (0, 0)) (by (with_reducible repeat (first | refine blk_drewN ?_ _ | refine blk_drew ?_ | refine blk_alloc ?_ _)); exact BK122.out) NB122_0.out (by simp)); have n2_ := Aside0.mk (KeepBut.blk hk (g' := gb123) (o := .cells #[u124000] 52 (0, 0)) (by (with_reducible repeat (first | refine blk_drewN ?_ _ | refine blk_drew ?_ | refine blk_alloc ?_ _)); exact BK123.out) NB123_0.out (by simp)); have n3_ := Aside0.mk (KeepBut.trans (by repeat (first | (with_reducible first | exact HK.out | apply KeepBut.set_ | apply keep_drewN | apply keep_drew | apply keep_alloc | refine keep_far ?_ GW122.out _ | refine keep_far ?_ GW123.out _) | exact HK.out)) hk (.inl rfl)); have n4_ := Aside0.mk (hb); have n5_ := Aside0.mk (hi); clear HO_124000; clear BK122; clear BK123; clear HK; clear HB; clear HI0; have HO_124000 := n0_; have BK122 := n1_; have BK123 := n2_; have HK := n3_; have HB := n4_; have HI0 := n5_; clear n0_ n1_ n2_ n3_ n4_ n5_; (try clear hb); (try clear hb2); (try clear hk); (try clear hi); have hnb17 := NB123_122.out; have hnc17 := NB122_123.out; have hnb18 := NB123_0.out; have hnc18 := NB0_123.out; have hcz19_0 : w16.cell? ⟨gb123, 0, none⟩ = some (u124000) := (blk_cell BK123.out 0).trans rfl; have hfz19_0 := blk_frozen BK123.out 0) | ((with_reducible refine gate_builtin (b := .append) (xs := #[.tmp 20, .tmp 22]) rfl ?_); (try (refine gate_guard (by rfl) ?_; dsimp only)); at_builtin; refine Kd.R_append Kd.string w.heap.size rfl (.tmp 20) (.tmp 22) 24 9 (.string ⟨#[]⟩) 16 rfl Try.underlying24 info9 rfl (by decide) (by omega) u124000 x124000_1 (⟨#[]⟩ : ByteArray) [.string (⟨#[]⟩ : ByteArray)] (fun _ => True) (fun _ => False) rfl rfl ?aP (fun _ hk => hk.elim) ?aF ?aO (Below.refl _ _) ?aS ?aL ?_; (case aP => exact rfl); (case aF => exact (fun _ _ => trivial)); (case aO => exact (by (with_reducible repeat (first | apply Kd.R_alloc | apply Kd.R_drewN | apply Kd.R_drew)); exact HO_124000.out)); (case aS => exact (keep_size (w := w) (g := g) (row := none) (by repeat (first | (with_reducible first | exact HK.out | apply KeepBut.set_ | apply keep_drewN | apply keep_drew | apply keep_alloc | refine keep_far ?_ GW122.out _ | refine keep_far ?_ GW123.out _) | exact HK.out)))); (case aL => have := LMc14.out; omega); intro v134 w20 ho hb hg hat; rw [← Ny133.out] at ho; have n0_ := Aside0.mk (blk_grown (g := gb122) (o := .cells #[.slice none 0 0] 52 (0, 0)) (by (with_reducible repeat (first | refine blk_drewN ?_ _ | refine blk_drew ?_ | refine blk_alloc ?_ _)); exact BK122.out) hg (Kd.R_ne HO_124000.out BK122.out (by decide))); have n1_ := Aside0.mk (blk_grown (g := gb123) (o := .cells #[u124000] 52 (0, 0)) (by (with_reducible repeat (first | refine blk_drewN ?_ _ | refine blk_drew ?_ | refine blk_alloc ?_ _)); exact BK123.out) hg (Kd.R_ne HO_124000.out BK123.out (by decide))); have n2_ := Aside0.mk (IsS115.grown (show IsS115 w0 _ g s0_0 t131 t132 from by repeat (first | (with_reducible first | exact HI0.out | apply IsS115.alloc | apply IsS115.drewN | apply IsS115.drew | apply IsS115.set_1 | apply IsS115.set_2 | refine IsS115.far ?_ NB0_122.out _ | refine IsS115.far ?_ NB0_123.out _) | exact HI0.out)) hg (IsS115.own_ne HI0.out HO_124000.out (by decide))); have n3_ := Aside0.mk (below_weaken (by repeat (first | (with_reducible first | exact HB.out | apply below_alloc | apply pw_below_drewN | apply below_drew1 | refine below_set ?_ (IsS115.ge HI0.out) | refine below_set ?_ GE122.out | refine below_set ?_ GE123.out) | exact HB.out)) HL.out hb); have n4_ := Aside0.mk (KeepBut.trans (by repeat (first | (with_reducible first | exact HK.out | apply KeepBut.set_ | apply keep_drewN | apply keep_drew | apply keep_alloc | refine keep_far ?_ GW122.out _ | refine keep_far ?_ GW123.out _) | exact HK.out)) (KeepBut.of_grown hg g) (Kd.R_base2 HO_124000.out)); have n5_ := Aside0.mk (ho); clear BK122; clear BK123; clear HI0; clear HB; clear HK; clear HO_124000; have BK122 := n0_; have BK123 := n1_; have HI0 := n2_; have HB := n3_; have HK := n4_; have HO135 := n5_; clear n0_ n1_ n2_ n3_ n4_ n5_; clear ho hb hg hat; obtain ⟨Ao21, co21, eo21⟩ := Kd.R_slice HO135.out; subst eo21; have hcz22_0 : w20.cell? ⟨gb123, 0, none⟩ = some (u124000) := (blk_cell BK123.out 0).trans rfl; have hfz22_0 := blk_frozen BK123.out 0))
            go_roundg k1
            case measure => have := HK1.out; omega
            case rel => exact ⟨(wrap64 (x6_1 - 1)), (t131), (t132), (y133), (.slice Ao21 y133.length co21), (by first | rfl | (simp; done) | (simp [*]; done)), H', ⟨by have := HK1.out; omega⟩, ⟨by (with_reducible repeat (first | apply Kd.R_alloc | apply Kd.R_drewN | apply Kd.R_drew)); exact Kd.R_mono (Kd.R_far (p := ⟨gb123, 0, none⟩) (Kd.R_types HO135.out BK123.out (by decide)) (fun _ hk => hk.2) (.slice Ao21 y133.length co21)) (fun _ hk => trivial)⟩, ⟨by (with_reducible repeat (first | refine blk_drewN ?_ _ | refine blk_drew ?_ | refine blk_alloc ?_ _)); refine blk_far ?_ NB122_123.out _; (with_reducible repeat (first | refine blk_drewN ?_ _ | refine blk_drew ?_ | refine blk_alloc ?_ _)); exact BK122.out⟩, ⟨by (with_reducible repeat (first | refine blk_drewN ?_ _ | refine blk_drew ?_ | refine blk_alloc ?_ _)); refine blk_put (cs := #[u124000]) ?_ 0 _ rfl; (with_reducible repeat (first | refine blk_drewN ?_ _ | refine blk_drew ?_ | refine blk_alloc ?_ _)); exact BK123.out⟩, ⟨by repeat (first | (with_reducible first | exact HI0.out | apply IsS115.alloc | apply IsS115.drewN | apply IsS115.drew | apply IsS115.set_1 | apply IsS115.set_2 | refine IsS115.far ?_ NB0_122.out _ | refine IsS115.far ?_ NB0_123.out _) | exact HI0.out)⟩, ⟨by repeat (first | (with_reducible first | exact HK.out | apply KeepBut.set_ | apply keep_drewN | apply keep_drew | apply keep_alloc | refine keep_far ?_ GW122.out _ | refine keep_far ?_ GW123.out _) | exact HK.out)⟩, ⟨by repeat (first | (with_reducible first | exact HB.out | apply below_alloc | apply pw_below_drewN | apply below_drew1 | refine below_set ?_ (IsS115.ge HI0.out) | refine below_set ?_ GE122.out | refine below_set ?_ GE123.out) | exact HB.out)⟩⟩
          · rw [if_neg c14] at H
            exact absurd H (by simp)
        · replace c13 := Bool.eq_false_iff.mpr c13
          subst c13
          have H1 : (if x124000_1.length < 8796093022208 then (spec_l16Draw.l0 k1 a1 (wrap64 (x6_1 - 1)) s0_0 t131 t132 (x124000_1 ++ [t127])) else (none)) = some (r1, r2, r3) := by rw [if_neg (show ¬ (false = true) by decide)] at H; exact H
          clear H
          have H := H1
          clear H1
          by_cases c23 : x124000_1.length < 8796093022208
          · rw [if_pos c23] at H
            have LMc23 := Aside0.mk c23
            clear c23
            obtain ⟨y136, hy136⟩ : ∃ y_ : List ByteArray, y_ = (x124000_1 ++ [t127]) := ⟨_, rfl⟩
            replace H : (spec_l16Draw.l0 k1 a1 (wrap64 (x6_1 - 1)) s0_0 t131 t132 y136) = some (r1, r2, r3) := by first | (rw [hy136]; with_reducible exact H) | (have H2_ := (Option.bind_some _ _).symm.trans H; rw [hy136]; with_reducible exact H2_) | (have H2_ := (Option.bind_some _ _).symm.trans H; with_reducible exact H2_) | with_reducible exact H | (rw [hy136]; exact H) | exact H
            have Ny136 := Aside0.mk hy136
            clear hy136
            have H' := Aside0.mk H
            clear H
            go_wp2_with (first | ((with_reducible refine gate_callee (f := 77) rfl ?_); refine goesL_ (some 16) rfl rfl Try.func77 (by kernel_rfl) rfl #[.pointer (some ⟨g, 0, none⟩)] rfl (by (try simp only [List.map_toArray, List.map_cons, List.map_nil]); first | done | rfl | (simp only [List.length_drop, List.length_take]; rfl)) ?_; (with_reducible refine (spec_l02DrawName.calls g s0_0 x1001_1 x1002_1 t127 t128 t129 w0 _ ?side1 ?side2 A11.out).mono ?_); (case side1 => repeat (first | (with_reducible first | exact HI0.out | apply IsS115.alloc | apply IsS115.drewN | apply IsS115.drew | apply IsS115.set_1 | apply IsS115.set_2 | refine IsS115.far ?_ NB0_122.out _ | refine IsS115.far ?_ NB0_123.out _) | exact HI0.out)); (case side2 => repeat (first | (with_reducible first | exact HB.out | apply below_alloc | apply pw_below_drewN | apply below_drew1 | refine below_set ?_ (IsS115.ge HI0.out) | refine below_set ?_ GE122.out | refine below_set ?_ GE123.out) | exact HB.out)); rintro e w24 ⟨rfl, hi, hb, hk⟩; refine ⟨_, rfl, ?_⟩; have n0_ := Aside0.mk (Kd.R_mono (Kd.R_keep (IsS115.apart (show IsS115 w0 _ g s0_0 x1001_1 x1002_1 from by repeat (first | (with_reducible first | exact HI0.out | apply IsS115.alloc | apply IsS115.drewN | apply IsS115.drew | apply IsS115.set_1 | apply IsS115.set_2 | refine IsS115.far ?_ NB0_122.out _ | refine IsS115.far ?_ NB0_123.out _) | exact HI0.out)) (by (with_reducible repeat (first | apply Kd.R_alloc | apply Kd.R_drewN | apply Kd.R_drew)); exact HO_124000.out) (by decide)) hk (fun _ h => h.2)) (fun _ h => h.1)); have n1_ := Aside0.mk (KeepBut.blk hk (g' := gb122) (o := .cells #[.slice none 0 0] 52 (0, 0)) (by (with_reducible repeat (first | refine blk_drewN ?_ _ | refine blk_drew ?_ | refine blk_alloc ?_ _)); exact BK122.out) NB122_0.out (by simp)); have n2_ := Aside0.mk (KeepBut.blk hk (g' := gb123) (o := .cells #[u124000] 52 (0, 0)) (by (with_reducible repeat (first | refine blk_drewN ?_ _ | refine blk_drew ?_ | refine blk_alloc ?_ _)); exact BK123.out) NB123_0.out (by simp)); have n3_ := Aside0.mk (KeepBut.trans (by repeat (first | (with_reducible first | exact HK.out | apply KeepBut.set_ | apply keep_drewN | apply keep_drew | apply keep_alloc | refine keep_far ?_ GW122.out _ | refine keep_far ?_ GW123.out _) | exact HK.out)) hk (.inl rfl)); have n4_ := Aside0.mk (hb); have n5_ := Aside0.mk (hi); clear HO_124000; clear BK122; clear BK123; clear HK; clear HB; clear HI0; have HO_124000 := n0_; have BK122 := n1_; have BK123 := n2_; have HK := n3_; have HB := n4_; have HI0 := n5_; clear n0_ n1_ n2_ n3_ n4_ n5_; (try clear hb); (try clear hb2); (try clear hk); (try clear hi)) | ((with_reducible refine gate_callee (f := 43) rfl ?_); refine goesL_ (some 18) rfl rfl Try.func43 (by kernel_rfl) rfl #[.pointer (some ⟨g, 0, none⟩), .int .i64 4] rfl (by (try simp only [List.map_toArray, List.map_cons, List.map_nil]); first | done | rfl | (simp only [List.length_drop, List.length_take]; rfl)) ?_; (with_reducible refine (spec_l00Src_one.calls g s0_0 t128 t129 4 false t131 t132 w0 _ ?side1 ?side2 A12.out).mono ?_); (case side1 => repeat (first | (with_reducible first | exact HI0.out | apply IsS115.alloc | apply IsS115.drewN | apply IsS115.drew | apply IsS115.set_1 | apply IsS115.set_2 | refine IsS115.far ?_ NB0_122.out _ | refine IsS115.far ?_ NB0_123.out _) | exact HI0.out)); (case side2 => repeat (first | (with_reducible first | exact HB.out | apply below_alloc | apply pw_below_drewN | apply below_drew1 | refine below_set ?_ (IsS115.ge HI0.out) | refine below_set ?_ GE122.out | refine below_set ?_ GE123.out) | exact HB.out)); rintro e w25 ⟨rfl, hi, hb, hk⟩; refine ⟨_, rfl, ?_⟩; have n0_ := Aside0.mk (Kd.R_mono (Kd.R_keep (IsS115.apart (show IsS115 w0 _ g s0_0 t128 t129 from by repeat (first | (with_reducible first | exact HI0.out | apply IsS115.alloc | apply IsS115.drewN | apply IsS115.drew | apply IsS115.set_1 | apply IsS115.set_2 | refine IsS115.far ?_ NB0_122.out _ | refine IsS115.far ?_ NB0_123.out _) | exact HI0.out)) (by (with_reducible repeat (first | apply Kd.R_alloc | apply Kd.R_drewN | apply Kd.R_drew)); exact HO_124000.out) (by decide)) hk (fun _ h => h.2)) (fun _ h => h.1)); have n1_ := Aside0.mk (KeepBut.blk hk (g' := gb122) (o := .cells #[.slice none 0 0] 52 (0, 0)) (by (with_reducible repeat (first | refine blk_drewN ?_ _ | refine blk_drew ?_ | refine blk_alloc ?_ _)); exact BK122.out) NB122_0.out (by simp)); have n2_ := Aside0.mk (KeepBut.blk hk (g' := gb123) (o := .cells #[u124000] 52 (0, 0)) (by (with_reducible repeat (first | refine blk_drewN ?_ _ | refine blk_drew ?_ | refine blk_alloc ?_ _)); exact BK123.out) NB123_0.out (by simp)); have n3_ := Aside0.mk (KeepBut.trans (by repeat (first | (with_reducible first | exact HK.out | apply KeepBut.set_ | apply keep_drewN | apply keep_drew | apply keep_alloc | refine keep_far ?_ GW122.out _ | refine keep_far ?_ GW123.out _) | exact HK.out)) hk (.inl rfl)); have n4_ := Aside0.mk (hb); have n5_ := Aside0.mk (hi); clear HO_124000; clear BK122; clear BK123; clear HK; clear HB; clear HI0; have HO_124000 := n0_; have BK122 := n1_; have BK123 := n2_; have HK := n3_; have HB := n4_; have HI0 := n5_; clear n0_ n1_ n2_ n3_ n4_ n5_; (try clear hb); (try clear hb2); (try clear hk); (try clear hi); have hnb26 := NB123_122.out; have hnc26 := NB122_123.out; have hnb27 := NB123_0.out; have hnc27 := NB0_123.out; have hcz28_0 : w25.cell? ⟨gb123, 0, none⟩ = some (u124000) := (blk_cell BK123.out 0).trans rfl; have hfz28_0 := blk_frozen BK123.out 0) | ((with_reducible refine gate_builtin (b := .append) (xs := #[.tmp 20, .tmp 22]) rfl ?_); (try (refine gate_guard (by rfl) ?_; dsimp only)); at_builtin; refine Kd.R_append Kd.string w.heap.size rfl (.tmp 20) (.tmp 22) 24 9 (.string ⟨#[]⟩) 16 rfl Try.underlying24 info9 rfl (by decide) (by omega) u124000 x124000_1 t127 [.string t127] (fun _ => True) (fun _ => False) rfl rfl ?aP (fun _ hk => hk.elim) ?aF ?aO (Below.refl _ _) ?aS ?aL ?_; (case aP => exact rfl); (case aF => exact (fun _ _ => trivial)); (case aO => exact (by (with_reducible repeat (first | apply Kd.R_alloc | apply Kd.R_drewN | apply Kd.R_drew)); exact HO_124000.out)); (case aS => exact (keep_size (w := w) (g := g) (row := none) (by repeat (first | (with_reducible first | exact HK.out | apply KeepBut.set_ | apply keep_drewN | apply keep_drew | apply keep_alloc | refine keep_far ?_ GW122.out _ | refine keep_far ?_ GW123.out _) | exact HK.out)))); (case aL => have := LMc23.out; omega); intro v137 w29 ho hb hg hat; rw [← Ny136.out] at ho; have n0_ := Aside0.mk (blk_grown (g := gb122) (o := .cells #[.slice none 0 0] 52 (0, 0)) (by (with_reducible repeat (first | refine blk_drewN ?_ _ | refine blk_drew ?_ | refine blk_alloc ?_ _)); exact BK122.out) hg (Kd.R_ne HO_124000.out BK122.out (by decide))); have n1_ := Aside0.mk (blk_grown (g := gb123) (o := .cells #[u124000] 52 (0, 0)) (by (with_reducible repeat (first | refine blk_drewN ?_ _ | refine blk_drew ?_ | refine blk_alloc ?_ _)); exact BK123.out) hg (Kd.R_ne HO_124000.out BK123.out (by decide))); have n2_ := Aside0.mk (IsS115.grown (show IsS115 w0 _ g s0_0 t131 t132 from by repeat (first | (with_reducible first | exact HI0.out | apply IsS115.alloc | apply IsS115.drewN | apply IsS115.drew | apply IsS115.set_1 | apply IsS115.set_2 | refine IsS115.far ?_ NB0_122.out _ | refine IsS115.far ?_ NB0_123.out _) | exact HI0.out)) hg (IsS115.own_ne HI0.out HO_124000.out (by decide))); have n3_ := Aside0.mk (below_weaken (by repeat (first | (with_reducible first | exact HB.out | apply below_alloc | apply pw_below_drewN | apply below_drew1 | refine below_set ?_ (IsS115.ge HI0.out) | refine below_set ?_ GE122.out | refine below_set ?_ GE123.out) | exact HB.out)) HL.out hb); have n4_ := Aside0.mk (KeepBut.trans (by repeat (first | (with_reducible first | exact HK.out | apply KeepBut.set_ | apply keep_drewN | apply keep_drew | apply keep_alloc | refine keep_far ?_ GW122.out _ | refine keep_far ?_ GW123.out _) | exact HK.out)) (KeepBut.of_grown hg g) (Kd.R_base2 HO_124000.out)); have n5_ := Aside0.mk (ho); clear BK122; clear BK123; clear HI0; clear HB; clear HK; clear HO_124000; have BK122 := n0_; have BK123 := n1_; have HI0 := n2_; have HB := n3_; have HK := n4_; have HO138 := n5_; clear n0_ n1_ n2_ n3_ n4_ n5_; clear ho hb hg hat; obtain ⟨Ao30, co30, eo30⟩ := Kd.R_slice HO138.out; subst eo30; have hcz31_0 : w29.cell? ⟨gb123, 0, none⟩ = some (u124000) := (blk_cell BK123.out 0).trans rfl; have hfz31_0 := blk_frozen BK123.out 0))
            go_roundg k1
            case measure => have := HK1.out; omega
            case rel => exact ⟨(wrap64 (x6_1 - 1)), (t131), (t132), (y136), (.slice Ao30 y136.length co30), (by first | rfl | (simp; done) | (simp [*]; done)), H', ⟨by have := HK1.out; omega⟩, ⟨by (with_reducible repeat (first | apply Kd.R_alloc | apply Kd.R_drewN | apply Kd.R_drew)); exact Kd.R_mono (Kd.R_far (p := ⟨gb123, 0, none⟩) (Kd.R_types HO138.out BK123.out (by decide)) (fun _ hk => hk.2) (.slice Ao30 y136.length co30)) (fun _ hk => trivial)⟩, ⟨by (with_reducible repeat (first | refine blk_drewN ?_ _ | refine blk_drew ?_ | refine blk_alloc ?_ _)); refine blk_far ?_ NB122_123.out _; (with_reducible repeat (first | refine blk_drewN ?_ _ | refine blk_drew ?_ | refine blk_alloc ?_ _)); exact BK122.out⟩, ⟨by (with_reducible repeat (first | refine blk_drewN ?_ _ | refine blk_drew ?_ | refine blk_alloc ?_ _)); refine blk_put (cs := #[u124000]) ?_ 0 _ rfl; (with_reducible repeat (first | refine blk_drewN ?_ _ | refine blk_drew ?_ | refine blk_alloc ?_ _)); exact BK123.out⟩, ⟨by repeat (first | (with_reducible first | exact HI0.out | apply IsS115.alloc | apply IsS115.drewN | apply IsS115.drew | apply IsS115.set_1 | apply IsS115.set_2 | refine IsS115.far ?_ NB0_122.out _ | refine IsS115.far ?_ NB0_123.out _) | exact HI0.out)⟩, ⟨by repeat (first | (with_reducible first | exact HK.out | apply KeepBut.set_ | apply keep_drewN | apply keep_drew | apply keep_alloc | refine keep_far ?_ GW122.out _ | refine keep_far ?_ GW123.out _) | exact HK.out)⟩, ⟨by repeat (first | (with_reducible first | exact HB.out | apply below_alloc | apply pw_below_drewN | apply below_drew1 | refine below_set ?_ (IsS115.ge HI0.out) | refine below_set ?_ GE122.out | refine below_set ?_ GE123.out) | exact HB.out)⟩⟩
          · rw [if_neg c23] at H
            exact absurd H (by simp)
      · rw [if_neg c10] at H
        have c10b0 : decide (0 < x6_1) = false := decide_eq_false c10
        clear c10
        replace H := Option.bind_eq_some_iff.mp H
        obtain ⟨⟨t139, t140, t141⟩, A320, H⟩ := H
        replace H : (if t139 = true then (spec_l16Draw.l1 k1 a1 s0_0 t140 t141 x124000_1) else (spec_l16Draw.j2 k1 a1 s0_0 t140 t141 x124000_1)) = some (r1, r2, r3) := H
        have A32 := Aside0.mk A320
        clear A320
        have HC33 := Aside0.mk H
        clear H
        go_upto_if 26 with (first | ((with_reducible refine gate_callee (f := 43) rfl ?_); refine goesL_ (some 26) rfl rfl Try.func43 (by kernel_rfl) rfl #[.pointer (some ⟨g, 0, none⟩), .int .i64 16] rfl (by (try simp only [List.map_toArray, List.map_cons, List.map_nil]); first | done | rfl | (simp only [List.length_drop, List.length_take]; rfl)) ?_; (with_reducible refine (spec_l00Src_one.calls g s0_0 x1001_1 x1002_1 16 t139 t140 t141 w0 _ ?side1 ?side2 A32.out).mono ?_); (case side1 => repeat (first | (with_reducible first | exact HI0.out | apply IsS115.alloc | apply IsS115.drewN | apply IsS115.drew | apply IsS115.set_1 | apply IsS115.set_2 | refine IsS115.far ?_ NB0_122.out _ | refine IsS115.far ?_ NB0_123.out _) | exact HI0.out)); (case side2 => repeat (first | (with_reducible first | exact HB.out | apply below_alloc | apply pw_below_drewN | apply below_drew1 | refine below_set ?_ (IsS115.ge HI0.out) | refine below_set ?_ GE122.out | refine below_set ?_ GE123.out) | exact HB.out)); rintro e w34 ⟨rfl, hi, hb, hk⟩; refine ⟨_, rfl, ?_⟩; have n0_ := Aside0.mk (Kd.R_mono (Kd.R_keep (IsS115.apart (show IsS115 w0 _ g s0_0 x1001_1 x1002_1 from by repeat (first | (with_reducible first | exact HI0.out | apply IsS115.alloc | apply IsS115.drewN | apply IsS115.drew | apply IsS115.set_1 | apply IsS115.set_2 | refine IsS115.far ?_ NB0_122.out _ | refine IsS115.far ?_ NB0_123.out _) | exact HI0.out)) (by (with_reducible repeat (first | apply Kd.R_alloc | apply Kd.R_drewN | apply Kd.R_drew)); exact HO_124000.out) (by decide)) hk (fun _ h => h.2)) (fun _ h => h.1)); have n1_ := Aside0.mk (KeepBut.blk hk (g' := gb122) (o := .cells #[.slice none 0 0] 52 (0, 0)) (by (with_reducible repeat (first | refine blk_drewN ?_ _ | refine blk_drew ?_ | refine blk_alloc ?_ _)); exact BK122.out) NB122_0.out (by simp)); have n2_ := Aside0.mk (KeepBut.blk hk (g' := gb123) (o := .cells #[u124000] 52 (0, 0)) (by (with_reducible repeat (first | refine blk_drewN ?_ _ | refine blk_drew ?_ | refine blk_alloc ?_ _)); exact BK123.out) NB123_0.out (by simp)); have n3_ := Aside0.mk (KeepBut.trans (by repeat (first | (with_reducible first | exact HK.out | apply KeepBut.set_ | apply keep_drewN | apply keep_drew | apply keep_alloc | refine keep_far ?_ GW122.out _ | refine keep_far ?_ GW123.out _) | exact HK.out)) hk (.inl rfl)); have n4_ := Aside0.mk (hb); have n5_ := Aside0.mk (hi); clear HO_124000; clear BK122; clear BK123; clear HK; clear HB; clear HI0; have HO_124000 := n0_; have BK122 := n1_; have BK123 := n2_; have HK := n3_; have HB := n4_; have HI0 := n5_; clear n0_ n1_ n2_ n3_ n4_ n5_; (try clear hb); (try clear hb2); (try clear hk); (try clear hi)))
        (try simp only [Act.put, List.setIfInBounds_toArray, List.set_cons_zero, List.set_cons_succ])
        go_cut [] (fun wc => ∃ (kq : Nat) (x1001_32 : Int) (x1002_32 : Int) (x124000_32 : List ByteArray) (u124000 : Value), Aside0 (spec_l16Draw.j2 kq a1 s0_0 x1001_32 x1002_32 x124000_32 = some (r1, r2, r3)) ∧ Aside0 (kq ≤ k1) ∧ Aside0 (Kd.R Kd.string 9 wc w.heap.size (fun _ => True) u124000 x124000_32) ∧ Aside0 (wc.heap[gb122]? = some (.cells #[(.slice none 0 0)] 52 (0, 0))) ∧ Aside0 (wc.heap[gb123]? = some (.cells #[u124000] 52 (0, 0))) ∧ Aside0 (IsS115 w0 wc g s0_0 x1001_32 x1002_32) ∧ Aside0 (KeepBut w wc g none) ∧ Aside0 (Below w0.heap.size w0 wc))
        case first =>
          have H := HC33.out
          clear HC33
          by_cases c35 : t139 = true
          · subst c35
            have H1 : (spec_l16Draw.l1 k1 a1 s0_0 t140 t141 x124000_1) = some (r1, r2, r3) := by rw [if_pos rfl] at H; exact H
            clear H
            have H := H1
            clear H1
            have H' := Aside0.mk H
            clear H
            go_wp2
            go_loopg [] k1 (fun kq w' => ∃ (x1001_2 : Int) (x1002_2 : Int) (x124000_2 : List ByteArray) (u124000 : Value), Aside0 (spec_l16Draw.l1 kq a1 s0_0 x1001_2 x1002_2 x124000_2 = some (r1, r2, r3)) ∧ Aside0 (kq ≤ k1) ∧ Aside0 (Kd.R Kd.string 9 w' w.heap.size (fun _ => True) u124000 x124000_2) ∧ Aside0 (w'.heap[gb122]? = some (.cells #[(.slice none 0 0)] 52 (0, 0))) ∧ Aside0 (w'.heap[gb123]? = some (.cells #[u124000] 52 (0, 0))) ∧ Aside0 (IsS115 w0 w' g s0_0 x1001_2 x1002_2) ∧ Aside0 (KeepBut w w' g none) ∧ Aside0 (Below w0.heap.size w0 w'))
            case atStart => exact ⟨(t140), (t141), (x124000_1), (u124000), H', ⟨Nat.le_refl _⟩, ⟨by (with_reducible repeat (first | apply Kd.R_alloc | apply Kd.R_drewN | apply Kd.R_drew)); exact HO_124000.out⟩, ⟨by (with_reducible repeat (first | refine blk_drewN ?_ _ | refine blk_drew ?_ | refine blk_alloc ?_ _)); exact BK122.out⟩, ⟨by (with_reducible repeat (first | refine blk_drewN ?_ _ | refine blk_drew ?_ | refine blk_alloc ?_ _)); exact BK123.out⟩, ⟨by repeat (first | (with_reducible first | exact HI0.out | apply IsS115.alloc | apply IsS115.drewN | apply IsS115.drew | apply IsS115.set_1 | apply IsS115.set_2 | refine IsS115.far ?_ NB0_122.out _ | refine IsS115.far ?_ NB0_123.out _) | exact HI0.out)⟩, ⟨by repeat (first | (with_reducible first | exact HK.out | apply KeepBut.set_ | apply keep_drewN | apply keep_drew | apply keep_alloc | refine keep_far ?_ GW122.out _ | refine keep_far ?_ GW123.out _) | exact HK.out)⟩, ⟨by repeat (first | (with_reducible first | exact HB.out | apply below_alloc | apply pw_below_drewN | apply below_drew1 | refine below_set ?_ (IsS115.ge HI0.out) | refine below_set ?_ GE122.out | refine below_set ?_ GE123.out) | exact HB.out)⟩⟩
            case round =>
              clear H'
              try clear c1
              try clear c2
              try clear p2
              try clear c3
              try clear c4
              try clear c6
              try clear p6
              try clear c7
              try clear c9
              try clear c10
              try clear c10b0
              try clear c13
              try clear c14
              try clear c17
              try clear c18
              try clear c23
              try clear c26
              try clear c27
              try clear c35
              try clear hcz19_0
              try clear hcz22_0
              try clear hcz28_0
              try clear hcz31_0
              try clear hcz8_0
              try clear hfz19_0
              try clear hfz22_0
              try clear hfz28_0
              try clear hfz31_0
              try clear hfz8_0
              try clear p2
              obtain ⟨x1001_2, x1002_2, x124000_2, u124000, HA, HK2, HO_124000, BK122, BK123, HI0, HK, HB⟩ := hrel
              cases gk with
              | zero => exact absurd HA.out (by simp [spec_l16Draw.l1])
              | succ k2 =>
                have H := HA.out
                clear HA
                simp only [spec_l16Draw.l1] at H
                replace H := Option.bind_eq_some_iff.mp H
                obtain ⟨⟨t142, t143, t144⟩, A360, H⟩ := H
                replace H : (if (x124000_2.length : Int) < (wrap64 (29 + t142)) then (if x124000_2.length < 8796093022208 then (spec_l16Draw.l1 k2 a1 s0_0 t143 t144 (x124000_2 ++ [(⟨#[102, 117, 108, 108]⟩ : ByteArray)])) else (none)) else (spec_l16Draw.j2 k2 a1 s0_0 t143 t144 x124000_2)) = some (r1, r2, r3) := H
                have A36 := Aside0.mk A360
                clear A360
                by_cases c37 : (x124000_2.length : Int) < (wrap64 (29 + t142))
                · rw [if_pos c37] at H
                  have c37b0 : decide ((x124000_2.length : Int) < (wrap64 (29 + t142))) = true := decide_eq_true c37
                  clear c37
                  (first | rw [c37b0] | (simp only [i64_w, i32_w]; rw [c37b0]) | skip)
                  by_cases c38 : x124000_2.length < 8796093022208
                  · rw [if_pos c38] at H
                    have LMc38 := Aside0.mk c38
                    clear c38
                    obtain ⟨y145, hy145⟩ : ∃ y_ : List ByteArray, y_ = (x124000_2 ++ [(⟨#[102, 117, 108, 108]⟩ : ByteArray)]) := ⟨_, rfl⟩
                    replace H : (spec_l16Draw.l1 k2 a1 s0_0 t143 t144 y145) = some (r1, r2, r3) := by first | (rw [hy145]; with_reducible exact H) | (have H2_ := (Option.bind_some _ _).symm.trans H; rw [hy145]; with_reducible exact H2_) | (have H2_ := (Option.bind_some _ _).symm.trans H; with_reducible exact H2_) | with_reducible exact H | (rw [hy145]; exact H) | exact H
                    have Ny145 := Aside0.mk hy145
                    clear hy145
                    have H' := Aside0.mk H
                    clear H
                    try go_wp2
                    have n0_ := Aside0.mk (Kd.R_drew HO_124000.out)
                    have n1_ := Aside0.mk (blk_drew BK122.out)
                    have n2_ := Aside0.mk (blk_drew BK123.out)
                    have n3_ := Aside0.mk (IsS115.drew HI0.out)
                    have n4_ := Aside0.mk (keep_drew HK.out)
                    have n5_ := Aside0.mk (below_drew1 HB.out)
                    clear HO_124000
                    clear BK122
                    clear BK123
                    clear HI0
                    clear HK
                    clear HB
                    have HO_124000 := n0_
                    have BK122 := n1_
                    have BK123 := n2_
                    have HI0 := n3_
                    have HK := n4_
                    have HB := n5_
                    clear n0_ n1_ n2_ n3_ n4_ n5_
                    obtain ⟨Ao40, co40, eo40⟩ := Kd.R_slice HO_124000.out
                    (first | subst eo40 | (injection eo40 with f1_ f2_ f3_; have f4_ := f1_.symm; have f5_ := f3_.symm; clear f1_ f2_ f3_; subst f4_; subst f5_))
                    refine start_ (n := 7) (S := fun w' => w'.cell? ⟨gb123, 0, none⟩ = some (.slice Ao40 x124000_2.length co40)) (ds := []) #[false, false, false, false, false, false, false] (by kernel_rfl) rfl rfl ((blk_cell BK123.out 0).trans rfl) (fun hHeld => ?_)
                    generalize wr.drew = w39 at HO_124000 BK122 BK123 HI0 HK HB hHeld ⊢
                    refine pure_ (i := 0) (N := some 27) (v := ?_) (a' := ?_) #[true, false, false, false, false, false, false] rfl rfl (by kernel_rfl) (fun _ _ _ h => h) (Or.inl ⟨by rfl, ?_⟩) ?_ ?_
                    rotate_left
                    · intro w'
                      go_simp
                      with_reducible rfl
                    rotate_left
                    · simp only [Act.put, List.setIfInBounds_toArray, List.set_cons_zero, List.set_cons_succ, i64_w, i32_w]
                      rfl
                    refine pure_ (i := 3) (N := some 30) (v := ?_) (a' := ?_) #[true, false, false, true, false, false, false] rfl rfl (by kernel_rfl) (fun _ _ _ h => h) (Or.inl ⟨by rfl, ?_⟩) ?_ ?_
                    rotate_left
                    · intro w'
                      go_simp
                      with_reducible rfl
                    rotate_left
                    · simp only [Act.put, List.setIfInBounds_toArray, List.set_cons_zero, List.set_cons_succ, i64_w, i32_w]
                      rfl
                    refine take_ (i := 1) (N := some 28) (v := ?_) (a' := ?_) #[true, true, false, true, false, false, false] rfl rfl (by kernel_rfl) (fun _ _ _ h => h) (Or.inl ⟨by rfl, ?_⟩) hHeld ?_ ?_
                    rotate_left
                    · intro w' s0
                      go_simp
                      with_reducible rfl
                    rotate_left
                    · simp only [Act.put, List.setIfInBounds_toArray, List.set_cons_zero, List.set_cons_succ, i64_w, i32_w]
                      rfl
                    refine pure_ (i := 2) (N := some 29) (v := ?_) (a' := ?_) #[true, true, true, true, false, false, false] rfl rfl (by kernel_rfl) (fun _ _ _ h => h) (Or.inl ⟨by rfl, ?_⟩) ?_ ?_
                    rotate_left
                    · intro w'
                      go_simp
                      with_reducible rfl
                    rotate_left
                    · simp only [Act.put, List.setIfInBounds_toArray, List.set_cons_zero, List.set_cons_succ, i64_w, i32_w]
                      rfl
                    refine one_ (i := 4) (N := some 31) #[true, true, true, true, true, false, false] rfl rfl (by kernel_rfl) (by decide) (fun K hK => ?_)
                    refine goes_ Try.func93 (by kernel_rfl) rfl #[.pointer (some ⟨g, 0, none⟩), .int .i64 2] (by rfl) rfl rfl (by (try simp only [List.map_toArray, List.map_cons, List.map_nil]); first | done | rfl | (simp only [List.length_drop, List.length_take]; rfl)) ?_
                    with_reducible refine (spec_l00Src_pick.calls g s0_0 x1001_2 x1002_2 2 t142 t143 t144 w0 _ ?side1 ?side2 A36.out).mono ?_
                    (case side1 => repeat (first | (with_reducible first | exact HI0.out | apply IsS115.alloc | apply IsS115.drewN | apply IsS115.drew | apply IsS115.set_1 | apply IsS115.set_2 | refine IsS115.far ?_ NB0_122.out _ | refine IsS115.far ?_ NB0_123.out _) | exact HI0.out))
                    (case side2 => repeat (first | (with_reducible first | exact HB.out | apply below_alloc | apply pw_below_drewN | apply below_drew1 | refine below_set ?_ (IsS115.ge HI0.out) | refine below_set ?_ GE122.out | refine below_set ?_ GE123.out) | exact HB.out))
                    rintro e w41 ⟨rfl, hi, hb, hk⟩
                    refine ⟨_, rfl, ?_⟩
                    have n0_ := Aside0.mk (Kd.R_mono (Kd.R_keep (IsS115.apart (show IsS115 w0 _ g s0_0 x1001_2 x1002_2 from by repeat (first | (with_reducible first | exact HI0.out | apply IsS115.alloc | apply IsS115.drewN | apply IsS115.drew | apply IsS115.set_1 | apply IsS115.set_2 | refine IsS115.far ?_ NB0_122.out _ | refine IsS115.far ?_ NB0_123.out _) | exact HI0.out)) (by (with_reducible repeat (first | apply Kd.R_alloc | apply Kd.R_drewN | apply Kd.R_drew)); exact HO_124000.out) (by decide)) hk (fun _ h => h.2)) (fun _ h => h.1))
                    have n1_ := Aside0.mk (KeepBut.blk hk (g' := gb122) (o := .cells #[.slice none 0 0] 52 (0, 0)) (by (with_reducible repeat (first | refine blk_drewN ?_ _ | refine blk_drew ?_ | refine blk_alloc ?_ _)); exact BK122.out) NB122_0.out (by simp))
                    have n2_ := Aside0.mk (KeepBut.blk hk (g' := gb123) (o := .cells #[.slice Ao40 x124000_2.length co40] 52 (0, 0)) (by (with_reducible repeat (first | refine blk_drewN ?_ _ | refine blk_drew ?_ | refine blk_alloc ?_ _)); exact BK123.out) NB123_0.out (by simp))
                    have n3_ := Aside0.mk (KeepBut.trans (by repeat (first | (with_reducible first | exact HK.out | apply KeepBut.set_ | apply keep_drewN | apply keep_drew | apply keep_alloc | refine keep_far ?_ GW122.out _ | refine keep_far ?_ GW123.out _) | exact HK.out)) hk (.inl rfl))
                    have n4_ := Aside0.mk (hb)
                    have n5_ := Aside0.mk (hi)
                    clear HO_124000
                    clear BK122
                    clear BK123
                    clear HK
                    clear HB
                    clear HI0
                    have HO_124000 := n0_
                    have BK122 := n1_
                    have BK123 := n2_
                    have HK := n3_
                    have HB := n4_
                    have HI0 := n5_
                    clear n0_ n1_ n2_ n3_ n4_ n5_
                    (try clear hb)
                    (try clear hb2)
                    (try clear hk)
                    (try clear hi)
                    refine hK.out _ _ ((blk_cell BK123.out 0).trans rfl) (fun hHeld => ?_)
                    clear hK K
                    refine norm_ (a' := ?_) ?_ ?_
                    rotate_left
                    · show Act.put _ (some 31) _ = _
                      simp only [Act.put, List.setIfInBounds_toArray, List.set_cons_zero, List.set_cons_succ, i64_w, i32_w]
                      rfl
                    refine pure_ (i := 5) (N := some 32) (v := ?_) (a' := ?_) #[true, true, true, true, true, true, false] rfl rfl (by kernel_rfl) (fun _ _ _ h => h) (Or.inl ⟨by rfl, ?_⟩) ?_ ?_
                    rotate_left
                    · intro w'
                      go_simp
                      with_reducible rfl
                    rotate_left
                    · simp only [Act.put, List.setIfInBounds_toArray, List.set_cons_zero, List.set_cons_succ, i64_w, i32_w]
                      rfl
                    refine pure_ (i := 6) (N := some 33) (v := ?_) (a' := ?_) #[true, true, true, true, true, true, true] rfl rfl (by kernel_rfl) (fun _ _ _ h => h) (Or.inl ⟨by rfl, ?_⟩) ?_ ?_
                    rotate_left
                    · intro w'
                      go_simp
                      with_reducible rfl
                    rotate_left
                    · simp only [Act.put, List.setIfInBounds_toArray, List.set_cons_zero, List.set_cons_succ, i64_w, i32_w]
                      rfl
                    refine done_ (by kernel_rfl) ?_
                    have hnb42 := NB123_122.out
                    have hnc42 := NB122_123.out
                    have hnb43 := NB123_0.out
                    have hnc43 := NB0_123.out
                    have hcz44_0 : w41.cell? ⟨gb123, 0, none⟩ = some (.slice Ao40 x124000_2.length co40) := (blk_cell BK123.out 0).trans rfl
                    have hfz44_0 := blk_frozen BK123.out 0
                    try go_wp2_with (first | ((with_reducible refine gate_builtin (b := .append) (xs := #[.tmp 35, .tmp 36]) rfl ?_); (try (refine gate_guard (by rfl) ?_; dsimp only)); at_builtin; refine Kd.R_append Kd.string w.heap.size rfl (.tmp 35) (.tmp 36) 24 9 (.string ⟨#[]⟩) 16 rfl Try.underlying24 info9 rfl (by decide) (by omega) (.slice Ao40 x124000_2.length co40) x124000_2 (⟨#[102, 117, 108, 108]⟩ : ByteArray) [.string (⟨#[102, 117, 108, 108]⟩ : ByteArray)] (fun _ => True) (fun _ => False) rfl rfl ?aP (fun _ hk => hk.elim) ?aF ?aO (Below.refl _ _) ?aS ?aL ?_; (case aP => exact rfl); (case aF => exact (fun _ _ => trivial)); (case aO => exact (by (with_reducible repeat (first | apply Kd.R_alloc | apply Kd.R_drewN | apply Kd.R_drew)); exact HO_124000.out)); (case aS => exact (keep_size (w := w) (g := g) (row := none) (by repeat (first | (with_reducible first | exact HK.out | apply KeepBut.set_ | apply keep_drewN | apply keep_drew | apply keep_alloc | refine keep_far ?_ GW122.out _ | refine keep_far ?_ GW123.out _) | exact HK.out)))); (case aL => have := LMc38.out; omega); intro v146 w45 ho hb hg hat; rw [← Ny145.out] at ho; have n0_ := Aside0.mk (blk_grown (g := gb122) (o := .cells #[.slice none 0 0] 52 (0, 0)) (by (with_reducible repeat (first | refine blk_drewN ?_ _ | refine blk_drew ?_ | refine blk_alloc ?_ _)); exact BK122.out) hg (Kd.R_ne HO_124000.out BK122.out (by decide))); have n1_ := Aside0.mk (blk_grown (g := gb123) (o := .cells #[.slice Ao40 x124000_2.length co40] 52 (0, 0)) (by (with_reducible repeat (first | refine blk_drewN ?_ _ | refine blk_drew ?_ | refine blk_alloc ?_ _)); exact BK123.out) hg (Kd.R_ne HO_124000.out BK123.out (by decide))); have n2_ := Aside0.mk (IsS115.grown (show IsS115 w0 _ g s0_0 t143 t144 from by repeat (first | (with_reducible first | exact HI0.out | apply IsS115.alloc | apply IsS115.drewN | apply IsS115.drew | apply IsS115.set_1 | apply IsS115.set_2 | refine IsS115.far ?_ NB0_122.out _ | refine IsS115.far ?_ NB0_123.out _) | exact HI0.out)) hg (IsS115.own_ne HI0.out HO_124000.out (by decide))); have n3_ := Aside0.mk (below_weaken (by repeat (first | (with_reducible first | exact HB.out | apply below_alloc | apply pw_below_drewN | apply below_drew1 | refine below_set ?_ (IsS115.ge HI0.out) | refine below_set ?_ GE122.out | refine below_set ?_ GE123.out) | exact HB.out)) HL.out hb); have n4_ := Aside0.mk (KeepBut.trans (by repeat (first | (with_reducible first | exact HK.out | apply KeepBut.set_ | apply keep_drewN | apply keep_drew | apply keep_alloc | refine keep_far ?_ GW122.out _ | refine keep_far ?_ GW123.out _) | exact HK.out)) (KeepBut.of_grown hg g) (Kd.R_base2 HO_124000.out)); have n5_ := Aside0.mk (ho); clear BK122; clear BK123; clear HI0; clear HB; clear HK; clear HO_124000; have BK122 := n0_; have BK123 := n1_; have HI0 := n2_; have HB := n3_; have HK := n4_; have HO147 := n5_; clear n0_ n1_ n2_ n3_ n4_ n5_; clear ho hb hg hat; obtain ⟨Ao46, co46, eo46⟩ := Kd.R_slice HO147.out; subst eo46; have hcz47_0 : w45.cell? ⟨gb123, 0, none⟩ = some (.slice Ao40 x124000_2.length co40) := (blk_cell BK123.out 0).trans rfl; have hfz47_0 := blk_frozen BK123.out 0))
                    go_roundg k2
                    case measure => have := HK1.out; have := HK2.out; omega
                    case rel => exact ⟨(t143), (t144), (y145), (.slice Ao46 y145.length co46), H', ⟨by have := HK1.out; have := HK2.out; omega⟩, ⟨by (with_reducible repeat (first | apply Kd.R_alloc | apply Kd.R_drewN | apply Kd.R_drew)); exact Kd.R_mono (Kd.R_far (p := ⟨gb123, 0, none⟩) (Kd.R_types HO147.out BK123.out (by decide)) (fun _ hk => hk.2) (.slice Ao46 y145.length co46)) (fun _ hk => trivial)⟩, ⟨by (with_reducible repeat (first | refine blk_drewN ?_ _ | refine blk_drew ?_ | refine blk_alloc ?_ _)); refine blk_far ?_ NB122_123.out _; (with_reducible repeat (first | refine blk_drewN ?_ _ | refine blk_drew ?_ | refine blk_alloc ?_ _)); exact BK122.out⟩, ⟨by (with_reducible repeat (first | refine blk_drewN ?_ _ | refine blk_drew ?_ | refine blk_alloc ?_ _)); refine blk_put (cs := #[.slice Ao40 x124000_2.length co40]) ?_ 0 _ rfl; (with_reducible repeat (first | refine blk_drewN ?_ _ | refine blk_drew ?_ | refine blk_alloc ?_ _)); exact BK123.out⟩, ⟨by repeat (first | (with_reducible first | exact HI0.out | apply IsS115.alloc | apply IsS115.drewN | apply IsS115.drew | apply IsS115.set_1 | apply IsS115.set_2 | refine IsS115.far ?_ NB0_122.out _ | refine IsS115.far ?_ NB0_123.out _) | exact HI0.out)⟩, ⟨by repeat (first | (with_reducible first | exact HK.out | apply KeepBut.set_ | apply keep_drewN | apply keep_drew | apply keep_alloc | refine keep_far ?_ GW122.out _ | refine keep_far ?_ GW123.out _) | exact HK.out)⟩, ⟨by repeat (first | (with_reducible first | exact HB.out | apply below_alloc | apply pw_below_drewN | apply below_drew1 | refine below_set ?_ (IsS115.ge HI0.out) | refine below_set ?_ GE122.out | refine below_set ?_ GE123.out) | exact HB.out)⟩⟩
                  · rw [if_neg c38] at H
                    exact absurd H (by simp)
                · rw [if_neg c37] at H
                  have c37b0 : decide ((x124000_2.length : Int) < (wrap64 (29 + t142))) = false := decide_eq_false c37
                  clear c37
                  (first | rw [c37b0] | (simp only [i64_w, i32_w]; rw [c37b0]) | skip)
                  have H' := Aside0.mk H
                  clear H
                  try go_wp2
                  have n0_ := Aside0.mk (Kd.R_drew HO_124000.out)
                  have n1_ := Aside0.mk (blk_drew BK122.out)
                  have n2_ := Aside0.mk (blk_drew BK123.out)
                  have n3_ := Aside0.mk (IsS115.drew HI0.out)
                  have n4_ := Aside0.mk (keep_drew HK.out)
                  have n5_ := Aside0.mk (below_drew1 HB.out)
                  clear HO_124000
                  clear BK122
                  clear BK123
                  clear HI0
                  clear HK
                  clear HB
                  have HO_124000 := n0_
                  have BK122 := n1_
                  have BK123 := n2_
                  have HI0 := n3_
                  have HK := n4_
                  have HB := n5_
                  clear n0_ n1_ n2_ n3_ n4_ n5_
                  obtain ⟨Ao49, co49, eo49⟩ := Kd.R_slice HO_124000.out
                  (first | subst eo49 | (injection eo49 with f1_ f2_ f3_; have f4_ := f1_.symm; have f5_ := f3_.symm; clear f1_ f2_ f3_; subst f4_; subst f5_))
                  refine start_ (n := 7) (S := fun w' => w'.cell? ⟨gb123, 0, none⟩ = some (.slice Ao49 x124000_2.length co49)) (ds := []) #[false, false, false, false, false, false, false] (by kernel_rfl) rfl rfl ((blk_cell BK123.out 0).trans rfl) (fun hHeld => ?_)
                  generalize wr.drew = w48 at HO_124000 BK122 BK123 HI0 HK HB hHeld ⊢
                  refine pure_ (i := 0) (N := some 27) (v := ?_) (a' := ?_) #[true, false, false, false, false, false, false] rfl rfl (by kernel_rfl) (fun _ _ _ h => h) (Or.inl ⟨by rfl, ?_⟩) ?_ ?_
                  rotate_left
                  · intro w'
                    go_simp
                    with_reducible rfl
                  rotate_left
                  · simp only [Act.put, List.setIfInBounds_toArray, List.set_cons_zero, List.set_cons_succ, i64_w, i32_w]
                    rfl
                  refine pure_ (i := 3) (N := some 30) (v := ?_) (a' := ?_) #[true, false, false, true, false, false, false] rfl rfl (by kernel_rfl) (fun _ _ _ h => h) (Or.inl ⟨by rfl, ?_⟩) ?_ ?_
                  rotate_left
                  · intro w'
                    go_simp
                    with_reducible rfl
                  rotate_left
                  · simp only [Act.put, List.setIfInBounds_toArray, List.set_cons_zero, List.set_cons_succ, i64_w, i32_w]
                    rfl
                  refine take_ (i := 1) (N := some 28) (v := ?_) (a' := ?_) #[true, true, false, true, false, false, false] rfl rfl (by kernel_rfl) (fun _ _ _ h => h) (Or.inl ⟨by rfl, ?_⟩) hHeld ?_ ?_
                  rotate_left
                  · intro w' s0
                    go_simp
                    with_reducible rfl
                  rotate_left
                  · simp only [Act.put, List.setIfInBounds_toArray, List.set_cons_zero, List.set_cons_succ, i64_w, i32_w]
                    rfl
                  refine pure_ (i := 2) (N := some 29) (v := ?_) (a' := ?_) #[true, true, true, true, false, false, false] rfl rfl (by kernel_rfl) (fun _ _ _ h => h) (Or.inl ⟨by rfl, ?_⟩) ?_ ?_
                  rotate_left
                  · intro w'
                    go_simp
                    with_reducible rfl
                  rotate_left
                  · simp only [Act.put, List.setIfInBounds_toArray, List.set_cons_zero, List.set_cons_succ, i64_w, i32_w]
                    rfl
                  refine one_ (i := 4) (N := some 31) #[true, true, true, true, true, false, false] rfl rfl (by kernel_rfl) (by decide) (fun K hK => ?_)
                  refine goes_ Try.func93 (by kernel_rfl) rfl #[.pointer (some ⟨g, 0, none⟩), .int .i64 2] (by rfl) rfl rfl (by (try simp only [List.map_toArray, List.map_cons, List.map_nil]); first | done | rfl | (simp only [List.length_drop, List.length_take]; rfl)) ?_
                  with_reducible refine (spec_l00Src_pick.calls g s0_0 x1001_2 x1002_2 2 t142 t143 t144 w0 _ ?side1 ?side2 A36.out).mono ?_
                  (case side1 => repeat (first | (with_reducible first | exact HI0.out | apply IsS115.alloc | apply IsS115.drewN | apply IsS115.drew | apply IsS115.set_1 | apply IsS115.set_2 | refine IsS115.far ?_ NB0_122.out _ | refine IsS115.far ?_ NB0_123.out _) | exact HI0.out))
                  (case side2 => repeat (first | (with_reducible first | exact HB.out | apply below_alloc | apply pw_below_drewN | apply below_drew1 | refine below_set ?_ (IsS115.ge HI0.out) | refine below_set ?_ GE122.out | refine below_set ?_ GE123.out) | exact HB.out))
                  rintro e w50 ⟨rfl, hi, hb, hk⟩
                  refine ⟨_, rfl, ?_⟩
                  have n0_ := Aside0.mk (Kd.R_mono (Kd.R_keep (IsS115.apart (show IsS115 w0 _ g s0_0 x1001_2 x1002_2 from by repeat (first | (with_reducible first | exact HI0.out | apply IsS115.alloc | apply IsS115.drewN | apply IsS115.drew | apply IsS115.set_1 | apply IsS115.set_2 | refine IsS115.far ?_ NB0_122.out _ | refine IsS115.far ?_ NB0_123.out _) | exact HI0.out)) (by (with_reducible repeat (first | apply Kd.R_alloc | apply Kd.R_drewN | apply Kd.R_drew)); exact HO_124000.out) (by decide)) hk (fun _ h => h.2)) (fun _ h => h.1))
                  have n1_ := Aside0.mk (KeepBut.blk hk (g' := gb122) (o := .cells #[.slice none 0 0] 52 (0, 0)) (by (with_reducible repeat (first | refine blk_drewN ?_ _ | refine blk_drew ?_ | refine blk_alloc ?_ _)); exact BK122.out) NB122_0.out (by simp))
                  have n2_ := Aside0.mk (KeepBut.blk hk (g' := gb123) (o := .cells #[.slice Ao49 x124000_2.length co49] 52 (0, 0)) (by (with_reducible repeat (first | refine blk_drewN ?_ _ | refine blk_drew ?_ | refine blk_alloc ?_ _)); exact BK123.out) NB123_0.out (by simp))
                  have n3_ := Aside0.mk (KeepBut.trans (by repeat (first | (with_reducible first | exact HK.out | apply KeepBut.set_ | apply keep_drewN | apply keep_drew | apply keep_alloc | refine keep_far ?_ GW122.out _ | refine keep_far ?_ GW123.out _) | exact HK.out)) hk (.inl rfl))
                  have n4_ := Aside0.mk (hb)
                  have n5_ := Aside0.mk (hi)
                  clear HO_124000
                  clear BK122
                  clear BK123
                  clear HK
                  clear HB
                  clear HI0
                  have HO_124000 := n0_
                  have BK122 := n1_
                  have BK123 := n2_
                  have HK := n3_
                  have HB := n4_
                  have HI0 := n5_
                  clear n0_ n1_ n2_ n3_ n4_ n5_
                  (try clear hb)
                  (try clear hb2)
                  (try clear hk)
                  (try clear hi)
                  refine hK.out _ _ ((blk_cell BK123.out 0).trans rfl) (fun hHeld => ?_)
                  clear hK K
                  refine norm_ (a' := ?_) ?_ ?_
                  rotate_left
                  · show Act.put _ (some 31) _ = _
                    simp only [Act.put, List.setIfInBounds_toArray, List.set_cons_zero, List.set_cons_succ, i64_w, i32_w]
                    rfl
                  refine pure_ (i := 5) (N := some 32) (v := ?_) (a' := ?_) #[true, true, true, true, true, true, false] rfl rfl (by kernel_rfl) (fun _ _ _ h => h) (Or.inl ⟨by rfl, ?_⟩) ?_ ?_
                  rotate_left
                  · intro w'
                    go_simp
                    with_reducible rfl
                  rotate_left
                  · simp only [Act.put, List.setIfInBounds_toArray, List.set_cons_zero, List.set_cons_succ, i64_w, i32_w]
                    rfl
                  refine pure_ (i := 6) (N := some 33) (v := ?_) (a' := ?_) #[true, true, true, true, true, true, true] rfl rfl (by kernel_rfl) (fun _ _ _ h => h) (Or.inl ⟨by rfl, ?_⟩) ?_ ?_
                  rotate_left
                  · intro w'
                    go_simp
                    with_reducible rfl
                  rotate_left
                  · simp only [Act.put, List.setIfInBounds_toArray, List.set_cons_zero, List.set_cons_succ, i64_w, i32_w]
                    rfl
                  refine done_ (by kernel_rfl) ?_
                  try go_wp2
                  go_meet
                  case rel => exact ⟨_, (t143), (t144), (x124000_2), (.slice Ao49 x124000_2.length co49), H', ⟨by have := HK1.out; have := HK2.out; first | omega | exact Nat.le_refl _⟩, ⟨by (with_reducible repeat (first | apply Kd.R_alloc | apply Kd.R_drewN | apply Kd.R_drew)); exact HO_124000.out⟩, ⟨by (with_reducible repeat (first | refine blk_drewN ?_ _ | refine blk_drew ?_ | refine blk_alloc ?_ _)); exact BK122.out⟩, ⟨by (with_reducible repeat (first | refine blk_drewN ?_ _ | refine blk_drew ?_ | refine blk_alloc ?_ _)); exact BK123.out⟩, ⟨by repeat (first | (with_reducible first | exact HI0.out | apply IsS115.alloc | apply IsS115.drewN | apply IsS115.drew | apply IsS115.set_1 | apply IsS115.set_2 | refine IsS115.far ?_ NB0_122.out _ | refine IsS115.far ?_ NB0_123.out _) | exact HI0.out)⟩, ⟨by repeat (first | (with_reducible first | exact HK.out | apply KeepBut.set_ | apply keep_drewN | apply keep_drew | apply keep_alloc | refine keep_far ?_ GW122.out _ | refine keep_far ?_ GW123.out _) | exact HK.out)⟩, ⟨by repeat (first | (with_reducible first | exact HB.out | apply below_alloc | apply pw_below_drewN | apply below_drew1 | refine below_set ?_ (IsS115.ge HI0.out) | refine below_set ?_ GE122.out | refine below_set ?_ GE123.out) | exact HB.out)⟩⟩
          · replace c35 := Bool.eq_false_iff.mpr c35
            subst c35
            have H1 : (spec_l16Draw.j2 k1 a1 s0_0 t140 t141 x124000_1) = some (r1, r2, r3) := by rw [if_neg (show ¬ (false = true) by decide)] at H; exact H
            clear H
            have H := H1
            clear H1
            have H' := Aside0.mk H
            clear H
            go_wp2
            go_meet
            case rel => exact ⟨_, (t140), (t141), (x124000_1), (u124000), H', ⟨by have := HK1.out; first | omega | exact Nat.le_refl _⟩, ⟨by (with_reducible repeat (first | apply Kd.R_alloc | apply Kd.R_drewN | apply Kd.R_drew)); exact HO_124000.out⟩, ⟨by (with_reducible repeat (first | refine blk_drewN ?_ _ | refine blk_drew ?_ | refine blk_alloc ?_ _)); exact BK122.out⟩, ⟨by (with_reducible repeat (first | refine blk_drewN ?_ _ | refine blk_drew ?_ | refine blk_alloc ?_ _)); exact BK123.out⟩, ⟨by repeat (first | (with_reducible first | exact HI0.out | apply IsS115.alloc | apply IsS115.drewN | apply IsS115.drew | apply IsS115.set_1 | apply IsS115.set_2 | refine IsS115.far ?_ NB0_122.out _ | refine IsS115.far ?_ NB0_123.out _) | exact HI0.out)⟩, ⟨by repeat (first | (with_reducible first | exact HK.out | apply KeepBut.set_ | apply keep_drewN | apply keep_drew | apply keep_alloc | refine keep_far ?_ GW122.out _ | refine keep_far ?_ GW123.out _) | exact HK.out)⟩, ⟨by repeat (first | (with_reducible first | exact HB.out | apply below_alloc | apply pw_below_drewN | apply below_drew1 | refine below_set ?_ (IsS115.ge HI0.out) | refine below_set ?_ GE122.out | refine below_set ?_ GE123.out) | exact HB.out)⟩⟩
        case rest =>
          clear HC33
          try clear c1
          try clear c2
          try clear p2
          try clear c3
          try clear c4
          try clear c6
          try clear p6
          try clear c7
          try clear c9
          try clear c10
          try clear c10b0
          try clear c13
          try clear c14
          try clear c17
          try clear c18
          try clear c23
          try clear c26
          try clear c27
          try clear c35
          try clear c37
          try clear c37b0
          try clear c38
          try clear c42
          try clear c43
          try clear hcz19_0
          try clear hcz22_0
          try clear hcz28_0
          try clear hcz31_0
          try clear hcz44_0
          try clear hcz47_0
          try clear hcz8_0
          try clear hfz19_0
          try clear hfz22_0
          try clear hfz28_0
          try clear hfz31_0
          try clear hfz44_0
          try clear hfz47_0
          try clear hfz8_0
          try clear p2
          try clear p6
          obtain ⟨kq, x1001_32, x1002_32, x124000_32, u124000, HA, HJ32, HO_124000, BK122, BK123, HI0, HK, HB⟩ := hcut
          cases kq with
          | zero => exact absurd HA.out (by simp [spec_l16Draw.j2])
          | succ kj32 =>
            have H := HA.out
            clear HA
            simp only [spec_l16Draw.j2] at H
            have HC51 := Aside0.mk H
            clear H
            go_upto_region 12 with (fail)
            go_cut [53] (fun v53 wc => ∃ (kq : Nat) (x53_50 : Bool), v53 = .bool x53_50 ∧ Aside0 (spec_l16Draw.j3 kq a1 x53_50 s0_0 x1001_32 x1002_32 x124000_32 = some (r1, r2, r3)) ∧ Aside0 (kq ≤ kj32) ∧ Aside0 (Kd.R Kd.string 9 wc w.heap.size (fun _ => True) u124000 x124000_32) ∧ Aside0 (wc.heap[gb122]? = some (.cells #[(.slice none 0 0)] 52 (0, 0))) ∧ Aside0 (wc.heap[gb123]? = some (.cells #[u124000] 52 (0, 0))) ∧ Aside0 (IsS115 w0 wc g s0_0 x1001_32 x1002_32) ∧ Aside0 (KeepBut w wc g none) ∧ Aside0 (Below w0.heap.size w0 wc))
            case first =>
              have H := HC51.out
              clear HC51
              by_cases c52 : (x124000_32.length : Int) > 0
              · rw [if_pos c52] at H
                have c52b0 : decide (0 < (x124000_32.length : Int)) = true := decide_eq_true c52
                have c52b1 : decide (0 < x124000_32.length) = true := decide_eq_true (by omega)
                clear c52
                (first | rw [c52b0] | (simp only [i64_w, i32_w]; rw [c52b0]) | skip)
                obtain ⟨ji53, hji53⟩ : ∃ j_ : Int, (wrap64 ((x124000_32.length : Int) - 1)) = j_ := ⟨_, rfl⟩
                replace H : (if 0 ≤ (ji53) then (if (ji53) < (x124000_32.length : Int) then (spec_l16Draw.j3 kj32 a1 ((rdOf ByteArray.empty x124000_32 (ji53)).toList == ([] : List UInt8)) s0_0 x1001_32 x1002_32 x124000_32) else (none)) else (none)) = some (r1, r2, r3) := by first | (rw [hji53] at H; exact H) | (simp only [hji53] at H ⊢; exact H)
                have hji53w : (IntKind.i64.wrap ((x124000_32.length : Int) - 1)) = ji53 := (i64_w _).trans hji53
                by_cases c54 : 0 ≤ (ji53)
                · rw [if_pos c54] at H
                  have c54b0 : decide (0 ≤ (ji53)) = true := decide_eq_true c54
                  clear c54
                  by_cases c55 : (ji53) < (x124000_32.length : Int)
                  · rw [if_pos c55] at H
                    have c55b0 : decide ((ji53) < (x124000_32.length : Int)) = true := decide_eq_true c55
                    clear c55
                    have H' := Aside0.mk H
                    clear H
                    have hnb56 := NB123_122.out
                    have hnc56 := NB122_123.out
                    have hnb57 := NB123_0.out
                    have hnc57 := NB0_123.out
                    have hcz58_0 : wc.cell? ⟨gb123, 0, none⟩ = some (u124000) := (blk_cell BK123.out 0).trans rfl
                    have hfz58_0 := blk_frozen BK123.out 0
                    obtain ⟨Ao59, co59, eo59⟩ := Kd.R_slice HO_124000.out
                    subst eo59
                    have p148 : 0 ≤ ((ji53) : Int) := of_decide_eq_true (by first | (with_reducible assumption) | assumption)
                    have q148 : (ji53) < (x124000_32.length : Int) := of_decide_eq_true (by first | (with_reducible assumption) | assumption)
                    obtain ⟨ad148, e148, hx148_0⟩ := Kd.at_string (Kd.R_reads' HO_124000.out).2.2 (ji53) p148 q148
                    cases e148
                    replace p148 := eq_true p148
                    replace q148 := eq_true q148
                    go_wp2
                    go_meet
                    case rel => exact ⟨_, (((rdOf ByteArray.empty x124000_32 (ji53)).toList == ([] : List UInt8))), (by first | rfl | (simp; done) | (simp only [← hji53] <;> (first | rfl | simp)) | (simp [*]; done)), H', ⟨by have := HK1.out; have := HJ32.out; first | omega | exact Nat.le_refl _⟩, ⟨by (with_reducible repeat (first | apply Kd.R_alloc | apply Kd.R_drewN | apply Kd.R_drew)); exact HO_124000.out⟩, ⟨by (with_reducible repeat (first | refine blk_drewN ?_ _ | refine blk_drew ?_ | refine blk_alloc ?_ _)); exact BK122.out⟩, ⟨by (with_reducible repeat (first | refine blk_drewN ?_ _ | refine blk_drew ?_ | refine blk_alloc ?_ _)); exact BK123.out⟩, ⟨by repeat (first | (with_reducible first | exact HI0.out | apply IsS115.alloc | apply IsS115.drewN | apply IsS115.drew | apply IsS115.set_1 | apply IsS115.set_2 | refine IsS115.far ?_ NB0_122.out _ | refine IsS115.far ?_ NB0_123.out _) | exact HI0.out)⟩, ⟨by repeat (first | (with_reducible first | exact HK.out | apply KeepBut.set_ | apply keep_drewN | apply keep_drew | apply keep_alloc | refine keep_far ?_ GW122.out _ | refine keep_far ?_ GW123.out _) | exact HK.out)⟩, ⟨by repeat (first | (with_reducible first | exact HB.out | apply below_alloc | apply pw_below_drewN | apply below_drew1 | refine below_set ?_ (IsS115.ge HI0.out) | refine below_set ?_ GE122.out | refine below_set ?_ GE123.out) | exact HB.out)⟩⟩
                  · rw [if_neg c55] at H
                    exact absurd H (by simp)
                · rw [if_neg c54] at H
                  exact absurd H (by simp)
              · rw [if_neg c52] at H
                have c52b0 : decide (0 < (x124000_32.length : Int)) = false := decide_eq_false c52
                have c52b1 : decide (0 < x124000_32.length) = false := decide_eq_false (by omega)
                clear c52
                (first | rw [c52b0] | (simp only [i64_w, i32_w]; rw [c52b0]) | skip)
                have H' := Aside0.mk H
                clear H
                have hnb60 := NB123_122.out
                have hnc60 := NB122_123.out
                have hnb61 := NB123_0.out
                have hnc61 := NB0_123.out
                have hcz62_0 : wc.cell? ⟨gb123, 0, none⟩ = some (u124000) := (blk_cell BK123.out 0).trans rfl
                have hfz62_0 := blk_frozen BK123.out 0
                obtain ⟨Ao63, co63, eo63⟩ := Kd.R_slice HO_124000.out
                subst eo63
                go_wp2
                go_meet
                case rel => exact ⟨_, (false), (by first | rfl | (simp; done) | (simp [*]; done)), H', ⟨by have := HK1.out; have := HJ32.out; first | omega | exact Nat.le_refl _⟩, ⟨by (with_reducible repeat (first | apply Kd.R_alloc | apply Kd.R_drewN | apply Kd.R_drew)); exact HO_124000.out⟩, ⟨by (with_reducible repeat (first | refine blk_drewN ?_ _ | refine blk_drew ?_ | refine blk_alloc ?_ _)); exact BK122.out⟩, ⟨by (with_reducible repeat (first | refine blk_drewN ?_ _ | refine blk_drew ?_ | refine blk_alloc ?_ _)); exact BK123.out⟩, ⟨by repeat (first | (with_reducible first | exact HI0.out | apply IsS115.alloc | apply IsS115.drewN | apply IsS115.drew | apply IsS115.set_1 | apply IsS115.set_2 | refine IsS115.far ?_ NB0_122.out _ | refine IsS115.far ?_ NB0_123.out _) | exact HI0.out)⟩, ⟨by repeat (first | (with_reducible first | exact HK.out | apply KeepBut.set_ | apply keep_drewN | apply keep_drew | apply keep_alloc | refine keep_far ?_ GW122.out _ | refine keep_far ?_ GW123.out _) | exact HK.out)⟩, ⟨by repeat (first | (with_reducible first | exact HB.out | apply below_alloc | apply pw_below_drewN | apply below_drew1 | refine below_set ?_ (IsS115.ge HI0.out) | refine below_set ?_ GE122.out | refine below_set ?_ GE123.out) | exact HB.out)⟩⟩
            case rest =>
              clear HC51
              try clear c1
              try clear p1
              try clear q1
              try clear hx1
              try clear c2
              try clear p2
              try clear c3
              try clear c4
              try clear c5
              try clear c6
              try clear p6
              try clear c7
              try clear c9
              try clear c10
              try clear c10b0
              try clear c13
              try clear c14
              try clear p14
              try clear q14
              try clear hx14
              try clear c17
              try clear c18
              try clear c23
              try clear c26
              try clear c27
              try clear c35
              try clear c37
              try clear c37b0
              try clear c38
              try clear c42
              try clear c43
              try clear c52
              try clear c52b0
              try clear c52b1
              try clear c54
              try clear c54b0
              try clear c55
              try clear c55b0
              try clear c56
              try clear c57
              try clear c60
              try clear c61
              try clear hcz19_0
              try clear hcz22_0
              try clear hcz28_0
              try clear hcz31_0
              try clear hcz44_0
              try clear hcz47_0
              try clear hcz58_0
              try clear hcz62_0
              try clear hcz8_0
              try clear hfz19_0
              try clear hfz22_0
              try clear hfz28_0
              try clear hfz31_0
              try clear hfz44_0
              try clear hfz47_0
              try clear hfz58_0
              try clear hfz62_0
              try clear hfz8_0
              try clear hx148_0
              try clear p148
              try clear p2
              try clear p6
              try clear q148
              obtain ⟨kq, x53_50, rfl, HA, HJ50, HO_124000, BK122, BK123, HI0, HK, HB⟩ := hcut
              cases kq with
              | zero => exact absurd HA.out (by simp [spec_l16Draw.j3])
              | succ kj50 =>
                have H := HA.out
                clear HA
                simp only [spec_l16Draw.j3] at H
                have HC64 := Aside0.mk H
                clear H
                go_upto_if 53 with (fail)
                go_cut [] (fun wc => ∃ (kq : Nat) (x1001_63 : Int) (x1002_63 : Int) (x124000_63 : List ByteArray) (u124000 : Value), Aside0 (spec_l16Draw.j4 kq a1 s0_0 x1001_63 x1002_63 x124000_63 = some (r1, r2, r3)) ∧ Aside0 (kq ≤ kj50) ∧ Aside0 (Kd.R Kd.string 9 wc w.heap.size (fun _ => True) u124000 x124000_63) ∧ Aside0 (wc.heap[gb122]? = some (.cells #[(.slice none 0 0)] 52 (0, 0))) ∧ Aside0 (wc.heap[gb123]? = some (.cells #[u124000] 52 (0, 0))) ∧ Aside0 (IsS115 w0 wc g s0_0 x1001_63 x1002_63) ∧ Aside0 (KeepBut w wc g none) ∧ Aside0 (Below w0.heap.size w0 wc))
                case first =>
                  have H := HC64.out
                  clear HC64
                  by_cases c65 : x53_50 = true
                  · subst c65
                    have H1 : ((spec_l02DrawName.f s0_0 x1001_32 x1002_32).bind fun bt149 => (if x124000_32.length < 8796093022208 then (spec_l16Draw.j4 kj50 a1 s0_0 bt149.2.1 bt149.2.2 (x124000_32 ++ [bt149.1])) else (none))) = some (r1, r2, r3) := by rw [if_pos rfl] at H; exact H
                    clear H
                    have H := H1
                    clear H1
                    replace H := Option.bind_eq_some_iff.mp H
                    obtain ⟨⟨t149, t150, t151⟩, A660, H⟩ := H
                    replace H : (if x124000_32.length < 8796093022208 then (spec_l16Draw.j4 kj50 a1 s0_0 t150 t151 (x124000_32 ++ [t149])) else (none)) = some (r1, r2, r3) := H
                    have A66 := Aside0.mk A660
                    clear A660
                    by_cases c67 : x124000_32.length < 8796093022208
                    · rw [if_pos c67] at H
                      have LMc67 := Aside0.mk c67
                      clear c67
                      obtain ⟨y152, hy152⟩ : ∃ y_ : List ByteArray, y_ = (x124000_32 ++ [t149]) := ⟨_, rfl⟩
                      replace H : (spec_l16Draw.j4 kj50 a1 s0_0 t150 t151 y152) = some (r1, r2, r3) := by first | (rw [hy152]; with_reducible exact H) | (have H2_ := (Option.bind_some _ _).symm.trans H; rw [hy152]; with_reducible exact H2_) | (have H2_ := (Option.bind_some _ _).symm.trans H; with_reducible exact H2_) | with_reducible exact H | (rw [hy152]; exact H) | exact H
                      have Ny152 := Aside0.mk hy152
                      clear hy152
                      have H' := Aside0.mk H
                      clear H
                      try go_wp2
                      have n0_ := Aside0.mk (Kd.R_drew HO_124000.out)
                      have n1_ := Aside0.mk (blk_drew BK122.out)
                      have n2_ := Aside0.mk (blk_drew BK123.out)
                      have n3_ := Aside0.mk (IsS115.drew HI0.out)
                      have n4_ := Aside0.mk (keep_drew HK.out)
                      have n5_ := Aside0.mk (below_drew1 HB.out)
                      clear HO_124000
                      clear BK122
                      clear BK123
                      clear HI0
                      clear HK
                      clear HB
                      have HO_124000 := n0_
                      have BK122 := n1_
                      have BK123 := n2_
                      have HI0 := n3_
                      have HK := n4_
                      have HB := n5_
                      clear n0_ n1_ n2_ n3_ n4_ n5_
                      refine start_ (n := 8) (S := fun w' => w'.cell? ⟨gb123, 0, none⟩ = some (u124000)) (ds := [7]) #[false, false, false, false, false, false, false, false] (by kernel_rfl) rfl rfl ((blk_cell BK123.out 0).trans rfl) (fun hHeld => ?_); refine with_tabW spec_l16Draw.tab13 spec_l16Draw.bits13 (fun HT_ HW_ => ?_)
                      generalize wc.drew = w68 at HO_124000 BK122 BK123 HI0 HK HB hHeld ⊢
                      refine pure_ (i := 0) (N := some 54) (v := ?_) (a' := ?_) #[true, false, false, false, false, false, false, false] rfl rfl (any_of HT_.out (by kernel_rfl)) (fun _ _ _ h => h) (Or.inl ⟨by rfl, ?_⟩) ?_ ?_
                      rotate_left
                      · intro w'
                        go_simp
                        with_reducible rfl
                      rotate_left
                      · simp only [Act.put, List.setIfInBounds_toArray, List.set_cons_zero, List.set_cons_succ, i64_w, i32_w]
                        rfl
                      refine pure_ (i := 2) (N := some 56) (v := ?_) (a' := ?_) #[true, false, true, false, false, false, false, false] rfl rfl (any_of HT_.out (by kernel_rfl)) (fun _ _ _ h => h) (Or.inl ⟨by rfl, ?_⟩) ?_ ?_
                      rotate_left
                      · intro w'
                        go_simp
                        with_reducible rfl
                      rotate_left
                      · simp only [Act.put, List.setIfInBounds_toArray, List.set_cons_zero, List.set_cons_succ, i64_w, i32_w]
                        rfl
                      refine take_ (i := 1) (N := some 55) (v := ?_) (a' := ?_) #[true, true, true, false, false, false, false, false] rfl rfl (take_ofW HT_.out HW_.out (by kernel_rfl)) (fun _ _ _ h => h) (Or.inl ⟨by rfl, ?_⟩) hHeld ?_ ?_
                      rotate_left
                      · intro w' s0
                        go_simp
                        with_reducible rfl
                      rotate_left
                      · simp only [Act.put, List.setIfInBounds_toArray, List.set_cons_zero, List.set_cons_succ, i64_w, i32_w]
                        rfl
                      refine one_ (i := 3) (N := some 57) #[true, true, true, true, false, false, false, false] rfl rfl (one_of HT_.out (by kernel_rfl)) (by decide) (fun K hK => ?_)
                      refine goes_ Try.func77 (by kernel_rfl) rfl #[.pointer (some ⟨g, 0, none⟩)] (by rfl) rfl rfl (by (try simp only [List.map_toArray, List.map_cons, List.map_nil]); first | done | rfl | (simp only [List.length_drop, List.length_take]; rfl)) ?_
                      with_reducible refine (spec_l02DrawName.calls g s0_0 x1001_32 x1002_32 t149 t150 t151 w0 _ ?side1 ?side2 A66.out).mono ?_
                      (case side1 => repeat (first | (with_reducible first | exact HI0.out | apply IsS115.alloc | apply IsS115.drewN | apply IsS115.drew | apply IsS115.set_1 | apply IsS115.set_2 | refine IsS115.far ?_ NB0_122.out _ | refine IsS115.far ?_ NB0_123.out _) | exact HI0.out))
                      (case side2 => repeat (first | (with_reducible first | exact HB.out | apply below_alloc | apply pw_below_drewN | apply below_drew1 | refine below_set ?_ (IsS115.ge HI0.out) | refine below_set ?_ GE122.out | refine below_set ?_ GE123.out) | exact HB.out))
                      rintro e w69 ⟨rfl, hi, hb, hk⟩
                      refine ⟨_, rfl, ?_⟩
                      have n0_ := Aside0.mk (Kd.R_mono (Kd.R_keep (IsS115.apart (show IsS115 w0 _ g s0_0 x1001_32 x1002_32 from by repeat (first | (with_reducible first | exact HI0.out | apply IsS115.alloc | apply IsS115.drewN | apply IsS115.drew | apply IsS115.set_1 | apply IsS115.set_2 | refine IsS115.far ?_ NB0_122.out _ | refine IsS115.far ?_ NB0_123.out _) | exact HI0.out)) (by (with_reducible repeat (first | apply Kd.R_alloc | apply Kd.R_drewN | apply Kd.R_drew)); exact HO_124000.out) (by decide)) hk (fun _ h => h.2)) (fun _ h => h.1))
                      have n1_ := Aside0.mk (KeepBut.blk hk (g' := gb122) (o := .cells #[.slice none 0 0] 52 (0, 0)) (by (with_reducible repeat (first | refine blk_drewN ?_ _ | refine blk_drew ?_ | refine blk_alloc ?_ _)); exact BK122.out) NB122_0.out (by simp))
                      have n2_ := Aside0.mk (KeepBut.blk hk (g' := gb123) (o := .cells #[u124000] 52 (0, 0)) (by (with_reducible repeat (first | refine blk_drewN ?_ _ | refine blk_drew ?_ | refine blk_alloc ?_ _)); exact BK123.out) NB123_0.out (by simp))
                      have n3_ := Aside0.mk (KeepBut.trans (by repeat (first | (with_reducible first | exact HK.out | apply KeepBut.set_ | apply keep_drewN | apply keep_drew | apply keep_alloc | refine keep_far ?_ GW122.out _ | refine keep_far ?_ GW123.out _) | exact HK.out)) hk (.inl rfl))
                      have n4_ := Aside0.mk (hb)
                      have n5_ := Aside0.mk (hi)
                      clear HO_124000
                      clear BK122
                      clear BK123
                      clear HK
                      clear HB
                      clear HI0
                      have HO_124000 := n0_
                      have BK122 := n1_
                      have BK123 := n2_
                      have HK := n3_
                      have HB := n4_
                      have HI0 := n5_
                      clear n0_ n1_ n2_ n3_ n4_ n5_
                      (try clear hb)
                      (try clear hb2)
                      (try clear hk)
                      (try clear hi)
                      refine hK.out _ _ ((blk_cell BK123.out 0).trans rfl) (fun hHeld => ?_)
                      clear hK K
                      refine norm_ (a' := ?_) ?_ ?_
                      rotate_left
                      · show Act.put _ (some 57) _ = _
                        simp only [Act.put, List.setIfInBounds_toArray, List.set_cons_zero, List.set_cons_succ, i64_w, i32_w]
                        rfl
                      refine one_ (i := 4) (N := some 58) #[true, true, true, true, true, false, false, false] rfl rfl (one_of HT_.out (by kernel_rfl)) (by decide) (fun K hK => ?_)
                      refine value_ (w1 := ?_) (v := ?_) (by rfl) rfl ?_ ?_
                      rotate_left 2
                      · go_simp
                        constructor
                        · rfl
                        · rfl
                      refine hK.out _ _ ((blk_cell (blk_alloc BK123.out _) 0).trans rfl) (fun hHeld => ?_)
                      clear hK K
                      refine norm_ (a' := ?_) ?_ ?_
                      rotate_left
                      · show Act.put _ (some 58) _ = _
                        simp only [Act.put, List.setIfInBounds_toArray, List.set_cons_zero, List.set_cons_succ, i64_w, i32_w]
                        rfl
                      refine one_ (i := 5) (N := some 59) #[true, true, true, true, true, true, false, false] rfl rfl (one_of HT_.out (by kernel_rfl)) (by decide) (fun K hK => ?_)
                      refine Kd.R_append_step Kd.string w.heap.size (by rfl) (.tmp 55) (.tmp 58) 24 9 (.string ⟨#[]⟩) 16 rfl Try.underlying24 info9 rfl (by decide) (by omega) u124000 x124000_32 t149 [.string t149] (fun _ => True) (fun _ => False) rfl rfl ?aP (fun _ hk => hk.elim) ?aF ?aO (Below.refl _ _) ?aS ?aL ?_
                      (case aP => exact rfl)
                      (case aF => exact (fun _ _ => trivial))
                      (case aO => exact (by (with_reducible repeat (first | apply Kd.R_alloc | apply Kd.R_drewN | apply Kd.R_drew)); exact HO_124000.out))
                      (case aS => exact (keep_size (w := w) (g := g) (row := none) (by repeat (first | (with_reducible first | exact HK.out | apply KeepBut.set_ | apply keep_drewN | apply keep_drew | apply keep_alloc | refine keep_far ?_ GW122.out _ | refine keep_far ?_ GW123.out _) | exact HK.out))))
                      (case aL => have := LMc67.out; omega)
                      intro v153 w70 ho hb hg hat
                      rw [← Ny152.out] at ho
                      have n0_ := Aside0.mk (blk_grown (g := gb122) (o := .cells #[.slice none 0 0] 52 (0, 0)) (by (with_reducible repeat (first | refine blk_drewN ?_ _ | refine blk_drew ?_ | refine blk_alloc ?_ _)); exact BK122.out) hg (Kd.R_ne HO_124000.out BK122.out (by decide)))
                      have n1_ := Aside0.mk (blk_grown (g := gb123) (o := .cells #[u124000] 52 (0, 0)) (by (with_reducible repeat (first | refine blk_drewN ?_ _ | refine blk_drew ?_ | refine blk_alloc ?_ _)); exact BK123.out) hg (Kd.R_ne HO_124000.out BK123.out (by decide)))
                      have n2_ := Aside0.mk (IsS115.grown (show IsS115 w0 _ g s0_0 t150 t151 from by repeat (first | (with_reducible first | exact HI0.out | apply IsS115.alloc | apply IsS115.drewN | apply IsS115.drew | apply IsS115.set_1 | apply IsS115.set_2 | refine IsS115.far ?_ NB0_122.out _ | refine IsS115.far ?_ NB0_123.out _) | exact HI0.out)) hg (IsS115.own_ne HI0.out HO_124000.out (by decide)))
                      have n3_ := Aside0.mk (below_weaken (by repeat (first | (with_reducible first | exact HB.out | apply below_alloc | apply pw_below_drewN | apply below_drew1 | refine below_set ?_ (IsS115.ge HI0.out) | refine below_set ?_ GE122.out | refine below_set ?_ GE123.out) | exact HB.out)) HL.out hb)
                      have n4_ := Aside0.mk (KeepBut.trans (by repeat (first | (with_reducible first | exact HK.out | apply KeepBut.set_ | apply keep_drewN | apply keep_drew | apply keep_alloc | refine keep_far ?_ GW122.out _ | refine keep_far ?_ GW123.out _) | exact HK.out)) (KeepBut.of_grown hg g) (Kd.R_base2 HO_124000.out))
                      have n5_ := Aside0.mk (ho)
                      clear BK122
                      clear BK123
                      clear HI0
                      clear HB
                      clear HK
                      clear HO_124000
                      have BK122 := n0_
                      have BK123 := n1_
                      have HI0 := n2_
                      have HB := n3_
                      have HK := n4_
                      have HO154 := n5_
                      clear n0_ n1_ n2_ n3_ n4_ n5_
                      clear ho hb hg hat
                      obtain ⟨Ao71, co71, eo71⟩ := Kd.R_slice HO154.out
                      (first | subst eo71 | (injection eo71 with f1_ f2_ f3_; have f4_ := f1_.symm; have f5_ := f3_.symm; clear f1_ f2_ f3_; subst f4_; subst f5_))
                      refine hK.out _ _ ((blk_cell BK123.out 0).trans rfl) (fun hHeld => ?_)
                      clear hK K
                      refine norm_ (a' := ?_) ?_ ?_
                      rotate_left
                      · show Act.put _ (some 59) _ = _
                        simp only [Act.put, List.setIfInBounds_toArray, List.set_cons_zero, List.set_cons_succ, i64_w, i32_w]
                        rfl
                      refine pure_ (i := 6) (N := some 60) (v := ?_) (a' := ?_) #[true, true, true, true, true, true, true, false] rfl rfl (any_of HT_.out (by kernel_rfl)) (fun _ _ _ h => h) (Or.inl ⟨by rfl, ?_⟩) ?_ ?_
                      rotate_left
                      · intro w'
                        go_simp
                        with_reducible rfl
                      rotate_left
                      · simp only [Act.put, List.setIfInBounds_toArray, List.set_cons_zero, List.set_cons_succ, i64_w, i32_w]
                        rfl
                      refine last_ (i := 7) (N := none) #[true, true, true, true, true, true, true, true] rfl rfl (one_of HT_.out (by kernel_rfl)) (by decide) (fun K hK => ?_)
                      have hs72 : w70.cell? ⟨gb123, 0, none⟩ = some (u124000) := (blk_cell BK123.out 0).trans rfl
                      have hfs72 := blk_frozen BK123.out 0
                      have hns72_0 := NB122_123.out
                      have hms72_0 := NB123_122.out
                      refine skip_ (w1 := ?_) (by rfl) rfl ?_ ?_
                      rotate_left
                      · go_simp
                        rfl
                      refine hK.out _ _ ?_
                      clear hK K
                      refine done_ (done_of HT_.out (by kernel_rfl)) ?_
                      try go_wp2
                      go_meet
                      case rel => exact ⟨_, (t150), (t151), (y152), (.slice Ao71 y152.length co71), H', ⟨by have := HK1.out; have := HJ32.out; have := HJ50.out; first | omega | exact Nat.le_refl _⟩, ⟨by (with_reducible repeat (first | apply Kd.R_alloc | apply Kd.R_drewN | apply Kd.R_drew)); exact Kd.R_mono (Kd.R_far (p := ⟨gb123, 0, none⟩) (Kd.R_types HO154.out BK123.out (by decide)) (fun _ hk => hk.2) (.slice Ao71 y152.length co71)) (fun _ hk => trivial)⟩, ⟨by (with_reducible repeat (first | refine blk_drewN ?_ _ | refine blk_drew ?_ | refine blk_alloc ?_ _)); refine blk_far ?_ NB122_123.out _; (with_reducible repeat (first | refine blk_drewN ?_ _ | refine blk_drew ?_ | refine blk_alloc ?_ _)); exact BK122.out⟩, ⟨by (with_reducible repeat (first | refine blk_drewN ?_ _ | refine blk_drew ?_ | refine blk_alloc ?_ _)); refine blk_put (cs := #[u124000]) ?_ 0 _ rfl; (with_reducible repeat (first | refine blk_drewN ?_ _ | refine blk_drew ?_ | refine blk_alloc ?_ _)); exact BK123.out⟩, ⟨by repeat (first | (with_reducible first | exact HI0.out | apply IsS115.alloc | apply IsS115.drewN | apply IsS115.drew | apply IsS115.set_1 | apply IsS115.set_2 | refine IsS115.far ?_ NB0_122.out _ | refine IsS115.far ?_ NB0_123.out _) | exact HI0.out)⟩, ⟨by repeat (first | (with_reducible first | exact HK.out | apply KeepBut.set_ | apply keep_drewN | apply keep_drew | apply keep_alloc | refine keep_far ?_ GW122.out _ | refine keep_far ?_ GW123.out _) | exact HK.out)⟩, ⟨by repeat (first | (with_reducible first | exact HB.out | apply below_alloc | apply pw_below_drewN | apply below_drew1 | refine below_set ?_ (IsS115.ge HI0.out) | refine below_set ?_ GE122.out | refine below_set ?_ GE123.out) | exact HB.out)⟩⟩
                    · rw [if_neg c67] at H
                      exact absurd H (by simp)
                  · replace c65 := Bool.eq_false_iff.mpr c65
                    subst c65
                    have H1 : (spec_l16Draw.j4 kj50 a1 s0_0 x1001_32 x1002_32 x124000_32) = some (r1, r2, r3) := by rw [if_neg (show ¬ (false = true) by decide)] at H; exact H
                    clear H
                    have H := H1
                    clear H1
                    have H' := Aside0.mk H
                    clear H
                    go_wp2
                    go_meet
                    case rel => exact ⟨_, (x1001_32), (x1002_32), (x124000_32), (u124000), H', ⟨by have := HK1.out; have := HJ32.out; have := HJ50.out; first | omega | exact Nat.le_refl _⟩, ⟨by (with_reducible repeat (first | apply Kd.R_alloc | apply Kd.R_drewN | apply Kd.R_drew)); exact HO_124000.out⟩, ⟨by (with_reducible repeat (first | refine blk_drewN ?_ _ | refine blk_drew ?_ | refine blk_alloc ?_ _)); exact BK122.out⟩, ⟨by (with_reducible repeat (first | refine blk_drewN ?_ _ | refine blk_drew ?_ | refine blk_alloc ?_ _)); exact BK123.out⟩, ⟨by repeat (first | (with_reducible first | exact HI0.out | apply IsS115.alloc | apply IsS115.drewN | apply IsS115.drew | apply IsS115.set_1 | apply IsS115.set_2 | refine IsS115.far ?_ NB0_122.out _ | refine IsS115.far ?_ NB0_123.out _) | exact HI0.out)⟩, ⟨by repeat (first | (with_reducible first | exact HK.out | apply KeepBut.set_ | apply keep_drewN | apply keep_drew | apply keep_alloc | refine keep_far ?_ GW122.out _ | refine keep_far ?_ GW123.out _) | exact HK.out)⟩, ⟨by repeat (first | (with_reducible first | exact HB.out | apply below_alloc | apply pw_below_drewN | apply below_drew1 | refine below_set ?_ (IsS115.ge HI0.out) | refine below_set ?_ GE122.out | refine below_set ?_ GE123.out) | exact HB.out)⟩⟩
                case rest =>
                  clear HC64
                  try clear c1
                  try clear p1
                  try clear q1
                  try clear hx1
                  try clear c2
                  try clear p2
                  try clear c3
                  try clear c4
                  try clear c5
                  try clear c6
                  try clear p6
                  try clear c7
                  try clear c9
                  try clear c10
                  try clear c10b0
                  try clear c13
                  try clear c14
                  try clear p14
                  try clear q14
                  try clear hx14
                  try clear c17
                  try clear c18
                  try clear c23
                  try clear c26
                  try clear c27
                  try clear c35
                  try clear c37
                  try clear c37b0
                  try clear c38
                  try clear c42
                  try clear c43
                  try clear c52
                  try clear c52b0
                  try clear c52b1
                  try clear c54
                  try clear c54b0
                  try clear c55
                  try clear c55b0
                  try clear c56
                  try clear c57
                  try clear c60
                  try clear c61
                  try clear p64
                  try clear c65
                  try clear c67
                  try clear hcz19_0
                  try clear hcz22_0
                  try clear hcz28_0
                  try clear hcz31_0
                  try clear hcz44_0
                  try clear hcz47_0
                  try clear hcz58_0
                  try clear hcz62_0
                  try clear hcz8_0
                  try clear hfz19_0
                  try clear hfz22_0
                  try clear hfz28_0
                  try clear hfz31_0
                  try clear hfz44_0
                  try clear hfz47_0
                  try clear hfz58_0
                  try clear hfz62_0
                  try clear hfz8_0
                  try clear hx148_0
                  try clear p1
                  try clear p14
                  try clear p148
                  try clear p2
                  try clear p6
                  try clear q1
                  try clear q14
                  try clear q148
                  obtain ⟨kq, x1001_63, x1002_63, x124000_63, u124000, HA, HJ63, HO_124000, BK122, BK123, HI0, HK, HB⟩ := hcut
                  cases kq with
                  | zero => exact absurd HA.out (by simp [spec_l16Draw.j4])
                  | succ kj63 =>
                    have H := HA.out
                    clear HA
                    simp only [spec_l16Draw.j4] at H
                    replace H := Option.bind_eq_some_iff.mp H
                    obtain ⟨⟨t155, t156, t157⟩, A730, H⟩ := H
                    replace H : (if t155 = true then ((spec_l00Src_pick.f s0_0 t156 t157 3).bind fun bt158 => (if bt158.1 = 0 then (if x124000_63.length < 8796093022208 then (some ((x124000_63 ++ [(⟨#[]⟩ : ByteArray)]), bt158.2.1, bt158.2.2)) else (none)) else (if bt158.1 = 1 then ((spec_l00Src_text.f s0_0 bt158.2.1 bt158.2.2 (([(⟨#[49]⟩ : ByteArray), (⟨#[97, 32, 98]⟩ : ByteArray), (⟨#[65, 66, 67, 68, 69, 70, 71, 72, 73, 74, 75, 76, 77]⟩ : ByteArray)] : List ByteArray))).bind fun bt167 => (if x124000_63.length < 8796093022208 then (some ((x124000_63 ++ [bt167.1]), bt167.2.1, bt167.2.2)) else (none))) else (spec_l16Draw.l2 kj63 s0_0 bt158.2.1 bt158.2.2 x124000_63)))) else (some (x124000_63, t156, t157))) = some (r1, r2, r3) := H
                    have A73 := Aside0.mk A730
                    clear A730
                    by_cases c74 : t155 = true
                    · subst c74
                      have H1 : ((spec_l00Src_pick.f s0_0 t156 t157 3).bind fun bt158 => (if bt158.1 = 0 then (if x124000_63.length < 8796093022208 then (some ((x124000_63 ++ [(⟨#[]⟩ : ByteArray)]), bt158.2.1, bt158.2.2)) else (none)) else (if bt158.1 = 1 then ((spec_l00Src_text.f s0_0 bt158.2.1 bt158.2.2 (([(⟨#[49]⟩ : ByteArray), (⟨#[97, 32, 98]⟩ : ByteArray), (⟨#[65, 66, 67, 68, 69, 70, 71, 72, 73, 74, 75, 76, 77]⟩ : ByteArray)] : List ByteArray))).bind fun bt167 => (if x124000_63.length < 8796093022208 then (some ((x124000_63 ++ [bt167.1]), bt167.2.1, bt167.2.2)) else (none))) else (spec_l16Draw.l2 kj63 s0_0 bt158.2.1 bt158.2.2 x124000_63)))) = some (r1, r2, r3) := by rw [if_pos rfl] at H; exact H
                      clear H
                      have H := H1
                      clear H1
                      replace H := Option.bind_eq_some_iff.mp H
                      obtain ⟨⟨t158, t159, t160⟩, A750, H⟩ := H
                      replace H : (if t158 = 0 then (if x124000_63.length < 8796093022208 then (some ((x124000_63 ++ [(⟨#[]⟩ : ByteArray)]), t159, t160)) else (none)) else (if t158 = 1 then ((spec_l00Src_text.f s0_0 t159 t160 (([(⟨#[49]⟩ : ByteArray), (⟨#[97, 32, 98]⟩ : ByteArray), (⟨#[65, 66, 67, 68, 69, 70, 71, 72, 73, 74, 75, 76, 77]⟩ : ByteArray)] : List ByteArray))).bind fun bt167 => (if x124000_63.length < 8796093022208 then (some ((x124000_63 ++ [bt167.1]), bt167.2.1, bt167.2.2)) else (none))) else (spec_l16Draw.l2 kj63 s0_0 t159 t160 x124000_63))) = some (r1, r2, r3) := H
                      have A75 := Aside0.mk A750
                      clear A750
                      by_cases c76 : t158 = 0
                      · rw [if_pos c76] at H
                        have c76b0 : (t158 == 0) = true := beq_iff_eq.mpr c76
                        have c76b1 : (t158 != 0) = false := bne_eq_false_iff_eq.mpr c76
                        clear c76
                        by_cases c77 : x124000_63.length < 8796093022208
                        · rw [if_pos c77] at H
                          have LMc77 := Aside0.mk c77
                          clear c77
                          obtain ⟨y161, hy161⟩ : ∃ y_ : List ByteArray, y_ = (x124000_63 ++ [(⟨#[]⟩ : ByteArray)]) := ⟨_, rfl⟩
                          replace H : (some (y161, t159, t160)) = some (r1, r2, r3) := by first | (rw [hy161]; with_reducible exact H) | (have H2_ := (Option.bind_some _ _).symm.trans H; rw [hy161]; with_reducible exact H2_) | (have H2_ := (Option.bind_some _ _).symm.trans H; with_reducible exact H2_) | with_reducible exact H | (rw [hy161]; exact H) | exact H
                          have Ny161 := Aside0.mk hy161
                          clear hy161
                          simp only [Option.some.injEq, Prod.mk.injEq] at H
                          obtain ⟨rfl, rfl, rfl⟩ := H
                          go_wp2_with (first | ((with_reducible refine gate_callee (f := 43) rfl ?_); refine goesL_ (some 63) rfl rfl Try.func43 (by kernel_rfl) rfl #[.pointer (some ⟨g, 0, none⟩), .int .i64 a1] rfl (by (try simp only [List.map_toArray, List.map_cons, List.map_nil]); first | done | rfl | (simp only [List.length_drop, List.length_take]; rfl)) ?_; (with_reducible refine (spec_l00Src_one.calls g s0_0 x1001_63 x1002_63 a1 true t156 t157 w0 _ ?side1 ?side2 A73.out).mono ?_); (case side1 => repeat (first | (with_reducible first | exact HI0.out | apply IsS115.alloc | apply IsS115.drewN | apply IsS115.drew | apply IsS115.set_1 | apply IsS115.set_2 | refine IsS115.far ?_ NB0_122.out _ | refine IsS115.far ?_ NB0_123.out _) | exact HI0.out)); (case side2 => repeat (first | (with_reducible first | exact HB.out | apply below_alloc | apply pw_below_drewN | apply below_drew1 | refine below_set ?_ (IsS115.ge HI0.out) | refine below_set ?_ GE122.out | refine below_set ?_ GE123.out) | exact HB.out)); rintro e w78 ⟨rfl, hi, hb, hk⟩; refine ⟨_, rfl, ?_⟩; have n0_ := Aside0.mk (Kd.R_mono (Kd.R_keep (IsS115.apart (show IsS115 w0 _ g s0_0 x1001_63 x1002_63 from by repeat (first | (with_reducible first | exact HI0.out | apply IsS115.alloc | apply IsS115.drewN | apply IsS115.drew | apply IsS115.set_1 | apply IsS115.set_2 | refine IsS115.far ?_ NB0_122.out _ | refine IsS115.far ?_ NB0_123.out _) | exact HI0.out)) (by (with_reducible repeat (first | apply Kd.R_alloc | apply Kd.R_drewN | apply Kd.R_drew)); exact HO_124000.out) (by decide)) hk (fun _ h => h.2)) (fun _ h => h.1)); have n1_ := Aside0.mk (KeepBut.blk hk (g' := gb122) (o := .cells #[.slice none 0 0] 52 (0, 0)) (by (with_reducible repeat (first | refine blk_drewN ?_ _ | refine blk_drew ?_ | refine blk_alloc ?_ _)); exact BK122.out) NB122_0.out (by simp)); have n2_ := Aside0.mk (KeepBut.blk hk (g' := gb123) (o := .cells #[u124000] 52 (0, 0)) (by (with_reducible repeat (first | refine blk_drewN ?_ _ | refine blk_drew ?_ | refine blk_alloc ?_ _)); exact BK123.out) NB123_0.out (by simp)); have n3_ := Aside0.mk (KeepBut.trans (by repeat (first | (with_reducible first | exact HK.out | apply KeepBut.set_ | apply keep_drewN | apply keep_drew | apply keep_alloc | refine keep_far ?_ GW122.out _ | refine keep_far ?_ GW123.out _) | exact HK.out)) hk (.inl rfl)); have n4_ := Aside0.mk (hb); have n5_ := Aside0.mk (hi); clear HO_124000; clear BK122; clear BK123; clear HK; clear HB; clear HI0; have HO_124000 := n0_; have BK122 := n1_; have BK123 := n2_; have HK := n3_; have HB := n4_; have HI0 := n5_; clear n0_ n1_ n2_ n3_ n4_ n5_; (try clear hb); (try clear hb2); (try clear hk); (try clear hi)) | ((with_reducible refine gate_callee (f := 93) rfl ?_); refine goesL_ (some 65) rfl rfl Try.func93 (by kernel_rfl) rfl #[.pointer (some ⟨g, 0, none⟩), .int .i64 3] rfl (by (try simp only [List.map_toArray, List.map_cons, List.map_nil]); first | done | rfl | (simp only [List.length_drop, List.length_take]; rfl)) ?_; (with_reducible refine (spec_l00Src_pick.calls g s0_0 t156 t157 3 t158 t159 t160 w0 _ ?side1 ?side2 A75.out).mono ?_); (case side1 => repeat (first | (with_reducible first | exact HI0.out | apply IsS115.alloc | apply IsS115.drewN | apply IsS115.drew | apply IsS115.set_1 | apply IsS115.set_2 | refine IsS115.far ?_ NB0_122.out _ | refine IsS115.far ?_ NB0_123.out _) | exact HI0.out)); (case side2 => repeat (first | (with_reducible first | exact HB.out | apply below_alloc | apply pw_below_drewN | apply below_drew1 | refine below_set ?_ (IsS115.ge HI0.out) | refine below_set ?_ GE122.out | refine below_set ?_ GE123.out) | exact HB.out)); rintro e w79 ⟨rfl, hi, hb, hk⟩; refine ⟨_, rfl, ?_⟩; have n0_ := Aside0.mk (Kd.R_mono (Kd.R_keep (IsS115.apart (show IsS115 w0 _ g s0_0 t156 t157 from by repeat (first | (with_reducible first | exact HI0.out | apply IsS115.alloc | apply IsS115.drewN | apply IsS115.drew | apply IsS115.set_1 | apply IsS115.set_2 | refine IsS115.far ?_ NB0_122.out _ | refine IsS115.far ?_ NB0_123.out _) | exact HI0.out)) (by (with_reducible repeat (first | apply Kd.R_alloc | apply Kd.R_drewN | apply Kd.R_drew)); exact HO_124000.out) (by decide)) hk (fun _ h => h.2)) (fun _ h => h.1)); have n1_ := Aside0.mk (KeepBut.blk hk (g' := gb122) (o := .cells #[.slice none 0 0] 52 (0, 0)) (by (with_reducible repeat (first | refine blk_drewN ?_ _ | refine blk_drew ?_ | refine blk_alloc ?_ _)); exact BK122.out) NB122_0.out (by simp)); have n2_ := Aside0.mk (KeepBut.blk hk (g' := gb123) (o := .cells #[u124000] 52 (0, 0)) (by (with_reducible repeat (first | refine blk_drewN ?_ _ | refine blk_drew ?_ | refine blk_alloc ?_ _)); exact BK123.out) NB123_0.out (by simp)); have n3_ := Aside0.mk (KeepBut.trans (by repeat (first | (with_reducible first | exact HK.out | apply KeepBut.set_ | apply keep_drewN | apply keep_drew | apply keep_alloc | refine keep_far ?_ GW122.out _ | refine keep_far ?_ GW123.out _) | exact HK.out)) hk (.inl rfl)); have n4_ := Aside0.mk (hb); have n5_ := Aside0.mk (hi); clear HO_124000; clear BK122; clear BK123; clear HK; clear HB; clear HI0; have HO_124000 := n0_; have BK122 := n1_; have BK123 := n2_; have HK := n3_; have HB := n4_; have HI0 := n5_; clear n0_ n1_ n2_ n3_ n4_ n5_; (try clear hb); (try clear hb2); (try clear hk); (try clear hi); have hnb80 := NB123_122.out; have hnc80 := NB122_123.out; have hnb81 := NB123_0.out; have hnc81 := NB0_123.out; have hcz82_0 : w79.cell? ⟨gb123, 0, none⟩ = some (u124000) := (blk_cell BK123.out 0).trans rfl; have hfz82_0 := blk_frozen BK123.out 0) | ((with_reducible refine gate_builtin (b := .append) (xs := #[.tmp 78, .tmp 79]) rfl ?_); (try (refine gate_guard (by rfl) ?_; dsimp only)); at_builtin; refine Kd.R_append Kd.string w.heap.size rfl (.tmp 78) (.tmp 79) 24 9 (.string ⟨#[]⟩) 16 rfl Try.underlying24 info9 rfl (by decide) (by omega) u124000 x124000_63 (⟨#[]⟩ : ByteArray) [.string (⟨#[]⟩ : ByteArray)] (fun _ => True) (fun _ => False) rfl rfl ?aP (fun _ hk => hk.elim) ?aF ?aO (Below.refl _ _) ?aS ?aL ?_; (case aP => exact rfl); (case aF => exact (fun _ _ => trivial)); (case aO => exact (by (with_reducible repeat (first | apply Kd.R_alloc | apply Kd.R_drewN | apply Kd.R_drew)); exact HO_124000.out)); (case aS => exact (keep_size (w := w) (g := g) (row := none) (by repeat (first | (with_reducible first | exact HK.out | apply KeepBut.set_ | apply keep_drewN | apply keep_drew | apply keep_alloc | refine keep_far ?_ GW122.out _ | refine keep_far ?_ GW123.out _) | exact HK.out)))); (case aL => have := LMc77.out; omega); intro v162 w83 ho hb hg hat; rw [← Ny161.out] at ho; have n0_ := Aside0.mk (blk_grown (g := gb122) (o := .cells #[.slice none 0 0] 52 (0, 0)) (by (with_reducible repeat (first | refine blk_drewN ?_ _ | refine blk_drew ?_ | refine blk_alloc ?_ _)); exact BK122.out) hg (Kd.R_ne HO_124000.out BK122.out (by decide))); have n1_ := Aside0.mk (blk_grown (g := gb123) (o := .cells #[u124000] 52 (0, 0)) (by (with_reducible repeat (first | refine blk_drewN ?_ _ | refine blk_drew ?_ | refine blk_alloc ?_ _)); exact BK123.out) hg (Kd.R_ne HO_124000.out BK123.out (by decide))); have n2_ := Aside0.mk (IsS115.grown (show IsS115 w0 _ g s0_0 t159 t160 from by repeat (first | (with_reducible first | exact HI0.out | apply IsS115.alloc | apply IsS115.drewN | apply IsS115.drew | apply IsS115.set_1 | apply IsS115.set_2 | refine IsS115.far ?_ NB0_122.out _ | refine IsS115.far ?_ NB0_123.out _) | exact HI0.out)) hg (IsS115.own_ne HI0.out HO_124000.out (by decide))); have n3_ := Aside0.mk (below_weaken (by repeat (first | (with_reducible first | exact HB.out | apply below_alloc | apply pw_below_drewN | apply below_drew1 | refine below_set ?_ (IsS115.ge HI0.out) | refine below_set ?_ GE122.out | refine below_set ?_ GE123.out) | exact HB.out)) HL.out hb); have n4_ := Aside0.mk (KeepBut.trans (by repeat (first | (with_reducible first | exact HK.out | apply KeepBut.set_ | apply keep_drewN | apply keep_drew | apply keep_alloc | refine keep_far ?_ GW122.out _ | refine keep_far ?_ GW123.out _) | exact HK.out)) (KeepBut.of_grown hg g) (Kd.R_base2 HO_124000.out)); have n5_ := Aside0.mk (ho); clear BK122; clear BK123; clear HI0; clear HB; clear HK; clear HO_124000; have BK122 := n0_; have BK123 := n1_; have HI0 := n2_; have HB := n3_; have HK := n4_; have HO163 := n5_; clear n0_ n1_ n2_ n3_ n4_ n5_; clear ho hb hg hat; obtain ⟨Ao84, co84, eo84⟩ := Kd.R_slice HO163.out; subst eo84; have hcz85_0 : w83.cell? ⟨gb123, 0, none⟩ = some (u124000) := (blk_cell BK123.out 0).trans rfl; have hfz85_0 := blk_frozen BK123.out 0; have hnb86 := NB122_0.out; have hnc86 := NB0_122.out; have hcz87_0 : w83.cell? ⟨gb122, 0, none⟩ = some (.slice none 0 0) := (blk_cell BK122.out 0).trans rfl; have hfz87_0 := blk_frozen BK122.out 0))
                          refine bodyPost_ret (results_cell_row rfl _ _ gb122 52 #[.slice Ao84 y161.length co84] (0, 0) _ rfl (by (with_reducible repeat (first | refine blk_drewN ?_ _ | refine blk_drew ?_ | refine blk_alloc ?_ _)); refine blk_put (cs := #[.slice none 0 0]) ?_ 0 _ rfl; (with_reducible repeat (first | refine blk_drewN ?_ _ | refine blk_drew ?_ | refine blk_alloc ?_ _)); refine blk_far ?_ NB122_123.out _; (with_reducible repeat (first | refine blk_drewN ?_ _ | refine blk_drew ?_ | refine blk_alloc ?_ _)); exact BK122.out) Try.underlying52 rfl (by kernel_rfl)) rfl ?_
                          exact ⟨_, by first | rfl | (simp [errW_none, errW_some] <;> rfl) | (simp [*, errW_none, errW_some] <;> rfl), by (with_reducible repeat (first | apply Kd.R_alloc | apply Kd.R_drewN | apply Kd.R_drew)); exact Kd.R_mono (Kd.R_far (p := ⟨gb122, 0, none⟩) (Kd.R_far (p := ⟨gb123, 0, none⟩) (Kd.R_types (Kd.R_types HO163.out BK123.out (by decide)) BK122.out (by decide)) (fun _ hk => hk.1.2) (.slice Ao84 y161.length co84)) (fun _ hk => hk.2) (.slice Ao84 y161.length co84)) (fun _ hk => trivial), by repeat (first | (with_reducible first | exact HI0.out | apply IsS115.alloc | apply IsS115.drewN | apply IsS115.drew | apply IsS115.set_1 | apply IsS115.set_2 | refine IsS115.far ?_ NB0_122.out _ | refine IsS115.far ?_ NB0_123.out _) | exact HI0.out), by repeat (first | (with_reducible first | exact HB.out | apply below_alloc | apply pw_below_drewN | apply below_drew1 | refine below_set ?_ (IsS115.ge HI0.out) | refine below_set ?_ GE122.out | refine below_set ?_ GE123.out) | exact HB.out), by repeat (first | (with_reducible first | exact HK.out | apply KeepBut.set_ | apply keep_drewN | apply keep_drew | apply keep_alloc | refine keep_far ?_ GW122.out _ | refine keep_far ?_ GW123.out _) | exact HK.out)⟩
                        · rw [if_neg c77] at H
                          exact absurd H (by simp)
                      · rw [if_neg c76] at H
                        have c76b0 : (t158 == 0) = false := beq_eq_false_iff_ne.mpr c76
                        have c76b1 : (t158 != 0) = true := bne_iff_ne.mpr c76
                        by_cases c88 : t158 = 1
                        · rw [if_pos c88] at H
                          have c88b0 : (t158 == 1) = true := beq_iff_eq.mpr c88
                          have c88b1 : (t158 != 1) = false := bne_eq_false_iff_eq.mpr c88
                          clear c88
                          obtain ⟨y164, hy164⟩ : ∃ y_ : List ByteArray, y_ = (([(⟨#[49]⟩ : ByteArray), (⟨#[97, 32, 98]⟩ : ByteArray), (⟨#[65, 66, 67, 68, 69, 70, 71, 72, 73, 74, 75, 76, 77]⟩ : ByteArray)] : List ByteArray)) := ⟨_, rfl⟩
                          replace H : ((spec_l00Src_text.f s0_0 t159 t160 y164).bind fun bt167 => (if x124000_63.length < 8796093022208 then (some ((x124000_63 ++ [bt167.1]), bt167.2.1, bt167.2.2)) else (none))) = some (r1, r2, r3) := by first | (rw [hy164]; with_reducible exact H) | (have H2_ := (Option.bind_some _ _).symm.trans H; rw [hy164]; with_reducible exact H2_) | (have H2_ := (Option.bind_some _ _).symm.trans H; with_reducible exact H2_) | with_reducible exact H | (rw [hy164]; exact H) | exact H
                          have Ny164 := Aside0.mk hy164
                          clear hy164
                          replace H := Option.bind_eq_some_iff.mp H
                          obtain ⟨⟨t167, t168, t169⟩, A890, H⟩ := H
                          replace H : (if x124000_63.length < 8796093022208 then (some ((x124000_63 ++ [t167]), t168, t169)) else (none)) = some (r1, r2, r3) := H
                          have A89 := Aside0.mk A890
                          clear A890
                          by_cases c90 : x124000_63.length < 8796093022208
                          · rw [if_pos c90] at H
                            have LMc90 := Aside0.mk c90
                            clear c90
                            obtain ⟨y170, hy170⟩ : ∃ y_ : List ByteArray, y_ = (x124000_63 ++ [t167]) := ⟨_, rfl⟩
                            replace H : (some (y170, t168, t169)) = some (r1, r2, r3) := by first | (rw [hy170]; with_reducible exact H) | (have H2_ := (Option.bind_some _ _).symm.trans H; rw [hy170]; with_reducible exact H2_) | (have H2_ := (Option.bind_some _ _).symm.trans H; with_reducible exact H2_) | with_reducible exact H | (rw [hy170]; exact H) | exact H
                            have Ny170 := Aside0.mk hy170
                            clear hy170
                            simp only [Option.some.injEq, Prod.mk.injEq] at H
                            obtain ⟨rfl, rfl, rfl⟩ := H
                            try go_wp2_with (first | ((with_reducible refine gate_callee (f := 43) rfl ?_); refine goesL_ (some 63) rfl rfl Try.func43 (by kernel_rfl) rfl #[.pointer (some ⟨g, 0, none⟩), .int .i64 a1] rfl (by (try simp only [List.map_toArray, List.map_cons, List.map_nil]); first | done | rfl | (simp only [List.length_drop, List.length_take]; rfl)) ?_; (with_reducible refine (spec_l00Src_one.calls g s0_0 x1001_63 x1002_63 a1 true t156 t157 w0 _ ?side1 ?side2 A73.out).mono ?_); (case side1 => repeat (first | (with_reducible first | exact HI0.out | apply IsS115.alloc | apply IsS115.drewN | apply IsS115.drew | apply IsS115.set_1 | apply IsS115.set_2 | refine IsS115.far ?_ NB0_122.out _ | refine IsS115.far ?_ NB0_123.out _) | exact HI0.out)); (case side2 => repeat (first | (with_reducible first | exact HB.out | apply below_alloc | apply pw_below_drewN | apply below_drew1 | refine below_set ?_ (IsS115.ge HI0.out) | refine below_set ?_ GE122.out | refine below_set ?_ GE123.out) | exact HB.out)); rintro e w91 ⟨rfl, hi, hb, hk⟩; refine ⟨_, rfl, ?_⟩; have n0_ := Aside0.mk (Kd.R_mono (Kd.R_keep (IsS115.apart (show IsS115 w0 _ g s0_0 x1001_63 x1002_63 from by repeat (first | (with_reducible first | exact HI0.out | apply IsS115.alloc | apply IsS115.drewN | apply IsS115.drew | apply IsS115.set_1 | apply IsS115.set_2 | refine IsS115.far ?_ NB0_122.out _ | refine IsS115.far ?_ NB0_123.out _) | exact HI0.out)) (by (with_reducible repeat (first | apply Kd.R_alloc | apply Kd.R_drewN | apply Kd.R_drew)); exact HO_124000.out) (by decide)) hk (fun _ h => h.2)) (fun _ h => h.1)); have n1_ := Aside0.mk (KeepBut.blk hk (g' := gb122) (o := .cells #[.slice none 0 0] 52 (0, 0)) (by (with_reducible repeat (first | refine blk_drewN ?_ _ | refine blk_drew ?_ | refine blk_alloc ?_ _)); exact BK122.out) NB122_0.out (by simp)); have n2_ := Aside0.mk (KeepBut.blk hk (g' := gb123) (o := .cells #[u124000] 52 (0, 0)) (by (with_reducible repeat (first | refine blk_drewN ?_ _ | refine blk_drew ?_ | refine blk_alloc ?_ _)); exact BK123.out) NB123_0.out (by simp)); have n3_ := Aside0.mk (KeepBut.trans (by repeat (first | (with_reducible first | exact HK.out | apply KeepBut.set_ | apply keep_drewN | apply keep_drew | apply keep_alloc | refine keep_far ?_ GW122.out _ | refine keep_far ?_ GW123.out _) | exact HK.out)) hk (.inl rfl)); have n4_ := Aside0.mk (hb); have n5_ := Aside0.mk (hi); clear HO_124000; clear BK122; clear BK123; clear HK; clear HB; clear HI0; have HO_124000 := n0_; have BK122 := n1_; have BK123 := n2_; have HK := n3_; have HB := n4_; have HI0 := n5_; clear n0_ n1_ n2_ n3_ n4_ n5_; (try clear hb); (try clear hb2); (try clear hk); (try clear hi)) | ((with_reducible refine gate_callee (f := 93) rfl ?_); refine goesL_ (some 65) rfl rfl Try.func93 (by kernel_rfl) rfl #[.pointer (some ⟨g, 0, none⟩), .int .i64 3] rfl (by (try simp only [List.map_toArray, List.map_cons, List.map_nil]); first | done | rfl | (simp only [List.length_drop, List.length_take]; rfl)) ?_; (with_reducible refine (spec_l00Src_pick.calls g s0_0 t156 t157 3 t158 t159 t160 w0 _ ?side1 ?side2 A75.out).mono ?_); (case side1 => repeat (first | (with_reducible first | exact HI0.out | apply IsS115.alloc | apply IsS115.drewN | apply IsS115.drew | apply IsS115.set_1 | apply IsS115.set_2 | refine IsS115.far ?_ NB0_122.out _ | refine IsS115.far ?_ NB0_123.out _) | exact HI0.out)); (case side2 => repeat (first | (with_reducible first | exact HB.out | apply below_alloc | apply pw_below_drewN | apply below_drew1 | refine below_set ?_ (IsS115.ge HI0.out) | refine below_set ?_ GE122.out | refine below_set ?_ GE123.out) | exact HB.out)); rintro e w92 ⟨rfl, hi, hb, hk⟩; refine ⟨_, rfl, ?_⟩; have n0_ := Aside0.mk (Kd.R_mono (Kd.R_keep (IsS115.apart (show IsS115 w0 _ g s0_0 t156 t157 from by repeat (first | (with_reducible first | exact HI0.out | apply IsS115.alloc | apply IsS115.drewN | apply IsS115.drew | apply IsS115.set_1 | apply IsS115.set_2 | refine IsS115.far ?_ NB0_122.out _ | refine IsS115.far ?_ NB0_123.out _) | exact HI0.out)) (by (with_reducible repeat (first | apply Kd.R_alloc | apply Kd.R_drewN | apply Kd.R_drew)); exact HO_124000.out) (by decide)) hk (fun _ h => h.2)) (fun _ h => h.1)); have n1_ := Aside0.mk (KeepBut.blk hk (g' := gb122) (o := .cells #[.slice none 0 0] 52 (0, 0)) (by (with_reducible repeat (first | refine blk_drewN ?_ _ | refine blk_drew ?_ | refine blk_alloc ?_ _)); exact BK122.out) NB122_0.out (by simp)); have n2_ := Aside0.mk (KeepBut.blk hk (g' := gb123) (o := .cells #[u124000] 52 (0, 0)) (by (with_reducible repeat (first | refine blk_drewN ?_ _ | refine blk_drew ?_ | refine blk_alloc ?_ _)); exact BK123.out) NB123_0.out (by simp)); have n3_ := Aside0.mk (KeepBut.trans (by repeat (first | (with_reducible first | exact HK.out | apply KeepBut.set_ | apply keep_drewN | apply keep_drew | apply keep_alloc | refine keep_far ?_ GW122.out _ | refine keep_far ?_ GW123.out _) | exact HK.out)) hk (.inl rfl)); have n4_ := Aside0.mk (hb); have n5_ := Aside0.mk (hi); clear HO_124000; clear BK122; clear BK123; clear HK; clear HB; clear HI0; have HO_124000 := n0_; have BK122 := n1_; have BK123 := n2_; have HK := n3_; have HB := n4_; have HI0 := n5_; clear n0_ n1_ n2_ n3_ n4_ n5_; (try clear hb); (try clear hb2); (try clear hk); (try clear hi)))
                            have n0_ := Aside0.mk (Kd.R_drew HO_124000.out)
                            have n1_ := Aside0.mk (blk_drew BK122.out)
                            have n2_ := Aside0.mk (blk_drew BK123.out)
                            have n3_ := Aside0.mk (IsS115.drew HI0.out)
                            have n4_ := Aside0.mk (keep_drew HK.out)
                            have n5_ := Aside0.mk (below_drew1 HB.out)
                            clear HO_124000
                            clear BK122
                            clear BK123
                            clear HI0
                            clear HK
                            clear HB
                            have HO_124000 := n0_
                            have BK122 := n1_
                            have BK123 := n2_
                            have HI0 := n3_
                            have HK := n4_
                            have HB := n5_
                            clear n0_ n1_ n2_ n3_ n4_ n5_
                            refine start_ (n := 9) (S := fun w' => w'.cell? ⟨gb123, 0, none⟩ = some (u124000)) (ds := [8]) #[false, false, false, false, false, false, false, false, false] (by kernel_rfl) rfl rfl ((blk_cell BK123.out 0).trans rfl) (fun hHeld => ?_); refine with_tabW spec_l16Draw.tab21 spec_l16Draw.bits21 (fun HT_ HW_ => ?_)
                            generalize w92.drew = w93 at HO_124000 BK122 BK123 HI0 HK HB hHeld ⊢
                            refine pure_ (i := 0) (N := some 84) (v := ?_) (a' := ?_) #[true, false, false, false, false, false, false, false, false] rfl rfl (any_of HT_.out (by kernel_rfl)) (fun _ _ _ h => h) (Or.inl ⟨by rfl, ?_⟩) ?_ ?_
                            rotate_left
                            · intro w'
                              go_simp
                              with_reducible rfl
                            rotate_left
                            · simp only [Act.put, List.setIfInBounds_toArray, List.set_cons_zero, List.set_cons_succ, i64_w, i32_w]
                              rfl
                            refine pure_ (i := 2) (N := some 86) (v := ?_) (a' := ?_) #[true, false, true, false, false, false, false, false, false] rfl rfl (any_of HT_.out (by kernel_rfl)) (fun _ _ _ h => h) (Or.inl ⟨by rfl, ?_⟩) ?_ ?_
                            rotate_left
                            · intro w'
                              go_simp
                              with_reducible rfl
                            rotate_left
                            · simp only [Act.put, List.setIfInBounds_toArray, List.set_cons_zero, List.set_cons_succ, i64_w, i32_w]
                              rfl
                            refine take_ (i := 1) (N := some 85) (v := ?_) (a' := ?_) #[true, true, true, false, false, false, false, false, false] rfl rfl (take_ofW HT_.out HW_.out (by kernel_rfl)) (fun _ _ _ h => h) (Or.inl ⟨by rfl, ?_⟩) hHeld ?_ ?_
                            rotate_left
                            · intro w' s0
                              go_simp
                              with_reducible rfl
                            rotate_left
                            · simp only [Act.put, List.setIfInBounds_toArray, List.set_cons_zero, List.set_cons_succ, i64_w, i32_w]
                              rfl
                            refine one_ (i := 3) (N := some 87) #[true, true, true, true, false, false, false, false, false] rfl rfl (one_of HT_.out (by kernel_rfl)) (by decide) (fun K hK => ?_)
                            refine Kd.R_lit_step Kd.string _ 9 ?hg (N := 87) ?hd (xs := ([(⟨#[49]⟩ : ByteArray), (⟨#[97, 32, 98]⟩ : ByteArray), (⟨#[65, 66, 67, 68, 69, 70, 71, 72, 73, 74, 75, 76, 77]⟩ : ByteArray)] : List ByteArray)) (inner := [.string (⟨#[49]⟩ : ByteArray), .string (⟨#[97, 32, 98]⟩ : ByteArray), .string (⟨#[65, 66, 67, 68, 69, 70, 71, 72, 73, 74, 75, 76, 77]⟩ : ByteArray)]) (ok := fun _ => True) (okp := fun _ => True) ?hr ?hp (fun _ hk => hk) trivial (Below.refl _ _) (Nat.le_refl _) (by simp) ?_; (case hd => rfl); (case hg => rfl); (case hr => first | (go_simp; done) | (go_simp; rfl)); (case hp => exact (Reps.one (show Kd.M Kd.string _ _ _ (⟨#[49]⟩ : ByteArray) [.string (⟨#[49]⟩ : ByteArray)] from rfl) (Reps.one (show Kd.M Kd.string _ _ _ (⟨#[97, 32, 98]⟩ : ByteArray) [.string (⟨#[97, 32, 98]⟩ : ByteArray)] from rfl) (Reps.one (show Kd.M Kd.string _ _ _ (⟨#[65, 66, 67, 68, 69, 70, 71, 72, 73, 74, 75, 76, 77]⟩ : ByteArray) [.string (⟨#[65, 66, 67, 68, 69, 70, 71, 72, 73, 74, 75, 76, 77]⟩ : ByteArray)] from rfl) (Reps.none _ _)))))
                            intro v165 w94 ho95 hb hg_ hnew_
                            clear hg_ hnew_
                            (first | rw [← Ny164.out] at ho95 | (simp only [Int.reduceToNat] at ho95; rw [← Ny164.out] at ho95))
                            have n0_ := Aside0.mk (Kd.R_elder' (by (with_reducible repeat (first | apply Kd.R_alloc | apply Kd.R_drewN | apply Kd.R_drew)); exact HO_124000.out) (Kd.R_base ho95) hb)
                            have n1_ := Aside0.mk (Kd.R_lower (Kd.R_new' ho95 (Kd.R_lt (by (with_reducible repeat (first | apply Kd.R_alloc | apply Kd.R_drewN | apply Kd.R_drew)); exact HO_124000.out))) (keep_size (w := w) (g := g) (row := none) (by repeat (first | (with_reducible first | exact HK.out | apply KeepBut.set_ | apply keep_drewN | apply keep_drew | apply keep_alloc | refine keep_far ?_ GW122.out _ | refine keep_far ?_ GW123.out _) | exact HK.out))))
                            have n2_ := Aside0.mk (blk_below (g := gb122) (o := .cells #[.slice none 0 0] 52 (0, 0)) (by (with_reducible repeat (first | refine blk_drewN ?_ _ | refine blk_drew ?_ | refine blk_alloc ?_ _)); exact BK122.out) hb)
                            have n3_ := Aside0.mk (blk_below (g := gb123) (o := .cells #[u124000] 52 (0, 0)) (by (with_reducible repeat (first | refine blk_drewN ?_ _ | refine blk_drew ?_ | refine blk_alloc ?_ _)); exact BK123.out) hb)
                            have n4_ := Aside0.mk (IsS115.below (by repeat (first | (with_reducible first | exact HI0.out | apply IsS115.alloc | apply IsS115.drewN | apply IsS115.drew | apply IsS115.set_1 | apply IsS115.set_2 | refine IsS115.far ?_ NB0_122.out _ | refine IsS115.far ?_ NB0_123.out _) | exact HI0.out)) hb)
                            have n5_ := Aside0.mk (KeepBut.trans (by repeat (first | (with_reducible first | exact HK.out | apply KeepBut.set_ | apply keep_drewN | apply keep_drew | apply keep_alloc | refine keep_far ?_ GW122.out _ | refine keep_far ?_ GW123.out _) | exact HK.out)) (KeepBut.of_below hb g none) (.inl rfl))
                            have n6_ := Aside0.mk (below_step (by repeat (first | (with_reducible first | exact HB.out | apply below_alloc | apply pw_below_drewN | apply below_drew1 | refine below_set ?_ (IsS115.ge HI0.out) | refine below_set ?_ GE122.out | refine below_set ?_ GE123.out) | exact HB.out)) hb)
                            clear HO_124000
                            clear BK122
                            clear BK123
                            clear HI0
                            clear HK
                            clear HB
                            have HO_124000 := n0_
                            have HO166 := n1_
                            have BK122 := n2_
                            have BK123 := n3_
                            have HI0 := n4_
                            have HK := n5_
                            have HB := n6_
                            clear n0_ n1_ n2_ n3_ n4_ n5_ n6_
                            clear hb ho95
                            obtain ⟨Ao96, co96, eo96⟩ := Kd.R_slice HO166.out
                            (first | subst eo96 | (injection eo96 with f1_ f2_ f3_; have f4_ := f1_.symm; have f5_ := f3_.symm; clear f1_ f2_ f3_; subst f4_; subst f5_))
                            refine hK.out _ _ ((blk_cell BK123.out 0).trans rfl) (fun hHeld => ?_)
                            clear hK K
                            refine norm_ (a' := ?_) ?_ ?_
                            rotate_left
                            · show Act.put _ (some 87) _ = _
                              simp only [Act.put, List.setIfInBounds_toArray, List.set_cons_zero, List.set_cons_succ, i64_w, i32_w]
                              rfl
                            refine one_ (i := 4) (N := some 88) #[true, true, true, true, true, false, false, false, false] rfl rfl (one_of HT_.out (by kernel_rfl)) (by decide) (fun K hK => ?_)
                            refine goes_ Try.func76 (by kernel_rfl) rfl #[.pointer (some ⟨g, 0, none⟩), .slice Ao96 y164.length co96] (by rfl) rfl rfl (by (try simp only [List.map_toArray, List.map_cons, List.map_nil]); first | done | rfl | (simp only [List.length_drop, List.length_take]; rfl)) ?_
                            with_reducible refine (spec_l00Src_text.calls g s0_0 t159 t160 _ _ y164 t167 t168 t169 w0 _ ?side1 ?side2 ?side3 ?side4 ?side5 A89.out).mono ?_
                            (case side1 => repeat (first | (with_reducible first | exact HI0.out | apply IsS115.alloc | apply IsS115.drewN | apply IsS115.drew | apply IsS115.set_1 | apply IsS115.set_2 | refine IsS115.far ?_ NB0_122.out _ | refine IsS115.far ?_ NB0_123.out _) | exact HI0.out))
                            (case side2 => repeat (first | (with_reducible first | exact HB.out | apply below_alloc | apply pw_below_drewN | apply below_drew1 | refine below_set ?_ (IsS115.ge HI0.out) | refine below_set ?_ GE122.out | refine below_set ?_ GE123.out) | exact HB.out))
                            (case side3 => repeat (first | exact (Kd.R_reads' HO166.out).2.2 | (with_reducible refine Kd.C_alloc ?_ _) | (with_reducible refine Kd.C_drewN ?_ _) | (with_reducible refine Kd.C_drew ?_)))
                            (case side4 => exact (Kd.R_reads' HO166.out).2.1)
                            (case side5 => exact far_slice (IsS115.own_ne HI0.out HO166.out (by decide)))
                            rintro e w97 ⟨rfl, hi, hb, hk⟩
                            refine ⟨_, rfl, ?_⟩
                            have n0_ := Aside0.mk (Kd.R_mono (Kd.R_keep (IsS115.apart (show IsS115 w0 _ g s0_0 t159 t160 from by repeat (first | (with_reducible first | exact HI0.out | apply IsS115.alloc | apply IsS115.drewN | apply IsS115.drew | apply IsS115.set_1 | apply IsS115.set_2 | refine IsS115.far ?_ NB0_122.out _ | refine IsS115.far ?_ NB0_123.out _) | exact HI0.out)) (by (with_reducible repeat (first | apply Kd.R_alloc | apply Kd.R_drewN | apply Kd.R_drew)); exact HO_124000.out) (by decide)) hk (fun _ h => h.2)) (fun _ h => h.1))
                            have n1_ := Aside0.mk (KeepBut.blk hk (g' := gb122) (o := .cells #[.slice none 0 0] 52 (0, 0)) (by (with_reducible repeat (first | refine blk_drewN ?_ _ | refine blk_drew ?_ | refine blk_alloc ?_ _)); exact BK122.out) NB122_0.out (by simp))
                            have n2_ := Aside0.mk (KeepBut.blk hk (g' := gb123) (o := .cells #[u124000] 52 (0, 0)) (by (with_reducible repeat (first | refine blk_drewN ?_ _ | refine blk_drew ?_ | refine blk_alloc ?_ _)); exact BK123.out) NB123_0.out (by simp))
                            have n3_ := Aside0.mk (Kd.R_mono (Kd.R_keep (IsS115.apart (show IsS115 w0 _ g s0_0 t159 t160 from by repeat (first | (with_reducible first | exact HI0.out | apply IsS115.alloc | apply IsS115.drewN | apply IsS115.drew | apply IsS115.set_1 | apply IsS115.set_2 | refine IsS115.far ?_ NB0_122.out _ | refine IsS115.far ?_ NB0_123.out _) | exact HI0.out)) (by (with_reducible repeat (first | apply Kd.R_alloc | apply Kd.R_drewN | apply Kd.R_drew)); exact HO166.out) (by decide)) hk (fun _ h => h.2)) (fun _ h => h.1))
                            have n4_ := Aside0.mk (KeepBut.trans (by repeat (first | (with_reducible first | exact HK.out | apply KeepBut.set_ | apply keep_drewN | apply keep_drew | apply keep_alloc | refine keep_far ?_ GW122.out _ | refine keep_far ?_ GW123.out _) | exact HK.out)) hk (.inl rfl))
                            have n5_ := Aside0.mk (hb)
                            have n6_ := Aside0.mk (hi)
                            clear HO_124000
                            clear BK122
                            clear BK123
                            clear HO166
                            clear HK
                            clear HB
                            clear HI0
                            have HO_124000 := n0_
                            have BK122 := n1_
                            have BK123 := n2_
                            have HO166 := n3_
                            have HK := n4_
                            have HB := n5_
                            have HI0 := n6_
                            clear n0_ n1_ n2_ n3_ n4_ n5_ n6_
                            (try clear hb)
                            (try clear hb2)
                            (try clear hk)
                            (try clear hi)
                            refine hK.out _ _ ((blk_cell BK123.out 0).trans rfl) (fun hHeld => ?_)
                            clear hK K
                            refine norm_ (a' := ?_) ?_ ?_
                            rotate_left
                            · show Act.put _ (some 88) _ = _
                              simp only [Act.put, List.setIfInBounds_toArray, List.set_cons_zero, List.set_cons_succ, i64_w, i32_w]
                              rfl
                            refine one_ (i := 5) (N := some 89) #[true, true, true, true, true, true, false, false, false] rfl rfl (one_of HT_.out (by kernel_rfl)) (by decide) (fun K hK => ?_)
                            refine value_ (w1 := ?_) (v := ?_) (by rfl) rfl ?_ ?_
                            rotate_left 2
                            · go_simp
                              constructor
                              · rfl
                              · rfl
                            refine hK.out _ _ ((blk_cell (blk_alloc BK123.out _) 0).trans rfl) (fun hHeld => ?_)
                            clear hK K
                            refine norm_ (a' := ?_) ?_ ?_
                            rotate_left
                            · show Act.put _ (some 89) _ = _
                              simp only [Act.put, List.setIfInBounds_toArray, List.set_cons_zero, List.set_cons_succ, i64_w, i32_w]
                              rfl
                            refine one_ (i := 6) (N := some 90) #[true, true, true, true, true, true, true, false, false] rfl rfl (one_of HT_.out (by kernel_rfl)) (by decide) (fun K hK => ?_)
                            refine Kd.R_append_step Kd.string w.heap.size (by rfl) (.tmp 85) (.tmp 89) 24 9 (.string ⟨#[]⟩) 16 rfl Try.underlying24 info9 rfl (by decide) (by omega) u124000 x124000_63 t167 [.string t167] (fun k_ => some k_ ≠ (.slice Ao96 y164.length co96 : Value).ownBlock) (fun _ => False) rfl rfl ?aP (fun _ hk => hk.elim) ?aF ?aO (Below.refl _ _) ?aS ?aL ?_
                            (case aP => exact rfl)
                            (case aF => exact (fun k_ hk => Kd.fresh' (Kd.R_lt (by (with_reducible repeat (first | apply Kd.R_alloc | apply Kd.R_drewN | apply Kd.R_drew)); exact HO166.out)) k_ hk))
                            (case aO => exact (by (with_reducible repeat (first | apply Kd.R_alloc | apply Kd.R_drewN | apply Kd.R_drew)); exact Kd.R_mono HO_124000.out (fun _ hk => hk.2)))
                            (case aS => exact (keep_size (w := w) (g := g) (row := none) (by repeat (first | (with_reducible first | exact HK.out | apply KeepBut.set_ | apply keep_drewN | apply keep_drew | apply keep_alloc | refine keep_far ?_ GW122.out _ | refine keep_far ?_ GW123.out _) | exact HK.out))))
                            (case aL => have := LMc90.out; omega)
                            intro v171 w98 ho hb hg hat
                            rw [← Ny170.out] at ho
                            have n0_ := Aside0.mk (blk_grown (g := gb122) (o := .cells #[.slice none 0 0] 52 (0, 0)) (by (with_reducible repeat (first | refine blk_drewN ?_ _ | refine blk_drew ?_ | refine blk_alloc ?_ _)); exact BK122.out) hg (Kd.R_ne HO_124000.out BK122.out (by decide)))
                            have n1_ := Aside0.mk (blk_grown (g := gb123) (o := .cells #[u124000] 52 (0, 0)) (by (with_reducible repeat (first | refine blk_drewN ?_ _ | refine blk_drew ?_ | refine blk_alloc ?_ _)); exact BK123.out) hg (Kd.R_ne HO_124000.out BK123.out (by decide)))
                            have n2_ := Aside0.mk (IsS115.grown (show IsS115 w0 _ g s0_0 t168 t169 from by repeat (first | (with_reducible first | exact HI0.out | apply IsS115.alloc | apply IsS115.drewN | apply IsS115.drew | apply IsS115.set_1 | apply IsS115.set_2 | refine IsS115.far ?_ NB0_122.out _ | refine IsS115.far ?_ NB0_123.out _) | exact HI0.out)) hg (IsS115.own_ne HI0.out HO_124000.out (by decide)))
                            have n3_ := Aside0.mk (Kd.R_after (ok := (fun _ => True)) (by (with_reducible repeat (first | apply Kd.R_alloc | apply Kd.R_drewN | apply Kd.R_drew)); exact HO166.out) hg hat)
                            have n4_ := Aside0.mk (below_weaken (by repeat (first | (with_reducible first | exact HB.out | apply below_alloc | apply pw_below_drewN | apply below_drew1 | refine below_set ?_ (IsS115.ge HI0.out) | refine below_set ?_ GE122.out | refine below_set ?_ GE123.out) | exact HB.out)) HL.out hb)
                            have n5_ := Aside0.mk (KeepBut.trans (by repeat (first | (with_reducible first | exact HK.out | apply KeepBut.set_ | apply keep_drewN | apply keep_drew | apply keep_alloc | refine keep_far ?_ GW122.out _ | refine keep_far ?_ GW123.out _) | exact HK.out)) (KeepBut.of_grown hg g) (Kd.R_base2 HO_124000.out))
                            have n6_ := Aside0.mk (ho)
                            clear BK122
                            clear BK123
                            clear HI0
                            clear HO166
                            clear HB
                            clear HK
                            clear HO_124000
                            have BK122 := n0_
                            have BK123 := n1_
                            have HI0 := n2_
                            have HO166 := n3_
                            have HB := n4_
                            have HK := n5_
                            have HO172 := n6_
                            clear n0_ n1_ n2_ n3_ n4_ n5_ n6_
                            clear ho hb hg hat
                            obtain ⟨Ao99, co99, eo99⟩ := Kd.R_slice HO172.out
                            (first | subst eo99 | (injection eo99 with f1_ f2_ f3_; have f4_ := f1_.symm; have f5_ := f3_.symm; clear f1_ f2_ f3_; subst f4_; subst f5_))
                            refine hK.out _ _ ((blk_cell BK123.out 0).trans rfl) (fun hHeld => ?_)
                            clear hK K
                            refine norm_ (a' := ?_) ?_ ?_
                            rotate_left
                            · show Act.put _ (some 90) _ = _
                              simp only [Act.put, List.setIfInBounds_toArray, List.set_cons_zero, List.set_cons_succ, i64_w, i32_w]
                              rfl
                            refine pure_ (i := 7) (N := some 91) (v := ?_) (a' := ?_) #[true, true, true, true, true, true, true, true, false] rfl rfl (any_of HT_.out (by kernel_rfl)) (fun _ _ _ h => h) (Or.inl ⟨by rfl, ?_⟩) ?_ ?_
                            rotate_left
                            · intro w'
                              go_simp
                              with_reducible rfl
                            rotate_left
                            · simp only [Act.put, List.setIfInBounds_toArray, List.set_cons_zero, List.set_cons_succ, i64_w, i32_w]
                              rfl
                            refine last_ (i := 8) (N := none) #[true, true, true, true, true, true, true, true, true] rfl rfl (one_of HT_.out (by kernel_rfl)) (by decide) (fun K hK => ?_)
                            have hs100 : w98.cell? ⟨gb123, 0, none⟩ = some (u124000) := (blk_cell BK123.out 0).trans rfl
                            have hfs100 := blk_frozen BK123.out 0
                            have hns100_0 := NB122_123.out
                            have hms100_0 := NB123_122.out
                            refine skip_ (w1 := ?_) (by rfl) rfl ?_ ?_
                            rotate_left
                            · go_simp
                              rfl
                            refine hK.out _ _ ?_
                            clear hK K
                            refine done_ (done_of HT_.out (by kernel_rfl)) ?_
                            have hnb101 := NB123_122.out
                            have hnc101 := NB122_123.out
                            have hnb102 := NB123_0.out
                            have hnc102 := NB0_123.out
                            have hcz103_0 : w98.cell? ⟨gb123, 0, none⟩ = some (u124000) := (blk_cell BK123.out 0).trans rfl
                            have hfz103_0 := blk_frozen BK123.out 0
                            have hnb104 := NB122_0.out
                            have hnc104 := NB0_122.out
                            have hcz105_0 : w98.cell? ⟨gb122, 0, none⟩ = some (.slice none 0 0) := (blk_cell BK122.out 0).trans rfl
                            have hfz105_0 := blk_frozen BK122.out 0
                            try go_wp2
                            refine bodyPost_ret (results_cell_row rfl _ _ gb122 52 #[.slice Ao99 y170.length co99] (0, 0) _ rfl (by (with_reducible repeat (first | refine blk_drewN ?_ _ | refine blk_drew ?_ | refine blk_alloc ?_ _)); refine blk_put (cs := #[.slice none 0 0]) ?_ 0 _ rfl; (with_reducible repeat (first | refine blk_drewN ?_ _ | refine blk_drew ?_ | refine blk_alloc ?_ _)); refine blk_far ?_ NB122_123.out _; (with_reducible repeat (first | refine blk_drewN ?_ _ | refine blk_drew ?_ | refine blk_alloc ?_ _)); exact BK122.out) Try.underlying52 rfl (by kernel_rfl)) rfl ?_
                            exact ⟨_, by first | rfl | (simp [errW_none, errW_some] <;> rfl) | (simp [*, errW_none, errW_some] <;> rfl), by (with_reducible repeat (first | apply Kd.R_alloc | apply Kd.R_drewN | apply Kd.R_drew)); exact Kd.R_mono (Kd.R_far (p := ⟨gb122, 0, none⟩) (Kd.R_far (p := ⟨gb123, 0, none⟩) (Kd.R_types (Kd.R_types HO172.out BK123.out (by decide)) BK122.out (by decide)) (fun _ hk => hk.1.2) (.slice Ao99 y170.length co99)) (fun _ hk => hk.2) (.slice Ao99 y170.length co99)) (fun _ hk => trivial), by repeat (first | (with_reducible first | exact HI0.out | apply IsS115.alloc | apply IsS115.drewN | apply IsS115.drew | apply IsS115.set_1 | apply IsS115.set_2 | refine IsS115.far ?_ NB0_122.out _ | refine IsS115.far ?_ NB0_123.out _) | exact HI0.out), by repeat (first | (with_reducible first | exact HB.out | apply below_alloc | apply pw_below_drewN | apply below_drew1 | refine below_set ?_ (IsS115.ge HI0.out) | refine below_set ?_ GE122.out | refine below_set ?_ GE123.out) | exact HB.out), by repeat (first | (with_reducible first | exact HK.out | apply KeepBut.set_ | apply keep_drewN | apply keep_drew | apply keep_alloc | refine keep_far ?_ GW122.out _ | refine keep_far ?_ GW123.out _) | exact HK.out)⟩
                          · rw [if_neg c90] at H
                            exact absurd H (by simp)
                        · rw [if_neg c88] at H
                          have c88b0 : (t158 == 1) = false := beq_eq_false_iff_ne.mpr c88
                          have c88b1 : (t158 != 1) = true := bne_iff_ne.mpr c88
                          have H' := Aside0.mk H
                          clear H
                          go_wp2_with (first | ((with_reducible refine gate_callee (f := 43) rfl ?_); refine goesL_ (some 63) rfl rfl Try.func43 (by kernel_rfl) rfl #[.pointer (some ⟨g, 0, none⟩), .int .i64 a1] rfl (by (try simp only [List.map_toArray, List.map_cons, List.map_nil]); first | done | rfl | (simp only [List.length_drop, List.length_take]; rfl)) ?_; (with_reducible refine (spec_l00Src_one.calls g s0_0 x1001_63 x1002_63 a1 true t156 t157 w0 _ ?side1 ?side2 A73.out).mono ?_); (case side1 => repeat (first | (with_reducible first | exact HI0.out | apply IsS115.alloc | apply IsS115.drewN | apply IsS115.drew | apply IsS115.set_1 | apply IsS115.set_2 | refine IsS115.far ?_ NB0_122.out _ | refine IsS115.far ?_ NB0_123.out _) | exact HI0.out)); (case side2 => repeat (first | (with_reducible first | exact HB.out | apply below_alloc | apply pw_below_drewN | apply below_drew1 | refine below_set ?_ (IsS115.ge HI0.out) | refine below_set ?_ GE122.out | refine below_set ?_ GE123.out) | exact HB.out)); rintro e w106 ⟨rfl, hi, hb, hk⟩; refine ⟨_, rfl, ?_⟩; have n0_ := Aside0.mk (Kd.R_mono (Kd.R_keep (IsS115.apart (show IsS115 w0 _ g s0_0 x1001_63 x1002_63 from by repeat (first | (with_reducible first | exact HI0.out | apply IsS115.alloc | apply IsS115.drewN | apply IsS115.drew | apply IsS115.set_1 | apply IsS115.set_2 | refine IsS115.far ?_ NB0_122.out _ | refine IsS115.far ?_ NB0_123.out _) | exact HI0.out)) (by (with_reducible repeat (first | apply Kd.R_alloc | apply Kd.R_drewN | apply Kd.R_drew)); exact HO_124000.out) (by decide)) hk (fun _ h => h.2)) (fun _ h => h.1)); have n1_ := Aside0.mk (KeepBut.blk hk (g' := gb122) (o := .cells #[.slice none 0 0] 52 (0, 0)) (by (with_reducible repeat (first | refine blk_drewN ?_ _ | refine blk_drew ?_ | refine blk_alloc ?_ _)); exact BK122.out) NB122_0.out (by simp)); have n2_ := Aside0.mk (KeepBut.blk hk (g' := gb123) (o := .cells #[u124000] 52 (0, 0)) (by (with_reducible repeat (first | refine blk_drewN ?_ _ | refine blk_drew ?_ | refine blk_alloc ?_ _)); exact BK123.out) NB123_0.out (by simp)); have n3_ := Aside0.mk (KeepBut.trans (by repeat (first | (with_reducible first | exact HK.out | apply KeepBut.set_ | apply keep_drewN | apply keep_drew | apply keep_alloc | refine keep_far ?_ GW122.out _ | refine keep_far ?_ GW123.out _) | exact HK.out)) hk (.inl rfl)); have n4_ := Aside0.mk (hb); have n5_ := Aside0.mk (hi); clear HO_124000; clear BK122; clear BK123; clear HK; clear HB; clear HI0; have HO_124000 := n0_; have BK122 := n1_; have BK123 := n2_; have HK := n3_; have HB := n4_; have HI0 := n5_; clear n0_ n1_ n2_ n3_ n4_ n5_; (try clear hb); (try clear hb2); (try clear hk); (try clear hi)) | ((with_reducible refine gate_callee (f := 93) rfl ?_); refine goesL_ (some 65) rfl rfl Try.func93 (by kernel_rfl) rfl #[.pointer (some ⟨g, 0, none⟩), .int .i64 3] rfl (by (try simp only [List.map_toArray, List.map_cons, List.map_nil]); first | done | rfl | (simp only [List.length_drop, List.length_take]; rfl)) ?_; (with_reducible refine (spec_l00Src_pick.calls g s0_0 t156 t157 3 t158 t159 t160 w0 _ ?side1 ?side2 A75.out).mono ?_); (case side1 => repeat (first | (with_reducible first | exact HI0.out | apply IsS115.alloc | apply IsS115.drewN | apply IsS115.drew | apply IsS115.set_1 | apply IsS115.set_2 | refine IsS115.far ?_ NB0_122.out _ | refine IsS115.far ?_ NB0_123.out _) | exact HI0.out)); (case side2 => repeat (first | (with_reducible first | exact HB.out | apply below_alloc | apply pw_below_drewN | apply below_drew1 | refine below_set ?_ (IsS115.ge HI0.out) | refine below_set ?_ GE122.out | refine below_set ?_ GE123.out) | exact HB.out)); rintro e w107 ⟨rfl, hi, hb, hk⟩; refine ⟨_, rfl, ?_⟩; have n0_ := Aside0.mk (Kd.R_mono (Kd.R_keep (IsS115.apart (show IsS115 w0 _ g s0_0 t156 t157 from by repeat (first | (with_reducible first | exact HI0.out | apply IsS115.alloc | apply IsS115.drewN | apply IsS115.drew | apply IsS115.set_1 | apply IsS115.set_2 | refine IsS115.far ?_ NB0_122.out _ | refine IsS115.far ?_ NB0_123.out _) | exact HI0.out)) (by (with_reducible repeat (first | apply Kd.R_alloc | apply Kd.R_drewN | apply Kd.R_drew)); exact HO_124000.out) (by decide)) hk (fun _ h => h.2)) (fun _ h => h.1)); have n1_ := Aside0.mk (KeepBut.blk hk (g' := gb122) (o := .cells #[.slice none 0 0] 52 (0, 0)) (by (with_reducible repeat (first | refine blk_drewN ?_ _ | refine blk_drew ?_ | refine blk_alloc ?_ _)); exact BK122.out) NB122_0.out (by simp)); have n2_ := Aside0.mk (KeepBut.blk hk (g' := gb123) (o := .cells #[u124000] 52 (0, 0)) (by (with_reducible repeat (first | refine blk_drewN ?_ _ | refine blk_drew ?_ | refine blk_alloc ?_ _)); exact BK123.out) NB123_0.out (by simp)); have n3_ := Aside0.mk (KeepBut.trans (by repeat (first | (with_reducible first | exact HK.out | apply KeepBut.set_ | apply keep_drewN | apply keep_drew | apply keep_alloc | refine keep_far ?_ GW122.out _ | refine keep_far ?_ GW123.out _) | exact HK.out)) hk (.inl rfl)); have n4_ := Aside0.mk (hb); have n5_ := Aside0.mk (hi); clear HO_124000; clear BK122; clear BK123; clear HK; clear HB; clear HI0; have HO_124000 := n0_; have BK122 := n1_; have BK123 := n2_; have HK := n3_; have HB := n4_; have HI0 := n5_; clear n0_ n1_ n2_ n3_ n4_ n5_; (try clear hb); (try clear hb2); (try clear hk); (try clear hi)))
                          go_loopg [] kj63 (fun kq w' => ∃ (x124000_5 : List ByteArray) (u124000 : Value), Aside0 (spec_l16Draw.l2 kq s0_0 t159 t160 x124000_5 = some (r1, r2, r3)) ∧ Aside0 (kq ≤ kj63) ∧ Aside0 (Kd.R Kd.string 9 w' w.heap.size (fun _ => True) u124000 x124000_5) ∧ Aside0 (w'.heap[gb122]? = some (.cells #[(.slice none 0 0)] 52 (0, 0))) ∧ Aside0 (w'.heap[gb123]? = some (.cells #[u124000] 52 (0, 0))) ∧ Aside0 (IsS115 w0 w' g s0_0 t159 t160) ∧ Aside0 (KeepBut w w' g none) ∧ Aside0 (Below w0.heap.size w0 w'))
                          case atStart => exact ⟨(x124000_63), (u124000), H', ⟨Nat.le_refl _⟩, ⟨by (with_reducible repeat (first | apply Kd.R_alloc | apply Kd.R_drewN | apply Kd.R_drew)); exact HO_124000.out⟩, ⟨by (with_reducible repeat (first | refine blk_drewN ?_ _ | refine blk_drew ?_ | refine blk_alloc ?_ _)); exact BK122.out⟩, ⟨by (with_reducible repeat (first | refine blk_drewN ?_ _ | refine blk_drew ?_ | refine blk_alloc ?_ _)); exact BK123.out⟩, ⟨by repeat (first | (with_reducible first | exact HI0.out | apply IsS115.alloc | apply IsS115.drewN | apply IsS115.drew | apply IsS115.set_1 | apply IsS115.set_2 | refine IsS115.far ?_ NB0_122.out _ | refine IsS115.far ?_ NB0_123.out _) | exact HI0.out)⟩, ⟨by repeat (first | (with_reducible first | exact HK.out | apply KeepBut.set_ | apply keep_drewN | apply keep_drew | apply keep_alloc | refine keep_far ?_ GW122.out _ | refine keep_far ?_ GW123.out _) | exact HK.out)⟩, ⟨by repeat (first | (with_reducible first | exact HB.out | apply below_alloc | apply pw_below_drewN | apply below_drew1 | refine below_set ?_ (IsS115.ge HI0.out) | refine below_set ?_ GE122.out | refine below_set ?_ GE123.out) | exact HB.out)⟩⟩
                          case round =>
                            clear H'
                            try clear c1
                            try clear p1
                            try clear q1
                            try clear hx1
                            try clear c2
                            try clear p2
                            try clear c3
                            try clear c4
                            try clear c5
                            try clear c6
                            try clear p6
                            try clear c7
                            try clear c8
                            try clear c9
                            try clear c10
                            try clear c10b0
                            try clear c13
                            try clear c14
                            try clear p14
                            try clear q14
                            try clear hx14
                            try clear c17
                            try clear c18
                            try clear c23
                            try clear c26
                            try clear c27
                            try clear c35
                            try clear c37
                            try clear c37b0
                            try clear c38
                            try clear c42
                            try clear c43
                            try clear c52
                            try clear c52b0
                            try clear c52b1
                            try clear c54
                            try clear c54b0
                            try clear c55
                            try clear c55b0
                            try clear c56
                            try clear c57
                            try clear c60
                            try clear c61
                            try clear p64
                            try clear c65
                            try clear c67
                            try clear c74
                            try clear c76
                            try clear c76b0
                            try clear c76b1
                            try clear c77
                            try clear c80
                            try clear c81
                            try clear c86
                            try clear c88
                            try clear c88b0
                            try clear c88b1
                            try clear c90
                            try clear c93
                            try clear c101
                            try clear c102
                            try clear c104
                            try clear hcz103_0
                            try clear hcz105_0
                            try clear hcz19_0
                            try clear hcz22_0
                            try clear hcz28_0
                            try clear hcz31_0
                            try clear hcz44_0
                            try clear hcz47_0
                            try clear hcz58_0
                            try clear hcz62_0
                            try clear hcz82_0
                            try clear hcz85_0
                            try clear hcz87_0
                            try clear hcz8_0
                            try clear hfz103_0
                            try clear hfz105_0
                            try clear hfz19_0
                            try clear hfz22_0
                            try clear hfz28_0
                            try clear hfz31_0
                            try clear hfz44_0
                            try clear hfz47_0
                            try clear hfz58_0
                            try clear hfz62_0
                            try clear hfz82_0
                            try clear hfz85_0
                            try clear hfz87_0
                            try clear hfz8_0
                            try clear hx148_0
                            try clear p1
                            try clear p14
                            try clear p148
                            try clear p2
                            try clear p6
                            try clear p64
                            try clear q1
                            try clear q14
                            try clear q148
                            obtain ⟨x124000_5, u124000, HA, HK5, HO_124000, BK122, BK123, HI0, HK, HB⟩ := hrel
                            cases gk with
                            | zero => exact absurd HA.out (by simp [spec_l16Draw.l2])
                            | succ k5 =>
                              have H := HA.out
                              clear HA
                              simp only [spec_l16Draw.l2] at H
                              by_cases c108 : (x124000_5.length : Int) < 31
                              · rw [if_pos c108] at H
                                have c108b0 : decide ((x124000_5.length : Int) < 31) = true := decide_eq_true c108
                                have c108b1 : decide (x124000_5.length < 31) = true := decide_eq_true (by omega)
                                clear c108
                                by_cases c109 : x124000_5.length < 8796093022208
                                · rw [if_pos c109] at H
                                  have LMc109 := Aside0.mk c109
                                  clear c109
                                  obtain ⟨y173, hy173⟩ : ∃ y_ : List ByteArray, y_ = (x124000_5 ++ [(⟨#[120]⟩ : ByteArray)]) := ⟨_, rfl⟩
                                  replace H : (spec_l16Draw.l2 k5 s0_0 t159 t160 y173) = some (r1, r2, r3) := by first | (rw [hy173]; with_reducible exact H) | (have H2_ := (Option.bind_some _ _).symm.trans H; rw [hy173]; with_reducible exact H2_) | (have H2_ := (Option.bind_some _ _).symm.trans H; with_reducible exact H2_) | with_reducible exact H | (rw [hy173]; exact H) | exact H
                                  have Ny173 := Aside0.mk hy173
                                  clear hy173
                                  have H' := Aside0.mk H
                                  clear H
                                  have hnb110 := NB123_122.out
                                  have hnc110 := NB122_123.out
                                  have hnb111 := NB123_0.out
                                  have hnc111 := NB0_123.out
                                  have hcz112_0 : wr.cell? ⟨gb123, 0, none⟩ = some (u124000) := (blk_cell BK123.out 0).trans rfl
                                  have hfz112_0 := blk_frozen BK123.out 0
                                  obtain ⟨Ao113, co113, eo113⟩ := Kd.R_slice HO_124000.out
                                  subst eo113
                                  go_wp2_with (first | ((with_reducible refine gate_builtin (b := .append) (xs := #[.tmp 71, .tmp 72]) rfl ?_); (try (refine gate_guard (by rfl) ?_; dsimp only)); at_builtin; refine Kd.R_append Kd.string w.heap.size rfl (.tmp 71) (.tmp 72) 24 9 (.string ⟨#[]⟩) 16 rfl Try.underlying24 info9 rfl (by decide) (by omega) (.slice Ao113 x124000_5.length co113) x124000_5 (⟨#[120]⟩ : ByteArray) [.string (⟨#[120]⟩ : ByteArray)] (fun _ => True) (fun _ => False) rfl rfl ?aP (fun _ hk => hk.elim) ?aF ?aO (Below.refl _ _) ?aS ?aL ?_; (case aP => exact rfl); (case aF => exact (fun _ _ => trivial)); (case aO => exact (by (with_reducible repeat (first | apply Kd.R_alloc | apply Kd.R_drewN | apply Kd.R_drew)); exact HO_124000.out)); (case aS => exact (keep_size (w := w) (g := g) (row := none) (by repeat (first | (with_reducible first | exact HK.out | apply KeepBut.set_ | apply keep_drewN | apply keep_drew | apply keep_alloc | refine keep_far ?_ GW122.out _ | refine keep_far ?_ GW123.out _) | exact HK.out)))); (case aL => have := LMc109.out; omega); intro v174 w114 ho hb hg hat; rw [← Ny173.out] at ho; have n0_ := Aside0.mk (blk_grown (g := gb122) (o := .cells #[.slice none 0 0] 52 (0, 0)) (by (with_reducible repeat (first | refine blk_drewN ?_ _ | refine blk_drew ?_ | refine blk_alloc ?_ _)); exact BK122.out) hg (Kd.R_ne HO_124000.out BK122.out (by decide))); have n1_ := Aside0.mk (blk_grown (g := gb123) (o := .cells #[.slice Ao113 x124000_5.length co113] 52 (0, 0)) (by (with_reducible repeat (first | refine blk_drewN ?_ _ | refine blk_drew ?_ | refine blk_alloc ?_ _)); exact BK123.out) hg (Kd.R_ne HO_124000.out BK123.out (by decide))); have n2_ := Aside0.mk (IsS115.grown (show IsS115 w0 _ g s0_0 t159 t160 from by repeat (first | (with_reducible first | exact HI0.out | apply IsS115.alloc | apply IsS115.drewN | apply IsS115.drew | apply IsS115.set_1 | apply IsS115.set_2 | refine IsS115.far ?_ NB0_122.out _ | refine IsS115.far ?_ NB0_123.out _) | exact HI0.out)) hg (IsS115.own_ne HI0.out HO_124000.out (by decide))); have n3_ := Aside0.mk (below_weaken (by repeat (first | (with_reducible first | exact HB.out | apply below_alloc | apply pw_below_drewN | apply below_drew1 | refine below_set ?_ (IsS115.ge HI0.out) | refine below_set ?_ GE122.out | refine below_set ?_ GE123.out) | exact HB.out)) HL.out hb); have n4_ := Aside0.mk (KeepBut.trans (by repeat (first | (with_reducible first | exact HK.out | apply KeepBut.set_ | apply keep_drewN | apply keep_drew | apply keep_alloc | refine keep_far ?_ GW122.out _ | refine keep_far ?_ GW123.out _) | exact HK.out)) (KeepBut.of_grown hg g) (Kd.R_base2 HO_124000.out)); have n5_ := Aside0.mk (ho); clear BK122; clear BK123; clear HI0; clear HB; clear HK; clear HO_124000; have BK122 := n0_; have BK123 := n1_; have HI0 := n2_; have HB := n3_; have HK := n4_; have HO175 := n5_; clear n0_ n1_ n2_ n3_ n4_ n5_; clear ho hb hg hat; obtain ⟨Ao115, co115, eo115⟩ := Kd.R_slice HO175.out; subst eo115; have hcz116_0 : w114.cell? ⟨gb123, 0, none⟩ = some (.slice Ao113 x124000_5.length co113) := (blk_cell BK123.out 0).trans rfl; have hfz116_0 := blk_frozen BK123.out 0))
                                  go_roundg k5
                                  case measure => have := HK1.out; have := HJ32.out; have := HJ50.out; have := HJ63.out; have := HK5.out; omega
                                  case rel => exact ⟨(y173), (.slice Ao115 y173.length co115), H', ⟨by have := HK1.out; have := HJ32.out; have := HJ50.out; have := HJ63.out; have := HK5.out; omega⟩, ⟨by (with_reducible repeat (first | apply Kd.R_alloc | apply Kd.R_drewN | apply Kd.R_drew)); exact Kd.R_mono (Kd.R_far (p := ⟨gb123, 0, none⟩) (Kd.R_types HO175.out BK123.out (by decide)) (fun _ hk => hk.2) (.slice Ao115 y173.length co115)) (fun _ hk => trivial)⟩, ⟨by (with_reducible repeat (first | refine blk_drewN ?_ _ | refine blk_drew ?_ | refine blk_alloc ?_ _)); refine blk_far ?_ NB122_123.out _; (with_reducible repeat (first | refine blk_drewN ?_ _ | refine blk_drew ?_ | refine blk_alloc ?_ _)); exact BK122.out⟩, ⟨by (with_reducible repeat (first | refine blk_drewN ?_ _ | refine blk_drew ?_ | refine blk_alloc ?_ _)); refine blk_put (cs := #[.slice Ao113 x124000_5.length co113]) ?_ 0 _ rfl; (with_reducible repeat (first | refine blk_drewN ?_ _ | refine blk_drew ?_ | refine blk_alloc ?_ _)); exact BK123.out⟩, ⟨by repeat (first | (with_reducible first | exact HI0.out | apply IsS115.alloc | apply IsS115.drewN | apply IsS115.drew | apply IsS115.set_1 | apply IsS115.set_2 | refine IsS115.far ?_ NB0_122.out _ | refine IsS115.far ?_ NB0_123.out _) | exact HI0.out)⟩, ⟨by repeat (first | (with_reducible first | exact HK.out | apply KeepBut.set_ | apply keep_drewN | apply keep_drew | apply keep_alloc | refine keep_far ?_ GW122.out _ | refine keep_far ?_ GW123.out _) | exact HK.out)⟩, ⟨by repeat (first | (with_reducible first | exact HB.out | apply below_alloc | apply pw_below_drewN | apply below_drew1 | refine below_set ?_ (IsS115.ge HI0.out) | refine below_set ?_ GE122.out | refine below_set ?_ GE123.out) | exact HB.out)⟩⟩
                                · rw [if_neg c109] at H
                                  exact absurd H (by simp)
                              · rw [if_neg c108] at H
                                have c108b0 : decide ((x124000_5.length : Int) < 31) = false := decide_eq_false c108
                                have c108b1 : decide (x124000_5.length < 31) = false := decide_eq_false (by omega)
                                clear c108
                                simp only [Option.some.injEq, Prod.mk.injEq] at H
                                obtain ⟨rfl, rfl, rfl⟩ := H
                                have hnb117 := NB123_122.out
                                have hnc117 := NB122_123.out
                                have hnb118 := NB123_0.out
                                have hnc118 := NB0_123.out
                                have hcz119_0 : wr.cell? ⟨gb123, 0, none⟩ = some (u124000) := (blk_cell BK123.out 0).trans rfl
                                have hfz119_0 := blk_frozen BK123.out 0
                                obtain ⟨Ao120, co120, eo120⟩ := Kd.R_slice HO_124000.out
                                subst eo120
                                have hnb121 := NB122_0.out
                                have hnc121 := NB0_122.out
                                have hcz122_0 : wr.cell? ⟨gb122, 0, none⟩ = some (.slice none 0 0) := (blk_cell BK122.out 0).trans rfl
                                have hfz122_0 := blk_frozen BK122.out 0
                                go_wp2
                                refine bodyPost_ret (results_cell_row rfl _ _ gb122 52 #[.slice Ao120 x124000_5.length co120] (0, 0) _ rfl (by (with_reducible repeat (first | refine blk_drewN ?_ _ | refine blk_drew ?_ | refine blk_alloc ?_ _)); refine blk_put (cs := #[.slice none 0 0]) ?_ 0 _ rfl; (with_reducible repeat (first | refine blk_drewN ?_ _ | refine blk_drew ?_ | refine blk_alloc ?_ _)); exact BK122.out) Try.underlying52 rfl (by kernel_rfl)) rfl ?_
                                exact ⟨_, by first | rfl | (simp [errW_none, errW_some] <;> rfl) | (simp [*, errW_none, errW_some] <;> rfl), by (with_reducible repeat (first | apply Kd.R_alloc | apply Kd.R_drewN | apply Kd.R_drew)); exact Kd.R_mono (Kd.R_far (p := ⟨gb122, 0, none⟩) (Kd.R_types HO_124000.out BK122.out (by decide)) (fun _ hk => hk.2) (.slice Ao120 x124000_5.length co120)) (fun _ hk => trivial), by repeat (first | (with_reducible first | exact HI0.out | apply IsS115.alloc | apply IsS115.drewN | apply IsS115.drew | apply IsS115.set_1 | apply IsS115.set_2 | refine IsS115.far ?_ NB0_122.out _ | refine IsS115.far ?_ NB0_123.out _) | exact HI0.out), by repeat (first | (with_reducible first | exact HB.out | apply below_alloc | apply pw_below_drewN | apply below_drew1 | refine below_set ?_ (IsS115.ge HI0.out) | refine below_set ?_ GE122.out | refine below_set ?_ GE123.out) | exact HB.out), by repeat (first | (with_reducible first | exact HK.out | apply KeepBut.set_ | apply keep_drewN | apply keep_drew | apply keep_alloc | refine keep_far ?_ GW122.out _ | refine keep_far ?_ GW123.out _) | exact HK.out)⟩
                    · replace c74 := Bool.eq_false_iff.mpr c74
                      subst c74
                      have H1 : (some (x124000_63, t156, t157)) = some (r1, r2, r3) := by rw [if_neg (show ¬ (false = true) by decide)] at H; exact H
                      clear H
                      have H := H1
                      clear H1
                      simp only [Option.some.injEq, Prod.mk.injEq] at H
                      obtain ⟨rfl, rfl, rfl⟩ := H
                      go_wp2_with (first | ((with_reducible refine gate_callee (f := 43) rfl ?_); refine goesL_ (some 63) rfl rfl Try.func43 (by kernel_rfl) rfl #[.pointer (some ⟨g, 0, none⟩), .int .i64 a1] rfl (by (try simp only [List.map_toArray, List.map_cons, List.map_nil]); first | done | rfl | (simp only [List.length_drop, List.length_take]; rfl)) ?_; (with_reducible refine (spec_l00Src_one.calls g s0_0 x1001_63 x1002_63 a1 false t156 t157 w0 _ ?side1 ?side2 A73.out).mono ?_); (case side1 => repeat (first | (with_reducible first | exact HI0.out | apply IsS115.alloc | apply IsS115.drewN | apply IsS115.drew | apply IsS115.set_1 | apply IsS115.set_2 | refine IsS115.far ?_ NB0_122.out _ | refine IsS115.far ?_ NB0_123.out _) | exact HI0.out)); (case side2 => repeat (first | (with_reducible first | exact HB.out | apply below_alloc | apply pw_below_drewN | apply below_drew1 | refine below_set ?_ (IsS115.ge HI0.out) | refine below_set ?_ GE122.out | refine below_set ?_ GE123.out) | exact HB.out)); rintro e w123 ⟨rfl, hi, hb, hk⟩; refine ⟨_, rfl, ?_⟩; have n0_ := Aside0.mk (Kd.R_mono (Kd.R_keep (IsS115.apart (show IsS115 w0 _ g s0_0 x1001_63 x1002_63 from by repeat (first | (with_reducible first | exact HI0.out | apply IsS115.alloc | apply IsS115.drewN | apply IsS115.drew | apply IsS115.set_1 | apply IsS115.set_2 | refine IsS115.far ?_ NB0_122.out _ | refine IsS115.far ?_ NB0_123.out _) | exact HI0.out)) (by (with_reducible repeat (first | apply Kd.R_alloc | apply Kd.R_drewN | apply Kd.R_drew)); exact HO_124000.out) (by decide)) hk (fun _ h => h.2)) (fun _ h => h.1)); have n1_ := Aside0.mk (KeepBut.blk hk (g' := gb122) (o := .cells #[.slice none 0 0] 52 (0, 0)) (by (with_reducible repeat (first | refine blk_drewN ?_ _ | refine blk_drew ?_ | refine blk_alloc ?_ _)); exact BK122.out) NB122_0.out (by simp)); have n2_ := Aside0.mk (KeepBut.blk hk (g' := gb123) (o := .cells #[u124000] 52 (0, 0)) (by (with_reducible repeat (first | refine blk_drewN ?_ _ | refine blk_drew ?_ | refine blk_alloc ?_ _)); exact BK123.out) NB123_0.out (by simp)); have n3_ := Aside0.mk (KeepBut.trans (by repeat (first | (with_reducible first | exact HK.out | apply KeepBut.set_ | apply keep_drewN | apply keep_drew | apply keep_alloc | refine keep_far ?_ GW122.out _ | refine keep_far ?_ GW123.out _) | exact HK.out)) hk (.inl rfl)); have n4_ := Aside0.mk (hb); have n5_ := Aside0.mk (hi); clear HO_124000; clear BK122; clear BK123; clear HK; clear HB; clear HI0; have HO_124000 := n0_; have BK122 := n1_; have BK123 := n2_; have HK := n3_; have HB := n4_; have HI0 := n5_; clear n0_ n1_ n2_ n3_ n4_ n5_; (try clear hb); (try clear hb2); (try clear hk); (try clear hi); have hnb124 := NB123_122.out; have hnc124 := NB122_123.out; have hnb125 := NB123_0.out; have hnc125 := NB0_123.out; have hcz126_0 : w123.cell? ⟨gb123, 0, none⟩ = some (u124000) := (blk_cell BK123.out 0).trans rfl; have hfz126_0 := blk_frozen BK123.out 0; obtain ⟨Ao127, co127, eo127⟩ := Kd.R_slice HO_124000.out; subst eo127; have hnb128 := NB122_0.out; have hnc128 := NB0_122.out; have hcz129_0 : w123.cell? ⟨gb122, 0, none⟩ = some (.slice none 0 0) := (blk_cell BK122.out 0).trans rfl; have hfz129_0 := blk_frozen BK122.out 0))
                      refine bodyPost_ret (results_cell_row rfl _ _ gb122 52 #[.slice Ao127 x124000_63.length co127] (0, 0) _ rfl (by (with_reducible repeat (first | refine blk_drewN ?_ _ | refine blk_drew ?_ | refine blk_alloc ?_ _)); refine blk_put (cs := #[.slice none 0 0]) ?_ 0 _ rfl; (with_reducible repeat (first | refine blk_drewN ?_ _ | refine blk_drew ?_ | refine blk_alloc ?_ _)); exact BK122.out) Try.underlying52 rfl (by kernel_rfl)) rfl ?_
                      exact ⟨_, by first | rfl | (simp [errW_none, errW_some] <;> rfl) | (simp [*, errW_none, errW_some] <;> rfl), by (with_reducible repeat (first | apply Kd.R_alloc | apply Kd.R_drewN | apply Kd.R_drew)); exact Kd.R_mono (Kd.R_far (p := ⟨gb122, 0, none⟩) (Kd.R_types HO_124000.out BK122.out (by decide)) (fun _ hk => hk.2) (.slice Ao127 x124000_63.length co127)) (fun _ hk => trivial), by repeat (first | (with_reducible first | exact HI0.out | apply IsS115.alloc | apply IsS115.drewN | apply IsS115.drew | apply IsS115.set_1 | apply IsS115.set_2 | refine IsS115.far ?_ NB0_122.out _ | refine IsS115.far ?_ NB0_123.out _) | exact HI0.out), by repeat (first | (with_reducible first | exact HB.out | apply below_alloc | apply pw_below_drewN | apply below_drew1 | refine below_set ?_ (IsS115.ge HI0.out) | refine below_set ?_ GE122.out | refine below_set ?_ GE123.out) | exact HB.out), by repeat (first | (with_reducible first | exact HK.out | apply KeepBut.set_ | apply keep_drewN | apply keep_drew | apply keep_alloc | refine keep_far ?_ GW122.out _ | refine keep_far ?_ GW123.out _) | exact HK.out)⟩

end Go.Proofs.Ytejjlklecmdpiaa.PFnHeap
