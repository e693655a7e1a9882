/- What 'FnExactElementText' comes to, in plain words over numbers, texts and lists: each function that it reaches answers what is told; put together, the law answers true. No condition but the sizes that come in. -/
import Derived.Test.YtaijkhkgjedkaaaGreatDoorEqFnExactElementText
namespace Go.Ve.X
open Go.Ve
set_option linter.all false
set_option maxRecDepth 100000
theorem Ty_Type.ind {P : Ty_Type → Prop} (h : ∀ x : Ty_Type, (∀ m ∈ x.f_Members, P m.2.2) → (∀ m ∈ x.f_Base, P m) → P x) (x : Ty_Type) : P x :=
  h x (fun m hm => Ty_Type.ind h m.2.2) (fun m hm => Ty_Type.ind h m)
termination_by SizeOf.sizeOf x
decreasing_by
  · obtain ⟨⟩ := x
    have h1 := List.sizeOf_lt_of_mem hm
    obtain ⟨a0, a1, a2⟩ := m
    simp [Ty_Type.f_Members] at h1 ⊢
    omega
  · obtain ⟨⟩ := x
    have h1 := List.sizeOf_lt_of_mem hm
    simp [Ty_Type.f_Base] at h1 ⊢
    omega
theorem szStringS_g (a : List ByteArray) (h : a.length ≤ maxLen ∧ a.length * 16 ≤ 140737488351232 ∧ ∀ e_ ∈ a, e_.size ≤ 140737488351232) : ∀ left : Int, 0 ≤ left → left ≤ 1048576 → TotM (laws_szStringS a left) := by
  have hl : a.length ≤ 140737488351232 := len_bound h.2.1 (by omega)
  have key : ∀ left : Int, 0 ≤ left → left ≤ 1048576 → TotM (laws_szStringS_l5 a left 0) := loop_totm a (fun i left => laws_szStringS_l5 a left (i : Int)) (fun left h0 h1 => by
    rw [laws_szStringS_l5_eq, sif_f (by omega)]; exact totm_some (by omega) h1) (fun i x left hx hi h0 h1 ih => by
    rw [laws_szStringS_l5_eq, sif_t (by omega), idx_some hx, sbind_some, wi64_add1 (by omega)]
    have hxs := h.2.2 x (mem_of_at hx)
    repeat' (first | with_reducible refine totm_some ?_ ?_ | with_reducible refine ih _ ?_ ?_ | with_reducible refine totm_sub ?_ ?_ ?_ ?_ (fun _ _ => ?_) | with_reducible refine totm_lt (fun _ => ?_) | with_reducible refine totm_bind ?_ (fun _ _ _ => ?_) | omega))
  intro left hl0 hl1
  rw [laws_szStringS_eq]
  repeat' (first | with_reducible refine totm_some ?_ ?_ | with_reducible refine key _ ?_ ?_ | with_reducible refine totm_sub ?_ ?_ ?_ ?_ (fun _ _ => ?_) | with_reducible refine totm_lt (fun _ => ?_) | with_reducible refine totm_bind ?_ (fun _ _ _ => ?_) | omega)
theorem szInt64S_g (a : List Int) (h : a.length ≤ maxLen ∧ a.length * 8 ≤ 140737488351232 ∧ ∀ e_ ∈ a, (Lit.int .i64 e_).wf = true) : ∀ left : Int, 0 ≤ left → left ≤ 1048576 → TotM (laws_szInt64S a left) := by
  have hl : a.length ≤ 140737488351232 := len_bound h.2.1 (by omega)
  intro left hl0 hl1
  rw [laws_szInt64S_eq]
  repeat' (first | with_reducible refine totm_some ?_ ?_ | with_reducible refine totm_sub ?_ ?_ ?_ ?_ (fun _ _ => ?_) | with_reducible refine totm_lt (fun _ => ?_) | with_reducible refine totm_bind ?_ (fun _ _ _ => ?_) | omega)
abbrev K_Member := ByteArray × Int × Ty_Type
abbrev OkA_Member (x : K_Member) : Prop := (x.1.size ≤ 140737488351232) ∧ ((Lit.int .i64 x.2.1).wf = true) ∧ (Ok_Ty_Type x.2.2)
theorem szMember_g (x : K_Member) (h : OkA_Member x) (h2 : ∀ left : Int, 0 ≤ left → left ≤ 1048576 → TotM (laws_szType x.2.2.f_Kind x.2.2.f_Size x.2.2.f_Signed x.2.2.f_Big x.2.2.f_Names x.2.2.f_Nums x.2.2.f_Members x.2.2.f_Base x.2.2.f_Count left)) : ∀ left : Int, 0 ≤ left → left ≤ 1048576 → TotM (laws_szMember x.1 x.2.1 x.2.2.f_Kind x.2.2.f_Size x.2.2.f_Signed x.2.2.f_Big x.2.2.f_Names x.2.2.f_Nums x.2.2.f_Members x.2.2.f_Base x.2.2.f_Count left) := by
  intro left hl0 hl1
  rw [laws_szMember_eq]
  have hs0 := h.1
  repeat' (first | with_reducible refine totm_some ?_ ?_ | with_reducible refine h2 _ ?_ ?_ | with_reducible refine totm_sub ?_ ?_ ?_ ?_ (fun _ _ => ?_) | with_reducible refine totm_lt (fun _ => ?_) | with_reducible refine totm_bind ?_ (fun _ _ _ => ?_) | omega)
theorem szMemberS_g (a : List (ByteArray × Int × Ty_Type)) (h : a.length ≤ maxLen ∧ a.length * 152 ≤ 140737488351232 ∧ ∀ e_ ∈ a, OkA_Member e_) (hr : ∀ x ∈ a, ∀ left : Int, 0 ≤ left → left ≤ 1048576 → TotM (laws_szMember x.1 x.2.1 x.2.2.f_Kind x.2.2.f_Size x.2.2.f_Signed x.2.2.f_Big x.2.2.f_Names x.2.2.f_Nums x.2.2.f_Members x.2.2.f_Base x.2.2.f_Count left)) : ∀ left : Int, 0 ≤ left → left ≤ 1048576 → TotM (laws_szMemberS a left) := by
  have hl : a.length ≤ 140737488351232 := len_bound h.2.1 (by omega)
  have key : ∀ left : Int, 0 ≤ left → left ≤ 1048576 → TotM (laws_szMemberS_l5 a left 0) := loop_totm a (fun i left => laws_szMemberS_l5 a left (i : Int)) (fun left h0 h1 => by
    rw [laws_szMemberS_l5_eq, sif_f (by omega)]; exact totm_some (by omega) h1) (fun i x left hx hi h0 h1 ih => by
    rw [laws_szMemberS_l5_eq, sif_t (by omega), idx_some hx, sbind_some, wi64_add1 (by omega)]
    repeat' (first | with_reducible refine totm_some ?_ ?_ | with_reducible refine ih _ ?_ ?_ | with_reducible refine hr x (mem_of_at hx) _ ?_ ?_ | with_reducible refine totm_sub ?_ ?_ ?_ ?_ (fun _ _ => ?_) | with_reducible refine totm_lt (fun _ => ?_) | with_reducible refine totm_bind ?_ (fun _ _ _ => ?_) | omega))
  intro left hl0 hl1
  rw [laws_szMemberS_eq]
  repeat' (first | with_reducible refine totm_some ?_ ?_ | with_reducible refine key _ ?_ ?_ | with_reducible refine totm_sub ?_ ?_ ?_ ?_ (fun _ _ => ?_) | with_reducible refine totm_lt (fun _ => ?_) | with_reducible refine totm_bind ?_ (fun _ _ _ => ?_) | omega)
theorem szTypeS_g (a : List Ty_Type) (h : a.length ≤ maxLen ∧ a.length * 128 ≤ 140737488351232 ∧ ∀ e_ ∈ a, Ok_Ty_Type e_) (hr : ∀ x ∈ a, ∀ left : Int, 0 ≤ left → left ≤ 1048576 → TotM (laws_szType x.f_Kind x.f_Size x.f_Signed x.f_Big x.f_Names x.f_Nums x.f_Members x.f_Base x.f_Count left)) : ∀ left : Int, 0 ≤ left → left ≤ 1048576 → TotM (laws_szTypeS a left) := by
  have hl : a.length ≤ 140737488351232 := len_bound h.2.1 (by omega)
  have key : ∀ left : Int, 0 ≤ left → left ≤ 1048576 → TotM (laws_szTypeS_l5 a left 0) := loop_totm a (fun i left => laws_szTypeS_l5 a left (i : Int)) (fun left h0 h1 => by
    rw [laws_szTypeS_l5_eq, sif_f (by omega)]; exact totm_some (by omega) h1) (fun i x left hx hi h0 h1 ih => by
    rw [laws_szTypeS_l5_eq, sif_t (by omega), idx_some hx, sbind_some, wi64_add1 (by omega)]
    repeat' (first | with_reducible refine totm_some ?_ ?_ | with_reducible refine ih _ ?_ ?_ | with_reducible refine hr x (mem_of_at hx) _ ?_ ?_ | with_reducible refine totm_sub ?_ ?_ ?_ ?_ (fun _ _ => ?_) | with_reducible refine totm_lt (fun _ => ?_) | with_reducible refine totm_bind ?_ (fun _ _ _ => ?_) | omega))
  intro left hl0 hl1
  rw [laws_szTypeS_eq]
  repeat' (first | with_reducible refine totm_some ?_ ?_ | with_reducible refine key _ ?_ ?_ | with_reducible refine totm_sub ?_ ?_ ?_ ?_ (fun _ _ => ?_) | with_reducible refine totm_lt (fun _ => ?_) | with_reducible refine totm_bind ?_ (fun _ _ _ => ?_) | omega)
theorem szType_g (x : Ty_Type) (h : Ok_Ty_Type x) : ∀ left : Int, 0 ≤ left → left ≤ 1048576 → TotM (laws_szType x.f_Kind x.f_Size x.f_Signed x.f_Big x.f_Names x.f_Nums x.f_Members x.f_Base x.f_Count left) := by
  revert h
  refine Ty_Type.ind (P := fun x => Ok_Ty_Type x → ∀ left : Int, 0 ≤ left → left ≤ 1048576 → TotM (laws_szType x.f_Kind x.f_Size x.f_Signed x.f_Big x.f_Names x.f_Nums x.f_Members x.f_Base x.f_Count left)) ?_ x
  intro x ih_Members ih_Base h
  have h := Ok_Ty_Type.out h
  have g0 := (szStringS_g x.f_Names h.2.2.2.2.1)
  have g1 := (szInt64S_g x.f_Nums h.2.2.2.2.2.1)
  have g2 := (szMemberS_g x.f_Members h.2.2.2.2.2.2.1 (fun y hy => (szMember_g y (h.2.2.2.2.2.2.1.2.2 y hy) (ih_Members y hy (h.2.2.2.2.2.2.1.2.2 y hy).2.2))))
  have g3 := (szTypeS_g x.f_Base h.2.2.2.2.2.2.2.1 (fun y hy => (ih_Base y hy (h.2.2.2.2.2.2.2.1.2.2 y hy))))
  intro left hl0 hl1
  rw [laws_szType_eq]
  repeat' (first | with_reducible refine totm_some ?_ ?_ | with_reducible refine g0 _ ?_ ?_ | with_reducible refine g1 _ ?_ ?_ | with_reducible refine g2 _ ?_ ?_ | with_reducible refine g3 _ ?_ ?_ | with_reducible refine totm_sub ?_ ?_ ?_ ?_ (fun _ _ => ?_) | with_reducible refine totm_lt (fun _ => ?_) | with_reducible refine totm_bind ?_ (fun _ _ _ => ?_) | omega)
theorem szType_a (x : Ty_Type) (h : Ok_Ty_Type x) : ∀ left : Int, 0 ≤ left → left ≤ 1048576 → TotM (laws_szType x.f_Kind x.f_Size x.f_Signed x.f_Big x.f_Names x.f_Nums x.f_Members x.f_Base x.f_Count left) := (szType_g x h)
theorem szStringS_a (a : List ByteArray) (h : a.length ≤ maxLen ∧ a.length * 16 ≤ 140737488351232 ∧ ∀ e_ ∈ a, e_.size ≤ 140737488351232) : ∀ left : Int, 0 ≤ left → left ≤ 1048576 → TotM (laws_szStringS a left) := (szStringS_g a h)
theorem szInt64S_a (a : List Int) (h : a.length ≤ maxLen ∧ a.length * 8 ≤ 140737488351232 ∧ ∀ e_ ∈ a, (Lit.int .i64 e_).wf = true) : ∀ left : Int, 0 ≤ left → left ≤ 1048576 → TotM (laws_szInt64S a left) := (szInt64S_g a h)
theorem szMemberS_a (a : List (ByteArray × Int × Ty_Type)) (h : a.length ≤ maxLen ∧ a.length * 152 ≤ 140737488351232 ∧ ∀ e_ ∈ a, OkA_Member e_) : ∀ left : Int, 0 ≤ left → left ≤ 1048576 → TotM (laws_szMemberS a left) := (szMemberS_g a h (fun y hy => (szMember_g y (h.2.2 y hy) (szType_g y.2.2 (h.2.2 y hy).2.2))))
theorem szMember_a (x : K_Member) (h : OkA_Member x) : ∀ left : Int, 0 ≤ left → left ≤ 1048576 → TotM (laws_szMember x.1 x.2.1 x.2.2.f_Kind x.2.2.f_Size x.2.2.f_Signed x.2.2.f_Big x.2.2.f_Names x.2.2.f_Nums x.2.2.f_Members x.2.2.f_Base x.2.2.f_Count left) := (szMember_g x h (szType_g x.2.2 h.2.2))
theorem szTypeS_a (a : List Ty_Type) (h : a.length ≤ maxLen ∧ a.length * 128 ≤ 140737488351232 ∧ ∀ e_ ∈ a, Ok_Ty_Type e_) : ∀ left : Int, 0 ≤ left → left ≤ 1048576 → TotM (laws_szTypeS a left) := (szTypeS_g a h (fun y hy => (szType_g y (h.2.2 y hy))))
theorem toStringS_g (a : List ByteArray) (h : a.length ≤ maxLen ∧ a.length * 16 ≤ 140737488351232 ∧ ∀ e_ ∈ a, e_.size ≤ 140737488351232) : laws_toStringS a = some a := by
  have hl : a.length ≤ 140737488351232 := len_bound h.2.1 (by omega)
  have key := fun z => loop_fill a id (fun i out => laws_toStringS_l3 a i out) id (fun out ho => by rw [laws_toStringS_l3_eq, sif_f (by omega)]; rfl) (fun i x out hx hi ho => by
    rw [laws_toStringS_l3_eq, sif_t (by omega), idx_some hx, sbind_some, sif_pos (lt3_ok (by omega) (by omega)), wi64_add1 (by omega)]
    rfl) (List.replicate a.length z) (by simp)
  rw [laws_toStringS_eq, sif_pos (by rw [le3_ok (by omega) (by omega), room_ok (by omega)]; rfl)]
  exact (key _).trans (by simp)
theorem toInt64S_g (a : List Int) (h : a.length ≤ maxLen ∧ a.length * 8 ≤ 140737488351232 ∧ ∀ e_ ∈ a, (Lit.int .i64 e_).wf = true) : laws_toInt64S a = some a := by
  have hl : a.length ≤ 140737488351232 := len_bound h.2.1 (by omega)
  have key := fun z => loop_fill a id (fun i out => laws_toInt64S_l3 a i out) id (fun out ho => by rw [laws_toInt64S_l3_eq, sif_f (by omega)]; rfl) (fun i x out hx hi ho => by
    rw [laws_toInt64S_l3_eq, sif_t (by omega), idx_some hx, sbind_some, sif_pos (lt3_ok (by omega) (by omega)), wi64_add1 (by omega)]
    rfl) (List.replicate a.length z) (by simp)
  rw [laws_toInt64S_eq, sif_pos (by rw [le3_ok (by omega) (by omega), room_ok (by omega)]; rfl)]
  exact (key _).trans (by simp)
theorem toMember_g (x : K_Member) (h : OkA_Member x) (h2 : laws_toType x.2.2.f_Kind x.2.2.f_Size x.2.2.f_Signed x.2.2.f_Big x.2.2.f_Names x.2.2.f_Nums x.2.2.f_Members x.2.2.f_Base x.2.2.f_Count = some (x.2.2.f_Kind, x.2.2.f_Size, x.2.2.f_Signed, x.2.2.f_Big, x.2.2.f_Count, x.2.2.f_Names, x.2.2.f_Nums, x.2.2.f_Members, x.2.2.f_Base)) : laws_toMember x.1 x.2.1 x.2.2.f_Kind x.2.2.f_Size x.2.2.f_Signed x.2.2.f_Big x.2.2.f_Names x.2.2.f_Nums x.2.2.f_Members x.2.2.f_Base x.2.2.f_Count = some (x.1, x.2.1, x.2.2.f_Kind, x.2.2.f_Size, x.2.2.f_Signed, x.2.2.f_Big, x.2.2.f_Count, x.2.2.f_Names, x.2.2.f_Nums, x.2.2.f_Members, x.2.2.f_Base) := by
  rw [laws_toMember_eq, h2, sbind_some]
theorem toMemberS_g (a : List (ByteArray × Int × Ty_Type)) (h : a.length ≤ maxLen ∧ a.length * 152 ≤ 140737488351232 ∧ ∀ e_ ∈ a, OkA_Member e_) (hr : ∀ x ∈ a, laws_toMember x.1 x.2.1 x.2.2.f_Kind x.2.2.f_Size x.2.2.f_Signed x.2.2.f_Big x.2.2.f_Names x.2.2.f_Nums x.2.2.f_Members x.2.2.f_Base x.2.2.f_Count = some (x.1, x.2.1, x.2.2.f_Kind, x.2.2.f_Size, x.2.2.f_Signed, x.2.2.f_Big, x.2.2.f_Count, x.2.2.f_Names, x.2.2.f_Nums, x.2.2.f_Members, x.2.2.f_Base)) : laws_toMemberS a = some a := by
  have hl : a.length ≤ 140737488351232 := len_bound h.2.1 (by omega)
  have key := fun z => loop_fill a id (fun i out => laws_toMemberS_l3 a i out) id (fun out ho => by rw [laws_toMemberS_l3_eq, sif_f (by omega)]; rfl) (fun i x out hx hi ho => by
    rw [laws_toMemberS_l3_eq, sif_t (by omega), idx_some hx, sbind_some, hr x (mem_of_at hx), sbind_some, sif_pos (lt3_ok (by omega) (by omega)), wi64_add1 (by omega)]
    simp only [Ty_Type.eta]
    rfl) (List.replicate a.length z) (by simp)
  rw [laws_toMemberS_eq, sif_pos (by rw [le3_ok (by omega) (by omega), room_ok (by omega)]; rfl)]
  exact (key _).trans (by simp)
theorem toTypeS_g (a : List Ty_Type) (h : a.length ≤ maxLen ∧ a.length * 128 ≤ 140737488351232 ∧ ∀ e_ ∈ a, Ok_Ty_Type e_) (hr : ∀ x ∈ a, laws_toType x.f_Kind x.f_Size x.f_Signed x.f_Big x.f_Names x.f_Nums x.f_Members x.f_Base x.f_Count = some (x.f_Kind, x.f_Size, x.f_Signed, x.f_Big, x.f_Count, x.f_Names, x.f_Nums, x.f_Members, x.f_Base)) : laws_toTypeS a = some a := by
  have hl : a.length ≤ 140737488351232 := len_bound h.2.1 (by omega)
  have key := fun z => loop_fill a id (fun i out => laws_toTypeS_l3 a i out) id (fun out ho => by rw [laws_toTypeS_l3_eq, sif_f (by omega)]; rfl) (fun i x out hx hi ho => by
    rw [laws_toTypeS_l3_eq, sif_t (by omega), idx_some hx, sbind_some, hr x (mem_of_at hx), sbind_some, sif_pos (lt3_ok (by omega) (by omega)), wi64_add1 (by omega)]
    simp only [Ty_Type.eta]
    rfl) (List.replicate a.length z) (by simp)
  rw [laws_toTypeS_eq, sif_pos (by rw [le3_ok (by omega) (by omega), room_ok (by omega)]; rfl)]
  exact (key _).trans (by simp)
theorem toType_g (x : Ty_Type) (h : Ok_Ty_Type x) : laws_toType x.f_Kind x.f_Size x.f_Signed x.f_Big x.f_Names x.f_Nums x.f_Members x.f_Base x.f_Count = some (x.f_Kind, x.f_Size, x.f_Signed, x.f_Big, x.f_Count, x.f_Names, x.f_Nums, x.f_Members, x.f_Base) := by
  revert h
  refine Ty_Type.ind (P := fun x => Ok_Ty_Type x → laws_toType x.f_Kind x.f_Size x.f_Signed x.f_Big x.f_Names x.f_Nums x.f_Members x.f_Base x.f_Count = some (x.f_Kind, x.f_Size, x.f_Signed, x.f_Big, x.f_Count, x.f_Names, x.f_Nums, x.f_Members, x.f_Base)) ?_ x
  intro x ih_Members ih_Base h
  have h := Ok_Ty_Type.out h
  have g0 := (toStringS_g x.f_Names h.2.2.2.2.1)
  have g1 := (toInt64S_g x.f_Nums h.2.2.2.2.2.1)
  have g2 := (toMemberS_g x.f_Members h.2.2.2.2.2.2.1 (fun y hy => (toMember_g y (h.2.2.2.2.2.2.1.2.2 y hy) (ih_Members y hy (h.2.2.2.2.2.2.1.2.2 y hy).2.2))))
  have g3 := (toTypeS_g x.f_Base h.2.2.2.2.2.2.2.1 (fun y hy => (ih_Base y hy (h.2.2.2.2.2.2.2.1.2.2 y hy))))
  rw [laws_toType_eq, g0, sbind_some, g1, sbind_some, g2, sbind_some, g3, sbind_some]
theorem toType_a (x : Ty_Type) (h : Ok_Ty_Type x) : laws_toType x.f_Kind x.f_Size x.f_Signed x.f_Big x.f_Names x.f_Nums x.f_Members x.f_Base x.f_Count = some (x.f_Kind, x.f_Size, x.f_Signed, x.f_Big, x.f_Count, x.f_Names, x.f_Nums, x.f_Members, x.f_Base) := (toType_g x h)
theorem toStringS_a (a : List ByteArray) (h : a.length ≤ maxLen ∧ a.length * 16 ≤ 140737488351232 ∧ ∀ e_ ∈ a, e_.size ≤ 140737488351232) : laws_toStringS a = some a := (toStringS_g a h)
theorem toInt64S_a (a : List Int) (h : a.length ≤ maxLen ∧ a.length * 8 ≤ 140737488351232 ∧ ∀ e_ ∈ a, (Lit.int .i64 e_).wf = true) : laws_toInt64S a = some a := (toInt64S_g a h)
theorem toMemberS_a (a : List (ByteArray × Int × Ty_Type)) (h : a.length ≤ maxLen ∧ a.length * 152 ≤ 140737488351232 ∧ ∀ e_ ∈ a, OkA_Member e_) : laws_toMemberS a = some a := (toMemberS_g a h (fun y hy => (toMember_g y (h.2.2 y hy) (toType_g y.2.2 (h.2.2 y hy).2.2))))
theorem toMember_a (x : K_Member) (h : OkA_Member x) : laws_toMember x.1 x.2.1 x.2.2.f_Kind x.2.2.f_Size x.2.2.f_Signed x.2.2.f_Big x.2.2.f_Names x.2.2.f_Nums x.2.2.f_Members x.2.2.f_Base x.2.2.f_Count = some (x.1, x.2.1, x.2.2.f_Kind, x.2.2.f_Size, x.2.2.f_Signed, x.2.2.f_Big, x.2.2.f_Count, x.2.2.f_Names, x.2.2.f_Nums, x.2.2.f_Members, x.2.2.f_Base) := (toMember_g x h (toType_g x.2.2 h.2.2))
theorem toTypeS_a (a : List Ty_Type) (h : a.length ≤ maxLen ∧ a.length * 128 ≤ 140737488351232 ∧ ∀ e_ ∈ a, Ok_Ty_Type e_) : laws_toTypeS a = some a := (toTypeS_g a h (fun y hy => (toType_g y (h.2.2 y hy))))
theorem eqStringS_g (a : List ByteArray) (h : a.length ≤ maxLen ∧ a.length * 16 ≤ 140737488351232 ∧ ∀ e_ ∈ a, e_.size ≤ 140737488351232) : laws_eqStringS a a = some true := by
  have hl : a.length ≤ 140737488351232 := len_bound h.2.1 (by omega)
  have key := loop_all a (fun i => laws_eqStringS_l4 a a (i : Int)) (some true) (by rw [laws_eqStringS_l4_eq, sif_f (by omega)]) (fun i x hx hi => by
    rw [laws_eqStringS_l4_eq, sif_t (by omega), idx_some hx, sbind_some, sbind_some, seq_self, Bool.not_true, sif_false, wi64_add1 (by omega)])
  rw [laws_eqStringS_eq, bne_self_eq_false, sif_false]
  exact key
theorem eqInt64S_g (a : List Int) (h : a.length ≤ maxLen ∧ a.length * 8 ≤ 140737488351232 ∧ ∀ e_ ∈ a, (Lit.int .i64 e_).wf = true) : laws_eqInt64S a a = some true := by
  have hl : a.length ≤ 140737488351232 := len_bound h.2.1 (by omega)
  have key := loop_all a (fun i => laws_eqInt64S_l4 a a (i : Int)) (some true) (by rw [laws_eqInt64S_l4_eq, sif_f (by omega)]) (fun i x hx hi => by
    rw [laws_eqInt64S_l4_eq, sif_t (by omega), idx_some hx, sbind_some, sbind_some, bne_self_eq_false, sif_false, wi64_add1 (by omega)])
  rw [laws_eqInt64S_eq, bne_self_eq_false, sif_false]
  exact key
theorem eqMember_g (x : K_Member) (h : OkA_Member x) (h2 : laws_eqType x.2.2.f_Kind x.2.2.f_Size x.2.2.f_Signed x.2.2.f_Big x.2.2.f_Names x.2.2.f_Nums x.2.2.f_Members x.2.2.f_Base x.2.2.f_Count x.2.2.f_Kind x.2.2.f_Size x.2.2.f_Signed x.2.2.f_Big x.2.2.f_Names x.2.2.f_Nums x.2.2.f_Members x.2.2.f_Base x.2.2.f_Count = some true) : laws_eqMember x.1 x.2.1 x.2.2.f_Kind x.2.2.f_Size x.2.2.f_Signed x.2.2.f_Big x.2.2.f_Names x.2.2.f_Nums x.2.2.f_Members x.2.2.f_Base x.2.2.f_Count x.1 x.2.1 x.2.2.f_Kind x.2.2.f_Size x.2.2.f_Signed x.2.2.f_Big x.2.2.f_Names x.2.2.f_Nums x.2.2.f_Members x.2.2.f_Base x.2.2.f_Count = some true := by
  rw [laws_eqMember_eq, h2, sbind_some]
  simp only [seq_self, bne_self_eq_false, beq_self_eq_true, Bool.not_true, Bool.not_false, sif_false, sif_true]
theorem eqMemberS_g (a : List (ByteArray × Int × Ty_Type)) (h : a.length ≤ maxLen ∧ a.length * 152 ≤ 140737488351232 ∧ ∀ e_ ∈ a, OkA_Member e_) (hr : ∀ x ∈ a, laws_eqMember x.1 x.2.1 x.2.2.f_Kind x.2.2.f_Size x.2.2.f_Signed x.2.2.f_Big x.2.2.f_Names x.2.2.f_Nums x.2.2.f_Members x.2.2.f_Base x.2.2.f_Count x.1 x.2.1 x.2.2.f_Kind x.2.2.f_Size x.2.2.f_Signed x.2.2.f_Big x.2.2.f_Names x.2.2.f_Nums x.2.2.f_Members x.2.2.f_Base x.2.2.f_Count = some true) : laws_eqMemberS a a = some true := by
  have hl : a.length ≤ 140737488351232 := len_bound h.2.1 (by omega)
  have key := loop_all a (fun i => laws_eqMemberS_l4 a a (i : Int)) (some true) (by rw [laws_eqMemberS_l4_eq, sif_f (by omega)]) (fun i x hx hi => by
    rw [laws_eqMemberS_l4_eq, sif_t (by omega), idx_some hx, sbind_some, sbind_some, hr x (mem_of_at hx), sbind_some, Bool.not_true, sif_false, wi64_add1 (by omega)])
  rw [laws_eqMemberS_eq, bne_self_eq_false, sif_false]
  exact key
theorem eqTypeS_g (a : List Ty_Type) (h : a.length ≤ maxLen ∧ a.length * 128 ≤ 140737488351232 ∧ ∀ e_ ∈ a, Ok_Ty_Type e_) (hr : ∀ x ∈ a, laws_eqType x.f_Kind x.f_Size x.f_Signed x.f_Big x.f_Names x.f_Nums x.f_Members x.f_Base x.f_Count x.f_Kind x.f_Size x.f_Signed x.f_Big x.f_Names x.f_Nums x.f_Members x.f_Base x.f_Count = some true) : laws_eqTypeS a a = some true := by
  have hl : a.length ≤ 140737488351232 := len_bound h.2.1 (by omega)
  have key := loop_all a (fun i => laws_eqTypeS_l4 a a (i : Int)) (some true) (by rw [laws_eqTypeS_l4_eq, sif_f (by omega)]) (fun i x hx hi => by
    rw [laws_eqTypeS_l4_eq, sif_t (by omega), idx_some hx, sbind_some, sbind_some, hr x (mem_of_at hx), sbind_some, Bool.not_true, sif_false, wi64_add1 (by omega)])
  rw [laws_eqTypeS_eq, bne_self_eq_false, sif_false]
  exact key
theorem eqType_g (x : Ty_Type) (h : Ok_Ty_Type x) : laws_eqType x.f_Kind x.f_Size x.f_Signed x.f_Big x.f_Names x.f_Nums x.f_Members x.f_Base x.f_Count x.f_Kind x.f_Size x.f_Signed x.f_Big x.f_Names x.f_Nums x.f_Members x.f_Base x.f_Count = some true := by
  revert h
  refine Ty_Type.ind (P := fun x => Ok_Ty_Type x → laws_eqType x.f_Kind x.f_Size x.f_Signed x.f_Big x.f_Names x.f_Nums x.f_Members x.f_Base x.f_Count x.f_Kind x.f_Size x.f_Signed x.f_Big x.f_Names x.f_Nums x.f_Members x.f_Base x.f_Count = some true) ?_ x
  intro x ih_Members ih_Base h
  have h := Ok_Ty_Type.out h
  have g0 := (eqStringS_g x.f_Names h.2.2.2.2.1)
  have g1 := (eqInt64S_g x.f_Nums h.2.2.2.2.2.1)
  have g2 := (eqMemberS_g x.f_Members h.2.2.2.2.2.2.1 (fun y hy => (eqMember_g y (h.2.2.2.2.2.2.1.2.2 y hy) (ih_Members y hy (h.2.2.2.2.2.2.1.2.2 y hy).2.2))))
  have g3 := (eqTypeS_g x.f_Base h.2.2.2.2.2.2.2.1 (fun y hy => (ih_Base y hy (h.2.2.2.2.2.2.2.1.2.2 y hy))))
  rw [laws_eqType_eq, g0, sbind_some, g1, sbind_some, g2, sbind_some, g3, sbind_some]
  simp only [seq_self, bne_self_eq_false, beq_self_eq_true, Bool.not_true, Bool.not_false, sif_false, sif_true]
theorem eqType_a (x : Ty_Type) (h : Ok_Ty_Type x) : laws_eqType x.f_Kind x.f_Size x.f_Signed x.f_Big x.f_Names x.f_Nums x.f_Members x.f_Base x.f_Count x.f_Kind x.f_Size x.f_Signed x.f_Big x.f_Names x.f_Nums x.f_Members x.f_Base x.f_Count = some true := (eqType_g x h)
theorem eqStringS_a (a : List ByteArray) (h : a.length ≤ maxLen ∧ a.length * 16 ≤ 140737488351232 ∧ ∀ e_ ∈ a, e_.size ≤ 140737488351232) : laws_eqStringS a a = some true := (eqStringS_g a h)
theorem eqInt64S_a (a : List Int) (h : a.length ≤ maxLen ∧ a.length * 8 ≤ 140737488351232 ∧ ∀ e_ ∈ a, (Lit.int .i64 e_).wf = true) : laws_eqInt64S a a = some true := (eqInt64S_g a h)
theorem eqMemberS_a (a : List (ByteArray × Int × Ty_Type)) (h : a.length ≤ maxLen ∧ a.length * 152 ≤ 140737488351232 ∧ ∀ e_ ∈ a, OkA_Member e_) : laws_eqMemberS a a = some true := (eqMemberS_g a h (fun y hy => (eqMember_g y (h.2.2 y hy) (eqType_g y.2.2 (h.2.2 y hy).2.2))))
theorem eqMember_a (x : K_Member) (h : OkA_Member x) : laws_eqMember x.1 x.2.1 x.2.2.f_Kind x.2.2.f_Size x.2.2.f_Signed x.2.2.f_Big x.2.2.f_Names x.2.2.f_Nums x.2.2.f_Members x.2.2.f_Base x.2.2.f_Count x.1 x.2.1 x.2.2.f_Kind x.2.2.f_Size x.2.2.f_Signed x.2.2.f_Big x.2.2.f_Names x.2.2.f_Nums x.2.2.f_Members x.2.2.f_Base x.2.2.f_Count = some true := (eqMember_g x h (eqType_g x.2.2 h.2.2))
theorem eqTypeS_a (a : List Ty_Type) (h : a.length ≤ maxLen ∧ a.length * 128 ≤ 140737488351232 ∧ ∀ e_ ∈ a, Ok_Ty_Type e_) : laws_eqTypeS a a = some true := (eqTypeS_g a h (fun y hy => (eqType_g y (h.2.2 y hy))))
/-! bytesL -/
theorem bidx_ofB (s : ByteArray) (i : Int) : bidx s i = idx (Ve.ofB s) i := by
  unfold bidx idx
  split
  · unfold Ve.ofB
    rw [List.getElem?_map]
    congr 1
    rw [Array.getElem?_toList, getElem?_def, getElem?_def]
    rfl
  · rfl
def inB (l : List Int) : Prop := ∀ x ∈ l, 0 ≤ x ∧ x ≤ 255
theorem ofB_inB (s : ByteArray) : inB (Ve.ofB s) := by
  intro x hx
  unfold Ve.ofB at hx
  obtain ⟨b, _, rfl⟩ := List.mem_map.1 hx
  have := b.toNat_lt
  omega
theorem toB_ofB (s : ByteArray) : Ve.toB (Ve.ofB s) = s := by
  unfold Ve.toB Ve.ofB
  rw [List.map_map]
  have : ((fun n : Int => UInt8.ofNat n.toNat) ∘ fun b : UInt8 => (b.toNat : Int)) = id := by funext b; simp
  rw [this, List.map_id]
theorem ofB_toB {l : List Int} (h : inB l) : Ve.ofB (Ve.toB l) = l := by
  unfold Ve.toB Ve.ofB
  simp only [List.map_map]
  conv => rhs; rw [← List.map_id l]
  refine List.map_congr_left (fun x hx => ?_)
  have := h x hx
  simp only [Function.comp, id]
  rw [UInt8.toNat_ofNat']
  omega
theorem bits_and_u64 (a : Int) : 0 ≤ bits .and .u64 a 255 ∧ bits .and .u64 a 255 ≤ 255 := by
  have h : ∀ x : BitVec 64, (x &&& 255#64).toNat ≤ 255 := fun x => by rw [BitVec.toNat_and]; exact Nat.and_le_right
  have := h (BitVec.ofInt 64 a)
  have e : bits .and .u64 a 255 = wu64 (((BitVec.ofInt 64 a) &&& 255#64).toNat : Int) := rfl
  rw [e, wu64_id (by omega) (by omega)]
  omega
/-! sameE -/
abbrev LenOk {α : Type} (l : List α) : Prop := l.length ≤ 140737488351232
theorem slEq_int (a b : List Int) (h : LenOk a) : slices_Equal_sint64_int64 a b = some (eqB a b) := by
  rw [slices_Equal_sint64_int64_eq]
  refine eqLoop a b (fun i => slices_Equal_sint64_int64_l4 a b (a.length : Int) (i : Int)) (by rw [slices_Equal_sint64_int64_l4_eq, sif_f (by omega)]) (fun i x y hx hy hi => ?_)
  rw [slices_Equal_sint64_int64_l4_eq, sif_t (by omega), idx_some hx, idx_some hy, sbind_some, sbind_some, bne_eqB, wi64_add1 (by omega)]
theorem slEq_str (a b : List ByteArray) (h : LenOk a) : slices_Equal_sstring_string a b = some (eqB a b) := by
  rw [slices_Equal_sstring_string_eq]
  refine eqLoop a b (fun i => slices_Equal_sstring_string_l4 a b (a.length : Int) (i : Int)) (by rw [slices_Equal_sstring_string_l4_eq, sif_f (by omega)]) (fun i x y hx hy hi => ?_)
  rw [slices_Equal_sstring_string_l4_eq, sif_t (by omega), idx_some hx, idx_some hy, sbind_some, sbind_some, seq_eqB, wi64_add1 (by omega)]
/-! selections -/
abbrev SelK := Int × List Int × List Int × List Int × List Int × List (List Int)
def selLen (s : SelK) : Prop := LenOk s.2.1 ∧ LenOk s.2.2.1 ∧ LenOk s.2.2.2.1 ∧ LenOk s.2.2.2.2.1 ∧ LenOk s.2.2.2.2.2 ∧ ∀ x ∈ s.2.2.2.2.2, LenOk x
/-! mappings -/
abbrev MapK := ByteArray × Int × List Int × List Int × List Int × List Int × List (List Int) × Int × List Int × List Int × List Int × List Int × List (List Int)
def mapS (m : MapK) : SelK := (m.2.1, m.2.2.1, m.2.2.2.1, m.2.2.2.2.1, m.2.2.2.2.2.1, m.2.2.2.2.2.2.1)
def mapT (m : MapK) : SelK := m.2.2.2.2.2.2.2
theorem map_eqB (a b : MapK) : eqB a b = (eqB a.1 b.1 && (eqB (mapS a) (mapS b) && eqB (mapT a) (mapT b))) := by
  unfold mapS mapT
  simp only [eqB_pair, Bool.and_assoc]
def mapsLen (l : List MapK) : Prop := LenOk l ∧ ∀ m ∈ l, selLen (mapS m) ∧ selLen (mapT m)
/-! types -/
theorem ty_ext {x y : Ty_Type} : x = y ↔ x.f_Kind = y.f_Kind ∧ x.f_Size = y.f_Size ∧ x.f_Signed = y.f_Signed ∧ x.f_Big = y.f_Big ∧ x.f_Names = y.f_Names ∧ x.f_Nums = y.f_Nums ∧ x.f_Members = y.f_Members ∧ x.f_Base = y.f_Base ∧ x.f_Count = y.f_Count := by
  constructor
  · rintro rfl; simp
  · rintro ⟨h1, h2, h3, h4, h5, h6, h7, h8, h9⟩
    rw [← Ty_Type.eta x, ← Ty_Type.eta y, h1, h2, h3, h4, h5, h6, h7, h8, h9]
theorem ty_eqB (x y : Ty_Type) : eqB x y = (eqB x.f_Kind y.f_Kind && (eqB x.f_Size y.f_Size && (eqB x.f_Signed y.f_Signed && (eqB x.f_Big y.f_Big && (eqB x.f_Names y.f_Names && (eqB x.f_Nums y.f_Nums && (eqB x.f_Members y.f_Members && (eqB x.f_Base y.f_Base && eqB x.f_Count y.f_Count)))))))) := by
  rw [Bool.eq_iff_iff]
  simp only [Bool.and_eq_true, eqB_iff]
  exact ty_ext
theorem ok_lens {x : Ty_Type} (h : Ok_Ty_Type x) : LenOk x.f_Names ∧ LenOk x.f_Nums ∧ LenOk x.f_Members ∧ LenOk x.f_Base ∧ (∀ m ∈ x.f_Members, Ok_Ty_Type m.2.2) ∧ ∀ b ∈ x.f_Base, Ok_Ty_Type b := by
  have h := Ok_Ty_Type.out h
  exact ⟨len_bound h.2.2.2.2.1.2.1 (by omega), len_bound h.2.2.2.2.2.1.2.1 (by omega), len_bound h.2.2.2.2.2.2.1.2.1 (by omega), len_bound h.2.2.2.2.2.2.2.1.2.1 (by omega), fun m hm => (h.2.2.2.2.2.2.1.2.2 m hm).2.2, fun b hb => h.2.2.2.2.2.2.2.1.2.2 b hb⟩
theorem slEq_members (a b : List (ByteArray × Int × Ty_Type)) (h : LenOk a) (ih : ∀ m ∈ a, ∀ y : Ty_Type, impl_SameType m.2.2.f_Kind m.2.2.f_Size m.2.2.f_Signed m.2.2.f_Big m.2.2.f_Names m.2.2.f_Nums m.2.2.f_Members m.2.2.f_Base m.2.2.f_Count y.f_Kind y.f_Size y.f_Signed y.f_Big y.f_Names y.f_Nums y.f_Members y.f_Base y.f_Count = some (eqB m.2.2 y)) : slices_EqualFunc_simpl_Member_simpl_Member_impl_Member_impl_Member_dd_sameMember a b = some (eqB a b) := by
  rw [slices_EqualFunc_simpl_Member_simpl_Member_impl_Member_impl_Member_dd_sameMember_eq]
  refine eqLoop a b (fun i => slices_EqualFunc_simpl_Member_simpl_Member_impl_Member_impl_Member_dd_sameMember_l4 b a (a.length : Int) (i : Int)) (by rw [slices_EqualFunc_simpl_Member_simpl_Member_impl_Member_impl_Member_dd_sameMember_l4_eq, sif_f (by omega)]) (fun i x y hx hy hi => ?_)
  rw [slices_EqualFunc_simpl_Member_simpl_Member_impl_Member_impl_Member_dd_sameMember_l4_eq, sif_t (by omega), idx_some hx, idx_some hy, sbind_some, sbind_some, impl_sameMember_eq, ih x (mem_of_at hx) y.2.2]
  simp only [sbind_some, sif_bool, seq_eqB, beq_eqB, eqB_pair]
  rw [wi64_add1 (by omega)]
theorem slEq_types (a b : List Ty_Type) (h : LenOk a) (ih : ∀ m ∈ a, ∀ y : Ty_Type, impl_SameType m.f_Kind m.f_Size m.f_Signed m.f_Big m.f_Names m.f_Nums m.f_Members m.f_Base m.f_Count y.f_Kind y.f_Size y.f_Signed y.f_Big y.f_Names y.f_Nums y.f_Members y.f_Base y.f_Count = some (eqB m y)) : slices_EqualFunc_simpl_Type_simpl_Type_impl_Type_impl_Type_dd_SameType a b = some (eqB a b) := by
  rw [slices_EqualFunc_simpl_Type_simpl_Type_impl_Type_impl_Type_dd_SameType_eq]
  refine eqLoop a b (fun i => slices_EqualFunc_simpl_Type_simpl_Type_impl_Type_impl_Type_dd_SameType_l4 b a (a.length : Int) (i : Int)) (by rw [slices_EqualFunc_simpl_Type_simpl_Type_impl_Type_impl_Type_dd_SameType_l4_eq, sif_f (by omega)]) (fun i x y hx hy hi => ?_)
  rw [slices_EqualFunc_simpl_Type_simpl_Type_impl_Type_impl_Type_dd_SameType_l4_eq, sif_t (by omega), idx_some hx, idx_some hy, sbind_some, sbind_some, ih x (mem_of_at hx) y, sbind_some, wi64_add1 (by omega)]
theorem impl_type_eqB (x : Ty_Type) (h : Ok_Ty_Type x) : ∀ y : Ty_Type, impl_SameType x.f_Kind x.f_Size x.f_Signed x.f_Big x.f_Names x.f_Nums x.f_Members x.f_Base x.f_Count y.f_Kind y.f_Size y.f_Signed y.f_Big y.f_Names y.f_Nums y.f_Members y.f_Base y.f_Count = some (eqB x y) := by
  revert h
  refine Ty_Type.ind (P := fun x => Ok_Ty_Type x → ∀ y : Ty_Type, impl_SameType x.f_Kind x.f_Size x.f_Signed x.f_Big x.f_Names x.f_Nums x.f_Members x.f_Base x.f_Count y.f_Kind y.f_Size y.f_Signed y.f_Big y.f_Names y.f_Nums y.f_Members y.f_Base y.f_Count = some (eqB x y)) ?_ x
  intro x ih1 ih2 h y
  obtain ⟨l1, l2, l3, l4, k1, k2⟩ := ok_lens h
  rw [impl_SameType_eq, slEq_str _ _ l1, slEq_int _ _ l2, slEq_members _ _ l3 (fun m hm y => ih1 m hm (k1 m hm) y), slEq_types _ _ l4 (fun m hm y => ih2 m hm (k2 m hm) y), ty_eqB]
  simp only [sbind_some, sif_bool, beq_eqB]
  cases eqB x.f_Kind y.f_Kind <;> cases eqB x.f_Size y.f_Size <;> cases eqB x.f_Signed y.f_Signed <;> cases eqB x.f_Big y.f_Big <;> cases eqB x.f_Count y.f_Count <;> simp
/-! within -/
theorem spec_l00In_some (n lo hi : Int) : spec_l00In n lo hi = some (inr n lo hi) := by rw [spec_l00In_eq, inr_sif]
theorem impl_within_some (n lo hi : Int) : impl_within n lo hi = some (inr n lo hi) := by rw [impl_within_eq, inr_sif]
/-! nmL -/
/-! names -/
def letr (c : Int) : Bool := (decide (65 ≤ c) && decide (c ≤ 90)) || (decide (97 ≤ c) && decide (c ≤ 122))
def nmC (c : Int) : Bool := letr c || (decide (48 ≤ c) && decide (c ≤ 57)) || (c == 95)
def nmAt (s : ByteArray) (i : Nat) : Bool := if i = 0 then letr ((Ve.ofB s).getD i 0) else nmC ((Ve.ofB s).getD i 0)
def isNm (s : ByteArray) : Bool := (decide (1 ≤ s.size) && decide (s.size ≤ 12)) && (List.range s.size).all (nmAt s)
theorem bidx_D {s : ByteArray} {i : Nat} (h : i < s.size) : bidx s (i : Int) = some ((Ve.ofB s).getD i 0) := by
  rw [bidx_ofB, idx_nat, List.getD_eq_getElem?_getD, List.getElem?_eq_getElem (by rw [ofB_len]; exact h)]; rfl
theorem spec_letter_some (c : Int) : spec_l01Letter c = some (letr c) := by
  rw [spec_l01Letter_eq]
  unfold letr
  by_cases a : 65 ≤ c <;> by_cases b : c ≤ 90 <;> by_cases d : 97 ≤ c <;> by_cases e : c ≤ 122 <;> simp [a, b, d, e, sif] <;> omega
theorem spec_IsName_some (s : ByteArray) : spec_IsName s = some (isNm s) := by
  rw [spec_IsName_eq]
  unfold isNm
  by_cases h0 : s.size = 0
  · rw [show (((s.size : Int) == 0)) = true by rw [beq_iff_eq]; omega, sif_true, decide_eq_false (show ¬ 1 ≤ s.size by omega)]; rfl
  · rw [show (((s.size : Int) == 0)) = false by rw [beq_eq_false_iff_ne]; omega, sif_false, decide_eq_true (show 1 ≤ s.size by omega)]
    by_cases h1 : (s.size : Int) > 12
    · rw [sif_t h1, decide_eq_false (show ¬ s.size ≤ 12 by omega)]; rfl
    · rw [sif_f h1, decide_eq_true (show s.size ≤ 12 by omega)]
      have k := all_loop (List.range s.size) (nmAt s) (fun i => match i with | 0 => sif (letr ((Ve.ofB s).getD 0 0)) (spec_IsName_l4 s 1) (some false) | i + 1 => spec_IsName_l4 s ((i + 1 : Nat) : Int)) false (fun i x hx hi => by
        rw [List.length_range] at hi
        rw [List.getElem?_range hi, Option.some.injEq] at hx
        subst hx
        unfold nmAt
        match i, hi with
        | 0, _ => rfl
        | i + 1, hi =>
          show spec_IsName_l4 s ((i + 1 : Nat) : Int) = sif (if i + 1 = 0 then _ else _) (spec_IsName_l4 s ((i + 1 + 1 : Nat) : Int)) _
          rw [if_neg (by omega), spec_IsName_l4_eq, sif_t (by omega), bidx_D hi, sbind_some, spec_letter_some, sbind_some, sbind_some, sbind_some, wi64_add1 (by omega)]
          unfold nmC
          generalize (Ve.ofB s).getD (i + 1) 0 = c
          cases letr c
          · simp only [bne, ge_iff_le, sbind_some]
            generalize (c == 95) = q, decide (48 ≤ c) = x1, decide (c ≤ 57) = x2
            cases q <;> cases x1 <;> cases x2 <;> rfl
          · rfl)
      have e0 : (match (0 : Nat) with | 0 => sif (letr ((Ve.ofB s).getD 0 0)) (spec_IsName_l4 s 1) (some false) | i + 1 => spec_IsName_l4 s ((i + 1 : Nat) : Int)) = sif (letr ((Ve.ofB s).getD 0 0)) (spec_IsName_l4 s 1) (some false) := rfl
      rw [show (0 : Int) = ((0 : Nat) : Int) from rfl, bidx_D (by omega), sbind_some, spec_letter_some, sbind_some, sif_not]
      refine k.trans ?_
      rw [List.length_range]
      have hn : s.size = (s.size - 1) + 1 := by omega
      rw [hn]
      show sif _ (spec_IsName_l4 s ((s.size - 1 + 1 : Nat) : Int)) _ = _
      rw [← hn, spec_IsName_l4_eq, sif_f (by omega), sif_some]
      cases (List.range s.size).all (nmAt s) <;> rfl
theorem impl_IsName_some (s : ByteArray) (h : s.size ≤ 140737488351232) : impl_IsName s = some (isNm s) := by
  rw [impl_IsName_eq]
  have k := all_loop (List.range s.size) (nmAt s) (fun i => impl_IsName_l2 s (s.size : Int) (i : Int)) false (fun i x hx hi => by
    rw [List.length_range] at hi
    rw [List.getElem?_range hi, Option.some.injEq] at hx
    subst hx
    show impl_IsName_l2 s (s.size : Int) (i : Int) = _
    rw [impl_IsName_l2_eq, sif_t (by omega), bidx_D hi, sbind_some]
    unfold nmAt nmC letr
    generalize (Ve.ofB s).getD i 0 = c
    simp only [impl_IsName_l6_eq, wi64_add1 (show i < 9223372036854775807 by omega)]
    by_cases hz : i = 0
    · subst hz
      by_cases a : 65 ≤ c <;> by_cases b : c ≤ 90 <;> by_cases d : 97 ≤ c <;> by_cases e : c ≤ 122 <;> simp [a, b, d, e, sif] <;> omega
    · have hz' : ((i : Int) == 0) = false := by rw [beq_eq_false_iff_ne]; omega
      rw [if_neg hz]
      simp only [hz', sif_false, bne]
      rw [show decide (48 ≤ c) = !decide (c < 48) by rw [← decide_not, decide_eq_decide]; omega, show decide (c ≤ 57) = !decide (c > 57) by rw [← decide_not, decide_eq_decide]; omega]
      by_cases f : c < 48 <;> by_cases g : c > 57 <;> by_cases a : 65 ≤ c <;> by_cases b : c ≤ 90 <;> by_cases d : 97 ≤ c <;> by_cases e : c ≤ 122 <;> (first | (exfalso; omega) | (generalize (c == 95) = q; cases q <;> simp [a, b, d, e, f, g, sif])))
  refine k.trans ?_
  show sif _ (impl_IsName_l2 s (s.size : Int) ((List.range s.size).length : Nat)) _ = _
  rw [List.length_range, impl_IsName_l2_eq, sif_f (by omega), sif_bool]
  unfold isNm
  rw [sif_bool, Bool.and_comm]
  congr 2
  rw [show decide ((s.size : Int) ≥ 1) = decide (1 ≤ s.size) by rw [decide_eq_decide]; omega, show decide ((s.size : Int) ≤ 12) = decide (s.size ≤ 12) by rw [decide_eq_decide]; omega]
/-! different names -/
/-! typeA -/
/-! membership -/
theorem spec_has_some (l : List Int) (x : Int) (hl : l.length ≤ 140737488351232) : spec_l00Has l x = some (l.any fun y => y == x) := by
  rw [spec_l00Has_eq]
  have k := all_loop l (fun y => !(y == x)) (fun i => spec_l00Has_l2 l x (i : Int)) true (fun i y hy hi => by
    show spec_l00Has_l2 l x (i : Int) = _
    rw [spec_l00Has_l2_eq, sif_t (by omega), idx_some hy, sbind_some, sif_not, wi64_add1 (by omega)])
  refine k.trans ?_
  show sif _ (spec_l00Has_l2 l x (l.length : Int)) _ = _
  rw [spec_l00Has_l2_eq, sif_f (by omega), sif_some]
  congr 1
  induction l with
  | nil => rfl
  | cons y r ih =>
    rw [List.all_cons, List.any_cons]
    have := ih (by rw [List.length_cons] at hl; omega)
    cases y == x
    · simpa using this (all_loop r (fun y => !(y == x)) (fun i => spec_l00Has_l2 r x (i : Int)) true (fun i y hy hi => by
        show spec_l00Has_l2 r x (i : Int) = _
        rw [spec_l00Has_l2_eq, sif_t (by omega), idx_some hy, sbind_some, sif_not, wi64_add1 (by rw [List.length_cons] at hl; omega)]))
    · rfl
theorem impl_hasI_some (l : List Int) (x : Int) (hl : l.length ≤ 140737488351232) : slices_Contains_sint64_int64 l x = some (l.any fun y => x == y) := by
  rw [slices_Contains_sint64_int64_eq, slices_Index_sint64_int64_eq]
  refine find_any (find_loop l (fun y => x == y) (fun i => slices_Index_sint64_int64_l2 l x (l.length : Int) i) (by rw [slices_Index_sint64_int64_l2_eq, sif_f (by omega)]) (fun i y hy hi => ?_))
  rw [slices_Index_sint64_int64_l2_eq, sif_t (by omega), idx_some hy, sbind_some, wi64_add1 (by omega)]
theorem impl_hasS_some (l : List ByteArray) (x : ByteArray) (hl : l.length ≤ 140737488351232) : slices_Contains_sstring_string l x = some (l.any fun y => seq x y) := by
  rw [slices_Contains_sstring_string_eq, slices_Index_sstring_string_eq]
  refine find_any (find_loop l (fun y => seq x y) (fun i => slices_Index_sstring_string_l2 l x (l.length : Int) i) (by rw [slices_Index_sstring_string_l2_eq, sif_f (by omega)]) (fun i y hy hi => ?_))
  rw [slices_Index_sstring_string_l2_eq, sif_t (by omega), idx_some hy, sbind_some, wi64_add1 (by omega)]
/-! names -/
def dfAt (N : List ByteArray) (i : Nat) : Bool := isNm (N.getD i (bs [])) && !((N.take i).any fun y => seq (N.getD i (bs [])) y)
def dfN (N : List ByteArray) : Bool := (List.range N.length).all (dfAt N)
theorem strD {N : List ByteArray} {i : Nat} (h : i < N.length) : N[i]? = some (N.getD i (bs [])) := by
  rw [List.getD_eq_getElem?_getD, List.getElem?_eq_getElem h]; rfl
theorem impl_diff_some (N : List ByteArray) (h : N.length ≤ 140737488351232) (hs : ∀ x ∈ N, x.size ≤ 140737488351232) : impl_differentNames N = some (dfN N) := by
  rw [impl_differentNames_eq]
  have k := all_loop (List.range N.length) (dfAt N) (fun i => impl_differentNames_l2 N N (N.length : Int) (i : Int)) false (fun i x hx hi => by
    rw [List.length_range] at hi
    rw [List.getElem?_range hi, Option.some.injEq] at hx
    subst hx
    show impl_differentNames_l2 N N (N.length : Int) (i : Int) = _
    have hm : N.getD i (bs []) ∈ N := List.mem_of_getElem? (strD hi)
    rw [impl_differentNames_l2_eq, sif_t (by omega), idx_nat, strD hi, sbind_some, impl_IsName_some _ (hs _ hm), sbind_some, sif_pos (le3_ok (by omega) (by omega)), Int.toNat_natCast, List.drop_zero, impl_hasS_some _ _ (by rw [List.length_take]; omega), sbind_some, wi64_add1 (by omega)]
    unfold dfAt
    cases isNm (N.getD i (bs [])) <;> cases (N.take i).any (fun y => seq (N.getD i (bs [])) y) <;> rfl)
  refine k.trans ?_
  show sif _ (impl_differentNames_l2 N N (N.length : Int) ((List.range N.length).length : Nat)) _ = _
  rw [List.length_range, impl_differentNames_l2_eq, sif_f (by omega), sif_some]
  unfold dfN
  cases (List.range N.length).all (dfAt N) <;> rfl
/-! typeB -/
/-! integers -/
def iOk (s : Int) (g b : Bool) : Bool := ([1, 2, 4, 8] : List Int).any (fun y => y == s) && ((g || decide (s < 8)) && !(b && (s == 1)))
def lz {α : Type} (l : List α) : Bool := (l.length : Int) == 0
def rest0 (N : List ByteArray) (M : List Int) (E : List (ByteArray × Int × Ty_Type)) (B : List Ty_Type) (c : Int) : Bool := lz N && (lz M && (lz E && (lz B && (c == 0))))
theorem four_in {s : Int} (h : (([1, 2, 4, 8] : List Int).any fun y => y == s) = true) : s = 1 ∨ s = 2 ∨ s = 4 ∨ s = 8 := by
  simp only [List.any_cons, List.any_nil, Bool.or_false, Bool.or_eq_true, beq_iff_eq] at h
  omega
theorem spec_Int_some (k s : Int) (g b : Bool) (N : List ByteArray) (M : List Int) (E : List (ByteArray × Int × Ty_Type)) (B : List Ty_Type) (c : Int) : spec_l02Int k s g b N M E B c = some (iOk s g b && rest0 N M E B c) := by
  rw [spec_l02Int_eq, spec_has_some _ _ (by simp), sbind_some]
  unfold iOk rest0 lz
  generalize ((N.length : Int) == 0) = n1, ((M.length : Int) == 0) = n2, ((E.length : Int) == 0) = n3, ((B.length : Int) == 0) = n4, (c == 0) = n5
  cases h : (([1, 2, 4, 8] : List Int).any fun y => y == s) with
  | false => rfl
  | true =>
    rcases four_in h with rfl | rfl | rfl | rfl <;> cases g <;> cases b <;> cases n1 <;> cases n2 <;> cases n3 <;> cases n4 <;> rfl
theorem any_swap (l : List Int) (x : Int) : (l.any fun y => x == y) = l.any fun y => y == x := by
  congr 1; funext y; rw [Bool.eq_iff_iff, beq_iff_eq, beq_iff_eq]; exact eq_comm
theorem impl_intOk_some (k s : Int) (g b : Bool) (N : List ByteArray) (M : List Int) (E : List (ByteArray × Int × Ty_Type)) (B : List Ty_Type) (c : Int) : impl_Type_intOk k s g b N M E B c = some (iOk s g b) := by
  rw [impl_Type_intOk_eq, impl_hasI_some _ _ (by simp), any_swap, sbind_some]
  unfold iOk
  cases h : (([1, 2, 4, 8] : List Int).any fun y => y == s) with
  | false => rfl
  | true => rcases four_in h with rfl | rfl | rfl | rfl <;> cases g <;> cases b <;> rfl
def rngM (s : Int) (g : Bool) : Int × Int :=
  if g = true then (if s = 1 then (-128, 127) else if s = 2 then (-32768, 32767) else if s = 4 then (-2147483648, 2147483647) else (-9223372036854775808, 9223372036854775807))
  else (if s = 1 then (0, 255) else if s = 2 then (0, 65535) else (0, 4294967295))
theorem iOk_in {s : Int} {g b : Bool} (h : iOk s g b = true) : (s = 1 ∨ s = 2 ∨ s = 4 ∨ s = 8) ∧ (g = true ∨ s < 8) := by
  unfold iOk at h
  simp only [Bool.and_eq_true, Bool.or_eq_true, decide_eq_true_eq] at h
  exact ⟨four_in h.1, h.2.1⟩
theorem spec_Range_some (k s : Int) (g b : Bool) (N : List ByteArray) (M : List Int) (E : List (ByteArray × Int × Ty_Type)) (B : List Ty_Type) (c : Int) (h : iOk s g b = true) : spec_l02Range k s g b N M E B c = some (rngM s g) := by
  obtain ⟨h1, h2⟩ := iOk_in h
  rw [spec_l02Range_eq]
  rcases h1 with rfl | rfl | rfl | rfl <;> cases g <;> first | rfl | (exfalso; simp at h2)
theorem impl_range_some (k s : Int) (g b : Bool) (N : List ByteArray) (M : List Int) (E : List (ByteArray × Int × Ty_Type)) (B : List Ty_Type) (c : Int) (h : iOk s g b = true) : impl_Type_intRange k s g b N M E B c = some (rngM s g) := by
  obtain ⟨h1, h2⟩ := iOk_in h
  rw [impl_Type_intRange_eq]
  rcases h1 with rfl | rfl | rfl | rfl <;> cases g <;> first | rfl | (exfalso; simp at h2)
theorem spec_Plain_some (k s : Int) (g b : Bool) (N : List ByteArray) (M : List Int) (E : List (ByteArray × Int × Ty_Type)) (B : List Ty_Type) (c : Int) : spec_l02Plain k s g b N M E B c = some (!g && !b) := by
  rw [spec_l02Plain_eq]; cases g <;> rfl
/-! enumerations -/
def numAt (lo hi : Int) (M : List Int) (i : Nat) : Bool := inr (M.getD i 0) lo hi && (decide (i = 0) || decide (M.getD (i - 1) 0 < M.getD i 0))
theorem intD {M : List Int} {i : Nat} (h : i < M.length) : M[i]? = some (M.getD i 0) := by
  rw [List.getD_eq_getElem?_getD, List.getElem?_eq_getElem h]; rfl
theorem all_and2 {α : Type} (l : List α) (p q : α → Bool) : l.all (fun x => p x && q x) = (l.all p && l.all q) := by
  induction l with
  | nil => rfl
  | cons x l ih => rw [List.all_cons, List.all_cons, List.all_cons, ih]; cases p x <;> cases q x <;> cases l.all p <;> rfl
theorem seq_swap (a b : ByteArray) : seq a b = seq b a := by
  rw [seq_eqB, seq_eqB, Bool.eq_iff_iff, eqB_iff, eqB_iff]; exact eq_comm
theorem not_any_all {α : Type} (l : List α) (p : α → Bool) : (!l.any p) = l.all fun x => !p x := by
  induction l with
  | nil => rfl
  | cons x l ih => rw [List.any_cons, List.all_cons, ← ih]; cases p x <;> rfl
theorem spec_Enum_loop (lo hi : Int) (k s : Int) (g b : Bool) (N : List ByteArray) (M : List Int) (E : List (ByteArray × Int × Ty_Type)) (B : List Ty_Type) (c : Int) (hn : N.length = M.length) (hl : N.length ≤ 140737488351232) : spec_l02Enum_l7 lo hi 0 k s g b N M E B c = some ((List.range N.length).all (numAt lo hi M) && dfN N) := by
  have k0 := all_loop (List.range N.length) (fun i => numAt lo hi M i && dfAt N i) (fun i => spec_l02Enum_l7 lo hi (i : Int) k s g b N M E B c) false (fun i x hx hi' => by
    rw [List.length_range] at hi'
    rw [List.getElem?_range hi', Option.some.injEq] at hx
    subst hx
    have inner : spec_l02Enum_l12 lo hi (i : Int) 0 k s g b N M E B c = sif (!((N.take i).any fun y => seq (N.getD i (bs [])) y)) (spec_l02Enum_l7 lo hi ((i + 1 : Nat) : Int) k s g b N M E B c) (some false) := by
      have k1 := all_loop (N.take i) (fun y => !seq (N.getD i (bs [])) y) (fun j => spec_l02Enum_l12 lo hi (i : Int) (j : Int) k s g b N M E B c) false (fun j y hy hj => by
        rw [List.length_take] at hj
        rw [List.getElem?_take, if_pos (by omega)] at hy
        show spec_l02Enum_l12 lo hi (i : Int) (j : Int) k s g b N M E B c = _
        rw [spec_l02Enum_l12_eq, sif_t (by omega), idx_some hy, sbind_some, idx_nat, strD hi', sbind_some, sif_not, wi64_add1 (by omega), seq_swap])
      refine k1.trans ?_
      rw [List.length_take, Nat.min_eq_left (by omega), ← not_any_all]
      show sif _ (spec_l02Enum_l12 lo hi (i : Int) (i : Int) k s g b N M E B c) _ = _
      rw [spec_l02Enum_l12_eq lo hi (i : Int) (i : Int), sif_f (by omega), wi64_add1 (by omega)]
    show spec_l02Enum_l7 lo hi (i : Int) k s g b N M E B c = _
    rw [spec_l02Enum_l7_eq, sif_t (by omega), idx_nat, strD hi', sbind_some, spec_IsName_some, sbind_some, idx_nat, intD (by omega), sbind_some, spec_l00In_some, sbind_some, inner]
    unfold dfAt numAt
    generalize ((N.take i).any fun y => seq (N.getD i (bs [])) y) = q
    by_cases hz : i = 0
    · rw [sif_f (by omega), decide_eq_true hz]
      cases isNm (N.getD i (bs [])) <;> cases inr (M.getD i 0) lo hi <;> cases q <;> rfl
    · rw [sif_t (by omega), wi64_id (by omega) (by omega), show (i : Int) - 1 = ((i - 1 : Nat) : Int) by omega, idx_nat, intD (by omega), sbind_some, sbind_some, decide_eq_false hz]
      by_cases hc : M.getD (i - 1) 0 ≥ M.getD i 0
      · rw [sif_t hc, decide_eq_false (by omega)]
        cases isNm (N.getD i (bs [])) <;> cases inr (M.getD i 0) lo hi <;> cases q <;> rfl
      · rw [sif_f hc, decide_eq_true (by omega)]
        cases isNm (N.getD i (bs [])) <;> cases inr (M.getD i 0) lo hi <;> cases q <;> rfl)
  refine k0.trans ?_
  show sif _ (spec_l02Enum_l7 lo hi ((List.range N.length).length : Nat) k s g b N M E B c) _ = _
  rw [List.length_range, spec_l02Enum_l7_eq, sif_f (by omega), sif_some, all_and2]
  unfold dfN
  cases (List.range N.length).all (numAt lo hi M) <;> cases (List.range N.length).all (dfAt N) <;> rfl
theorem impl_enum_loop (lo hi : Int) (k s : Int) (g b : Bool) (N : List ByteArray) (M : List Int) (E : List (ByteArray × Int × Ty_Type)) (B : List Ty_Type) (c : Int) (hl : M.length ≤ 140737488351232) (hN : N.length ≤ 140737488351232) (hs : ∀ x ∈ N, x.size ≤ 140737488351232) : impl_Type_enumOk_l5 lo hi M (M.length : Int) 0 k s g b N M E B c = some ((List.range M.length).all (numAt lo hi M) && (inr (M.length : Int) 1 6 && (((N.length : Int) == (M.length : Int)) && dfN N))) := by
  have k0 := all_loop (List.range M.length) (numAt lo hi M) (fun i => impl_Type_enumOk_l5 lo hi M (M.length : Int) (i : Int) k s g b N M E B c) false (fun i x hx hi' => by
    rw [List.length_range] at hi'
    rw [List.getElem?_range hi', Option.some.injEq] at hx
    subst hx
    show impl_Type_enumOk_l5 lo hi M (M.length : Int) (i : Int) k s g b N M E B c = _
    rw [impl_Type_enumOk_l5_eq, sif_t (by omega), idx_nat, intD hi', sbind_some, impl_within_some, sbind_some, wi64_add1 (by omega)]
    unfold numAt
    by_cases hz : i = 0
    · rw [sif_f (by omega), decide_eq_true hz]
      cases inr (M.getD i 0) lo hi <;> rfl
    · rw [sif_t (by omega), wi64_id (by omega) (by omega), show (i : Int) - 1 = ((i - 1 : Nat) : Int) by omega, idx_nat, intD (by omega), sbind_some, decide_eq_false hz]
      by_cases hc : M.getD i 0 ≤ M.getD (i - 1) 0
      · rw [sif_t hc, decide_eq_false (by omega)]
        cases inr (M.getD i 0) lo hi <;> rfl
      · rw [sif_f hc, decide_eq_true (by omega)]
        cases inr (M.getD i 0) lo hi <;> rfl)
  refine k0.trans ?_
  show sif _ (impl_Type_enumOk_l5 lo hi M (M.length : Int) ((List.range M.length).length : Nat) k s g b N M E B c) _ = _
  rw [List.length_range, impl_Type_enumOk_l5_eq, sif_f (by omega), impl_within_some, sbind_some, impl_diff_some N hN hs, sbind_some, sif_bool, sif_bool, sif_bool]
/-! typeC -/
/-! sizes, validity -/
def szT : Ty_Type → Int
  | .mk k s _ _ _ _ _ B c => if k = 3 then (match B with | [] => 0 | x :: _ => x.f_Size) else if k = 5 then (match B with | [] => 0 | x :: _ => c * szT x) else s
theorem szT_eq (t : Ty_Type) : szT t = if t.f_Kind = 3 then (match t.f_Base with | [] => 0 | x :: _ => x.f_Size) else if t.f_Kind = 5 then (match t.f_Base with | [] => 0 | x :: _ => t.f_Count * szT x) else t.f_Size := by
  cases t with
  | mk k s g b N M E B c => rw [szT.eq_def]; rfl
def enM (N : List ByteArray) (M : List Int) (x : Ty_Type) : Bool :=
  ((x.f_Kind == 1) && (iOk x.f_Size x.f_Signed x.f_Big && rest0 x.f_Names x.f_Nums x.f_Members x.f_Base x.f_Count)) && ((List.range M.length).all (numAt (rngM x.f_Size x.f_Signed).1 (rngM x.f_Size x.f_Signed).2 M) && (inr (M.length : Int) 1 6 && (((N.length : Int) == (M.length : Int)) && dfN N)))
def enB (N : List ByteArray) (M : List Int) : List Ty_Type → Bool
  | [x] => enM N M x
  | _ => false
def arB (v : Ty_Type → Bool) (c : Int) : List Ty_Type → Bool
  | [x] => v x && decide (c * szT x ≤ 24)
  | _ => false
theorem enB_in {N : List ByteArray} {M : List Int} {B : List Ty_Type} (h : enB N M B = true) : ∃ x, B = [x] ∧ enM N M x = true := by
  match B, h with
  | [x], h => exact ⟨x, rfl, h⟩
theorem arB_in {v : Ty_Type → Bool} {c : Int} {B : List Ty_Type} (h : arB v c B = true) : ∃ x, B = [x] ∧ v x = true ∧ c * szT x ≤ 24 := by
  match B, h with
  | [x], h =>
    have h : (v x && decide (c * szT x ≤ 24)) = true := h
    simp only [Bool.and_eq_true, decide_eq_true_eq] at h
    exact ⟨x, rfl, h⟩
def cpM (v : Ty_Type → Bool) : Int → List (ByteArray × Int × Ty_Type) → Int → Bool
  | e, [], s => decide (e ≤ s)
  | e, m :: r, s => v m.2.2 && (!decide (m.2.1 < e) && (!decide (m.2.1 > 24) && cpM v (m.2.1 + szT m.2.2) r s))
def vT : Nat → Ty_Type → Bool
  | 0, _ => false
  | d + 1, t =>
    if t.f_Kind = 1 then iOk t.f_Size t.f_Signed t.f_Big && rest0 t.f_Names t.f_Nums t.f_Members t.f_Base t.f_Count
    else if t.f_Kind = 2 then (inr t.f_Size 1 16 && (!t.f_Signed && !t.f_Big)) && rest0 t.f_Names t.f_Nums t.f_Members t.f_Base t.f_Count
    else if t.f_Kind = 3 then ((t.f_Size == 0) && (!t.f_Signed && !t.f_Big)) && ((lz t.f_Members && (t.f_Count == 0)) && enB t.f_Names t.f_Nums t.f_Base)
    else if t.f_Kind = 4 then ((inr t.f_Size 1 24 && (!t.f_Signed && !t.f_Big)) && ((lz t.f_Names && lz t.f_Nums) && (lz t.f_Base && (t.f_Count == 0)))) && (inr (t.f_Members.length : Int) 1 4 && (cpM (vT d) 0 t.f_Members t.f_Size && dfN (t.f_Members.map Prod.fst)))
    else if t.f_Kind = 5 then ((t.f_Size == 0) && (!t.f_Signed && !t.f_Big)) && (((lz t.f_Names && lz t.f_Nums) && lz t.f_Members) && (inr t.f_Count 1 4 && arB (vT d) t.f_Count t.f_Base))
    else if t.f_Kind = 6 then ((t.f_Size == 2) && (!t.f_Signed && !t.f_Big)) && rest0 t.f_Names t.f_Nums t.f_Members t.f_Base t.f_Count
    else false
theorem vT_succ (d : Nat) (t : Ty_Type) : vT (d + 1) t =
    if t.f_Kind = 1 then iOk t.f_Size t.f_Signed t.f_Big && rest0 t.f_Names t.f_Nums t.f_Members t.f_Base t.f_Count
    else if t.f_Kind = 2 then (inr t.f_Size 1 16 && (!t.f_Signed && !t.f_Big)) && rest0 t.f_Names t.f_Nums t.f_Members t.f_Base t.f_Count
    else if t.f_Kind = 3 then ((t.f_Size == 0) && (!t.f_Signed && !t.f_Big)) && ((lz t.f_Members && (t.f_Count == 0)) && enB t.f_Names t.f_Nums t.f_Base)
    else if t.f_Kind = 4 then ((inr t.f_Size 1 24 && (!t.f_Signed && !t.f_Big)) && ((lz t.f_Names && lz t.f_Nums) && (lz t.f_Base && (t.f_Count == 0)))) && (inr (t.f_Members.length : Int) 1 4 && (cpM (vT d) 0 t.f_Members t.f_Size && dfN (t.f_Members.map Prod.fst)))
    else if t.f_Kind = 5 then ((t.f_Size == 0) && (!t.f_Signed && !t.f_Big)) && (((lz t.f_Names && lz t.f_Nums) && lz t.f_Members) && (inr t.f_Count 1 4 && arB (vT d) t.f_Count t.f_Base))
    else if t.f_Kind = 6 then ((t.f_Size == 2) && (!t.f_Signed && !t.f_Big)) && rest0 t.f_Names t.f_Nums t.f_Members t.f_Base t.f_Count
    else false := rfl
/-- a valid type, kind by kind -/
theorem vT_kinds {d : Nat} {t : Ty_Type} (h : vT (d + 1) t = true) :
    (t.f_Kind = 1 ∧ iOk t.f_Size t.f_Signed t.f_Big = true) ∨ (t.f_Kind = 2 ∧ 1 ≤ t.f_Size ∧ t.f_Size ≤ 16) ∨
    (t.f_Kind = 3 ∧ ∃ x, t.f_Base = [x] ∧ enM t.f_Names t.f_Nums x = true) ∨
    (t.f_Kind = 4 ∧ (1 ≤ t.f_Size ∧ t.f_Size ≤ 24) ∧ (1 ≤ t.f_Members.length ∧ t.f_Members.length ≤ 4) ∧ cpM (vT d) 0 t.f_Members t.f_Size = true) ∨
    (t.f_Kind = 5 ∧ (1 ≤ t.f_Count ∧ t.f_Count ≤ 4) ∧ ∃ x, t.f_Base = [x] ∧ vT d x = true ∧ t.f_Count * szT x ≤ 24) ∨ (t.f_Kind = 6 ∧ t.f_Size = 2) := by
  rw [vT_succ] at h
  split at h
  · next c => simp only [Bool.and_eq_true] at h; exact .inl ⟨c, h.1⟩
  split at h
  · next c => simp only [Bool.and_eq_true, inr_iff] at h; exact .inr (.inl ⟨c, h.1.1⟩)
  split at h
  · next c =>
    simp only [Bool.and_eq_true] at h
    exact .inr (.inr (.inl ⟨c, enB_in h.2.2⟩))
  split at h
  · next c =>
    simp only [Bool.and_eq_true, inr_iff] at h
    exact .inr (.inr (.inr (.inl ⟨c, h.1.1.1, by omega, h.2.2.1⟩)))
  split at h
  · next c =>
    simp only [Bool.and_eq_true, inr_iff] at h
    exact .inr (.inr (.inr (.inr (.inl ⟨c, h.2.2.1, arB_in h.2.2.2⟩))))
  split at h
  · next c => simp only [Bool.and_eq_true, beq_iff_eq] at h; exact .inr (.inr (.inr (.inr (.inr ⟨c, h.1.1⟩))))
  · cases h
theorem enM_base {N : List ByteArray} {M : List Int} {x : Ty_Type} (h : enM N M x = true) : x.f_Kind = 1 ∧ iOk x.f_Size x.f_Signed x.f_Big = true := by
  unfold enM at h
  simp only [Bool.and_eq_true, beq_iff_eq] at h
  exact ⟨h.1.1, h.1.2.1⟩
theorem iOk_size {s : Int} {g b : Bool} (h : iOk s g b = true) : 1 ≤ s ∧ s ≤ 8 := by have := (iOk_in h).1; omega
theorem vT_size : ∀ {d : Nat} {t : Ty_Type}, vT d t = true → 1 ≤ szT t ∧ szT t ≤ 24
  | 0, _, h => by cases h
  | d + 1, t, h => by
    rw [szT_eq]
    rcases vT_kinds h with ⟨hk, h1⟩ | ⟨hk, h1⟩ | ⟨hk, x, hx, h1⟩ | ⟨hk, h1, _⟩ | ⟨hk, h1, x, hx, h2, h3⟩ | ⟨hk, h1⟩
    · rw [hk]; have := iOk_size h1; simp; omega
    · rw [hk]; simp; omega
    · rw [hk, hx]; have := iOk_size (enM_base h1).2; simp; omega
    · rw [hk]; simp; omega
    · rw [hk, hx]
      have := vT_size h2
      have h4 : 1 * 1 ≤ t.f_Count * szT x := Int.mul_le_mul h1.1 this.1 (by omega) (by omega)
      simp; omega
    · rw [hk, h1]; simp
theorem impl_size_some : ∀ {d : Nat} {t : Ty_Type}, vT d t = true → impl_Type_size t.f_Kind t.f_Size t.f_Signed t.f_Big t.f_Names t.f_Nums t.f_Members t.f_Base t.f_Count = some (szT t)
  | 0, _, h => by cases h
  | d + 1, t, h => by
    have hz := vT_size h
    rw [szT_eq] at hz ⊢
    rw [impl_Type_size_eq]
    rcases vT_kinds h with ⟨hk, h1⟩ | ⟨hk, h1⟩ | ⟨hk, x, hx, h1⟩ | ⟨hk, h1, _⟩ | ⟨hk, h1, x, hx, h2, h3⟩ | ⟨hk, h1⟩
    · rw [hk]; rfl
    · rw [hk]; rfl
    · rw [hk, hx]
      show sbind (impl_Type_size x.f_Kind x.f_Size x.f_Signed x.f_Big x.f_Names x.f_Nums x.f_Members x.f_Base x.f_Count) _ = _
      rw [impl_Type_size_eq, (enM_base h1).1]; rfl
    · rw [hk]; rfl
    · rw [hk, hx] at hz ⊢
      show sbind (impl_Type_size x.f_Kind x.f_Size x.f_Signed x.f_Big x.f_Names x.f_Nums x.f_Members x.f_Base x.f_Count) _ = _
      rw [impl_size_some h2, sbind_some]
      have hz : 1 ≤ t.f_Count * szT x ∧ t.f_Count * szT x ≤ 24 := hz
      rw [wi64_id (by omega) (by omega)]; rfl
    · rw [hk]; rfl
theorem spec_size_some : ∀ {d : Nat} {t : Ty_Type}, vT d t = true → spec_l02Size t.f_Kind t.f_Size t.f_Signed t.f_Big t.f_Names t.f_Nums t.f_Members t.f_Base t.f_Count = some (szT t)
  | 0, _, h => by cases h
  | d + 1, t, h => by
    have hz := vT_size h
    rw [szT_eq] at hz ⊢
    rw [spec_l02Size_eq]
    rcases vT_kinds h with ⟨hk, h1⟩ | ⟨hk, h1⟩ | ⟨hk, x, hx, h1⟩ | ⟨hk, h1, _⟩ | ⟨hk, h1, x, hx, h2, h3⟩ | ⟨hk, h1⟩
    · rw [hk]; rfl
    · rw [hk]; rfl
    · rw [hk, hx]; rfl
    · rw [hk]; rfl
    · rw [hk, hx] at hz ⊢
      show sbind (spec_l02Size x.f_Kind x.f_Size x.f_Signed x.f_Big x.f_Names x.f_Nums x.f_Members x.f_Base x.f_Count) _ = _
      rw [spec_size_some h2, sbind_some]
      have hz : 1 ≤ t.f_Count * szT x ∧ t.f_Count * szT x ≤ 24 := hz
      rw [wi64_id (by omega) (by omega)]; rfl
    · rw [hk]; rfl
/-! kbL -/
theorem kbeq {a b : Int} (h : a = b) : (a == b) = true := by rw [beq_iff_eq]; exact h
theorem kbne {a b : Int} (h : a ≠ b) : (a == b) = false := by rw [beq_eq_false_iff_ne]; exact h
/-! typeD -/
theorem eqB_nil {α : Type} (l : List α) : eqB l [] = lz l := by
  rw [Bool.eq_iff_iff, eqB_iff]; unfold lz; cases l <;> simp; omega
theorem eqB_zero (c : Int) : eqB c 0 = (c == 0) := (beq_eqB c 0).symm
theorem eqB_ff (g : Bool) : eqB g false = !g := by rw [← beq_eqB]; cases g <;> rfl
theorem impl_same_only (t : Ty_Type) (hok : Ok_Ty_Type t) (s' : Int) (g' b' : Bool) (N' : List ByteArray) (M' : List Int) (E' : List (ByteArray × Int × Ty_Type)) (B' : List Ty_Type) (c' : Int) :
    impl_SameType t.f_Kind t.f_Size t.f_Signed t.f_Big t.f_Names t.f_Nums t.f_Members t.f_Base t.f_Count t.f_Kind s' g' b' N' M' E' B' c' = some (eqB t.f_Size s' && (eqB t.f_Signed g' && (eqB t.f_Big b' && (eqB t.f_Names N' && (eqB t.f_Nums M' && (eqB t.f_Members E' && (eqB t.f_Base B' && eqB t.f_Count c'))))))) := by
  refine (impl_type_eqB t hok (Ty_Type.mk t.f_Kind s' g' b' N' M' E' B' c')).trans ?_
  rw [ty_eqB]
  show some (eqB t.f_Kind t.f_Kind && _) = _
  rw [eqB_self, Bool.true_and]; rfl
theorem impl_valid_int (x : Ty_Type) (hok : Ok_Ty_Type x) (hk : x.f_Kind = 1) (n : Int) (hn : 1 ≤ n) : impl_Type_valid x.f_Kind x.f_Size x.f_Signed x.f_Big x.f_Names x.f_Nums x.f_Members x.f_Base x.f_Count n = some (iOk x.f_Size x.f_Signed x.f_Big && rest0 x.f_Names x.f_Nums x.f_Members x.f_Base x.f_Count) := by
  rw [impl_Type_valid_eq, sif_f (by omega), impl_Type_only_eq]
  simp only [kbeq hk, sif_true, sbind_some, impl_same_only x hok, eqB_self, eqB_nil, eqB_zero, Bool.true_and, impl_intOk_some]
  show sif (!rest0 x.f_Names x.f_Nums x.f_Members x.f_Base x.f_Count) _ _ = _
  cases rest0 x.f_Names x.f_Nums x.f_Members x.f_Base x.f_Count <;> cases iOk x.f_Size x.f_Signed x.f_Big <;> rfl
theorem impl_enumOk_some (k s : Int) (g b : Bool) (N : List ByteArray) (M : List Int) (E : List (ByteArray × Int × Ty_Type)) (B : List Ty_Type) (c : Int) (hB : ∀ x ∈ B, Ok_Ty_Type x) (hM : M.length ≤ 140737488351232) (hN : N.length ≤ 140737488351232) (hs : ∀ x ∈ N, x.size ≤ 140737488351232) : impl_Type_enumOk k s g b N M E B c = some (enB N M B) := by
  rw [impl_Type_enumOk_eq]
  match B, hB with
  | [], _ => rfl
  | _ :: _ :: _, _ => 
    rw [sif_pos (by rw [bne_iff_ne]; simp only [List.length_cons]; omega)]; rfl
  | [x], hB =>
    have hx := hB x (by simp)
    rw [sif_neg (by rfl)]
    show sif (x.f_Kind != 1) _ (sbind (impl_Type_valid x.f_Kind x.f_Size x.f_Signed x.f_Big x.f_Names x.f_Nums x.f_Members x.f_Base x.f_Count 1) _) = _
    show _ = some (enM N M x)
    unfold enM
    by_cases hk : x.f_Kind = 1
    · rw [sif_neg (by rw [bne_eq_false_iff_eq]; exact hk), impl_valid_int x hx hk 1 (by omega), sbind_some, kbeq hk, Bool.true_and]
      cases hi : (iOk x.f_Size x.f_Signed x.f_Big && rest0 x.f_Names x.f_Nums x.f_Members x.f_Base x.f_Count) with
      | false => rfl
      | true =>
        simp only [Bool.and_eq_true] at hi
        rw [Bool.not_true, sif_false]
        show sbind (impl_Type_intRange x.f_Kind x.f_Size x.f_Signed x.f_Big x.f_Names x.f_Nums x.f_Members x.f_Base x.f_Count) _ = _
        rw [impl_range_some _ _ _ _ _ _ _ _ _ hi.1, sbind_some, impl_enum_loop _ _ _ _ _ _ _ _ _ _ _ hM hN hs]; rfl
    · rw [sif_pos (by rw [bne_iff_ne]; exact hk), kbne hk]; rfl
theorem room16 {n : Nat} (h : n ≤ 100) : room n 16 = true := by
  unfold room
  exact Nat.ble_eq_true_of_le (by omega)
theorem impl_comp_loop (d : Nat) (ih : ∀ t, Ok_Ty_Type t → impl_Type_valid t.f_Kind t.f_Size t.f_Signed t.f_Big t.f_Names t.f_Nums t.f_Members t.f_Base t.f_Count (d : Int) = some (vT d t)) (k s : Int) (g b : Bool) (N : List ByteArray) (M : List Int) (E : List (ByteArray × Int × Ty_Type)) (B : List Ty_Type) (c : Int) (hE : E.length ≤ 4) (hok : ∀ m ∈ E, Ok_Ty_Type m.2.2) (hs : ∀ m ∈ E, m.1.size ≤ 140737488351232) :
    ∀ n (i : Nat) (e : Int), E.length = i + n → 0 ≤ e → e ≤ 1000 → impl_Type_compoundOk_l6 (d : Int) e E (E.length : Int) (i : Int) k s g b N M E B c ((E.take i).map Prod.fst) = some (cpM (vT d) e (E.drop i) s && dfN (E.map Prod.fst)) := by
  intro n
  induction n with
  | zero =>
    intro i e hi h0 h1
    rw [impl_Type_compoundOk_l6_eq, sif_f (by omega), List.take_of_length_le (by omega), List.drop_eq_nil_of_le (by omega), impl_diff_some _ (by rw [List.length_map]; omega) (fun x hx => by
      obtain ⟨m, hm, rfl⟩ := List.mem_map.1 hx
      exact hs m hm), sbind_some, sif_bool]
    rfl
  | succ n ihn =>
    intro i e hi h0 h1
    have hlt : i < E.length := by omega
    have hm : E[i] ∈ E := List.getElem_mem hlt
    rw [impl_Type_compoundOk_l6_eq, sif_t (by omega), idx_nat, List.getElem?_eq_getElem hlt, sbind_some, ih _ (hok _ hm), sbind_some, List.drop_eq_getElem_cons hlt]
    show _ = some ((vT d E[i].2.2 && (!decide (E[i].2.1 < e) && (!decide (E[i].2.1 > 24) && cpM (vT d) (E[i].2.1 + szT E[i].2.2) (E.drop (i + 1)) s))) && _)
    cases hv : vT d E[i].2.2 with
    | false => rfl
    | true =>
      have hz := vT_size hv
      rw [Bool.not_true, sif_false]
      by_cases c1 : E[i].2.1 < e
      · rw [sif_t c1, decide_eq_true c1]; rfl
      · rw [sif_f c1, decide_eq_false c1]
        by_cases c2 : E[i].2.1 > 24
        · rw [sif_t c2, decide_eq_true c2]; rfl
        · rw [sif_f c2, decide_eq_false c2, impl_size_some hv, sbind_some, sif_pos (room16 (by rw [List.length_map, List.length_take]; omega)), wi64_id (by omega) (by omega), wi64_add1 (by omega)]
          have := ihn (i + 1) (E[i].2.1 + szT E[i].2.2) (by omega) (by omega) (by omega)
          rw [List.take_succ_eq_append_getElem hlt, List.map_append] at this
          exact this
theorem impl_comp_some (d : Nat) (ih : ∀ t, Ok_Ty_Type t → impl_Type_valid t.f_Kind t.f_Size t.f_Signed t.f_Big t.f_Names t.f_Nums t.f_Members t.f_Base t.f_Count (d : Int) = some (vT d t)) (k s : Int) (g b : Bool) (N : List ByteArray) (M : List Int) (E : List (ByteArray × Int × Ty_Type)) (B : List Ty_Type) (c : Int) (hok : ∀ m ∈ E, Ok_Ty_Type m.2.2) (hs : ∀ m ∈ E, m.1.size ≤ 140737488351232) :
    impl_Type_compoundOk k s g b N M E B c (d : Int) = some (inr s 1 24 && (inr (E.length : Int) 1 4 && (cpM (vT d) 0 E s && dfN (E.map Prod.fst)))) := by
  rw [impl_Type_compoundOk_eq, impl_within_some, sbind_some, impl_within_some, sbind_some]
  cases h1 : inr s 1 24 with
  | false => rfl
  | true =>
    cases h2 : inr (E.length : Int) 1 4 with
    | false => rfl
    | true =>
      have h2' := inr_iff.1 h2
      have := impl_comp_loop d ih k s g b N M E B c (by omega) hok hs E.length 0 0 (by omega) (by omega) (by omega)
      exact this
theorem impl_valid_some : ∀ (d : Nat), d ≤ 3 → ∀ t, Ok_Ty_Type t → impl_Type_valid t.f_Kind t.f_Size t.f_Signed t.f_Big t.f_Names t.f_Nums t.f_Members t.f_Base t.f_Count (d : Int) = some (vT d t)
  | 0, _, t, _ => by rw [impl_Type_valid_eq, sif_t (by omega)]; rfl
  | d + 1, hd, t, hok => by
    have ih := impl_valid_some d (by omega)
    obtain ⟨l1, l2, l3, l4, k1, k2⟩ := ok_lens hok
    have hO := Ok_Ty_Type.out hok
    by_cases c1 : t.f_Kind = 1
    · rw [impl_valid_int t hok c1 _ (by omega), vT_succ, if_pos c1]
    rw [impl_Type_valid_eq, sif_f (by omega), impl_Type_only_eq, vT_succ, if_neg c1, show wi64 (((d + 1 : Nat) : Int) - 1) = (d : Int) by rw [wi64_id (by omega) (by omega)]; omega]
    simp only [kbne c1, sif_false]
    by_cases c2 : t.f_Kind = 2
    · rw [if_pos c2]
      simp only [kbeq c2, sif_true, sbind_some, impl_same_only t hok, eqB_self, eqB_nil, eqB_zero, eqB_ff, Bool.true_and, impl_within_some]
      show sif (!(!t.f_Signed && (!t.f_Big && rest0 t.f_Names t.f_Nums t.f_Members t.f_Base t.f_Count))) _ _ = _
      cases rest0 t.f_Names t.f_Nums t.f_Members t.f_Base t.f_Count <;> cases t.f_Signed <;> cases t.f_Big <;> cases inr t.f_Size 1 16 <;> rfl
    rw [if_neg c2]
    simp only [kbne c2, sif_false]
    by_cases c6 : t.f_Kind = 6
    · rw [if_neg (by omega), if_neg (by omega), if_neg (by omega), if_pos c6]
      simp only [kbeq c6, kbne (show t.f_Kind ≠ 3 by omega), kbne (show t.f_Kind ≠ 4 by omega), kbne (show t.f_Kind ≠ 5 by omega), sif_true, sif_false, sbind_some, impl_same_only t hok, eqB_self, eqB_nil, eqB_zero, eqB_ff, Bool.true_and]
      show sif (!(!t.f_Signed && (!t.f_Big && rest0 t.f_Names t.f_Nums t.f_Members t.f_Base t.f_Count))) _ _ = _
      cases rest0 t.f_Names t.f_Nums t.f_Members t.f_Base t.f_Count <;> cases t.f_Signed <;> cases t.f_Big <;> cases t.f_Size == 2 <;> rfl
    simp only [kbne c6, sif_false]
    by_cases c3 : t.f_Kind = 3
    · rw [if_pos c3]
      simp only [kbeq c3, sif_true, sbind_some, impl_same_only t hok, eqB_self, eqB_nil, eqB_zero, eqB_ff, Bool.true_and, impl_enumOk_some _ _ _ _ _ _ _ _ _ k2 l2 l1 hO.2.2.2.2.1.2.2]
      generalize (enB t.f_Names t.f_Nums t.f_Base) = q
      cases t.f_Size == 0 <;> cases t.f_Signed <;> cases t.f_Big <;> cases lz t.f_Members <;> cases t.f_Count == 0 <;> cases q <;> rfl
    rw [if_neg c3]
    simp only [kbne c3, sif_false]
    by_cases c4 : t.f_Kind = 4
    · rw [if_pos c4]
      simp only [kbeq c4, sif_true, sbind_some, impl_same_only t hok, eqB_self, eqB_nil, eqB_zero, eqB_ff, Bool.true_and, impl_comp_some d ih _ _ _ _ _ _ _ _ _ k1 (fun m hm => (hO.2.2.2.2.2.2.1.2.2 m hm).1)]
      generalize (inr (t.f_Members.length : Int) 1 4 && (cpM (vT d) 0 t.f_Members t.f_Size && dfN (t.f_Members.map Prod.fst))) = q
      cases inr t.f_Size 1 24 <;> cases t.f_Signed <;> cases t.f_Big <;> cases lz t.f_Names <;> cases lz t.f_Nums <;> cases lz t.f_Base <;> cases t.f_Count == 0 <;> cases q <;> rfl
    rw [if_neg c4]
    simp only [kbne c4, sif_false]
    by_cases c5 : t.f_Kind = 5
    · rw [if_pos c5]
      simp only [kbeq c5, sif_true, sbind_some, impl_same_only t hok, eqB_self, eqB_nil, eqB_zero, eqB_ff, Bool.true_and, impl_within_some]
      have body : sif (inr t.f_Count 1 4) (sif ((t.f_Base.length : Int) == 1) (sbind (idx t.f_Base 0) fun x4 => sbind (impl_Type_valid x4.f_Kind x4.f_Size x4.f_Signed x4.f_Big x4.f_Names x4.f_Nums x4.f_Members x4.f_Base x4.f_Count (d : Int)) fun r5 => sif r5 (sbind (impl_Type_size t.f_Kind t.f_Size t.f_Signed t.f_Big t.f_Names t.f_Nums t.f_Members t.f_Base t.f_Count) fun r6 => some (decide (r6 ≤ 24))) (some false)) (some false)) (some false) = some (inr t.f_Count 1 4 && arB (vT d) t.f_Count t.f_Base) := by
        cases hc : inr t.f_Count 1 4 with
        | false => rfl
        | true =>
          have hc := inr_iff.1 hc
          match hB : t.f_Base with
          | [] => rfl
          | _ :: _ :: _ => rw [sif_true, sif_neg (by rw [beq_eq_false_iff_ne]; simp only [List.length_cons]; omega)]; rfl
          | [x] =>
            have hx := k2 x (by rw [hB]; simp)
            show sbind (impl_Type_valid x.f_Kind x.f_Size x.f_Signed x.f_Big x.f_Names x.f_Nums x.f_Members x.f_Base x.f_Count (d : Int)) _ = _
            show _ = some (vT d x && decide (t.f_Count * szT x ≤ 24))
            rw [ih x hx, sbind_some]
            cases hv : vT d x with
            | false => rfl
            | true =>
              have hz := vT_size hv
              have h4 : t.f_Count * szT x ≤ 4 * 24 := Int.mul_le_mul hc.2 hz.2 (by omega) (by omega)
              have h5 : 1 * 1 ≤ t.f_Count * szT x := Int.mul_le_mul hc.1 hz.1 (by omega) (by omega)
              rw [sif_true, impl_Type_size_eq, kbne c3, kbeq c5, sif_false, sif_true]
              show sbind (sbind (impl_Type_size x.f_Kind x.f_Size x.f_Signed x.f_Big x.f_Names x.f_Nums x.f_Members x.f_Base x.f_Count) _) _ = _
              rw [impl_size_some hv, sbind_some, sbind_some, wi64_id (by omega) (by omega)]; rfl
      rw [body]
      generalize (inr t.f_Count 1 4 && arB (vT d) t.f_Count t.f_Base) = q
      cases t.f_Size == 0 <;> cases t.f_Signed <;> cases t.f_Big <;> cases lz t.f_Names <;> cases lz t.f_Nums <;> cases lz t.f_Members <;> cases q <;> rfl
    rw [if_neg c5, if_neg c6]
    simp only [kbne c5, sif_false, sbind_some, impl_same_only t hok, sif_same]
/-! typeE -/
/-! depths -/
def mxI (a b : Int) : Int := if a > b then a else b
def dpT : Nat → Ty_Type → Int
  | 0, _ => 1
  | n + 1, t => if t.f_Kind = 4 then t.f_Members.foldl (fun a m => mxI a (dpT n m.2.2)) 0 + 1 else if t.f_Kind = 5 then (match t.f_Base with | [] => 1 | x :: _ => dpT n x + 1) else 1
theorem mxI_rng {a b l h : Int} (h1 : l ≤ a ∧ a ≤ h) (h2 : l ≤ b ∧ b ≤ h) : l ≤ mxI a b ∧ mxI a b ≤ h := by unfold mxI; split <;> omega
theorem fold_rng {α : Type} (f : α → Int) (h : Int) : ∀ (l : List α) (a : Int), (0 ≤ a ∧ a ≤ h) → (∀ x ∈ l, 1 ≤ f x ∧ f x ≤ h) → 0 ≤ l.foldl (fun a m => mxI a (f m)) a ∧ l.foldl (fun a m => mxI a (f m)) a ≤ h
  | [], a, ha, _ => ha
  | x :: l, a, ha, hl => fold_rng f h l _ (mxI_rng ha (by have := hl x (by simp); omega)) (fun y hy => hl y (by simp [hy]))
theorem dpT_rng : ∀ (n : Nat) (t : Ty_Type), 1 ≤ dpT n t ∧ dpT n t ≤ (n : Int) + 1
  | 0, t => by show (1 : Int) ≤ 1 ∧ (1 : Int) ≤ _; omega
  | n + 1, t => by
    show 1 ≤ (if t.f_Kind = 4 then _ else _) ∧ (if t.f_Kind = 4 then _ else _) ≤ _
    split
    · have := fold_rng (fun m : ByteArray × Int × Ty_Type => dpT n m.2.2) ((n : Int) + 1) t.f_Members 0 (by omega) (fun x _ => dpT_rng n x.2.2)
      omega
    · split
      · split
        · omega
        · next x r hx => have := dpT_rng n x; omega
      · omega
theorem cpM_all {v : Ty_Type → Bool} {s : Int} : ∀ {E : List (ByteArray × Int × Ty_Type)} {e : Int}, cpM v e E s = true → ∀ m ∈ E, v m.2.2 = true
  | [], _, _, m, hm => by cases hm
  | x :: r, e, h, m, hm => by
    simp only [cpM, Bool.and_eq_true] at h
    rcases List.mem_cons.1 hm with rfl | hm
    · exact h.1
    · exact cpM_all h.2.2.2 m hm
theorem cpM_imp {v v' : Ty_Type → Bool} {s : Int} : ∀ {E : List (ByteArray × Int × Ty_Type)} {e : Int}, cpM v e E s = true → cpM v' e E s = E.all fun m => v' m.2.2
  | [], _, h => h
  | x :: r, e, h => by
    simp only [cpM, Bool.and_eq_true] at h
    rw [cpM, h.2.1, h.2.2.1, cpM_imp h.2.2.2, List.all_cons]; rfl
theorem cpM_mono {v v' : Ty_Type → Bool} (hv : ∀ t, v t = true → v' t = true) {s : Int} {E : List (ByteArray × Int × Ty_Type)} {e : Int} (h : cpM v e E s = true) : cpM v' e E s = true := by
  rw [cpM_imp h, List.all_eq_true]
  exact fun m hm => hv _ (cpM_all h m hm)
theorem vT_mono : ∀ {d : Nat} {t : Ty_Type}, vT d t = true → vT (d + 1) t = true
  | 0, _, h => by cases h
  | d + 1, t, h => by
    rw [vT_succ] at h ⊢
    split
    · next c => rw [if_pos c] at h; exact h
    next c1 =>
    rw [if_neg c1] at h
    split
    · next c => rw [if_pos c] at h; exact h
    next c2 =>
    rw [if_neg c2] at h
    split
    · next c => rw [if_pos c] at h; exact h
    next c3 =>
    rw [if_neg c3] at h
    split
    · next c =>
      rw [if_pos c] at h
      simp only [Bool.and_eq_true] at h ⊢
      exact ⟨h.1, h.2.1, cpM_mono (fun _ hx => vT_mono hx) h.2.2.1, h.2.2.2⟩
    next c4 =>
    rw [if_neg c4] at h
    split
    · next c =>
      rw [if_pos c] at h
      simp only [Bool.and_eq_true] at h ⊢
      refine ⟨h.1, h.2.1, h.2.2.1, ?_⟩
      obtain ⟨x, hx, h1, h2⟩ := arB_in h.2.2.2
      rw [hx]
      show (vT (d + 1) x && decide (t.f_Count * szT x ≤ 24)) = true
      rw [vT_mono h1, decide_eq_true h2]; rfl
    next c5 =>
    rw [if_neg c5] at h
    exact h
theorem fold_le {α : Type} (f : α → Int) (d : Int) : ∀ (l : List α) (a : Int), decide (l.foldl (fun a m => mxI a (f m)) a ≤ d) = (decide (a ≤ d) && l.all fun m => decide (f m ≤ d))
  | [], a => by rw [List.all_nil, Bool.and_true]; rfl
  | x :: l, a => by
    rw [List.foldl_cons, fold_le f d l, List.all_cons, ← Bool.and_assoc]
    congr 1
    rw [← Bool.decide_and, decide_eq_decide]
    unfold mxI
    split <;> omega
theorem all_congr_mem {α : Type} {l : List α} {p q : α → Bool} (h : ∀ x ∈ l, p x = q x) : l.all p = l.all q := by
  induction l with
  | nil => rfl
  | cons x l ih => rw [List.all_cons, List.all_cons, h x (by simp), ih (fun y hy => h y (by simp [hy]))]
theorem vT_4 {d : Nat} {t : Ty_Type} (h : t.f_Kind = 4) : vT (d + 1) t = (((inr t.f_Size 1 24 && (!t.f_Signed && !t.f_Big)) && ((lz t.f_Names && lz t.f_Nums) && (lz t.f_Base && (t.f_Count == 0)))) && (inr (t.f_Members.length : Int) 1 4 && (cpM (vT d) 0 t.f_Members t.f_Size && dfN (t.f_Members.map Prod.fst)))) := by
  rw [vT_succ, if_neg (by omega), if_neg (by omega), if_neg (by omega), if_pos h]
theorem vT_5 {d : Nat} {t : Ty_Type} (h : t.f_Kind = 5) : vT (d + 1) t = (((t.f_Size == 0) && (!t.f_Signed && !t.f_Big)) && (((lz t.f_Names && lz t.f_Nums) && lz t.f_Members) && (inr t.f_Count 1 4 && arB (vT d) t.f_Count t.f_Base))) := by
  rw [vT_succ, if_neg (by omega), if_neg (by omega), if_neg (by omega), if_neg (by omega), if_pos h]
theorem vT_o {d n : Nat} {t : Ty_Type} (h4 : t.f_Kind ≠ 4) (h5 : t.f_Kind ≠ 5) : vT (d + 1) t = vT (n + 1) t := by
  rw [vT_succ, vT_succ]
  simp only [if_neg h4, if_neg h5]
theorem dpT_4 {n : Nat} {t : Ty_Type} (h : t.f_Kind = 4) : dpT (n + 1) t = t.f_Members.foldl (fun a m => mxI a (dpT n m.2.2)) 0 + 1 := by
  rw [dpT, if_pos h]
theorem dpT_5 {n : Nat} {t x : Ty_Type} (h : t.f_Kind = 5) (hx : t.f_Base = [x]) : dpT (n + 1) t = dpT n x + 1 := by
  rw [dpT, if_neg (by omega), if_pos h, hx]
theorem dpT_o {n : Nat} {t : Ty_Type} (h4 : t.f_Kind ≠ 4) (h5 : t.f_Kind ≠ 5) : dpT (n + 1) t = 1 := by
  rw [dpT, if_neg h4, if_neg h5]
theorem dep_le : ∀ (n d : Nat) (t : Ty_Type), d ≤ n → vT n t = true → decide (dpT n t ≤ (d : Int)) = vT d t
  | 0, _, _, _, h => by cases h
  | n + 1, 0, t, _, _ => by
    have := (dpT_rng (n + 1) t).1
    rw [decide_eq_false (by omega)]; rfl
  | n + 1, d + 1, t, hd, h => by
    have h' := h
    by_cases c4 : t.f_Kind = 4
    · rw [vT_4 c4] at h' ⊢
      rw [dpT_4 c4]
      simp only [Bool.and_eq_true] at h'
      rw [cpM_imp h'.2.2.1, h'.2.1, h'.2.2.2, Bool.and_true, Bool.true_and]
      have e : ((inr t.f_Size 1 24 && (!t.f_Signed && !t.f_Big)) && ((lz t.f_Names && lz t.f_Nums) && (lz t.f_Base && (t.f_Count == 0)))) = true := by
        simp only [Bool.and_eq_true]; exact h'.1
      rw [e, Bool.true_and]
      have k := fold_le (fun m : ByteArray × Int × Ty_Type => dpT n m.2.2) (d : Int) t.f_Members 0
      rw [decide_eq_true (show (0 : Int) ≤ d by omega), Bool.true_and] at k
      rw [← all_congr_mem (fun m hm => dep_le n d m.2.2 (by omega) (cpM_all h'.2.2.1 m hm)), ← k, decide_eq_decide]
      omega
    · by_cases c5 : t.f_Kind = 5
      · rw [vT_5 c5] at h' ⊢
        simp only [Bool.and_eq_true] at h'
        obtain ⟨x, hx, h1, h2⟩ := arB_in h'.2.2.2
        have e : ((t.f_Size == 0) && (!t.f_Signed && !t.f_Big)) = true := by simp only [Bool.and_eq_true]; exact h'.1
        have e2 : ((lz t.f_Names && lz t.f_Nums) && lz t.f_Members) = true := by simp only [Bool.and_eq_true]; exact h'.2.1
        rw [e, e2, h'.2.2.1, hx, dpT_5 c5 hx]
        show decide (dpT n x + 1 ≤ ((d + 1 : Nat) : Int)) = (true && (true && (true && (vT d x && decide (t.f_Count * szT x ≤ 24)))))
        rw [decide_eq_true h2, Bool.and_true, Bool.true_and, Bool.true_and, Bool.true_and, ← dep_le n d x (by omega) h1, decide_eq_decide]
        omega
      · rw [dpT_o c4 c5, decide_eq_true (by omega), vT_o (n := n) c4 c5]
        exact h'.symm
theorem spec_max_some (a b : Int) : spec_l00Max a b = some (mxI a b) := by
  rw [spec_l00Max_eq, sif_some]; unfold mxI; congr 1; simp only [decide_eq_true_eq]
theorem spec_depth_loop (d : Nat) (hd : d ≤ 10) (ih : ∀ t, vT d t = true → spec_l02Depth t.f_Kind t.f_Size t.f_Signed t.f_Big t.f_Names t.f_Nums t.f_Members t.f_Base t.f_Count = some (dpT d t)) (k s : Int) (g b : Bool) (N : List ByteArray) (M : List Int) (E : List (ByteArray × Int × Ty_Type)) (B : List Ty_Type) (c : Int) (hE : E.length ≤ 4) (hv : ∀ m ∈ E, vT d m.2.2 = true) :
    ∀ n (i : Nat) (a : Int), E.length = i + n → 0 ≤ a → a ≤ 20 → spec_l02Depth_l5 a (i : Int) k s g b N M E B c = some ((E.drop i).foldl (fun a m => mxI a (dpT d m.2.2)) a + 1) := by
  intro n
  induction n with
  | zero =>
    intro i a hi h0 h1
    rw [spec_l02Depth_l5_eq, sif_f (by omega), List.drop_eq_nil_of_le (by omega), wi64_id (by omega) (by omega)]; rfl
  | succ n ihn =>
    intro i a hi h0 h1
    have hlt : i < E.length := by omega
    have hr := dpT_rng d E[i].2.2
    have hm := mxI_rng (l := 0) (h := 20) ⟨h0, h1⟩ (b := dpT d E[i].2.2) (by omega)
    rw [spec_l02Depth_l5_eq, sif_t (by omega), idx_nat, List.getElem?_eq_getElem hlt, sbind_some, ih _ (hv _ (List.getElem_mem hlt)), sbind_some, spec_max_some, sbind_some, wi64_add1 (by omega), ihn (i + 1) _ (by omega) hm.1 hm.2, List.drop_eq_getElem_cons hlt, List.foldl_cons]
theorem spec_depth_some : ∀ (d : Nat), d ≤ 10 → ∀ t, vT d t = true → spec_l02Depth t.f_Kind t.f_Size t.f_Signed t.f_Big t.f_Names t.f_Nums t.f_Members t.f_Base t.f_Count = some (dpT d t)
  | 0, _, _, h => by cases h
  | d + 1, hd, t, h => by
    have ih := spec_depth_some d (by omega)
    rw [spec_l02Depth_eq]
    rcases vT_kinds h with ⟨hk, h1⟩ | ⟨hk, h1⟩ | ⟨hk, x, hx, h1⟩ | ⟨hk, h1, h2, h3⟩ | ⟨hk, h1, x, hx, h2, h3⟩ | ⟨hk, h1⟩
    · rw [dpT_o (by omega) (by omega), kbne (show t.f_Kind ≠ 4 by omega), kbne (show t.f_Kind ≠ 5 by omega)]; rfl
    · rw [dpT_o (by omega) (by omega), kbne (show t.f_Kind ≠ 4 by omega), kbne (show t.f_Kind ≠ 5 by omega)]; rfl
    · rw [dpT_o (by omega) (by omega), kbne (show t.f_Kind ≠ 4 by omega), kbne (show t.f_Kind ≠ 5 by omega)]; rfl
    · rw [kbeq hk, sif_true, dpT_4 hk]
      exact spec_depth_loop d (by omega) ih _ _ _ _ _ _ _ _ _ h2.2 (cpM_all h3) t.f_Members.length 0 0 (by omega) (by omega) (by omega)
    · have hr := dpT_rng d x
      rw [kbne (show t.f_Kind ≠ 4 by omega), kbeq hk, sif_false, sif_true, dpT_5 hk hx, hx]
      show sbind (spec_l02Depth x.f_Kind x.f_Size x.f_Signed x.f_Big x.f_Names x.f_Nums x.f_Members x.f_Base x.f_Count) _ = _
      rw [ih x h2, sbind_some, wi64_id (by omega) (by omega)]
    · rw [dpT_o (by omega) (by omega), kbne (show t.f_Kind ≠ 4 by omega), kbne (show t.f_Kind ≠ 5 by omega)]; rfl
/-! typeF -/
theorem spec_comp_inner (k s : Int) (g b : Bool) (N : List ByteArray) (M : List Int) (E : List (ByteArray × Int × Ty_Type)) (B : List Ty_Type) (c : Int) (i : Nat) (hi : i ≤ E.length) (hE : E.length ≤ 4) (nm : ByteArray) (off : Int) (x : Ty_Type) : spec_l02Compound_l13 (i : Int) 0 k s g b N M E B c nm off x.f_Kind x.f_Size x.f_Signed x.f_Big x.f_Names x.f_Nums x.f_Members x.f_Base x.f_Count = sif (!(((E.map Prod.fst).take i).any fun y => seq nm y)) (sbind (spec_l02Size x.f_Kind x.f_Size x.f_Signed x.f_Big x.f_Names x.f_Nums x.f_Members x.f_Base x.f_Count) fun r1 => spec_l02Compound_l7 (wi64 (off + r1)) (wi64 ((i : Int) + 1)) k s g b N M E B c) (some false) := by
  have k1 := all_loop (E.take i) (fun y => !seq nm y.1) (fun j => spec_l02Compound_l13 (i : Int) (j : Int) k s g b N M E B c nm off x.f_Kind x.f_Size x.f_Signed x.f_Big x.f_Names x.f_Nums x.f_Members x.f_Base x.f_Count) false (fun j y hy hj => by
    rw [List.length_take] at hj
    rw [List.getElem?_take, if_pos (by omega)] at hy
    show spec_l02Compound_l13 (i : Int) (j : Int) k s g b N M E B c nm off x.f_Kind x.f_Size x.f_Signed x.f_Big x.f_Names x.f_Nums x.f_Members x.f_Base x.f_Count = _
    rw [spec_l02Compound_l13_eq, sif_t (by omega), idx_some hy, sbind_some, sif_not, wi64_add1 (by omega), seq_swap])
  refine k1.trans ?_
  rw [List.length_take, Nat.min_eq_left hi, ← not_any_all, ← List.map_take, List.any_map]
  show sif (!((E.take i).any fun y => seq nm y.1)) (spec_l02Compound_l13 (i : Int) (i : Int) k s g b N M E B c nm off x.f_Kind x.f_Size x.f_Signed x.f_Big x.f_Names x.f_Nums x.f_Members x.f_Base x.f_Count) _ = sif (!((E.take i).any fun y => seq nm y.1)) _ _
  rw [spec_l02Compound_l13_eq (i : Int) (i : Int), sif_f (by omega)]
theorem map_fstD {E : List (ByteArray × Int × Ty_Type)} {i : Nat} (h : i < E.length) : (E.map Prod.fst).getD i (bs []) = E[i].1 := by
  rw [List.getD_eq_getElem?_getD, List.getElem?_map, List.getElem?_eq_getElem h]; rfl
theorem spec_comp_loop (k s : Int) (g b : Bool) (N : List ByteArray) (M : List Int) (E : List (ByteArray × Int × Ty_Type)) (B : List Ty_Type) (c : Int) (ih : ∀ m ∈ E, spec_l02Ok m.2.2.f_Kind m.2.2.f_Size m.2.2.f_Signed m.2.2.f_Big m.2.2.f_Names m.2.2.f_Nums m.2.2.f_Members m.2.2.f_Base m.2.2.f_Count = some (vT 3 m.2.2)) (hE : E.length ≤ 4) :
    ∀ n (i : Nat) (e : Int), E.length = i + n → 0 ≤ e → e ≤ 1000 → spec_l02Compound_l7 e (i : Int) k s g b N M E B c = some (cpM (vT 3) e (E.drop i) s && ((List.range E.length).drop i).all (dfAt (E.map Prod.fst))) := by
  intro n
  induction n with
  | zero =>
    intro i e hi h0 h1
    rw [spec_l02Compound_l7_eq, sif_f (by omega), List.drop_eq_nil_of_le (by omega), List.drop_eq_nil_of_le (by rw [List.length_range]; omega), List.all_nil, Bool.and_true]
    rfl
  | succ n ihn =>
    intro i e hi h0 h1
    have hlt : i < E.length := by omega
    have hm : E[i] ∈ E := List.getElem_mem hlt
    rw [spec_l02Compound_l7_eq, sif_t (by omega), idx_nat, List.getElem?_eq_getElem hlt, sbind_some, spec_IsName_some, sbind_some, ih _ hm, sbind_some, spec_comp_inner _ _ _ _ _ _ _ _ _ i (by omega) hE, List.drop_eq_getElem_cons hlt, List.drop_eq_getElem_cons (l := List.range E.length) (by rw [List.length_range]; omega), List.all_cons, List.getElem_range]
    have hd : dfAt (E.map Prod.fst) i = (isNm E[i].1 && !(((E.map Prod.fst).take i).any fun y => seq E[i].1 y)) := by unfold dfAt; rw [map_fstD hlt]
    rw [hd]
    show _ = some ((vT 3 E[i].2.2 && (!decide (E[i].2.1 < e) && (!decide (E[i].2.1 > 24) && cpM (vT 3) (E[i].2.1 + szT E[i].2.2) (E.drop (i + 1)) s))) && _)
    generalize (((E.map Prod.fst).take i).any fun y => seq E[i].1 y) = q
    cases hn : isNm E[i].1 with
    | false => rw [Bool.not_false, sif_true, Bool.false_and, Bool.false_and, Bool.and_false]
    | true =>
      rw [Bool.not_true, sif_false]
      by_cases c1 : E[i].2.1 < e
      · rw [sif_t c1, decide_eq_true c1, Bool.not_true, Bool.false_and, Bool.and_false, Bool.false_and]
      · rw [sif_f c1, decide_eq_false c1]
        by_cases c2 : E[i].2.1 > 24
        · rw [sif_t c2, decide_eq_true c2, Bool.not_true, Bool.false_and, Bool.and_false, Bool.and_false, Bool.false_and]
        · rw [sif_f c2, decide_eq_false c2]
          cases hv : vT 3 E[i].2.2 with
          | false => rfl
          | true =>
            have hz := vT_size hv
            rw [Bool.not_true, sif_false, spec_size_some hv, sbind_some, wi64_id (n := E[i].2.1 + szT E[i].2.2) (by omega) (by omega), wi64_add1 (by omega), ihn (i + 1) _ (by omega) (by omega) (by omega)]
            cases q
            · rfl
            · show some false = some (_ && ((true && false) && _))
              rw [Bool.and_false, Bool.false_and, Bool.and_false]
theorem spec_comp_some (k s : Int) (g b : Bool) (N : List ByteArray) (M : List Int) (E : List (ByteArray × Int × Ty_Type)) (B : List Ty_Type) (c : Int) (ih : ∀ m ∈ E, spec_l02Ok m.2.2.f_Kind m.2.2.f_Size m.2.2.f_Signed m.2.2.f_Big m.2.2.f_Names m.2.2.f_Nums m.2.2.f_Members m.2.2.f_Base m.2.2.f_Count = some (vT 3 m.2.2)) : spec_l02Compound k s g b N M E B c = some (((inr s 1 24 && (!g && !b)) && ((lz N && lz M) && (lz B && (c == 0)))) && (inr (E.length : Int) 1 4 && (cpM (vT 3) 0 E s && dfN (E.map Prod.fst)))) := by
  have lp : ∀ {α : Type} (l : List α), decide ((l.length : Int) > 0) = !lz l := fun l => by
    unfold lz
    rw [Bool.eq_iff_iff]
    simp only [decide_eq_true_eq, Bool.not_eq_true', beq_eq_false_iff_ne]
    omega
  rw [spec_l02Compound_eq, spec_l00In_some, sbind_some, spec_Plain_some, sbind_some, lp, lp, lp]
  have hl : ¬ ((E.length : Int) < 1) → ¬ ((E.length : Int) > 4) → spec_l02Compound_l7 0 0 k s g b N M E B c = some (cpM (vT 3) 0 E s && dfN (E.map Prod.fst)) := fun h1 h2 => by
    have := spec_comp_loop k s g b N M E B c ih (by omega) E.length 0 0 (by omega) (by omega) (by omega)
    rw [List.drop_zero, List.drop_zero] at this
    refine this.trans ?_
    unfold dfN
    rw [List.length_map]
  have he : sif (decide ((E.length : Int) < 1)) (some false) (sif (decide ((E.length : Int) > 4)) (some false) (spec_l02Compound_l7 0 0 k s g b N M E B c)) = some (inr (E.length : Int) 1 4 && (cpM (vT 3) 0 E s && dfN (E.map Prod.fst))) := by
    by_cases h1 : (E.length : Int) < 1
    · rw [sif_t h1, show inr (E.length : Int) 1 4 = false by rw [Bool.eq_false_iff]; intro h; rw [inr_iff] at h; omega]; rfl
    · rw [sif_f h1]
      by_cases h2 : (E.length : Int) > 4
      · rw [sif_t h2, show inr (E.length : Int) 1 4 = false by rw [Bool.eq_false_iff]; intro h; rw [inr_iff] at h; omega]; rfl
      · rw [sif_f h2, hl h1 h2, show inr (E.length : Int) 1 4 = true by rw [inr_iff]; omega]; rfl
  rw [he]
  generalize (inr (E.length : Int) 1 4 && (cpM (vT 3) 0 E s && dfN (E.map Prod.fst))) = q
  simp only [bne]
  cases inr s 1 24 <;> cases g <;> cases b <;> cases lz N <;> cases lz M <;> cases lz B <;> cases c == 0 <;> rfl
theorem spec_enum_some (k s : Int) (g b : Bool) (N : List ByteArray) (M : List Int) (E : List (ByteArray × Int × Ty_Type)) (B : List Ty_Type) (c : Int) (hN : N.length ≤ 140737488351232) : spec_l02Enum k s g b N M E B c = some (((s == 0) && (!g && !b)) && ((lz E && (c == 0)) && enB N M B)) := by
  have lp : decide ((E.length : Int) > 0) = !lz E := by
    unfold lz
    rw [Bool.eq_iff_iff]
    simp only [decide_eq_true_eq, Bool.not_eq_true', beq_eq_false_iff_ne]
    omega
  rw [spec_l02Enum_eq, spec_Plain_some, sbind_some, lp]
  have tail : (sif (((B.length : Int) != 1)) (some false) <|
      sbind (idx B 0) fun x2 =>
      sif ((x2.f_Kind != 1)) (some false) <|
      sbind (idx B 0) fun x3 =>
      sbind (spec_l02Int x3.f_Kind x3.f_Size x3.f_Signed x3.f_Big x3.f_Names x3.f_Nums x3.f_Members x3.f_Base x3.f_Count) fun r4 =>
      sif (!r4) (some false) <|
      sif (decide ((N.length : Int) < 1)) (some false) <|
      sif (decide ((N.length : Int) > 6)) (some false) <|
      sif (((M.length : Int) != (N.length : Int))) (some false) <|
      sbind (idx B 0) fun x5 =>
      sbind (spec_l02Range x5.f_Kind x5.f_Size x5.f_Signed x5.f_Big x5.f_Names x5.f_Nums x5.f_Members x5.f_Base x5.f_Count) fun r6 =>
      spec_l02Enum_l7 r6.1 r6.2 0 k s g b N M E B c) = some (enB N M B) := by
    match B with
    | [] => rfl
    | _ :: _ :: _ => rw [sif_pos (by rw [bne_iff_ne]; simp only [List.length_cons]; omega)]; rfl
    | [x] =>
      rw [sif_neg (by rfl)]
      show sif (x.f_Kind != 1) _ (sbind (spec_l02Int x.f_Kind x.f_Size x.f_Signed x.f_Big x.f_Names x.f_Nums x.f_Members x.f_Base x.f_Count) _) = some (enM N M x)
      rw [spec_Int_some, sbind_some]
      unfold enM
      by_cases hk : x.f_Kind = 1
      · rw [sif_neg (by rw [bne_eq_false_iff_eq]; exact hk), kbeq hk, Bool.true_and]
        cases hi : (iOk x.f_Size x.f_Signed x.f_Big && rest0 x.f_Names x.f_Nums x.f_Members x.f_Base x.f_Count) with
        | false => rfl
        | true =>
          simp only [Bool.and_eq_true] at hi
          rw [Bool.not_true, sif_false, Bool.true_and]
          by_cases hn : N.length = M.length
          · by_cases h1 : (N.length : Int) < 1
            · rw [sif_t h1, show inr (M.length : Int) 1 6 = false by rw [Bool.eq_false_iff]; intro h; rw [inr_iff] at h; omega, Bool.false_and, Bool.and_false]
            · rw [sif_f h1]
              by_cases h2 : (N.length : Int) > 6
              · rw [sif_t h2, show inr (M.length : Int) 1 6 = false by rw [Bool.eq_false_iff]; intro h; rw [inr_iff] at h; omega, Bool.false_and, Bool.and_false]
              · rw [sif_f h2, sif_neg (by rw [bne_eq_false_iff_eq]; omega), show inr (M.length : Int) 1 6 = true by rw [inr_iff]; omega, kbeq (show (N.length : Int) = M.length by omega), Bool.true_and, Bool.true_and]
                show sbind (spec_l02Range x.f_Kind x.f_Size x.f_Signed x.f_Big x.f_Names x.f_Nums x.f_Members x.f_Base x.f_Count) _ = _
                rw [spec_Range_some _ _ _ _ _ _ _ _ _ hi.1, sbind_some, spec_Enum_loop _ _ _ _ _ _ _ _ _ _ _ hn hN, hn]
          · rw [kbne (show (N.length : Int) ≠ M.length by omega), Bool.false_and, Bool.and_false, Bool.and_false, sif_pos (b := ((M.length : Int) != (N.length : Int))) (by rw [bne_iff_ne]; omega), sif_same, sif_same]
      · rw [sif_pos (by rw [bne_iff_ne]; exact hk), kbne hk]; rfl
  rw [tail]
  generalize enB N M B = q
  simp only [bne]
  cases s == 0 <;> cases g <;> cases b <;> cases lz E <;> cases c == 0 <;> cases q <;> rfl
/-! typeG -/
def arO (v : Ty_Type → Bool) : List Ty_Type → Bool
  | [x] => v x
  | _ => false
theorem spec_arr_some (k s : Int) (g b : Bool) (N : List ByteArray) (M : List Int) (E : List (ByteArray × Int × Ty_Type)) (B : List Ty_Type) (c : Int) (ih : ∀ m ∈ B, spec_l02Ok m.f_Kind m.f_Size m.f_Signed m.f_Big m.f_Names m.f_Nums m.f_Members m.f_Base m.f_Count = some (vT 3 m)) : spec_l02Array k s g b N M E B c = some (((s == 0) && (!g && !b)) && (((lz N && lz M) && lz E) && (inr c 1 4 && arO (vT 3) B))) := by
  have lp : ∀ {α : Type} (l : List α), decide ((l.length : Int) > 0) = !lz l := fun l => by
    unfold lz
    rw [Bool.eq_iff_iff]
    simp only [decide_eq_true_eq, Bool.not_eq_true', beq_eq_false_iff_ne]
    omega
  rw [spec_l02Array_eq, spec_Plain_some, sbind_some, lp, lp, lp, spec_l00In_some]
  have tail : (sif (((B.length : Int) != 1)) (some false) <|
      sbind (some (inr c 1 4)) fun r2 =>
      sif (r2)
       (sbind (idx B 0) fun x3 =>
        sbind (spec_l02Ok x3.f_Kind x3.f_Size x3.f_Signed x3.f_Big x3.f_Names x3.f_Nums x3.f_Members x3.f_Base x3.f_Count) fun r4 =>
        some r4) (some false)) = some (inr c 1 4 && arO (vT 3) B) := by
    rw [sbind_some]
    match B, ih with
    | [], _ => rw [sif_pos (by rfl)]; show _ = some (_ && false); rw [Bool.and_false]
    | _ :: _ :: _, _ => rw [sif_pos (by rw [bne_iff_ne]; simp only [List.length_cons]; omega)]; show _ = some (_ && false); rw [Bool.and_false]
    | [x], ih =>
      rw [sif_neg (by rfl)]
      show sif _ (sbind (spec_l02Ok x.f_Kind x.f_Size x.f_Signed x.f_Big x.f_Names x.f_Nums x.f_Members x.f_Base x.f_Count) _) _ = some (_ && vT 3 x)
      rw [ih x (by simp), sbind_some, sif_bool]
  rw [tail]
  generalize (inr c 1 4 && arO (vT 3) B) = q
  simp only [bne]
  cases s == 0 <;> cases g <;> cases b <;> cases lz N <;> cases lz M <;> cases lz E <;> cases q <;> rfl
theorem l17_false (k s : Int) (g b : Bool) (N : List ByteArray) (M : List Int) (E : List (ByteArray × Int × Ty_Type)) (B : List Ty_Type) (c : Int) : spec_l02Ok_l17 false k s g b N M E B c = some false := by rw [spec_l02Ok_l17_eq]; rfl
theorem l17_true (t : Ty_Type) (h : vT 4 t = true) : spec_l02Ok_l17 true t.f_Kind t.f_Size t.f_Signed t.f_Big t.f_Names t.f_Nums t.f_Members t.f_Base t.f_Count = some (vT 3 t) := by
  have hz := vT_size h
  rw [spec_l02Ok_l17_eq, sif_true, spec_size_some h, sbind_some, sif_t (by omega), spec_depth_some 4 (by omega) t h, sbind_some]
  exact congrArg some (dep_le 4 3 t (by omega) h)
theorem l17_fine (t : Ty_Type) (f : Bool) (h : f = vT 4 t) : spec_l02Ok_l17 f t.f_Kind t.f_Size t.f_Signed t.f_Big t.f_Names t.f_Nums t.f_Members t.f_Base t.f_Count = some (vT 3 t) := by
  cases f with
  | true => exact l17_true t h.symm
  | false =>
    rw [l17_false]
    cases h3 : vT 3 t with
    | false => rfl
    | true => rw [vT_mono h3] at h; cases h
theorem l15_o (f : Bool) (k s : Int) (g b : Bool) (N : List ByteArray) (M : List Int) (E : List (ByteArray × Int × Ty_Type)) (B : List Ty_Type) (c : Int) (h2 : k ≠ 2) (h6 : k ≠ 6) : spec_l02Ok_l15 f k s g b N M E B c = spec_l02Ok_l17 f k s g b N M E B c := by
  rw [spec_l02Ok_l15_eq, kbne h2, kbne h6, sif_false, sif_false]
theorem l15_p (f : Bool) (k s : Int) (g b : Bool) (N : List ByteArray) (M : List Int) (E : List (ByteArray × Int × Ty_Type)) (B : List Ty_Type) (c : Int) (h : k = 2 ∨ k = 6) : spec_l02Ok_l15 f k s g b N M E B c = spec_l02Ok_l17 ((f && (!g && !b)) && rest0 N M E B c) k s g b N M E B c := by
  have e : (sif (f)
         (sbind (spec_l02Plain k s g b N M E B c) fun r1 =>
          sif (r1)
           (sif (((N.length : Int) == 0))
             (sif (((M.length : Int) == 0))
               (sif (((E.length : Int) == 0))
                 (sif (((B.length : Int) == 0))
                   (spec_l02Ok_l17 (c == 0) k s g b N M E B c) <|
                  spec_l02Ok_l17 false k s g b N M E B c) <|
                spec_l02Ok_l17 false k s g b N M E B c) <|
              spec_l02Ok_l17 false k s g b N M E B c) <|
            spec_l02Ok_l17 false k s g b N M E B c) <|
          spec_l02Ok_l17 false k s g b N M E B c) <|
        spec_l02Ok_l17 false k s g b N M E B c) = spec_l02Ok_l17 ((f && (!g && !b)) && rest0 N M E B c) k s g b N M E B c := by
    rw [spec_Plain_some, sbind_some]
    unfold rest0 lz
    generalize ((N.length : Int) == 0) = n1, ((M.length : Int) == 0) = n2, ((E.length : Int) == 0) = n3, ((B.length : Int) == 0) = n4, (c == 0) = n5
    cases f <;> cases g <;> cases b <;> cases n1 <;> cases n2 <;> cases n3 <;> cases n4 <;> rfl
  rw [spec_l02Ok_l15_eq, e]
  rcases h with rfl | rfl
  · rfl
  · rfl
theorem spec_ok_some (t : Ty_Type) : Ok_Ty_Type t → spec_l02Ok t.f_Kind t.f_Size t.f_Signed t.f_Big t.f_Names t.f_Nums t.f_Members t.f_Base t.f_Count = some (vT 3 t) := by
  refine Ty_Type.ind (P := fun t => Ok_Ty_Type t → spec_l02Ok t.f_Kind t.f_Size t.f_Signed t.f_Big t.f_Names t.f_Nums t.f_Members t.f_Base t.f_Count = some (vT 3 t)) ?_ t
  intro t ih1 ih2 hok
  obtain ⟨l1, l2, l3, l4, k1, k2⟩ := ok_lens hok
  rw [spec_l02Ok_eq]
  by_cases c1 : t.f_Kind = 1
  · rw [kbeq c1, sif_true, spec_Int_some, sbind_some, l15_o _ _ _ _ _ _ _ _ _ _ (by omega) (by omega)]
    exact l17_fine t _ (by rw [vT_succ, if_pos c1])
  rw [kbne c1, sif_false]
  by_cases c2 : t.f_Kind = 2
  · rw [kbeq c2, sif_true, spec_l00In_some, sbind_some, l15_p _ _ _ _ _ _ _ _ _ _ (.inl c2)]
    exact l17_fine t _ (by rw [vT_succ, if_neg c1, if_pos c2])
  rw [kbne c2, sif_false]
  by_cases c3 : t.f_Kind = 3
  · rw [kbeq c3, sif_true, spec_enum_some _ _ _ _ _ _ _ _ _ l1, sbind_some, l15_o _ _ _ _ _ _ _ _ _ _ (by omega) (by omega)]
    exact l17_fine t _ (by rw [vT_succ, if_neg c1, if_neg c2, if_pos c3])
  rw [kbne c3, sif_false]
  by_cases c4 : t.f_Kind = 4
  · rw [kbeq c4, sif_true, spec_comp_some _ _ _ _ _ _ _ _ _ (fun m hm => ih1 m hm (k1 m hm)), sbind_some, l15_o _ _ _ _ _ _ _ _ _ _ (by omega) (by omega)]
    exact l17_fine t _ (by rw [vT_4 c4])
  rw [kbne c4, sif_false]
  by_cases c5 : t.f_Kind = 5
  · rw [kbeq c5, sif_true, spec_arr_some _ _ _ _ _ _ _ _ _ (fun m hm => ih2 m hm (k2 m hm)), sbind_some, l15_o _ _ _ _ _ _ _ _ _ _ (by omega) (by omega)]
    cases hp : (((t.f_Size == 0) && (!t.f_Signed && !t.f_Big)) && (((lz t.f_Names && lz t.f_Nums) && lz t.f_Members) && inr t.f_Count 1 4)) with
    | false =>
      have e : (((t.f_Size == 0) && (!t.f_Signed && !t.f_Big)) && (((lz t.f_Names && lz t.f_Nums) && lz t.f_Members) && (inr t.f_Count 1 4 && arO (vT 3) t.f_Base))) = false := by
        rw [← Bool.and_assoc ((lz t.f_Names && lz t.f_Nums) && lz t.f_Members), ← Bool.and_assoc, hp, Bool.false_and]
      have e2 : vT 3 t = false := by
        rw [vT_5 c5, ← Bool.and_assoc ((lz t.f_Names && lz t.f_Nums) && lz t.f_Members), ← Bool.and_assoc, hp, Bool.false_and]
      rw [e, e2, l17_false]
    | true =>
      have e : (((t.f_Size == 0) && (!t.f_Signed && !t.f_Big)) && (((lz t.f_Names && lz t.f_Nums) && lz t.f_Members) && (inr t.f_Count 1 4 && arO (vT 3) t.f_Base))) = arO (vT 3) t.f_Base := by
        rw [← Bool.and_assoc ((lz t.f_Names && lz t.f_Nums) && lz t.f_Members), ← Bool.and_assoc, hp, Bool.true_and]
      have e4 : ∀ d, vT (d + 1) t = arB (vT d) t.f_Count t.f_Base := fun d => by
        rw [vT_5 c5, ← Bool.and_assoc ((lz t.f_Names && lz t.f_Nums) && lz t.f_Members), ← Bool.and_assoc, hp, Bool.true_and]
      simp only [Bool.and_eq_true, inr_iff] at hp
      rw [e]
      match hB : t.f_Base with
      | [] => rw [e4 2, hB]; show spec_l02Ok_l17 false _ _ _ _ _ _ _ _ _ = _; rw [l17_false]; rfl
      | _ :: _ :: _ => rw [e4 2, hB]; show spec_l02Ok_l17 false _ _ _ _ _ _ _ _ _ = _; rw [l17_false]; rfl
      | [x] =>
        show spec_l02Ok_l17 (vT 3 x) t.f_Kind t.f_Size t.f_Signed t.f_Big t.f_Names t.f_Nums t.f_Members [x] t.f_Count = _
        rw [← hB]
        cases hv : vT 3 x with
        | false => exact l17_fine t _ (by rw [e4 3, hB]; show false = (vT 3 x && _); rw [hv]; rfl)
        | true =>
          by_cases hs : t.f_Count * szT x ≤ 24
          · exact l17_fine t _ (by rw [e4 3, hB]; show true = (vT 3 x && decide (t.f_Count * szT x ≤ 24)); rw [hv, decide_eq_true hs]; rfl)
          · have hz := vT_size hv
            have hc := hp.2.2
            have h4 : t.f_Count * szT x ≤ 4 * 24 := Int.mul_le_mul hc.2 hz.2 (by omega) (by omega)
            have e3 : vT 3 t = false := by
              rw [e4 2, hB]; show (vT 2 x && decide (t.f_Count * szT x ≤ 24)) = false; rw [decide_eq_false hs, Bool.and_false]
            rw [e3, spec_l02Ok_l17_eq, sif_true, spec_l02Size_eq, kbne c3, kbeq c5, sif_false, sif_true, hB]
            show sbind (sbind (spec_l02Size x.f_Kind x.f_Size x.f_Signed x.f_Big x.f_Names x.f_Nums x.f_Members x.f_Base x.f_Count) _) _ = _
            rw [spec_size_some hv, sbind_some, sbind_some, wi64_id (by omega) (by omega), sif_f hs]
  rw [kbne c5, sif_false]
  by_cases c6 : t.f_Kind = 6
  · rw [kbeq c6, sif_true, l15_p _ _ _ _ _ _ _ _ _ _ (.inr c6)]
    exact l17_fine t _ (by rw [vT_succ, if_neg c1, if_neg c2, if_neg c3, if_neg c4, if_neg c5, if_pos c6])
  · rw [kbne c6, sif_false, l15_o _ _ _ _ _ _ _ _ _ _ (by omega) (by omega)]
    exact l17_fine t _ (by rw [vT_succ, if_neg c1, if_neg c2, if_neg c3, if_neg c4, if_neg c5, if_neg c6])
/-! leL -/
def leN : List Int → Int
  | [] => 0
  | b :: r => b + 256 * leN r
theorem leN_ge : ∀ {l : List Int}, inB l → 0 ≤ leN l
  | [], _ => by simp [leN]
  | b :: r, h => by
    have := leN_ge (l := r) (fun x hx => h x (by simp [hx])); have := h b (by simp); simp only [leN]; omega
theorem leN_lt : ∀ {l : List Int}, inB l → leN l < 256 ^ l.length
  | [], _ => by simp [leN]
  | b :: r, h => by
    have := leN_lt (l := r) (fun x hx => h x (by simp [hx])); have := h b (by simp)
    simp only [leN, List.length_cons, Int.pow_succ]; omega
theorem leN_append : ∀ (a b : List Int), leN (a ++ b) = leN a + 256 ^ a.length * leN b
  | [], b => by simp [leN]
  | x :: a, b => by
    simp only [List.cons_append, leN, leN_append a b, List.length_cons, Int.pow_succ]
    rw [Int.mul_add, Int.mul_comm (256 ^ a.length) 256, Int.mul_assoc]; omega
theorem inB_take {l : List Int} (h : inB l) (n : Nat) : inB (l.take n) := fun x hx => h x (List.mem_of_mem_take hx)
theorem inB_drop {l : List Int} (h : inB l) (n : Nat) : inB (l.drop n) := fun x hx => h x (List.mem_of_mem_drop hx)
theorem leN_drop {l : List Int} (h : inB l) : ∀ n, leN (l.drop n) ≤ leN l := by
  induction l with
  | nil => intro n; simp
  | cons b r ih =>
    intro n
    cases n with
    | zero => simp
    | succ n =>
      have h1 := ih (fun x hx => h x (by simp [hx])) n
      have h2 := leN_ge (l := r) (fun x hx => h x (by simp [hx]))
      have h3 := h b (by simp)
      simp only [List.drop_succ_cons, leN]; omega
def leB (n : Int) (k : Nat) : List Int := (List.range k).map (fun i => wu8 (Int.fdiv n (2 ^ (8 * i))))
theorem leB_len (n : Int) (k : Nat) : (leB n k).length = k := by simp [leB]
theorem leB_in (n : Int) (k : Nat) : inB (leB n k) := by
  intro x hx
  obtain ⟨i, _, rfl⟩ := List.mem_map.1 hx
  rw [wu8_def]; omega
theorem fdiv_shift (n : Int) (i : Nat) : Int.fdiv n (2 ^ (8 * (i + 1))) = Int.fdiv (Int.fdiv n 256) (2 ^ (8 * i)) := by
  rw [Int.fdiv_eq_ediv_of_nonneg _ (Int.pow_nonneg (by decide)), Int.fdiv_eq_ediv_of_nonneg _ (Int.pow_nonneg (by decide)), Int.fdiv_eq_ediv_of_nonneg _ (by decide)]
  rw [Int.ediv_ediv_of_nonneg (by decide)]
  congr 1
  rw [Nat.mul_add, Int.pow_add, Int.mul_comm]; rfl
theorem leB_succ (n : Int) (k : Nat) : leB n (k + 1) = wu8 n :: leB (Int.fdiv n 256) k := by
  unfold leB
  rw [List.range_succ_eq_map, List.map_cons, List.map_map]
  congr 1
  · simp [Int.fdiv_one]
  · refine List.map_congr_left (fun i _ => ?_)
    simp only [Function.comp]
    rw [Nat.succ_eq_add_one, fdiv_shift]
theorem leN_leB : ∀ (k : Nat) (n : Int), 0 ≤ n → n < 256 ^ k → leN (leB n k) = n
  | 0, n, h0, h1 => by simp at h1; simp [leB, leN]; omega
  | k + 1, n, h0, h1 => by
    rw [Int.pow_succ] at h1
    rw [leB_succ, leN, Int.fdiv_eq_ediv_of_nonneg _ (by decide), leN_leB k (n / 256) (by omega) (by omega), wu8_def]
    omega
theorem or_add {x b k : Nat} (h : x < 2 ^ k) : x ||| (b * 2 ^ k) = x + b * 2 ^ k := by
  have := Nat.shiftLeft_add_eq_or_of_lt h b
  rw [Nat.shiftLeft_eq] at this
  rw [Nat.or_comm, ← this, Nat.add_comm]
theorem bits_or_nat {x y : Nat} (hx : x < 18446744073709551616) (hy : y < 18446744073709551616) : bits .or .u64 (x : Int) (y : Int) = ((x ||| y : Nat) : Int) := by
  have e : bits .or .u64 (x : Int) (y : Int) = wu64 (((BitVec.ofInt 64 (x : Int)) ||| (BitVec.ofInt 64 (y : Int))).toNat : Int) := rfl
  have hxy : x ||| y < 2 ^ 64 := Nat.or_lt_two_pow hx hy
  rw [e, BitVec.toNat_or, BitVec.ofInt_natCast, BitVec.ofInt_natCast, BitVec.toNat_ofNat, BitVec.toNat_ofNat, Nat.mod_eq_of_lt hx, Nat.mod_eq_of_lt hy, wu64_id (by omega) (by omega)]
theorem or_step {n b : Int} {i : Nat} (hi : i ≤ 7) (h0 : 0 ≤ n) (h1 : n < 256 ^ i) (b0 : 0 ≤ b) (b1 : b ≤ 255) : bits .or .u64 n (wu64 ((wu64 b) * 2 ^ (min (wi64 (8 * (i : Int))).toNat 64))) = n + 256 ^ i * b := by
  rw [wi64_id (by omega) (by omega), wu64_id (n := b) (by omega) (by omega)]
  have hm : min (8 * (i : Int)).toNat 64 = 8 * i := by omega
  rw [hm]
  have hp : (256 : Int) ^ i = 2 ^ (8 * i) := by rw [Int.pow_mul]; rfl
  have hpn : ((2 ^ (8 * i) : Nat) : Int) = 2 ^ (8 * i) := by push_cast; rfl
  have hle : (2 : Nat) ^ (8 * i) ≤ 2 ^ 56 := Nat.pow_le_pow_right (by decide) (by omega)
  obtain ⟨bn, rfl⟩ : ∃ bn : Nat, b = bn := ⟨b.toNat, by omega⟩
  obtain ⟨nn, rfl⟩ : ∃ nn : Nat, n = nn := ⟨n.toNat, by omega⟩
  rw [hp, ← hpn] at h1
  have hmul : bn * 2 ^ (8 * i) ≤ 255 * 2 ^ 56 := Nat.mul_le_mul (by omega) hle
  rw [hp, ← hpn, ← Int.natCast_mul, wu64_id (by omega) (by omega), bits_or_nat (by omega) (by omega), or_add (by omega)]
  push_cast
  rw [Int.mul_comm]
theorem wu8_and (m : Int) : wu8 (bits .and .i64 m 255) = wu8 m := by
  have e : bits .and .i64 m 255 = wi64 (((BitVec.ofInt 64 m) &&& 255#64).toNat : Int) := rfl
  have h : ∀ x : BitVec 64, (x &&& 255#64).toNat = x.toNat % 256 := fun x => by
    rw [BitVec.toNat_and]; exact Nat.and_two_pow_sub_one_eq_mod x.toNat 8
  rw [e, h, BitVec.toNat_ofInt, wi64_id (by omega) (by omega), wu8_def, wu8_def]
  omega
theorem toB_append (a b : List Int) : toB a ++ toB b = toB (a ++ b) := by
  unfold toB
  apply ByteArray.ext
  simp
theorem joinsT {a b : List Int} (h : a.length + b.length ≤ 4611686018427387904) : joins (toB a) (toB b) = true := joins_ok (by rw [toB_size, toB_size]; omega)
theorem extract_toB (l : List Int) (i j : Nat) : (toB l).extract i j = toB ((l.take j).drop i) := by
  unfold toB
  apply ByteArray.ext
  simp [ByteArray.data_extract, List.map_take, List.map_drop, List.drop_take]
theorem bidx_toB {l : List Int} (h : inB l) {i : Int} (h0 : 0 ≤ i) : bidx (toB l) i = l[i.toNat]? := by rw [bidx_ofB, ofB_toB h, idx_int h0]
theorem toB_inj {a b : List Int} (ha : inB a) (hb : inB b) (h : toB a = toB b) : a = b := by rw [← ofB_toB ha, h, ofB_toB hb]
theorem seq_toB {a b : List Int} (ha : inB a) (hb : inB b) : seq (toB a) (toB b) = decide (a = b) := by
  rw [seq_eq, Bool.eq_iff_iff]
  simp only [decide_eq_true_eq]
  exact ⟨toB_inj ha hb, fun h => by rw [h]⟩
/-! revL -/
theorem rev_aux {α R : Type} (l : List α) (F : Int → Int → List α → Option R) (r : List α → Option R) (hend : ∀ (i j : Int) s, ¬ i < j → F i j s = r s)
    (hstep : ∀ (i j : Int) s x y, i < j → 0 ≤ i → j < l.length → s.length = l.length → s[j.toNat]? = some x → s[i.toNat]? = some y → F i j s = F (i + 1) (j - 1) ((s.set i.toNat x).set j.toNat y)) :
    ∀ (n i : Nat) (s : List α), l.length - 2 * i ≤ n → 2 * i ≤ l.length + 1 → s.length = l.length → (∀ k, k < l.length → s[k]? = if k < i ∨ l.length - i ≤ k then l[l.length - 1 - k]? else l[k]?) →
    F i ((l.length : Int) - 1 - i) s = r l.reverse := by
  intro n
  induction n with
  | zero =>
    intro i s hn hi hs hk
    rw [hend _ _ _ (by omega)]
    congr 1
    refine List.ext_getElem? (fun k => ?_)
    rcases Nat.lt_or_ge k l.length with h | h
    · rw [hk k h, List.getElem?_reverse h]
      split
      · rfl
      · congr 1; omega
    · rw [List.getElem?_eq_none (by omega), List.getElem?_eq_none (by simpa using h)]
  | succ n ih =>
    intro i s hn hi hs hk
    by_cases h : (i : Int) < (l.length : Int) - 1 - i
    · have hj : ((l.length : Int) - 1 - i).toNat = l.length - 1 - i := by omega
      have hi2 : ((i : Int)).toNat = i := by omega
      have h1 : l.length - 1 - i < s.length := by omega
      have h2 : i < s.length := by omega
      rw [hstep i _ s s[l.length - 1 - i] s[i] h (by omega) (by omega) hs (by rw [hj]; exact List.getElem?_eq_getElem h1) (by rw [hi2]; exact List.getElem?_eq_getElem h2)]
      have e1 := ih (i + 1) ((s.set i s[l.length - 1 - i]).set (l.length - 1 - i) s[i]) (by omega) (by omega) (by simp [hs]) (fun k hkl => by
        have g1 := hk (l.length - 1 - i) (by omega)
        have g2 := hk i (by omega)
        rw [List.getElem?_eq_getElem h1, if_neg (by omega)] at g1
        rw [List.getElem?_eq_getElem h2, if_neg (by omega)] at g2
        rw [List.getElem?_set, List.getElem?_set]
        by_cases ha : l.length - 1 - i = k
        · subst ha
          rw [if_pos rfl, if_pos (by simp; omega), if_pos (by omega), show l.length - 1 - (l.length - 1 - i) = i by omega, g2]
        · rw [if_neg ha]
          by_cases hb : i = k
          · subst hb
            rw [if_pos rfl, if_pos (by omega), if_pos (by omega), g1]
          · rw [if_neg hb, hk k hkl]
            by_cases hc : k < i ∨ l.length - i ≤ k
            · rw [if_pos hc, if_pos (by omega)]
            · rw [if_neg hc, if_neg (by omega)])
      rw [hj, hi2]
      have e2 : ((i : Int) + 1) = ((i + 1 : Nat) : Int) := by omega
      have e3 : ((l.length : Int) - 1 - i - 1) = (l.length : Int) - 1 - ((i + 1 : Nat) : Int) := by omega
      rw [e2, e3]; exact e1
    · rw [hend _ _ _ h]
      congr 1
      refine List.ext_getElem? (fun k => ?_)
      rcases Nat.lt_or_ge k l.length with h' | h'
      · rw [hk k h', List.getElem?_reverse h']
        split
        · rfl
        · congr 1; omega
      · rw [List.getElem?_eq_none (by omega), List.getElem?_eq_none (by simpa using h')]
theorem rev_loop {α R : Type} (l : List α) (F : Int → Int → List α → Option R) (r : List α → Option R) (hend : ∀ (i j : Int) s, ¬ i < j → F i j s = r s)
    (hstep : ∀ (i j : Int) s x y, i < j → 0 ≤ i → j < l.length → s.length = l.length → s[j.toNat]? = some x → s[i.toNat]? = some y → F i j s = F (i + 1) (j - 1) ((s.set i.toNat x).set j.toNat y)) : F 0 ((l.length : Int) - 1) l = r l.reverse := by
  have := rev_aux l F r hend hstep l.length 0 l (by omega) (by omega) rfl (fun k hk => by rw [if_neg (by omega)])
  simpa using this
/-! bitsL -/
theorem impl_getBits_some (m : List Int) (hm : inB m) (h8 : m.length ≤ 8) : impl_getBits (toB m) = some (leN m) := by
  rw [impl_getBits_eq, toB_size]
  have := loop_to m.length (fun i n => impl_getBits_l3 (toB m) n (m.length : Int) (i : Int)) (fun _ _ => some (leN m)) (fun i n => n = leN (m.take i)) (fun n hn => by
      rw [impl_getBits_l3_eq, sif_f (by omega), hn, List.take_length])
    (fun i n hi hn ih => by
      have hb := hm _ (List.getElem_mem hi)
      have h0 := leN_ge (inB_take hm i)
      have h1 := leN_lt (inB_take hm i)
      rw [List.length_take, show min i m.length = i by omega] at h1
      rw [impl_getBits_l3_eq, sif_t (by omega), bidx_toB hm (by omega), Int.toNat_natCast, List.getElem?_eq_getElem hi, sbind_some, sif_f (by rw [wi64_id (by omega) (by omega)]; omega), or_step (by omega) (by omega) (by omega) hb.1 hb.2, wi64_add1 (by omega)]
      refine ih _ ?_
      rw [hn, List.take_succ_eq_append_getElem hi, leN_append, List.length_take, show min i m.length = i by omega]
      simp [leN]) 0 0 (by omega) rfl
  simpa using this
/-! numL -/
/-! numbers out of bytes -/
theorem wi64_mod (n : Int) : wi64 n % 18446744073709551616 = n % 18446744073709551616 := by
  rw [wi64_def]; split <;> omega
theorem wi64_eqm {a b : Int} (h : a % 18446744073709551616 = b % 18446744073709551616) : wi64 a = wi64 b := by
  rw [wi64_def, wi64_def, h]
theorem or8 (n b : Int) (b0 : 0 ≤ b) (b1 : b ≤ 255) : bits .or .i64 (wi64 (n * 2 ^ 8)) (wi64 b) = wi64 (n * 256 + b) := by
  have e : bits .or .i64 (wi64 (n * 2 ^ 8)) (wi64 b) = wi64 (((BitVec.ofInt 64 (wi64 (n * 2 ^ 8))) ||| (BitVec.ofInt 64 (wi64 b))).toNat : Int) := rfl
  rw [e, BitVec.toNat_or, BitVec.toNat_ofInt, BitVec.toNat_ofInt, show ((2 ^ 64 : Nat) : Int) = 18446744073709551616 by rfl, wi64_mod, wi64_mod, show n * 2 ^ 8 = n * 256 by rfl]
  have hb : (b % 18446744073709551616).toNat = b.toNat := by omega
  obtain ⟨m, hm⟩ : ∃ m : Nat, (n * 256 % 18446744073709551616).toNat = m * 2 ^ 8 := ⟨(n * 256 % 18446744073709551616).toNat / 256, by omega⟩
  rw [hb, hm, Nat.or_comm, or_add (by omega)]
  refine wi64_eqm ?_
  have hm' : ((m * 2 ^ 8 : Nat) : Int) = n * 256 % 18446744073709551616 := by rw [← hm]; omega
  have : ((b.toNat + m * 2 ^ 8 : Nat) : Int) = b + n * 256 % 18446744073709551616 := by rw [Int.natCast_add, hm']; omega
  rw [this]
  omega
theorem wi64_lin (N b : Int) : wi64 (wi64 N * 256 + b) = wi64 (N * 256 + b) := by
  have := wi64_mod N
  refine wi64_eqm ?_
  omega
/-- the bytes, the least first -/
def ordL (g : Bool) (l : List Int) : List Int := if g = true then l.reverse else l
theorem ord_mem {g : Bool} {l : List Int} {x : Int} (h : x ∈ ordL g l) : x ∈ l := by
  unfold ordL at h
  split at h
  · simpa using h
  · exact h
theorem ord_len (g : Bool) (l : List Int) : (ordL g l).length = l.length := by
  unfold ordL; split
  · exact List.length_reverse
  · rfl
theorem ord_in {g : Bool} {l : List Int} (h : inB l) : inB (ordL g l) := fun x hx => h x (ord_mem hx)
def hfS (s : Int) : Int := if s = 1 then 128 else if s = 2 then 32768 else if s = 4 then 2147483648 else 9223372036854775808
def sgn (s : Int) (g : Bool) (U : Int) : Int := if g = true then (if hfS s ≤ U then U - 2 * hfS s else U) else U
theorem spec_num_loop (l : List Int) (hl : inB l) (hn : l.length ≤ 24) (k s : Int) (g b : Bool) (N : List ByteArray) (M : List Int) (E : List (ByteArray × Int × Ty_Type)) (B : List Ty_Type) (c : Int) :
    ∀ j (i : Nat), l.length = i + j → spec_l03Number_l3 (toB l) (wi64 (leN ((ordL b l).drop j))) (i : Int) k s g b N M E B c = spec_l03Number_l3 (toB l) (wi64 (leN (ordL b l))) (l.length : Int) k s g b N M E B c := by
  intro j
  induction j with
  | zero => intro i hi; rw [List.drop_zero, show i = l.length by omega]
  | succ j ih =>
    intro i hi
    have hlt : i < l.length := by omega
    have hj : j < (ordL b l).length := by rw [ord_len]; omega
    have hg : (ordL b l)[j]? = some ((ordL b l)[j]) := List.getElem?_eq_getElem hj
    have hmem : (ordL b l)[j] ∈ l := ord_mem (List.getElem_mem hj)
    have hb := hl _ hmem
    have step : spec_l03Number_l3 (toB l) (wi64 (leN ((ordL b l).drop (j + 1)))) (i : Int) k s g b N M E B c = spec_l03Number_l3 (toB l) (bits .or .i64 (wi64 (wi64 (leN ((ordL b l).drop (j + 1))) * 2 ^ 8)) (wi64 ((ordL b l)[j]))) ((i + 1 : Nat) : Int) k s g b N M E B c := by
      rw [spec_l03Number_l3_eq, toB_size, sif_t (by omega), wi64_add1 (by omega)]
      cases b with
      | true =>
        have e : bidx (toB l) (i : Int) = some ((ordL true l)[j]) := by
          rw [bidx_toB hl (by omega), Int.toNat_natCast, ← hg]
          show l[i]? = (l.reverse)[j]?
          rw [List.getElem?_reverse (by omega)]; congr 1; omega
        rw [sif_true, e, sbind_some]
      | false =>
        have e : bidx (toB l) (wi64 ((wi64 ((l.length : Int) - 1)) - (i : Int))) = some ((ordL false l)[j]) := by
          rw [wi64_id (n := (l.length : Int) - 1) (by omega) (by omega), wi64_id (by omega) (by omega), bidx_toB hl (by omega), ← hg]
          show l[((l.length : Int) - 1 - i).toNat]? = l[j]?
          congr 1; omega
        rw [sif_false, e, sbind_some]
    rw [step, or8 _ _ hb.1 hb.2, wi64_lin, ← ih (i + 1) (by omega)]
    congr 2
    rw [List.drop_eq_getElem_cons hj, leN]
    omega
theorem leN_ord {g : Bool} {l : List Int} (hl : inB l) : 0 ≤ leN (ordL g l) ∧ leN (ordL g l) < 256 ^ l.length := ⟨leN_ge (ord_in hl), by have := leN_lt (ord_in (g := g) hl); rwa [ord_len] at this⟩
theorem spec_num_some (k s : Int) (g b : Bool) (N : List ByteArray) (M : List Int) (E : List (ByteArray × Int × Ty_Type)) (B : List Ty_Type) (c : Int) (l : List Int) (hl : inB l) (hi : iOk s g b = true) (hs : (l.length : Int) = s) : spec_l03Number k s g b N M E B c (toB l) = some (sgn s g (leN (ordL b l))) := by
  obtain ⟨h1, h2⟩ := iOk_in hi
  have hU := leN_ord (g := b) hl
  have lp := spec_num_loop l hl (by omega) k s g b N M E B c l.length 0 (by omega)
  rw [List.drop_eq_nil_of_le (by rw [ord_len]; omega)] at lp
  rw [spec_l03Number_eq]
  refine (show spec_l03Number_l3 (toB l) 0 0 k s g b N M E B c = _ from lp).trans ?_
  generalize leN (ordL b l) = U at hU
  rw [spec_l03Number_l3_eq, toB_size, sif_f (by omega)]
  unfold sgn hfS
  rcases h1 with rfl | rfl | rfl | rfl
  · have e : l.length = 1 := by omega
    rw [e] at hU
    have hU2 : U < 256 := hU.2
    rw [wi64_id (n := U) (by omega) (by omega)]
    cases g with
    | false => rfl
    | true =>
      rw [sif_true]
      show sif (decide (U ≥ 128)) (some (wi64 (U - 256))) (some U) = _
      rw [wi64_id (n := U - 256) (by omega) (by omega), sif_some]
      simp only [decide_eq_true_eq, if_true, ge_iff_le]; congr 1
  · have e : l.length = 2 := by omega
    rw [e] at hU
    have hU2 : U < 65536 := hU.2
    rw [wi64_id (n := U) (by omega) (by omega)]
    cases g with
    | false => rfl
    | true =>
      rw [sif_true]
      show sif (decide (U ≥ 32768)) (some (wi64 (U - 65536))) (some U) = _
      rw [wi64_id (n := U - 65536) (by omega) (by omega), sif_some]
      simp only [decide_eq_true_eq, if_true, ge_iff_le]; congr 1
  · have e : l.length = 4 := by omega
    rw [e] at hU
    have hU2 : U < 4294967296 := hU.2
    rw [wi64_id (n := U) (by omega) (by omega)]
    cases g with
    | false => rfl
    | true =>
      rw [sif_true]
      show sif (decide (U ≥ 2147483648)) (some (wi64 (U - 4294967296))) (some U) = _
      rw [wi64_id (n := U - 4294967296) (by omega) (by omega), sif_some]
      simp only [decide_eq_true_eq, if_true, ge_iff_le]; congr 1
  · have e : l.length = 8 := by omega
    rw [e] at hU
    have hU2 : U < 18446744073709551616 := hU.2
    obtain rfl : g = true := by rcases h2 with h | h; exact h; omega
    rw [sif_true]
    show some (wi64 U) = some (if true = true then (if 9223372036854775808 ≤ U then U - 2 * 9223372036854775808 else U) else U)
    rw [if_pos rfl, wi64_def, show U % 18446744073709551616 = U by omega]
    rfl
theorem impl_rev_some (l : List Int) (hl : inB l) (hn : l.length ≤ 1048576) : impl_ReverseBytes (toB l) = some (toB l.reverse) := by
  rw [impl_ReverseBytes_eq, ofB_toB hl, slices_Reverse_sbyte_byte_v_eq]
  have k := rev_loop l (fun i j s => slices_Reverse_sbyte_byte_v_l1 i j s) (fun s => some s) (fun i j s h => by rw [slices_Reverse_sbyte_byte_v_l1_eq, sif_f h]) (fun i j s x y h1 h2 h3 h4 hx hy => by
    rw [slices_Reverse_sbyte_byte_v_l1_eq, sif_t h1, sif_pos (lt3_ok (by omega) (by omega)), hx, sbind_some, sif_pos (lt3_ok (by omega) (by omega)), hy, sbind_some, sif_pos (lt3_ok (by omega) (by omega)), sif_pos (lt3_ok (by omega) (by rw [List.length_set]; omega)), wi64_id (by omega) (by omega), wi64_id (by omega) (by omega)])
  rw [wi64_id (by omega) (by omega)]
  refine (congrArg (fun z => sbind z fun r1 => some (toB r1)) k).trans ?_
  rfl
/-! numM -/
theorem impl_signed_some (s : Int) (l : List Int) (hl : inB l) (hs : (l.length : Int) = s) (h1 : s = 1 ∨ s = 2 ∨ s = 4 ∨ s = 8) : impl_signed (toB l) = some (sgn s true (leN l)) := by
  have h0 := leN_ge hl
  have hU := leN_lt hl
  rw [impl_signed_eq, impl_getBits_some l hl (by omega), sbind_some, toB_size, hs]
  generalize leN l = U at h0 hU
  unfold sgn hfS
  rcases h1 with rfl | rfl | rfl | rfl
  · have e : l.length = 1 := by omega
    rw [e] at hU
    have hU2 : U < 256 := hU
    show some (Int.fdiv (wi64 (wu64 (U * 72057594037927936))) 72057594037927936) = some (if true = true then (if 128 ≤ U then U - 2 * 128 else U) else U)
    rw [if_pos rfl, wu64_id (by omega) (by omega), wi64_def, Int.fdiv_eq_ediv_of_nonneg _ (by decide)]
    congr 1
    split <;> split <;> omega
  · have e : l.length = 2 := by omega
    rw [e] at hU
    have hU2 : U < 65536 := hU
    show some (Int.fdiv (wi64 (wu64 (U * 281474976710656))) 281474976710656) = some (if true = true then (if 32768 ≤ U then U - 2 * 32768 else U) else U)
    rw [if_pos rfl, wu64_id (by omega) (by omega), wi64_def, Int.fdiv_eq_ediv_of_nonneg _ (by decide)]
    congr 1
    split <;> split <;> omega
  · have e : l.length = 4 := by omega
    rw [e] at hU
    have hU2 : U < 4294967296 := hU
    show some (Int.fdiv (wi64 (wu64 (U * 4294967296))) 4294967296) = some (if true = true then (if 2147483648 ≤ U then U - 2 * 2147483648 else U) else U)
    rw [if_pos rfl, wu64_id (by omega) (by omega), wi64_def, Int.fdiv_eq_ediv_of_nonneg _ (by decide)]
    congr 1
    split <;> split <;> omega
  · have e : l.length = 8 := by omega
    rw [e] at hU
    have hU2 : U < 18446744073709551616 := hU
    show some (Int.fdiv (wi64 (wu64 (U * 1))) 1) = some (if true = true then (if 9223372036854775808 ≤ U then U - 2 * 9223372036854775808 else U) else U)
    rw [if_pos rfl, wu64_id (by omega) (by omega), wi64_def, Int.fdiv_eq_ediv_of_nonneg _ (by decide)]
    congr 1
    split <;> split <;> omega
theorem impl_num_some (k s : Int) (g b : Bool) (N : List ByteArray) (M : List Int) (E : List (ByteArray × Int × Ty_Type)) (B : List Ty_Type) (c : Int) (hk : k ≠ 3) (l : List Int) (hl : inB l) (hi : iOk s g b = true) (hs : (l.length : Int) = s) : impl_Type_number k s g b N M E B c (toB l) = some (sgn s g (leN (ordL b l))) := by
  obtain ⟨h1, h2⟩ := iOk_in hi
  have hU := leN_ord (g := b) hl
  rw [impl_Type_number_eq, kbne hk, sif_false]
  have core : ∀ m : List Int, inB m → m.length = l.length → (sif g (sbind (impl_signed (toB m)) fun r2 => some r2) (sbind (impl_getBits (toB m)) fun r2 => some (wi64 r2))) = some (sgn s g (leN m)) := fun m hm hml => by
    have h0 := leN_ge hm
    have h3 := leN_lt hm
    cases g with
    | true => rw [sif_true, impl_signed_some s m hm (by omega) h1, sbind_some]
    | false =>
      have h4 : s < 8 := by rcases h2 with h | h; cases h; exact h
      have : leN m < 4294967296 := by
        have hp : (256 : Int) ^ m.length ≤ 256 ^ 4 := by
          have : (256 : Nat) ^ m.length ≤ 256 ^ 4 := Nat.pow_le_pow_right (by decide) (by omega)
          exact_mod_cast this
        omega
      rw [sif_false, impl_getBits_some m hm (by omega), sbind_some, wi64_id (by omega) (by omega)]; rfl
  cases b with
  | true =>
    rw [sif_true, impl_rev_some l hl (by omega), sbind_some]
    exact core l.reverse (fun x hx => hl x (by simpa using hx)) List.length_reverse
  | false => exact core l hl rfl
theorem impl_num_ref (k s : Int) (g b : Bool) (N : List ByteArray) (M : List Int) (E : List (ByteArray × Int × Ty_Type)) (B : List Ty_Type) (c : Int) (hk : k ≠ 3) (hg : g = false) (hb : b = false) (l : List Int) (hl : inB l) (hs : l.length = 2) : impl_Type_number k s g b N M E B c (toB l) = some (leN l) := by
  have h0 := leN_ge hl
  have h3 := leN_lt hl
  rw [hs] at h3
  have h4 : leN l < 65536 := h3
  rw [impl_Type_number_eq, kbne hk, sif_false, hb, hg, sif_false, sif_false, impl_getBits_some l hl (by omega), sbind_some, wi64_id (by omega) (by omega)]
/-! eltA -/
/-! zeros at the end -/
def tzL (l : List Int) : List Int := (l.reverse.dropWhile (· == 0)).reverse
theorem tzL_nil : tzL [] = [] := rfl
theorem tzL_cons (x : Int) (r : List Int) : tzL (x :: r) = if tzL r = [] then (if x = 0 then [] else [x]) else x :: tzL r := by
  unfold tzL
  rw [List.reverse_cons, List.dropWhile_append]
  cases h : r.reverse.dropWhile (· == 0) with
  | nil =>
    show (List.dropWhile (fun x => x == 0) [x]).reverse = if x = 0 then [] else [x]
    by_cases hx : x = 0
    · subst hx; rfl
    · rw [if_neg hx, List.dropWhile_cons_of_neg (by simpa using hx)]; rfl
  | cons y q =>
    rw [if_neg (by simp), if_neg (by simp), List.reverse_append]; rfl
theorem tzL_all : ∀ l : List Int, decide (tzL l = []) = l.all (· == 0)
  | [] => rfl
  | x :: r => by
    rw [tzL_cons, List.all_cons, ← tzL_all r]
    by_cases h : tzL r = []
    · rw [if_pos h, decide_eq_true h]
      by_cases hx : x = 0
      · subst hx; rfl
      · rw [if_neg hx, decide_eq_false (by simp)]; simp [hx]
    · rw [if_neg h, decide_eq_false h, decide_eq_false (by simp), Bool.and_false]
def txR : Bool → List Int → Bool
  | _, [] => true
  | e, x :: r => if e = true then (if x = 0 then txR true r else false) else txR (x == 0) r
theorem txR_true : ∀ l : List Int, txR true l = l.all (· == 0)
  | [] => rfl
  | x :: r => by
    rw [txR, if_pos rfl, List.all_cons, txR_true r]
    by_cases hx : x = 0
    · rw [if_pos hx, kbeq hx, Bool.true_and]
    · rw [if_neg hx, kbne hx, Bool.false_and]
theorem txR_false : ∀ l : List Int, txR false l = !(tzL l).any (· == 0)
  | [] => rfl
  | x :: r => by
    rw [txR, if_neg Bool.false_ne_true, tzL_cons]
    by_cases hx : x = 0
    · rw [kbeq hx, txR_true, ← tzL_all]
      by_cases h : tzL r = []
      · rw [if_pos h, if_pos hx, decide_eq_true h]; rfl
      · rw [if_neg h, decide_eq_false h, List.any_cons, kbeq hx]; rfl
    · rw [kbne hx, txR_false r]
      by_cases h : tzL r = []
      · rw [if_pos h, if_neg hx, h, List.any_cons, kbne hx]; rfl
      · rw [if_neg h, List.any_cons, kbne hx, Bool.false_or]
theorem dropW_map (f : Int → UInt8) : ∀ (l : List Int), (∀ x ∈ l, (f x == 0) = (x == 0)) → (l.map f).dropWhile (· == 0) = (l.dropWhile (· == 0)).map f
  | [], _ => rfl
  | x :: r, h => by
    have hx := h x (by simp)
    rw [List.map_cons, List.dropWhile_cons, List.dropWhile_cons, hx]
    split
    · exact dropW_map f r (fun y hy => h y (by simp [hy]))
    · rfl
theorem byte_zero {x : Int} (h : 0 ≤ x ∧ x ≤ 255) : ((UInt8.ofNat x.toNat : UInt8) == 0) = (x == 0) := by
  rw [Bool.eq_iff_iff, beq_iff_eq, beq_iff_eq]
  constructor
  · intro e
    have := congrArg UInt8.toNat e
    rw [UInt8.toNat_ofNat'] at this
    have z : (0 : UInt8).toNat = 0 := rfl
    rw [z] at this
    omega
  · intro e; subst e; rfl
theorem tz_in {l : List Int} (h : inB l) : inB (tzL l) := fun x hx => by
  unfold tzL at hx
  exact h x (by simpa using (List.dropWhile_sublist _).subset (List.mem_reverse.1 hx))
theorem impl_trimmed_some (l : List Int) (hl : inB l) (hn : l.length ≤ 1048576) : impl_trimmed (toB l) = some (toB (tzL l)) := by
  rw [impl_trimmed_eq, strings_TrimRight_eq]
  have h1 : oneB (bs [0]) = some 0 := rfl
  have e : trimR1 (toB l) (bs [0]) = some (toB (tzL l)) := by
    unfold trimR1
    rw [h1]
    dsimp only
    rw [if_pos ⟨by decide, by rw [show (toB l).size = l.length by have := toB_size l; omega]; omega⟩]
    congr 1
    show (⟨(Lib.trimRightB (l.map fun n : Int => UInt8.ofNat n.toNat) 0).toArray⟩ : ByteArray) = (⟨((tzL l).map fun n : Int => UInt8.ofNat n.toNat).toArray⟩ : ByteArray)
    unfold Lib.trimRightB tzL
    rw [← List.map_reverse, dropW_map _ _ (fun x hx => byte_zero (hl x (by simpa using hx))), ← List.map_reverse]
  rw [e, sbind_some]
theorem idxB_has : ∀ (l : List UInt8) (c : UInt8), decide (0 ≤ Lib.indexByte l c) = l.any (· == c)
  | [], _ => rfl
  | b :: l, c => by
    have ih := idxB_has l c
    have hg := Lib.indexByte_ge l c
    rw [List.any_cons, Lib.indexByte, ← ih]
    cases b == c with
    | true => rfl
    | false =>
      rw [if_neg Bool.false_ne_true, Bool.false_or]
      by_cases h : Lib.indexByte l c = -1
      · rw [if_pos (by rw [beq_iff_eq]; exact h), h]
      · rw [if_neg (by rw [beq_iff_eq]; exact h), decide_eq_decide]; omega
theorem impl_has0_some (l : List Int) (hl : inB l) : strings_Contains (toB l) (bs [0]) = some (l.any (· == 0)) := by
  rw [strings_Contains_eq]
  have h1 : oneB (bs [0]) = some 0 := rfl
  unfold contains1
  rw [h1]
  dsimp only
  have e : (toB l).data.toList = l.map fun n : Int => UInt8.ofNat n.toNat := by simp [toB]
  rw [e, idxB_has, List.any_map]
  congr 1
  clear e
  induction l with
  | nil => rfl
  | cons x r ih =>
    rw [List.any_cons, List.any_cons, ih (fun y hy => hl y (by simp [hy])), ← byte_zero (hl x (by simp))]
    rfl
theorem spec_text_some (l : List Int) (hl : inB l) (hn : l.length ≤ 1048576) : spec_l03Text (toB l) = some (!(tzL l).any (· == 0)) := by
  rw [spec_l03Text_eq, ← txR_false]
  have key : ∀ n (i : Nat) (e : Bool), l.length = i + n → spec_l03Text_l3 (toB l) e (i : Int) = some (txR e (l.drop i)) := by
    intro n
    induction n with
    | zero => intro i e hi; rw [spec_l03Text_l3_eq, toB_size, sif_f (by omega), List.drop_eq_nil_of_le (by omega)]; cases e <;> rfl
    | succ n ih =>
      intro i e hi
      have hlt : i < l.length := by omega
      have hb : bidx (toB l) (i : Int) = some l[i] := by rw [bidx_toB hl (by omega), Int.toNat_natCast, List.getElem?_eq_getElem hlt]
      rw [spec_l03Text_l3_eq, toB_size, sif_t (by omega), hb, sbind_some, sbind_some, List.drop_eq_getElem_cons hlt, txR, wi64_add1 (by omega)]
      cases e with
      | false => rw [sif_false, sif_false, if_neg Bool.false_ne_true, ih (i + 1) _ (by omega)]
      | true =>
        rw [sif_true, if_pos rfl, sif_true, ih (i + 1) _ (by omega)]
        by_cases hx : l[i] = 0
        · rw [if_pos hx, sif_neg (by rw [bne_eq_false_iff_eq]; exact hx)]
        · rw [if_neg hx, sif_pos (by rw [bne_iff_ne]; exact hx)]
  exact key l.length 0 false (by omega)
/-! eltB -/
/-! elements -/
def sl (l : List Int) (a b : Nat) : List Int := (l.take b).drop a
def zB (l : List Int) : Bool := l.all (· == 0)
def gpM (l : List Int) (size : Int) : Int → List (ByteArray × Int × Ty_Type) → Bool
  | at_, [] => zB (sl l at_.toNat size.toNat)
  | at_, m :: r => zB (sl l at_.toNat m.2.1.toNat) && gpM l size (m.2.1 + szT m.2.2) r
def enE (M : List Int) (l : List Int) : List Ty_Type → Bool
  | [x] => M.any fun y => y == sgn x.f_Size x.f_Signed (leN (ordL x.f_Big l))
  | _ => false
def arE (e : Ty_Type → List Int → Bool) (c : Int) (l : List Int) : List Ty_Type → Bool
  | [x] => (List.range c.toNat).all fun i => e x (sl l (i * (szT x).toNat) ((i + 1) * (szT x).toNat))
  | _ => false
def eT : Nat → Ty_Type → List Int → Bool
  | 0, _, _ => false
  | d + 1, t, l => ((l.length : Int) == szT t) && (if t.f_Kind = 2 then !(tzL l).any (· == 0) else if t.f_Kind = 3 then enE t.f_Nums l t.f_Base
      else if t.f_Kind = 4 then gpM l t.f_Size 0 t.f_Members && t.f_Members.all (fun m => eT d m.2.2 (sl l m.2.1.toNat (m.2.1 + szT m.2.2).toNat)) else if t.f_Kind = 5 then arE (eT d) t.f_Count l t.f_Base else true)
theorem ext_sl (l : List Int) (i j : Nat) : (toB l).extract i j = toB (sl l i j) := extract_toB l i j
theorem sl_in {l : List Int} (h : inB l) (a b : Nat) : inB (sl l a b) := inB_drop (inB_take h b) a
theorem sl_len {l : List Int} {a b : Nat} (h : b ≤ l.length) : (sl l a b).length = b - a := by unfold sl; rw [List.length_drop, List.length_take]; omega
theorem sl_cons {l : List Int} {a b : Nat} (h : a < b) (hb : b ≤ l.length) : sl l a b = (l[a]'(by omega)) :: sl l (a + 1) b := by
  unfold sl
  rw [List.drop_eq_getElem_cons (by rw [List.length_take]; omega), List.getElem_take]
theorem sl_nil {l : List Int} {a b : Nat} (h : b ≤ a) : sl l a b = [] := by
  unfold sl; exact List.drop_eq_nil_of_le (by rw [List.length_take]; omega)
theorem spec_zero_loop (l : List Int) (hl : inB l) (hn : l.length ≤ 1048576) (i to_ : Int) (k s : Int) (g b : Bool) (N : List ByteArray) (M : List Int) (E : List (ByteArray × Int × Ty_Type)) (B : List Ty_Type) (c : Int) (hto : to_ ≤ l.length) :
    ∀ (n a : Nat), to_ = (a : Int) + n → spec_l03Compound_l8 (toB l) (a : Int) i to_ k s g b N M E B c = sif (zB (sl l a to_.toNat)) (spec_l03Compound_l8 (toB l) to_ i to_ k s g b N M E B c) (some false) := by
  intro n
  induction n with
  | zero => intro a ha; rw [sl_nil (by omega), show (a : Int) = to_ by omega]; rfl
  | succ n ih =>
    intro a ha
    have hlt : a < l.length := by omega
    have hb : bidx (toB l) (a : Int) = some l[a] := by rw [bidx_toB hl (by omega), Int.toNat_natCast, List.getElem?_eq_getElem hlt]
    rw [spec_l03Compound_l8_eq, sif_t (by omega), hb, sbind_some, wi64_add1 (by omega), ih (a + 1) (by omega), sl_cons (l := l) (a := a) (b := to_.toNat) (by omega) (by omega)]
    show sif (!(l[a] == 0)) _ _ = sif ((l[a] == 0) && zB (sl l (a + 1) to_.toNat)) _ _
    cases l[a] == 0 <;> rfl
def cmM (e : Ty_Type → List Int → Bool) (l : List Int) (size : Int) : Int → List (ByteArray × Int × Ty_Type) → Bool
  | at_, [] => zB (sl l at_.toNat size.toNat)
  | at_, m :: r => zB (sl l at_.toNat m.2.1.toNat) && (e m.2.2 (sl l m.2.1.toNat (m.2.1 + szT m.2.2).toNat) && cmM e l size (m.2.1 + szT m.2.2) r)
theorem cmM_eq (e : Ty_Type → List Int → Bool) (l : List Int) (size : Int) : ∀ (E : List (ByteArray × Int × Ty_Type)) (a : Int), cmM e l size a E = (gpM l size a E && E.all fun m => e m.2.2 (sl l m.2.1.toNat (m.2.1 + szT m.2.2).toNat))
  | [], a => by rw [List.all_nil, Bool.and_true]; rfl
  | m :: r, a => by
    rw [cmM, gpM, cmM_eq e l size r, List.all_cons]
    cases zB (sl l a.toNat m.2.1.toNat) <;> cases e m.2.2 (sl l m.2.1.toNat (m.2.1 + szT m.2.2).toNat) <;> cases gpM l size (m.2.1 + szT m.2.2) r <;> rfl
theorem spec_cm_loop (d : Nat) (ih : ∀ t l, vT d t = true → inB l → l.length ≤ 1048576 → spec_l03Ok t.f_Kind t.f_Size t.f_Signed t.f_Big t.f_Names t.f_Nums t.f_Members t.f_Base t.f_Count (toB l) = some (eT d t l)) (l : List Int) (hl : inB l) (hn : l.length ≤ 1048576) (k s : Int) (g b : Bool) (N : List ByteArray) (M : List Int) (E : List (ByteArray × Int × Ty_Type)) (B : List Ty_Type) (c : Int) (hs : (l.length : Int) = s) :
    ∀ (r : List (ByteArray × Int × Ty_Type)) (i : Nat) (a : Int), E.drop i = r → E.length = i + r.length → E.length ≤ 4 → 0 ≤ a → cpM (vT d) a r s = true → spec_l03Compound_l3 (toB l) a (i : Int) k s g b N M E B c = some (cmM (eT d) l s a r)
  | [], i, a, hr, hi, hE, h0, hv => by
    have hv : decide (a ≤ s) = true := hv
    rw [decide_eq_true_eq] at hv
    have hi : E.length = i := hi
    rw [spec_l03Compound_l3_eq, sif_t (by omega), sif_f (by omega)]
    have z := spec_zero_loop l hl hn (i : Int) s k s g b N M E B c (by omega) (s - a).toNat a.toNat (by omega)
    rw [show ((a.toNat : Nat) : Int) = a by omega] at z
    rw [z, spec_l03Compound_l8_eq (toB l) s, sif_f (by omega), sif_f (by omega), wi64_add1 (by omega), spec_l03Compound_l3_eq, sif_f (by omega), sif_some]
    show _ = some (zB (sl l a.toNat s.toNat))
    cases zB (sl l a.toNat s.toNat) <;> rfl
  | m :: r, i, a, hr, hi, hE, h0, hv => by
    simp only [cpM, Bool.and_eq_true, Bool.not_eq_true', decide_eq_false_iff_not] at hv
    obtain ⟨v1, v2, v3, v4⟩ := hv
    have hz := vT_size v1
    have hi : E.length = i + (r.length + 1) := hi
    have hlt : i < E.length := by omega
    have hm : E[i]? = some m := by rw [← List.head?_drop, hr]; rfl
    have hle : m.2.1 + szT m.2.2 ≤ s := by
      have key : ∀ (q : List (ByteArray × Int × Ty_Type)) (e : Int), cpM (vT d) e q s = true → e ≤ s := by
        intro q
        induction q with
        | nil => intro e h; simpa [cpM] using h
        | cons y q ihq =>
          intro e h
          simp only [cpM, Bool.and_eq_true, Bool.not_eq_true', decide_eq_false_iff_not] at h
          have := ihq _ h.2.2.2
          have := vT_size h.1
          omega
      exact key r _ v4
    have hnext := spec_cm_loop d ih l hl hn k s g b N M E B c hs r (i + 1) (m.2.1 + szT m.2.2) (by rw [← List.drop_drop, hr]; rfl) (by omega) hE (by omega) v4
    have z := spec_zero_loop l hl hn (i : Int) m.2.1 k s g b N M E B c (by omega) (m.2.1 - a).toNat a.toNat (by omega)
    rw [show ((a.toNat : Nat) : Int) = a by omega] at z
    rw [spec_l03Compound_l3_eq, sif_t (by omega), sif_t (by omega), idx_some hm, sbind_some, z, spec_l03Compound_l8_eq (toB l) m.2.1, sif_f (by omega), sif_t (by omega), idx_some hm, sbind_some, spec_size_some v1, sbind_some, sbind_some, wi64_id (n := m.2.1 + szT m.2.2) (by omega) (by omega), toB_size, sif_pos (le3_ok (by omega) (by omega)), sif_pos (le3_ok (by omega) (by omega)), ext_sl, ih _ _ v1 (sl_in hl _ _) (by have := sl_len (l := l) (a := m.2.1.toNat) (b := (m.2.1 + szT m.2.2).toNat) (by omega); omega), sbind_some, wi64_add1 (by omega), hnext]
    show _ = some (zB (sl l a.toNat m.2.1.toNat) && (eT d m.2.2 (sl l m.2.1.toNat (m.2.1 + szT m.2.2).toNat) && cmM (eT d) l s (m.2.1 + szT m.2.2) r))
    show sif _ (sif (!eT d m.2.2 (sl l m.2.1.toNat (m.2.1 + szT m.2.2).toNat)) _ _) _ = _
    cases zB (sl l a.toNat m.2.1.toNat) <;> cases eT d m.2.2 (sl l m.2.1.toNat (m.2.1 + szT m.2.2).toNat) <;> rfl
/-! eltC -/
theorem arr_bounds {c z : Int} {n : Nat} (hc : 1 ≤ c ∧ c ≤ 4) (hz : 1 ≤ z ∧ z ≤ 24) (hn : (n : Int) = c * z) {i : Nat} (hi : i < c.toNat) : (i : Int) * z = ((i * z.toNat : Nat) : Int) ∧ ((i : Int) + 1) * z = (((i + 1) * z.toNat : Nat) : Int) ∧ i * z.toNat ≤ (i + 1) * z.toNat ∧ (i + 1) * z.toNat ≤ n ∧ (i + 1) * z.toNat ≤ 96 := by
  have hzn : (z.toNat : Int) = z := by omega
  have e1 : (i : Int) * z = ((i * z.toNat : Nat) : Int) := by rw [Int.natCast_mul, hzn]
  have e2 : ((i : Int) + 1) * z = (((i + 1) * z.toNat : Nat) : Int) := by rw [Int.natCast_mul, hzn]; rfl
  have e3 : (i + 1) * z.toNat ≤ c.toNat * z.toNat := Nat.mul_le_mul_right _ (by omega)
  have e4 : ((c.toNat * z.toNat : Nat) : Int) = c * z := by rw [Int.natCast_mul, hzn, show (c.toNat : Int) = c by omega]
  have e5 : c.toNat * z.toNat ≤ 4 * 24 := Nat.mul_le_mul (by omega) (by omega)
  exact ⟨e1, e2, Nat.mul_le_mul_right _ (by omega), by omega, by omega⟩
theorem spec_arr_loop (d : Nat) (ih : ∀ t l, vT d t = true → inB l → l.length ≤ 1048576 → spec_l03Ok t.f_Kind t.f_Size t.f_Signed t.f_Big t.f_Names t.f_Nums t.f_Members t.f_Base t.f_Count (toB l) = some (eT d t l)) (l : List Int) (hl : inB l) (hn : l.length ≤ 1048576) (x : Ty_Type) (hx : vT d x = true) (k s : Int) (g b : Bool) (N : List ByteArray) (M : List Int) (E : List (ByteArray × Int × Ty_Type)) (B : List Ty_Type) (c : Int) (hB : B = [x]) (hc : 1 ≤ c ∧ c ≤ 4) (hs : (l.length : Int) = c * szT x) :
    spec_l03Ok_l13 (toB l) (szT x) 0 k s g b N M E B c = some (arE (eT d) c l [x]) := by
  have hz := vT_size hx
  have k0 := all_loop (List.range c.toNat) (fun i => eT d x (sl l (i * (szT x).toNat) ((i + 1) * (szT x).toNat))) (fun i => spec_l03Ok_l13 (toB l) (szT x) (i : Int) k s g b N M E B c) false (fun i y hy hi => by
    rw [List.length_range] at hi
    rw [List.getElem?_range hi, Option.some.injEq] at hy
    subst hy
    obtain ⟨b1, b2, b3, b4, b5⟩ := arr_bounds hc hz hs hi
    show spec_l03Ok_l13 (toB l) (szT x) (i : Int) k s g b N M E B c = _
    rw [spec_l03Ok_l13_eq, sif_t (by omega), hB]
    show sif _ (sif _ (sbind (spec_l03Ok x.f_Kind x.f_Size x.f_Signed x.f_Big x.f_Names x.f_Nums x.f_Members x.f_Base x.f_Count _) _) _) _ = _
    rw [wi64_id (n := (i : Int) + 1) (by omega) (by omega), b1, b2, wi64_id (n := ((i * (szT x).toNat : Nat) : Int)) (by omega) (by omega), wi64_id (n := (((i + 1) * (szT x).toNat : Nat) : Int)) (by omega) (by omega), toB_size, sif_pos (le3_ok (by omega) (by omega)), sif_pos (le3_ok (by omega) (by omega)), Int.toNat_natCast, Int.toNat_natCast, ext_sl, ih _ _ hx (sl_in hl _ _) (by rw [sl_len b4]; omega), sbind_some, sif_not]
    rfl)
  refine k0.trans ?_
  show sif _ (spec_l03Ok_l13 (toB l) (szT x) ((List.range c.toNat).length : Nat) k s g b N M E B c) _ = _
  rw [List.length_range, spec_l03Ok_l13_eq, sif_f (by omega), sif_some]
  show _ = some ((List.range c.toNat).all _)
  cases (List.range c.toNat).all fun i => eT d x (sl l (i * (szT x).toNat) ((i + 1) * (szT x).toNat)) <;> rfl
theorem enM_all {N : List ByteArray} {M : List Int} {x : Ty_Type} (h : enM N M x = true) : M.length ≤ 6 := by
  unfold enM at h
  simp only [Bool.and_eq_true, inr_iff] at h
  omega
theorem szT_k3 {t x : Ty_Type} (hk : t.f_Kind = 3) (hx : t.f_Base = [x]) : szT t = x.f_Size := by rw [szT_eq, if_pos hk, hx]
theorem szT_k5 {t x : Ty_Type} (hk : t.f_Kind = 5) (hx : t.f_Base = [x]) : szT t = t.f_Count * szT x := by rw [szT_eq, if_neg (by omega), if_pos hk, hx]
theorem szT_o {t : Ty_Type} (h3 : t.f_Kind ≠ 3) (h5 : t.f_Kind ≠ 5) : szT t = t.f_Size := by rw [szT_eq, if_neg h3, if_neg h5]
theorem eT_succ (d : Nat) (t : Ty_Type) (l : List Int) : eT (d + 1) t l = (((l.length : Int) == szT t) && (if t.f_Kind = 2 then !(tzL l).any (· == 0) else if t.f_Kind = 3 then enE t.f_Nums l t.f_Base
      else if t.f_Kind = 4 then gpM l t.f_Size 0 t.f_Members && t.f_Members.all (fun m => eT d m.2.2 (sl l m.2.1.toNat (m.2.1 + szT m.2.2).toNat)) else if t.f_Kind = 5 then arE (eT d) t.f_Count l t.f_Base else true)) := rfl
theorem spec_elt_some : ∀ (d : Nat) (t : Ty_Type) (l : List Int), vT d t = true → inB l → l.length ≤ 1048576 → spec_l03Ok t.f_Kind t.f_Size t.f_Signed t.f_Big t.f_Names t.f_Nums t.f_Members t.f_Base t.f_Count (toB l) = some (eT d t l)
  | 0, _, _, h, _, _ => by cases h
  | d + 1, t, l, h, hl, hn => by
    have ih := spec_elt_some d
    rw [spec_l03Ok_eq, spec_size_some h, sbind_some, toB_size, eT_succ]
    by_cases hs : (l.length : Int) = szT t
    · rw [sif_neg (by rw [bne_eq_false_iff_eq]; exact hs), kbeq hs, Bool.true_and]
      rcases vT_kinds h with ⟨hk, h1⟩ | ⟨hk, h1⟩ | ⟨hk, x, hx, h1⟩ | ⟨hk, h1, h2, h3⟩ | ⟨hk, h1, x, hx, h2, h3⟩ | ⟨hk, h1⟩
      · rw [hk]; rfl
      · rw [if_pos hk, kbeq hk, sif_true, spec_text_some l hl hn, sbind_some]
      · rw [if_neg (by omega), if_pos hk, kbne (show t.f_Kind ≠ 2 by omega), kbeq hk, sif_false, sif_true, hx]
        have hi := enM_base h1
        have hz := iOk_size hi.2
        have hM := enM_all h1
        show sbind (spec_l03Number x.f_Kind x.f_Size x.f_Signed x.f_Big x.f_Names x.f_Nums x.f_Members x.f_Base x.f_Count (toB l)) _ = _
        rw [spec_num_some _ _ _ _ _ _ _ _ _ l hl hi.2 (by rw [hs, szT_k3 hk hx]), sbind_some, spec_has_some _ _ (by omega), sbind_some]
        rfl
      · rw [if_neg (by omega), if_neg (by omega), if_pos hk, kbne (show t.f_Kind ≠ 2 by omega), kbne (show t.f_Kind ≠ 3 by omega), kbeq hk, sif_false, sif_false, sif_true, spec_l03Compound_eq]
        have lp := spec_cm_loop d ih l hl hn t.f_Kind t.f_Size t.f_Signed t.f_Big t.f_Names t.f_Nums t.f_Members t.f_Base t.f_Count (by rw [hs, szT_o (by omega) (by omega)]) t.f_Members 0 0 rfl (by omega) (by omega) (by omega) h3
        rw [show spec_l03Compound_l3 (toB l) 0 0 t.f_Kind t.f_Size t.f_Signed t.f_Big t.f_Names t.f_Nums t.f_Members t.f_Base t.f_Count = _ from lp, sbind_some, cmM_eq]
      · rw [if_neg (by omega), if_neg (by omega), if_neg (by omega), if_pos hk, kbne (show t.f_Kind ≠ 2 by omega), kbne (show t.f_Kind ≠ 3 by omega), kbne (show t.f_Kind ≠ 4 by omega), kbeq hk, sif_false, sif_false, sif_false, sif_true, hx]
        show sbind (spec_l02Size x.f_Kind x.f_Size x.f_Signed x.f_Big x.f_Names x.f_Nums x.f_Members x.f_Base x.f_Count) _ = _
        rw [spec_size_some h2, sbind_some, spec_arr_loop d ih l hl hn x h2 _ _ _ _ _ _ _ _ _ rfl h1 (by rw [hs, szT_k5 hk hx])]
      · rw [hk]; rfl
    · rw [sif_pos (by rw [bne_iff_ne]; exact hs), kbne hs, Bool.false_and]
/-! eltD -/
/-! the gaps, the program's way -/
def clM (l : List Int) (m : ByteArray × Int × Ty_Type) : List Int := l.take m.2.1.toNat ++ (List.replicate ((m.2.1 + szT m.2.2).toNat - m.2.1.toNat) (0 : Int) ++ l.drop (m.2.1.toNat + (List.replicate ((m.2.1 + szT m.2.2).toNat - m.2.1.toNat) (0 : Int)).length))
def clr : List Int → List (ByteArray × Int × Ty_Type) → List Int
  | l, [] => l
  | l, m :: r => clr (clM l m) r
theorem cpM_end {v : Ty_Type → Bool} (hv : ∀ t, v t = true → 1 ≤ szT t) {s : Int} : ∀ {q : List (ByteArray × Int × Ty_Type)} {e : Int}, cpM v e q s = true → e ≤ s
  | [], e, h => by simpa [cpM] using h
  | y :: q, e, h => by
    simp only [cpM, Bool.and_eq_true, Bool.not_eq_true', decide_eq_false_iff_not] at h
    have h1 := cpM_end hv h.2.2.2
    have h2 := hv _ h.1
    omega
theorem clM_len {l : List Int} {m : ByteArray × Int × Ty_Type} (h0 : 0 ≤ m.2.1) (hz : 1 ≤ szT m.2.2) (h : m.2.1 + szT m.2.2 ≤ l.length) : (clM l m).length = l.length := by
  unfold clM
  rw [List.length_append, List.length_append, List.length_take, List.length_replicate, List.length_drop]
  omega
theorem clM_in {l : List Int} {m : ByteArray × Int × Ty_Type} (h : inB l) : inB (clM l m) := by
  intro x hx
  unfold clM at hx
  rcases List.mem_append.1 hx with hx | hx
  · exact h x (List.mem_of_mem_take hx)
  · rcases List.mem_append.1 hx with hx | hx
    · rw [(List.mem_replicate.1 hx).2]; omega
    · exact h x (List.mem_of_mem_drop hx)
theorem zB_append (a b : List Int) : zB (a ++ b) = (zB a && zB b) := List.all_append
theorem sl_drop (l : List Int) (a b : Nat) : sl l a b = (l.drop a).take (b - a) := List.drop_take
theorem gpM_congr (v : Ty_Type → Bool) (hv : ∀ t, v t = true → 1 ≤ szT t) (l l' : List Int) (s : Int) : ∀ (r : List (ByteArray × Int × Ty_Type)) (a : Int), 0 ≤ a → cpM v a r s = true → l.drop a.toNat = l'.drop a.toNat → gpM l s a r = gpM l' s a r
  | [], a, _, _, h => by show zB (sl l _ _) = zB (sl l' _ _); rw [sl_drop, sl_drop, h]
  | m :: r, a, h0, hc, h => by
    simp only [cpM, Bool.and_eq_true, Bool.not_eq_true', decide_eq_false_iff_not] at hc
    have hz := hv _ hc.1
    rw [gpM, gpM, sl_drop, sl_drop, h, gpM_congr v hv l l' s r (m.2.1 + szT m.2.2) (by omega) hc.2.2.2 (by
      have e : (m.2.1 + szT m.2.2).toNat = a.toNat + ((m.2.1 + szT m.2.2).toNat - a.toNat) := by omega
      rw [e, ← List.drop_drop, ← List.drop_drop, h])]
theorem clr_gaps (v : Ty_Type → Bool) (hv : ∀ t, v t = true → 1 ≤ szT t) (s : Int) : ∀ (r : List (ByteArray × Int × Ty_Type)) (a : Int) (l : List Int), 0 ≤ a → cpM v a r s = true → (l.length : Int) = s → zB (clr l r) = (zB (l.take a.toNat) && gpM l s a r)
  | [], a, l, h0, hc, hl => by
    show zB l = (zB (l.take a.toNat) && zB (sl l a.toNat s.toNat))
    rw [← zB_append]
    congr 1
    unfold sl
    rw [List.take_of_length_le (by omega : l.length ≤ s.toNat), List.take_append_drop]
  | m :: r, a, l, h0, hc, hl => by
    have hc' := hc
    simp only [cpM, Bool.and_eq_true, Bool.not_eq_true', decide_eq_false_iff_not] at hc
    have hz := hv _ hc.1
    have hle := cpM_end hv hc.2.2.2
    have hlen := clM_len (l := l) (m := m) (by omega) hz (by omega)
    show zB (clr (clM l m) r) = _
    rw [clr_gaps v hv s r (m.2.1 + szT m.2.2) (clM l m) (by omega) hc.2.2.2 (by omega), gpM, ← Bool.and_assoc]
    have e1 : (clM l m).take (m.2.1 + szT m.2.2).toNat = l.take m.2.1.toNat ++ List.replicate ((m.2.1 + szT m.2.2).toNat - m.2.1.toNat) (0 : Int) := by
      unfold clM
      rw [← List.append_assoc, List.take_append_of_le_length (by rw [List.length_append, List.length_take, List.length_replicate]; omega), List.take_of_length_le (by rw [List.length_append, List.length_take, List.length_replicate]; omega)]
    have e2 : (clM l m).drop (m.2.1 + szT m.2.2).toNat = l.drop (m.2.1 + szT m.2.2).toNat := by
      unfold clM
      rw [← List.append_assoc, List.length_replicate, List.drop_append_of_le_length (by rw [List.length_append, List.length_take, List.length_replicate]; omega), List.drop_eq_nil_of_le (by rw [List.length_append, List.length_take, List.length_replicate]; omega), List.nil_append]
      congr 1; omega
    have e3 : zB (List.replicate ((m.2.1 + szT m.2.2).toNat - m.2.1.toNat) (0 : Int)) = true := by
      unfold zB; rw [List.all_eq_true]; intro x hx; rw [(List.mem_replicate.1 hx).2]; rfl
    have e4 : zB (l.take m.2.1.toNat) = (zB (l.take a.toNat) && zB (sl l a.toNat m.2.1.toNat)) := by
      rw [← zB_append]
      congr 1
      have := List.take_append_drop a.toNat (l.take m.2.1.toNat)
      rw [List.take_take, Nat.min_eq_left (by omega)] at this
      exact this.symm
    rw [e1, zB_append, e3, Bool.and_true, e4, gpM_congr v hv (clM l m) l s r (m.2.1 + szT m.2.2) (by omega) hc.2.2.2 e2]
theorem impl_gaps_loop (d : Nat) (E : List (ByteArray × Int × Ty_Type)) (hE : E.length ≤ 4) (s : Int) (hs : s ≤ 24) :
    ∀ (r : List (ByteArray × Int × Ty_Type)) (i : Nat) (a : Int) (l : List Int), E.drop i = r → E.length = i + r.length → 0 ≤ a → cpM (vT d) a r s = true → (l.length : Int) = s → inB l → impl_Type_gapsOk_l3 E (E.length : Int) (i : Int) l = some (zB (clr l r))
  | [], i, a, l, hr, hi, h0, hc, hl, hb => by
    have hi : E.length = i := hi
    rw [impl_Type_gapsOk_l3_eq, sif_f (by omega), impl_trimmed_some l hb (by omega), sbind_some]
    have e : seq (toB (tzL l)) (bs []) = decide (tzL l = []) := seq_toB (a := tzL l) (b := []) (tz_in hb) (fun x hx => by cases hx)
    rw [e, tzL_all]; rfl
  | m :: r, i, a, l, hr, hi, h0, hc, hl, hb => by
    have hc' := hc
    simp only [cpM, Bool.and_eq_true, Bool.not_eq_true', decide_eq_false_iff_not] at hc
    have hz := vT_size hc.1
    have hle := cpM_end (fun t h => (vT_size h).1) hc.2.2.2
    have hi : E.length = i + (r.length + 1) := hi
    have hm : E[i]? = some m := by rw [← List.head?_drop, hr]; rfl
    have hlen := clM_len (l := l) (m := m) (by omega) hz.1 (by omega)
    have ih := impl_gaps_loop d E hE s hs r (i + 1) (m.2.1 + szT m.2.2) (clM l m) (by rw [← List.drop_drop, hr]; rfl) (by omega) (by omega) hc.2.2.2 (by omega) (clM_in hb)
    rw [impl_Type_gapsOk_l3_eq, sif_t (by omega), idx_some hm, sbind_some, impl_size_some hc.1, sbind_some, wi64_id (n := m.2.1 + szT m.2.2) (by omega) (by omega), sif_pos (le3_ok (by omega) (by omega)), sif_pos (le3_ok (by omega) (by omega)), wi64_add1 (by omega)]
    exact ih
/-! the parts -/
theorem room144 {n : Nat} (h : n ≤ 100) : room n 144 = true := by
  unfold room
  exact Nat.ble_eq_true_of_le (by omega)
def partM (l : List Int) (m : ByteArray × Int × Ty_Type) : Ty_Type × ByteArray := (m.2.2, toB (sl l m.2.1.toNat (m.2.1 + szT m.2.2).toNat))
theorem impl_parts_loop (d : Nat) (l : List Int) (E : List (ByteArray × Int × Ty_Type)) (hE : E.length ≤ 4) (s : Int) (hs : s ≤ 24) (hl : (l.length : Int) = s) :
    ∀ (r : List (ByteArray × Int × Ty_Type)) (i : Nat) (a : Int) (out : List (Ty_Type × ByteArray)), E.drop i = r → E.length = i + r.length → 0 ≤ a → cpM (vT d) a r s = true → out.length ≤ 10 + i → impl_Type_parts_l5 (toB l) E (E.length : Int) (i : Int) out = some (out ++ r.map (partM l))
  | [], i, a, out, hr, hi, h0, hc, ho => by
    have hi : E.length = i := hi
    rw [impl_Type_parts_l5_eq, sif_f (by omega), List.map_nil, List.append_nil]
  | m :: r, i, a, out, hr, hi, h0, hc, ho => by
    simp only [cpM, Bool.and_eq_true, Bool.not_eq_true', decide_eq_false_iff_not] at hc
    have hz := vT_size hc.1
    have hle := cpM_end (fun t h => (vT_size h).1) hc.2.2.2
    have hi : E.length = i + (r.length + 1) := hi
    have hm : E[i]? = some m := by rw [← List.head?_drop, hr]; rfl
    have ih := impl_parts_loop d l E hE s hs hl r (i + 1) (m.2.1 + szT m.2.2) (out ++ [partM l m]) (by rw [← List.drop_drop, hr]; rfl) (by omega) (by omega) hc.2.2.2 (by rw [List.length_append, List.length_singleton]; omega)
    rw [impl_Type_parts_l5_eq, sif_t (by omega), idx_some hm, sbind_some, impl_size_some hc.1, sbind_some, wi64_id (n := m.2.1 + szT m.2.2) (by omega) (by omega), toB_size, sif_pos (le3_ok (by omega) (by omega)), sif_pos (le3_ok (by omega) (by omega)), sif_pos (room144 (by omega)), wi64_add1 (by omega), ext_sl, Ty_Type.eta]
    refine ih.trans ?_
    rw [List.map_cons, List.append_assoc]; rfl
theorem impl_parts_arr (l : List Int) (x : Ty_Type) (k s : Int) (g b : Bool) (N : List ByteArray) (M : List Int) (E : List (ByteArray × Int × Ty_Type)) (B : List Ty_Type) (c : Int) (hB : B = [x]) (hz : 1 ≤ szT x ∧ szT x ≤ 24) (hc : 1 ≤ c ∧ c ≤ 4) (hs : (l.length : Int) = c * szT x) :
    ∀ (n i : Nat) (out : List (Ty_Type × ByteArray)), c.toNat = i + n → out.length ≤ 10 + i → impl_Type_parts_l12 (toB l) (szT x) c (i : Int) k s g b N M E B c out = some (out ++ ((List.range c.toNat).drop i).map fun i => (x, toB (sl l (i * (szT x).toNat) ((i + 1) * (szT x).toNat)))) := by
  intro n
  induction n with
  | zero =>
    intro i out hi ho
    rw [impl_Type_parts_l12_eq, sif_f (by omega), List.drop_eq_nil_of_le (by rw [List.length_range]; omega), List.map_nil, List.append_nil]
  | succ n ih =>
    intro i out hi ho
    obtain ⟨b1, b2, b3, b4, b5⟩ := arr_bounds hc hz hs (i := i) (by omega)
    have ih := ih (i + 1) (out ++ [(x, toB (sl l (i * (szT x).toNat) ((i + 1) * (szT x).toNat)))]) (by omega) (by rw [List.length_append, List.length_singleton]; omega)
    have hx : idx B 0 = some x := by rw [hB]; rfl
    rw [impl_Type_parts_l12_eq, sif_t (by omega), hx, sbind_some, wi64_id (n := (i : Int) + 1) (by omega) (by omega), b1, b2, wi64_id (n := ((i * (szT x).toNat : Nat) : Int)) (by omega) (by omega), wi64_id (n := (((i + 1) * (szT x).toNat : Nat) : Int)) (by omega) (by omega), toB_size, sif_pos (le3_ok (by omega) (by omega)), sif_pos (le3_ok (by omega) (by omega)), sif_pos (room144 (by omega)), Int.toNat_natCast, Int.toNat_natCast, ext_sl, Ty_Type.eta]
    refine (show impl_Type_parts_l12 (toB l) (szT x) c ((i : Int) + 1) k s g b N M E B c _ = _ from ih).trans ?_
    rw [List.drop_eq_getElem_cons (show i < (List.range c.toNat).length by rw [List.length_range]; omega), List.map_cons, List.getElem_range, List.append_assoc]; rfl
theorem impl_all_partsO (d : Nat) (ih : ∀ t l, Ok_Ty_Type t → vT d t = true → inB l → l.length ≤ 1048576 → impl_Type_isElement t.f_Kind t.f_Size t.f_Signed t.f_Big t.f_Names t.f_Nums t.f_Members t.f_Base t.f_Count (toB l) = some (eT d t l)) (P : List (Ty_Type × List Int)) (hP : P.length ≤ 1048576) (h : ∀ p ∈ P, Ok_Ty_Type p.1 ∧ vT d p.1 = true ∧ inB p.2 ∧ p.2.length ≤ 1048576) :
    slices_ContainsFunc_simpl_part_impl_part_d_Type_isElement_1 (P.map fun p => (p.1, toB p.2)) = some (!P.all fun p => eT d p.1 p.2) := by
  rw [slices_ContainsFunc_simpl_part_impl_part_d_Type_isElement_1_eq, slices_IndexFunc_simpl_part_impl_part_d_Type_isElement_1_eq]
  have e : (P.all fun p => eT d p.1 p.2) = !(P.map fun p => (p.1, toB p.2)).any fun q => !eT d q.1 (ofB q.2) := by
    rw [List.any_map, not_any_all]
    refine all_congr_mem (fun p hp => ?_)
    show _ = !!eT d p.1 (ofB (toB p.2))
    rw [ofB_toB (h p hp).2.2.1, Bool.not_not]
  rw [e, Bool.not_not]
  refine find_any (find_loop (P.map fun p => (p.1, toB p.2)) (fun q => !eT d q.1 (ofB q.2)) (fun i => slices_IndexFunc_simpl_part_impl_part_d_Type_isElement_1_l2 (P.map fun p => (p.1, toB p.2)) ((P.map fun p => (p.1, toB p.2)).length : Int) i) (by rw [slices_IndexFunc_simpl_part_impl_part_d_Type_isElement_1_l2_eq, sif_f (by omega)]) (fun i q hq hi => ?_))
  rw [List.length_map] at hi
  obtain ⟨p, hp, rfl⟩ := List.mem_map.1 (List.mem_of_getElem? hq)
  have hh := h p hp
  rw [slices_IndexFunc_simpl_part_impl_part_d_Type_isElement_1_l2_eq, sif_t (by rw [List.length_map]; omega), idx_some hq, sbind_some, impl_Type_isElement_1_eq]
  show sbind (sbind (impl_Type_isElement p.1.f_Kind p.1.f_Size p.1.f_Signed p.1.f_Big p.1.f_Names p.1.f_Nums p.1.f_Members p.1.f_Base p.1.f_Count (toB p.2)) _) _ = sif (!eT d p.1 (ofB (toB p.2))) _ _
  rw [ih _ _ hh.1 hh.2.1 hh.2.2.1 hh.2.2.2, sbind_some, sbind_some, ofB_toB hh.2.2.1, wi64_add1 (by omega)]
/-! eltE -/
theorem impl_elt_some : ∀ (d : Nat) (t : Ty_Type) (l : List Int), Ok_Ty_Type t → vT d t = true → inB l → l.length ≤ 1048576 → impl_Type_isElement t.f_Kind t.f_Size t.f_Signed t.f_Big t.f_Names t.f_Nums t.f_Members t.f_Base t.f_Count (toB l) = some (eT d t l)
  | 0, _, _, _, h, _, _ => by cases h
  | d + 1, t, l, hok, h, hl, hn => by
    obtain ⟨l1, l2, l3, l4, k1, k2⟩ := ok_lens hok
    rw [impl_Type_isElement_eq, impl_size_some h, sbind_some, toB_size, eT_succ]
    by_cases hs : (l.length : Int) = szT t
    · rw [sif_neg (by rw [bne_eq_false_iff_eq]; exact hs), kbeq hs, Bool.true_and]
      have none_ : slices_ContainsFunc_simpl_part_impl_part_d_Type_isElement_1 [] = some false := by
        rw [slices_ContainsFunc_simpl_part_impl_part_d_Type_isElement_1_eq, slices_IndexFunc_simpl_part_impl_part_d_Type_isElement_1_eq, slices_IndexFunc_simpl_part_impl_part_d_Type_isElement_1_l2_eq]; rfl
      rcases vT_kinds h with ⟨hk, h1⟩ | ⟨hk, h1⟩ | ⟨hk, x, hx, h1⟩ | ⟨hk, h1, h2, h3⟩ | ⟨hk, h1, x, hx, h2, h3⟩ | ⟨hk, h1⟩
      · rw [kbne (show t.f_Kind ≠ 2 by omega), kbne (show t.f_Kind ≠ 3 by omega), kbne (show t.f_Kind ≠ 4 by omega), sif_false, sif_false, sif_false, impl_Type_parts_eq, kbne (show t.f_Kind ≠ 4 by omega), kbne (show t.f_Kind ≠ 5 by omega), sif_false, sif_false, sbind_some, none_, sbind_some, if_neg (by omega), if_neg (by omega), if_neg (by omega), if_neg (by omega)]; rfl
      · rw [if_pos hk, kbeq hk, sif_true, impl_trimmed_some l hl hn, sbind_some, impl_has0_some _ (tz_in hl), sbind_some]
      · rw [if_neg (by omega), if_pos hk, kbne (show t.f_Kind ≠ 2 by omega), kbeq hk, sif_false, sif_true, hx]
        have hi := enM_base h1
        have hM := enM_all h1
        have hnum : impl_Type_number t.f_Kind t.f_Size t.f_Signed t.f_Big t.f_Names t.f_Nums t.f_Members [x] t.f_Count (toB l) = some (sgn x.f_Size x.f_Signed (leN (ordL x.f_Big l))) := by
          rw [impl_Type_number_eq, kbeq hk, sif_true]
          show sbind (impl_Type_number x.f_Kind x.f_Size x.f_Signed x.f_Big x.f_Names x.f_Nums x.f_Members x.f_Base x.f_Count (toB l)) _ = _
          rw [impl_num_some _ _ _ _ _ _ _ _ _ (by omega) l hl hi.2 (by rw [hs, szT_k3 hk hx]), sbind_some]
        rw [hnum, sbind_some, impl_hasI_some _ _ (by omega), any_swap, sbind_some]
        rfl
      · have hs2 : (l.length : Int) = t.f_Size := by rw [hs, szT_o (by omega) (by omega)]
        have g := impl_gaps_loop d t.f_Members h2.2 t.f_Size (by omega) t.f_Members 0 0 l rfl (by omega) (by omega) h3 hs2 hl
        have p := impl_parts_loop d l t.f_Members h2.2 t.f_Size (by omega) hs2 t.f_Members 0 0 [] rfl (by omega) (by omega) h3 (by simp)
        have cg := clr_gaps (vT d) (fun t h => (vT_size h).1) t.f_Size t.f_Members 0 l (by omega) h3 hs2
        have cm := cpM_all h3
        have q : slices_ContainsFunc_simpl_part_impl_part_d_Type_isElement_1 (t.f_Members.map (partM l)) = some (!t.f_Members.all fun m => eT d m.2.2 (sl l m.2.1.toNat (m.2.1 + szT m.2.2).toNat)) := by
          have := impl_all_partsO d (fun t l hok hv hb hn => impl_elt_some d t l hok hv hb hn) (t.f_Members.map fun m => (m.2.2, sl l m.2.1.toNat (m.2.1 + szT m.2.2).toNat)) (by rw [List.length_map]; omega) (fun p hp => by
            obtain ⟨m, hm, rfl⟩ := List.mem_map.1 hp
            refine ⟨k1 m hm, cm m hm, sl_in hl _ _, ?_⟩
            show (sl l _ _).length ≤ _
            unfold sl
            rw [List.length_drop, List.length_take]; omega)
          rw [List.map_map, List.all_map] at this
          exact this
        rw [if_neg (by omega), if_neg (by omega), if_pos hk, kbne (show t.f_Kind ≠ 2 by omega), kbne (show t.f_Kind ≠ 3 by omega), kbeq hk, sif_false, sif_false, sif_true, impl_Type_gapsOk_eq, ofB_toB hl, show impl_Type_gapsOk_l3 t.f_Members (t.f_Members.length : Int) 0 l = _ from g, sbind_some, impl_Type_parts_eq, kbeq hk, sif_true, show impl_Type_parts_l5 (toB l) t.f_Members (t.f_Members.length : Int) 0 [] = _ from p, sbind_some, List.nil_append, q, sbind_some, Bool.not_not, cg]
        show sif (!(zB (l.take 0) && _)) _ _ = _
        rw [List.take_zero]
        show sif (!(true && _)) _ _ = _
        rw [Bool.true_and, sif_not, sif_bool]
      · have hs2 : (l.length : Int) = t.f_Count * szT x := by rw [hs, szT_k5 hk hx]
        have hz := vT_size h2
        have p := impl_parts_arr l x t.f_Kind t.f_Size t.f_Signed t.f_Big t.f_Names t.f_Nums t.f_Members t.f_Base t.f_Count hx hz h1 hs2 t.f_Count.toNat 0 [] (by omega) (by simp)
        have hokx := k2 x (by rw [hx]; simp)
        have q : slices_ContainsFunc_simpl_part_impl_part_d_Type_isElement_1 ((List.range t.f_Count.toNat).map fun i => (x, toB (sl l (i * (szT x).toNat) ((i + 1) * (szT x).toNat)))) = some (!arE (eT d) t.f_Count l [x]) := by
          have := impl_all_partsO d (fun t l hok hv hb hn => impl_elt_some d t l hok hv hb hn) ((List.range t.f_Count.toNat).map fun i => (x, sl l (i * (szT x).toNat) ((i + 1) * (szT x).toNat))) (by rw [List.length_map, List.length_range]; omega) (fun p hp => by
            obtain ⟨m, hm, rfl⟩ := List.mem_map.1 hp
            refine ⟨hokx, h2, sl_in hl _ _, ?_⟩
            show (sl l _ _).length ≤ _
            unfold sl
            rw [List.length_drop, List.length_take]; omega)
          rw [List.map_map, List.all_map] at this
          exact this
        rw [if_neg (by omega), if_neg (by omega), if_neg (by omega), if_pos hk, kbne (show t.f_Kind ≠ 2 by omega), kbne (show t.f_Kind ≠ 3 by omega), kbne (show t.f_Kind ≠ 4 by omega), sif_false, sif_false, sif_false, impl_Type_parts_eq, kbne (show t.f_Kind ≠ 4 by omega), kbeq hk, sif_false, sif_true]
        have hi : idx t.f_Base 0 = some x := by rw [hx]; rfl
        rw [hi, sbind_some, impl_size_some h2, sbind_some, show impl_Type_parts_l12 (toB l) (szT x) t.f_Count 0 t.f_Kind t.f_Size t.f_Signed t.f_Big t.f_Names t.f_Nums t.f_Members t.f_Base t.f_Count [] = _ from p, sbind_some, List.nil_append, List.drop_zero, q, sbind_some, Bool.not_not, hx]
      · rw [kbne (show t.f_Kind ≠ 2 by omega), kbne (show t.f_Kind ≠ 3 by omega), kbne (show t.f_Kind ≠ 4 by omega), sif_false, sif_false, sif_false, impl_Type_parts_eq, kbne (show t.f_Kind ≠ 4 by omega), kbne (show t.f_Kind ≠ 5 by omega), sif_false, sif_false, sbind_some, none_, sbind_some, if_neg (by omega), if_neg (by omega), if_neg (by omega), if_neg (by omega)]; rfl
    · rw [sif_pos (by rw [bne_iff_ne]; exact hs), kbne hs, Bool.false_and]
/-! hexF -/
/-! hexadecimal digits (as in FnHex) -/
def hexL : List Int := [48, 49, 50, 51, 52, 53, 54, 55, 56, 57, 97, 98, 99, 100, 101, 102]
def hexB : ByteArray := bs [48, 49, 50, 51, 52, 53, 54, 55, 56, 57, 97, 98, 99, 100, 101, 102]
def dig (n : Nat) : Int := hexL.getD n 0
theorem dig_at {n : Int} (h0 : 0 ≤ n) (h1 : n < 16) : bidx hexB n = some (dig n.toNat) := by
  have h : ∀ k : Nat, k < 16 → bidx hexB (k : Int) = some (dig k) := by decide
  have := h n.toNat (by omega)
  rwa [Int.toNat_of_nonneg h0] at this
theorem dig_in (n : Nat) : 0 ≤ dig n ∧ dig n ≤ 255 := by
  by_cases h : n < 16
  · have : ∀ k : Nat, k < 16 → 0 ≤ dig k ∧ dig k ≤ 255 := by decide
    exact this n h
  · unfold dig hexL; simp only [List.getD_eq_getElem?_getD]; rw [List.getElem?_eq_none (by simp; omega)]; decide
def hexI (l : List Int) : List Int := l.flatMap (fun b => [dig (b.toNat / 16), dig (b.toNat % 16)])
theorem hexI_in (l : List Int) : inB (hexI l) := by
  intro x hx
  obtain ⟨b, _, h⟩ := List.mem_flatMap.1 hx
  simp at h
  rcases h with rfl | rfl <;> exact dig_in _
theorem hexI_len (l : List Int) : (hexI l).length = 2 * l.length := by
  unfold hexI
  induction l with
  | nil => rfl
  | cons a l ih => rw [List.flatMap_cons, List.length_append, ih]; simp; omega
theorem and15 {n : Int} (h0 : 0 ≤ n) (h1 : n ≤ 255) : bits .and .u8 n 15 = n % 16 := by
  have h : ∀ k : Nat, k < 256 → bits .and .u8 (k : Int) 15 = (k : Int) % 16 := by decide
  have := h n.toNat (by omega)
  rwa [Int.toNat_of_nonneg h0] at this
theorem impl_HexText_some (l : List Int) (hb : inB l) (hl : l.length ≤ 1048576) : impl_HexText (toB l) = some (toB (hexI l)) := by
  rw [impl_HexText_eq, toB_size]
  have := loop_to l.length (fun i out => impl_HexText_l3 (toB l) (l.length : Int) (i : Int) out) (fun _ _ => some (toB (hexI l))) (fun i out => out = hexI (l.take i)) (fun out ho => by
      rw [impl_HexText_l3_eq, sif_f (by omega), ho, List.take_length])
    (fun i out hi ho ih => by
      have hx := hb _ (List.getElem_mem hi)
      have hbi : bidx (toB l) (i : Int) = some l[i] := by rw [bidx_ofB, ofB_toB hb, idx_nat, List.getElem?_eq_getElem hi]
      have hlen : out.length = 2 * i := by rw [ho, hexI_len, List.length_take]; omega
      have t1 : Int.tdiv l[i] 16 = l[i] / 16 := Int.tdiv_eq_ediv_of_nonneg hx.1
      have t2 : Int.tmod l[i] 16 = l[i] % 16 := Int.tmod_eq_emod_of_nonneg hx.1
      rw [impl_HexText_l3_eq, sif_t (by omega), hbi, sbind_some, t1, wu8_id (by omega) (by omega)]
      have d1 := dig_at (n := l[i] / 16) (by omega) (by omega)
      have d2 := dig_at (n := l[i] % 16) (by omega) (by omega)
      rw [show bs [48, 49, 50, 51, 52, 53, 54, 55, 56, 57, 97, 98, 99, 100, 101, 102] = hexB from rfl, d1, sbind_some, sbind_some, t2, d2, sbind_some, sif_pos (room_ok (by omega)), wi64_add1 (by omega)]
      refine ih _ ?_
      rw [ho, List.take_succ_eq_append_getElem hi]
      unfold hexI
      rw [List.flatMap_append]
      simp only [List.flatMap_cons, List.flatMap_nil, List.append_nil]
      rw [show (l[i] / 16).toNat = l[i].toNat / 16 by omega, show (l[i] % 16).toNat = l[i].toNat % 16 by omega]) 0 [] (by omega) rfl
  simpa using this
theorem spec_l01Hex_some (l : List Int) (hb : inB l) (hl : l.length ≤ 1048576) : spec_l01Hex (toB l) = some (toB (hexI l)) := by
  rw [spec_l01Hex_eq]
  have := loop_to l.length (fun i out => spec_l01Hex_l4 (toB l) hexB (i : Int) out) (fun _ _ => some (toB (hexI l))) (fun i out => out = hexI (l.take i)) (fun out ho => by
      rw [spec_l01Hex_l4_eq, toB_size, sif_f (by omega), ho, List.take_length])
    (fun i out hi ho ih => by
      have hx := hb _ (List.getElem_mem hi)
      have hbi : bidx (toB l) (i : Int) = some l[i] := by rw [bidx_ofB, ofB_toB hb, idx_nat, List.getElem?_eq_getElem hi]
      have hlen : out.length = 2 * i := by rw [ho, hexI_len, List.length_take]; omega
      have t1 : Int.fdiv l[i] (2 ^ 4) = l[i] / 16 := by rw [Int.fdiv_eq_ediv_of_nonneg _ (by decide)]; rfl
      have t2 : bits .and .u8 l[i] 15 = l[i] % 16 := and15 hx.1 hx.2
      rw [spec_l01Hex_l4_eq, toB_size, sif_t (by omega), hbi, sbind_some, t1]
      have d1 := dig_at (n := l[i] / 16) (by omega) (by omega)
      have d2 := dig_at (n := l[i] % 16) (by omega) (by omega)
      rw [d1, sbind_some, sbind_some, t2, d2, sbind_some, sif_pos (room_ok (by omega)), wi64_add1 (by omega)]
      refine ih _ ?_
      rw [ho, List.take_succ_eq_append_getElem hi]
      unfold hexI
      rw [List.flatMap_append]
      simp only [List.flatMap_cons, List.flatMap_nil, List.append_nil]
      rw [show (l[i] / 16).toNat = l[i].toNat / 16 by omega, show (l[i] % 16).toNat = l[i].toNat % 16 by omega]) 0 [] (by omega) rfl
  exact (by simpa using this : spec_l01Hex_l4 (toB l) hexB 0 [] = some (toB (hexI l)))
/-! decL -/
/-! decimals -/
def decI (u : Nat) : List Int := if h : u < 10 then [48 + (u : Int)] else decI (u / 10) ++ [48 + ((u % 10 : Nat) : Int)]
termination_by u
decreasing_by omega
theorem decI_small {u : Nat} (h : u < 10) : decI u = [48 + (u : Int)] := by rw [decI, dif_pos h]
theorem decI_big {u : Nat} (h : ¬ u < 10) : decI u = decI (u / 10) ++ [48 + ((u % 10 : Nat) : Int)] := by rw [decI, dif_neg h]
theorem decI_pos (u : Nat) : 0 < (decI u).length := by
  by_cases h : u < 10
  · rw [decI_small h]; simp
  · rw [decI_big h, List.length_append]; simp
theorem decI_len : ∀ (k u : Nat), u < 10 ^ (k + 1) → (decI u).length ≤ k + 1
  | 0, u, h => by rw [decI_small (by simpa using h)]; simp
  | k + 1, u, h => by
    by_cases h1 : u < 10
    · rw [decI_small h1]; simp
    · rw [decI_big h1, List.length_append, List.length_singleton]
      have := decI_len k (u / 10) (by rw [Nat.div_lt_iff_lt_mul (by decide)]; rw [Nat.pow_succ] at h; exact h)
      omega
theorem decI_in : ∀ (u : Nat), ∀ x ∈ decI u, 48 ≤ x ∧ x ≤ 57 := by
  intro u
  induction u using Nat.strongRecOn with
  | _ u ih =>
    intro x hx
    by_cases h : u < 10
    · rw [decI_small h, List.mem_singleton] at hx; omega
    · rw [decI_big h, List.mem_append, List.mem_singleton] at hx
      rcases hx with hx | hx
      · exact ih (u / 10) (by omega) x hx
      · omega
/-- the text of a number -/
def itI (n : Int) : List Int := if n < 0 then 45 :: decI n.natAbs else decI n.toNat
theorem itI_pos (n : Int) : 0 < (itI n).length := by
  unfold itI
  split
  · simp
  · exact decI_pos _
theorem itI_len {n : Int} (h : -9223372036854775808 ≤ n ∧ n ≤ 9223372036854775807) : (itI n).length ≤ 20 := by
  unfold itI
  split
  · rw [List.length_cons]; have := decI_len 18 n.natAbs (by omega); omega
  · have := decI_len 18 n.toNat (by omega); omega
theorem itI_nat {n : Int} (h : 0 ≤ n) : itI n = decI n.toNat := by unfold itI; rw [if_neg (by omega)]
theorem decI_lib : ∀ (u : Nat), (decI u).map (fun n => UInt8.ofNat n.toNat) = Lib.decDigits u := by
  intro u
  induction u using Nat.strongRecOn with
  | _ u ih =>
    rw [Lib.decDigits]
    by_cases h : u < 10
    · rw [decI_small h, dif_pos h]
      show [UInt8.ofNat ((48 : Int) + (u : Int)).toNat] = _
      congr 2
    · rw [decI_big h, dif_neg h, List.map_append, ih (u / 10) (by omega)]
      congr 1
theorem itI_lib (n : Int) : (⟨(Lib.itoa n).toArray⟩ : ByteArray) = toB (itI n) := by
  have e : (itI n).map (fun n => UInt8.ofNat n.toNat) = Lib.itoa n := by
    unfold itI Lib.itoa
    split
    · rw [List.map_cons, decI_lib]; rfl
    · exact decI_lib _
  unfold toB
  rw [e]
theorem impl_decimal_some (n : Int) (h : -9223372036854775808 ≤ n ∧ n ≤ 9223372036854775807) : impl_decimal n = some (toB (itI n)) := by
  rw [impl_decimal_eq, strconv_FormatInt_eq, fmtInt, if_pos ⟨rfl, h.1, h.2⟩, sbind_some, itI_lib]
theorem spec_dec_loop (n : Int) (hn : 0 ≤ n) : ∀ (r : Nat) (o : List Int), o ≠ [] → o.length + r ≤ 4611686018427387904 → spec_l02Dec_l3 n (toB o) (r : Int) = some (toB (if r = 0 then o else decI r ++ o)) := by
  intro r
  induction r using Nat.strongRecOn with
  | _ r ih =>
    intro o ho hb
    have hne : seq (toB o) (bs []) = false := by
      cases hq : seq (toB o) (bs []) with
      | false => rfl
      | true =>
        have := congrArg ByteArray.size (seq_iff.1 hq)
        rw [toB_size, bs_size] at this
        exact absurd (List.length_eq_zero_iff.1 this) ho
    rw [spec_l02Dec_l3_eq, hne, sif_false]
    by_cases h0 : r = 0
    · subst h0
      rw [if_pos rfl, show ((((0 : Nat) : Int)) != 0) = false from rfl, sif_false, sif_f (by omega)]
    · have hm : Int.tmod (r : Int) 10 = ((r % 10 : Nat) : Int) := rfl
      have hd : Int.tdiv (r : Int) 10 = ((r / 10 : Nat) : Int) := rfl
      rw [sif_pos (by rw [bne_iff_ne]; omega), hm, hd, sif_f (by omega), wi64_id (n := 48 + _) (by omega) (by omega), spec_l02Byte_eq, wu8_id (by omega) (by omega), sbind_some, sif_pos (joinsT (by rw [List.length_singleton]; omega)), toB_append, wi64_id (by omega) (by omega), ih (r / 10) (by omega) _ (by simp) (by rw [List.length_append, List.length_singleton]; omega), if_neg h0]
      by_cases h1 : r < 10
      · rw [if_pos (by omega), decI_small h1, show r % 10 = r by omega]
      · rw [if_neg (by omega), decI_big h1, List.append_assoc]
theorem spec_dec_some (n : Int) (h : 0 ≤ n) (h' : n ≤ 9223372036854775807) : spec_l02Dec n = some (toB (itI n)) := by
  obtain ⟨r, rfl⟩ : ∃ r : Nat, n = (r : Int) := ⟨n.toNat, by omega⟩
  have hm : Int.tmod (r : Int) 10 = ((r % 10 : Nat) : Int) := rfl
  have hd : Int.tdiv (r : Int) 10 = ((r / 10 : Nat) : Int) := rfl
  rw [spec_l02Dec_eq, spec_l02Dec_l3_eq, seq_self, sif_true, hm, hd, sif_f (by omega), wi64_id (n := 48 + _) (by omega) (by omega), spec_l02Byte_eq, wu8_id (by omega) (by omega), sbind_some, show bs [] = toB [] from rfl, sif_pos (joinsT (by simp)), toB_append, wi64_id (by omega) (by omega), List.append_nil,
    spec_dec_loop _ h (r / 10) _ (by simp) (by simp; omega), itI_nat h, Int.toNat_natCast]
  by_cases h1 : r < 10
  · rw [if_pos (by omega), decI_small h1, show r % 10 = r by omega]
  · rw [if_neg (by omega), decI_big h1]
/-! decN -/
/-! decimals of negative numbers, digit by digit -/
theorem neg_digit (r : Nat) : (if decide (Int.tmod (-(r : Int)) 10 < 0) = true then (48 : Int) + (0 - Int.tmod (-(r : Int)) 10) else 48 + Int.tmod (-(r : Int)) 10) = 48 + ((r % 10 : Nat) : Int) := by
  have hm : Int.tmod (-(r : Int)) 10 = -((r % 10 : Nat) : Int) := by rw [Int.neg_tmod]; rfl
  rw [hm]
  split
  · omega
  · next h => rw [decide_eq_true_eq] at h; omega
theorem neg_step (n : Int) (o : List Int) (ho : o.length ≤ 4611686018427387000) (r : Nat) (hr : r ≤ 9223372036854775808) :
    (sif (decide (Int.tmod (-(r : Int)) 10 < 0))
         (sbind (spec_l02Byte (wi64 (48 + (wi64 (0 - (Int.tmod (-(r : Int)) 10)))))) fun r1 =>
          sif (joins r1 (toB o)) (spec_l02Dec_l3 n (r1 ++ (toB o)) (wi64 (Int.tdiv (-(r : Int)) 10))) (none)) <|
        sbind (spec_l02Byte (wi64 (48 + (Int.tmod (-(r : Int)) 10)))) fun r1 =>
        sif (joins r1 (toB o)) (spec_l02Dec_l3 n (r1 ++ (toB o)) (wi64 (Int.tdiv (-(r : Int)) 10))) (none)) = spec_l02Dec_l3 n (toB ((48 + ((r % 10 : Nat) : Int)) :: o)) (-((r / 10 : Nat) : Int)) := by
  have hm : Int.tmod (-(r : Int)) 10 = -((r % 10 : Nat) : Int) := by rw [Int.neg_tmod]; rfl
  have hd : Int.tdiv (-(r : Int)) 10 = -((r / 10 : Nat) : Int) := by rw [Int.neg_tdiv]; rfl
  rw [hm, hd, wi64_id (n := -((r / 10 : Nat) : Int)) (by omega) (by omega)]
  by_cases h0 : r % 10 = 0
  · rw [h0, sif_f (by decide), show wi64 (48 + -((0 : Nat) : Int)) = 48 from rfl, spec_l02Byte_eq, sbind_some, wu8_id (by omega) (by omega), sif_pos (joinsT (by rw [List.length_singleton]; omega)), toB_append]; rfl
  · rw [sif_t (by omega), wi64_id (n := 0 - -((r % 10 : Nat) : Int)) (by omega) (by omega), wi64_id (by omega) (by omega), show (48 : Int) + (0 - -((r % 10 : Nat) : Int)) = 48 + ((r % 10 : Nat) : Int) by omega, spec_l02Byte_eq, sbind_some, wu8_id (by omega) (by omega), sif_pos (joinsT (by rw [List.length_singleton]; omega)), toB_append]; rfl
theorem spec_dec_loop_neg (n : Int) (hn : n < 0) : ∀ (r : Nat) (o : List Int), o ≠ [] → o.length + r ≤ 4611686018427387000 → spec_l02Dec_l3 n (toB o) (-(r : Int)) = some (toB (45 :: (if r = 0 then o else decI r ++ o))) := by
  intro r
  induction r using Nat.strongRecOn with
  | _ r ih =>
    intro o ho hb
    have hne : seq (toB o) (bs []) = false := by
      cases hq : seq (toB o) (bs []) with
      | false => rfl
      | true =>
        have := congrArg ByteArray.size (seq_iff.1 hq)
        rw [toB_size, bs_size] at this
        exact absurd (List.length_eq_zero_iff.1 this) ho
    rw [spec_l02Dec_l3_eq, hne, sif_false]
    by_cases h0 : r = 0
    · subst h0
      rw [if_pos rfl, show ((-((0 : Nat) : Int)) != 0) = false from rfl, sif_false, sif_t hn, show bs [45] = toB [45] from rfl, sif_pos (joinsT (by rw [List.length_singleton]; omega)), toB_append]; rfl
    · rw [sif_pos (by rw [bne_iff_ne]; omega), neg_step n o (by omega) r (by omega), ih (r / 10) (by omega) _ (by simp) (by rw [List.length_cons]; omega), if_neg h0]
      by_cases h1 : r < 10
      · rw [if_pos (by omega), decI_small h1, show r % 10 = r by omega]; rfl
      · rw [if_neg (by omega), decI_big h1, List.append_assoc]; rfl
theorem spec_dec_all (n : Int) (h : -9223372036854775808 ≤ n ∧ n ≤ 9223372036854775807) : spec_l02Dec n = some (toB (itI n)) := by
  by_cases h0 : 0 ≤ n
  · exact spec_dec_some n h0 h.2
  · obtain ⟨r, hr⟩ : ∃ r : Nat, n = -(r : Int) := ⟨n.natAbs, by omega⟩
    have hst := neg_step n [] (by simp) r (by omega)
    rw [spec_l02Dec_eq, spec_l02Dec_l3_eq, seq_self, sif_true]
    conv => lhs; rw [show bs [] = toB [] from rfl]
    rw [show spec_l02Dec_l3 n = spec_l02Dec_l3 n from rfl]
    have e : itI n = 45 :: decI r := by unfold itI; rw [if_pos (by omega), show n.natAbs = r by omega]
    rw [e]
    have hfin := spec_dec_loop_neg n (by omega) (r / 10) [48 + ((r % 10 : Nat) : Int)] (by simp) (by simp; omega)
    have hst' := hst.trans hfin
    rw [← hr] at hst'
    refine hst'.trans ?_
    by_cases h1 : r < 10
    · rw [if_pos (by omega), decI_small h1, show r % 10 = r by omega]
    · rw [if_neg (by omega), decI_big h1]
/-! textJ -/
/-! joined texts -/
def jnT (sep : List Int) (r : List (List Int)) : List Int := (r.map (sep ++ ·)).flatten
def jnL (sep : List Int) : List (List Int) → List Int
  | [] => []
  | w :: r => w ++ jnT sep r
theorem jnT_len (sep : List Int) (k : Nat) : ∀ (r : List (List Int)), (∀ w ∈ r, w.length ≤ k) → (jnT sep r).length ≤ r.length * (k + sep.length)
  | [], _ => by simp [jnT]
  | w :: r, h => by
    have ih := jnT_len sep k r (fun x hx => h x (by simp [hx]))
    have hw := h w (by simp)
    have e : jnT sep (w :: r) = (sep ++ w) ++ jnT sep r := by simp [jnT]
    rw [e, List.length_append, List.length_append, List.length_cons, Nat.add_mul, Nat.one_mul]
    omega
theorem jnL_len (sep : List Int) (k : Nat) (l : List (List Int)) (h : ∀ w ∈ l, w.length ≤ k) : (jnL sep l).length ≤ l.length * (k + sep.length) := by
  cases l with
  | nil => simp [jnL]
  | cons w r =>
    have ih := jnT_len sep k r (fun x hx => h x (by simp [hx]))
    have hw := h w (by simp)
    rw [jnL, List.length_append, List.length_cons, Nat.add_mul, Nat.one_mul]
    omega
def toU (l : List Int) : List UInt8 := l.map (fun n => UInt8.ofNat n.toNat)
theorem toB_toList (l : List Int) : (toB l).data.toList = toU l := by unfold toB toU; simp
theorem toU_append (a b : List Int) : toU (a ++ b) = toU a ++ toU b := List.map_append
theorem toU_jnT (sep : List Int) : ∀ r : List (List Int), toU (jnT sep r) = Lib.joinTail (toU sep) (r.map toU)
  | [] => rfl
  | w :: r => by
    have e : jnT sep (w :: r) = (sep ++ w) ++ jnT sep r := by simp [jnT]
    rw [e, toU_append, toU_append, toU_jnT sep r]
    simp [Lib.joinTail]
theorem joinB_jnL (ws : List (List Int)) (sep : List Int) : joinB (ws.map toB) (toB sep) = toU (jnL sep ws) := by
  unfold joinB
  rw [List.map_map, toB_toList, show ((fun x : ByteArray => x.data.toList) ∘ toB) = toU from funext fun l => toB_toList l]
  cases ws with
  | nil => rfl
  | cons w r => rw [List.map_cons, Lib.join_cons, jnL, toU_append, toU_jnT]
theorem join_some (ws : List (List Int)) (sep : List Int) (h1 : ws.length ≤ 140737488355328) (h2 : (jnL sep ws).length ≤ 140737488355328) : strings_Join (ws.map toB) (toB sep) = some (toB (jnL sep ws)) := by
  rw [strings_Join_eq, joinI, joinB_jnL, if_pos ⟨by rw [List.length_map]; exact h1, by unfold toU; rw [List.length_map]; exact h2⟩]
  rfl
theorem join_small (ws : List (List Int)) (sep : List Int) (hs : sep.length ≤ 2) (h1 : ws.length ≤ 1048577) (h2 : ∀ w ∈ ws, w.length ≤ 100) : strings_Join (ws.map toB) (toB sep) = some (toB (jnL sep ws)) := by
  have := jnL_len sep 100 ws h2
  have h3 : ws.length * (100 + sep.length) ≤ 1048577 * 102 := Nat.mul_le_mul h1 (by omega)
  exact join_some ws sep (by omega) (by omega)
/-! cmpL -/
/-! comparisons of elements -/
def sg3 (x y : Int) : Int := if x < y then -1 else if x > y then 1 else 0
def fnz : List Int → Int
  | [] => 0
  | x :: r => if x = 0 then fnz r else x
def slm (l : List Int) (m : ByteArray × Int × Ty_Type) : List Int := sl l m.2.1.toNat (m.2.1 + szT m.2.2).toNat
def slc (l : List Int) (x : Ty_Type) (i : Nat) : List Int := sl l (i * (szT x).toNat) ((i + 1) * (szT x).toNat)
def nmE (t : Ty_Type) (l : List Int) : Int := sgn t.f_Size t.f_Signed (leN (ordL t.f_Big l))
def enC (a b : List Int) : List Ty_Type → Int
  | [x] => sg3 (nmE x a) (nmE x b)
  | _ => 0
def arC (e : Ty_Type → List Int → List Int → Int) (c : Int) (a b : List Int) : List Ty_Type → Int
  | [x] => fnz ((List.range c.toNat).map fun i => e x (slc a x i) (slc b x i))
  | _ => 0
def cmT : Nat → Ty_Type → List Int → List Int → Int
  | 0, _, _, _ => 0
  | d + 1, t, a, b => if t.f_Kind = 1 then sg3 (nmE t a) (nmE t b) else if t.f_Kind = 3 then enC a b t.f_Base else if t.f_Kind = 6 then sg3 (leN a) (leN b) else if t.f_Kind = 2 then cmpI (toB a) (toB b)
      else if t.f_Kind = 4 then fnz (t.f_Members.map fun m => cmT d m.2.2 (slm a m) (slm b m)) else if t.f_Kind = 5 then arC (cmT d) t.f_Count a b t.f_Base else 0
theorem cmT_succ (d : Nat) (t : Ty_Type) (a b : List Int) : cmT (d + 1) t a b = if t.f_Kind = 1 then sg3 (nmE t a) (nmE t b) else if t.f_Kind = 3 then enC a b t.f_Base else if t.f_Kind = 6 then sg3 (leN a) (leN b) else if t.f_Kind = 2 then cmpI (toB a) (toB b)
      else if t.f_Kind = 4 then fnz (t.f_Members.map fun m => cmT d m.2.2 (slm a m) (slm b m)) else if t.f_Kind = 5 then arC (cmT d) t.f_Count a b t.f_Base else 0 := rfl
theorem cmpB_self : ∀ x : List UInt8, Lib.compareBytes x x = 0
  | [] => rfl
  | a :: r => by
    rw [Lib.compareBytes, if_neg (by exact UInt8.lt_irrefl a), if_neg (by exact UInt8.lt_irrefl a)]; exact cmpB_self r
theorem cmpB_eq : ∀ x y : List UInt8, Lib.compareBytes x y = (if Op.bytesLess x y = true then -1 else if x = y then 0 else 1)
  | [], [] => rfl
  | [], b :: s => rfl
  | a :: r, [] => rfl
  | a :: r, b :: s => by
    rw [Lib.compareBytes, Op.bytesLess, cmpB_eq r s]
    by_cases h : a < b
    · rw [if_pos h, decide_eq_true h]; rfl
    · rw [if_neg h, decide_eq_false h, Bool.false_or]
      by_cases h2 : b < a
      · have hne : a ≠ b := fun e => by rw [e] at h2; exact UInt8.lt_irrefl b h2
        have hb : (a == b) = false := by rw [beq_eq_false_iff_ne]; exact hne
        rw [if_pos h2, hb, Bool.false_and, if_neg (by simp), if_neg (fun e => hne (List.cons.inj e).1)]
      · have he : a = b := UInt8.le_antisymm (UInt8.not_lt.1 h2) (UInt8.not_lt.1 h)
        subst he
        rw [if_neg h2, beq_self_eq_true, Bool.true_and]
        by_cases c1 : Op.bytesLess r s = true
        · rw [if_pos c1, if_pos c1]
        · rw [if_neg c1, if_neg c1]
          by_cases c2 : r = s
          · rw [if_pos c2, if_pos (by rw [c2])]
          · rw [if_neg c2, if_neg (fun e => c2 (List.cons.inj e).2)]
theorem cpM_in {v : Ty_Type → Bool} (hv : ∀ t, v t = true → 1 ≤ szT t) {s : Int} : ∀ {r : List (ByteArray × Int × Ty_Type)} {a : Int}, 0 ≤ a → cpM v a r s = true → ∀ m ∈ r, v m.2.2 = true ∧ 0 ≤ m.2.1 ∧ m.2.1 + szT m.2.2 ≤ s
  | [], _, _, _, m, hm => by cases hm
  | x :: r, a, h0, h, m, hm => by
    simp only [cpM, Bool.and_eq_true, Bool.not_eq_true', decide_eq_false_iff_not] at h
    have hz := hv _ h.1
    have hle := cpM_end hv h.2.2.2
    rcases List.mem_cons.1 hm with rfl | hm
    · exact ⟨h.1, by omega, hle⟩
    · exact cpM_in hv (by omega) h.2.2.2 m hm
/-- what is known of an element of a valid type -/
theorem eT_len {d : Nat} {t : Ty_Type} {l : List Int} (h : eT (d + 1) t l = true) : (l.length : Int) = szT t := by
  rw [eT_succ, Bool.and_eq_true, beq_iff_eq] at h; exact h.1
theorem eT_len' {d : Nat} {t : Ty_Type} {l : List Int} (hv : vT d t = true) (h : eT d t l = true) : (l.length : Int) = szT t := by
  cases d with
  | zero => cases hv
  | succ d => exact eT_len h
theorem eT_mem {d : Nat} {t : Ty_Type} {l : List Int} (hk : t.f_Kind = 4) (h : eT (d + 1) t l = true) : ∀ m ∈ t.f_Members, eT d m.2.2 (slm l m) = true := by
  rw [eT_succ, if_neg (by omega), if_neg (by omega), if_pos hk] at h
  simp only [Bool.and_eq_true, List.all_eq_true] at h
  exact h.2.2
theorem eT_arr {d : Nat} {t x : Ty_Type} {l : List Int} (hk : t.f_Kind = 5) (hx : t.f_Base = [x]) (h : eT (d + 1) t l = true) : ∀ i, i < t.f_Count.toNat → eT d x (slc l x i) = true := by
  rw [eT_succ, if_neg (by omega), if_neg (by omega), if_neg (by omega), if_pos hk, hx] at h
  simp only [Bool.and_eq_true] at h
  have h2 : ((List.range t.f_Count.toNat).all fun i => eT d x (sl l (i * (szT x).toNat) ((i + 1) * (szT x).toNat))) = true := h.2
  rw [List.all_eq_true] at h2
  exact fun i hi => h2 i (List.mem_range.2 hi)
theorem lz_nil {α : Type} {l : List α} (h : lz l = true) : l = [] := by
  unfold lz at h
  rw [beq_iff_eq] at h
  exact List.length_eq_zero_iff.1 (by omega)
theorem vT_k5_members {d : Nat} {t : Ty_Type} (h : vT (d + 1) t = true) (hk : t.f_Kind = 5) : t.f_Members = [] := by
  rw [vT_succ, if_neg (by omega), if_neg (by omega), if_neg (by omega), if_neg (by omega), if_pos hk] at h
  simp only [Bool.and_eq_true] at h
  exact lz_nil h.2.1.2
theorem ref_plain1 {d : Nat} {t : Ty_Type} (hk : t.f_Kind = 6) (h : vT (d + 1) t = true) : t.f_Signed = false ∧ t.f_Big = false := by
  rw [vT_succ, if_neg (by omega), if_neg (by omega), if_neg (by omega), if_neg (by omega), if_neg (by omega), if_pos hk] at h
  simp only [Bool.and_eq_true, Bool.not_eq_true'] at h
  exact h.1.2
/-! bldL -/
/-! builders of texts -/
theorem wb_some (c : Int) (buf : List Int) (h : buf.length ≤ 1048576) : strings_Builder_WriteByte_wv c buf = some (buf ++ [c]) := by
  rw [strings_Builder_WriteByte_wv_eq, strings_Builder_copyCheck_eq, sbind_some, sif_pos (room_ok (by omega))]
theorem ws_some (s buf : List Int) (hs : inB s) (h : buf.length + s.length ≤ 1048576) : strings_Builder_WriteString_wv (toB s) buf = some ((s.length : Int), buf ++ s) := by
  rw [strings_Builder_WriteString_wv_eq, strings_Builder_copyCheck_eq, sbind_some, ofB_toB hs, sif_pos (room_ok (by omega)), toB_size]
theorem bst_some (buf : List Int) (h : buf.length ≤ 1048576) : strings_Builder_String buf = some (toB buf) := by
  rw [strings_Builder_String_eq]
  unfold textB
  rw [if_pos (by omega)]
/-! showL -/
/-! texts of elements -/
def esc (c : Int) : Bool := decide (c < 32) || (decide (c > 126) || ((c == 34) || (c == 92)))
def qb (c : Int) : List Int := if esc c = true then 92 :: hexI [c] else [c]
def qtI (l : List Int) : List Int := 34 :: (l.flatMap qb ++ [34])
theorem qb_len (c : Int) : (qb c).length ≤ 3 := by
  unfold qb
  split
  · rw [List.length_cons, hexI_len]; simp
  · simp
theorem qt_len (l : List Int) : (l.flatMap qb).length ≤ 3 * l.length := by
  induction l with
  | nil => simp
  | cons c r ih => have := qb_len c; rw [List.flatMap_cons, List.length_append, List.length_cons]; omega
theorem tz_split : ∀ l : List Int, ∃ z, l = tzL l ++ z ∧ ∀ x ∈ z, x = 0
  | [] => ⟨[], rfl, fun x hx => by cases hx⟩
  | x :: r => by
    obtain ⟨z, h1, h2⟩ := tz_split r
    rw [tzL_cons]
    by_cases h : tzL r = []
    · rw [if_pos h]
      rw [h, List.nil_append] at h1
      by_cases hx : x = 0
      · rw [if_pos hx]
        refine ⟨x :: r, rfl, fun y hy => ?_⟩
        rcases List.mem_cons.1 hy with rfl | hy
        · exact hx
        · rw [h1] at hy; exact h2 y hy
      · rw [if_neg hx]; exact ⟨r, rfl, fun y hy => by rw [h1] at hy; exact h2 y hy⟩
    · rw [if_neg h]; exact ⟨z, by rw [List.cons_append, ← h1], h2⟩
theorem spec_quote_some (l : List Int) (hl : inB l) (hn : l.length ≤ 24) (hz : (tzL l).any (· == 0) = false) : spec_l03Quote (toB l) = some (toB (qtI (tzL l))) := by
  obtain ⟨z, h1, h2⟩ := tz_split l
  have hlen : l.length = (tzL l).length + z.length := (congrArg List.length h1).trans List.length_append
  have e34 : bs [34] = toB [34] := rfl
  have e92 : bs [92] = toB [92] := rfl
  have fin : ∀ o : List Int, o.length ≤ 200 → spec_l03Quote_l3 (toB l) (toB o) ((tzL l).length : Int) = some (toB (o ++ [34])) := fun o ho => by
    rw [spec_l03Quote_l3_eq, toB_size, e34, sif_pos (b := joins _ _) (joinsT (by simp; omega)), toB_append]
    by_cases hc : (tzL l).length < l.length
    · have hb : l[(tzL l).length]? = some (0 : Int) := by
        have e : l[(tzL l).length]? = z[0]? := (congrArg (fun q : List Int => q[(tzL l).length]?) h1).trans ((List.getElem?_append_right (Nat.le_refl _)).trans (by rw [Nat.sub_self]))
        cases z with
        | nil => simp at hlen; omega
        | cons y zs => rw [e, List.getElem?_cons_zero, h2 y (by simp)]
      rw [sif_t (by omega), bidx_toB hl (by omega), Int.toNat_natCast, hb, sbind_some, show ((0 : Int) != 0) = false from rfl, sif_false]
    · rw [sif_f (by omega)]
  have k := loop_up (tzL l) (fun i (o : List Int) => spec_l03Quote_l3 (toB l) (toB o) (i : Int)) (fun r o => some (toB ((o ++ r.flatMap qb) ++ [34]))) (fun i o => o.length ≤ 1 + 3 * i)
    (fun o hI => by rw [fin o (by omega)]; simp)
    (fun i c r o hx hi hdr hI ih => by
      have hg : l[i]? = some c := by
        have e : l[i]? = (tzL l)[i]? := (congrArg (fun q : List Int => q[i]?) h1).trans (List.getElem?_append_left hi)
        rw [e, hx]
      have hc := hl c (List.mem_of_getElem? hg)
      have hc0 : c ≠ 0 := fun e => by
        have := List.any_eq_false.1 hz c (mem_of_at hx)
        rw [e] at this; exact this rfl
      have hil := (List.getElem?_eq_some_iff.1 hg).1
      have hex : (toB l).extract ((i : Int).toNat) ((wi64 ((i : Int) + 1)).toNat) = toB [c] := by
        rw [wi64_add1 (by omega), Int.toNat_natCast, Int.toNat_natCast, extract_toB, List.drop_take, show i + 1 - i = 1 by omega, List.drop_eq_getElem_cons hil]
        rw [List.getElem?_eq_getElem hil, Option.some.injEq] at hg
        rw [hg]; rfl
      have hh := spec_l01Hex_some [c] (fun x hx => by rw [List.mem_singleton] at hx; rw [hx]; exact hc) (by simp)
      have hhl := hexI_len [c]
      rw [spec_l03Quote_l3_eq, toB_size, sif_t (by omega), bidx_toB hl (by omega), Int.toNat_natCast, hg, sbind_some, sif_pos (by rw [bne_iff_ne]; exact hc0), sbind_some, sif_pos (b := le3 0 (wi64 ((i : Int) + 1)) (l.length : Int)) (by rw [wi64_add1 (by omega)]; exact le3_ok (by omega) (by omega)), sif_pos (b := le3 0 (i : Int) (wi64 ((i : Int) + 1))) (by rw [wi64_add1 (by omega)]; exact le3_ok (by omega) (by omega)),
        show (toB l).extract i ((wi64 ((i : Int) + 1)).toNat) = toB [c] from hex, hh, sbind_some, e92, sif_pos (b := joins (toB [92]) _) (joinsT (by rw [hhl]; simp)), toB_append, sif_pos (b := joins (toB o) (toB ([92] ++ hexI [c]))) (joinsT (by rw [List.length_append, hhl]; simp; omega)), toB_append, sif_pos (b := joins (toB o) (toB [c])) (joinsT (by simp; omega)), toB_append, wi64_add1 (by omega)]
      have hq := qb_len c
      have hstep : ∀ w : List Int, qb c = w → spec_l03Quote_l3 (toB l) (toB (o ++ w)) ((i + 1 : Nat) : Int) = some (toB ((o ++ (c :: r).flatMap qb) ++ [34])) := fun w hw => by
        rw [ih _ (by rw [List.length_append, ← hw]; omega), List.flatMap_cons, hw]; simp
      by_cases a1 : c < 32
      · rw [sif_t a1]; exact hstep _ (by unfold qb esc; rw [decide_eq_true a1]; rfl)
      rw [sif_f a1]
      by_cases a2 : c > 126
      · rw [sif_t a2]; exact hstep _ (by unfold qb esc; rw [decide_eq_true a2, decide_eq_false a1]; rfl)
      rw [sif_f a2]
      by_cases a3 : c = 34
      · rw [kbeq a3, sif_true]; exact hstep _ (by unfold qb esc; rw [decide_eq_false a2, decide_eq_false a1, kbeq a3]; rfl)
      rw [kbne a3, sif_false]
      by_cases a4 : c = 92
      · rw [kbeq a4, sif_true]; exact hstep _ (by unfold qb esc; rw [decide_eq_false a2, decide_eq_false a1, kbne a3, kbeq a4]; rfl)
      · rw [kbne a4, sif_false, sif_pos (le3_ok (by omega) (by omega)), sif_pos (le3_ok (by omega) (by omega))]; exact hstep [c] (by unfold qb esc; rw [decide_eq_false a2, decide_eq_false a1, kbne a3, kbne a4]; rfl)) 0 [34] (by omega) (by simp)
  rw [spec_l03Quote_eq, e34]
  exact k
theorem impl_quote_some (l : List Int) (hl : inB l) (hn : l.length ≤ 24) : impl_quoted (toB l) = some (toB (qtI l)) := by
  have e92 : bs [92] = toB [92] := rfl
  have k := loop_up l (fun i (o : List Int) => impl_quoted_l4 (toB l) (l.length : Int) (i : Int) o) (fun r o => some (toB ((o ++ r.flatMap qb) ++ [34]))) (fun i o => o.length ≤ 1 + 3 * i)
    (fun o hI => by rw [impl_quoted_l4_eq, sif_f (by omega), wb_some 34 o (by omega), sbind_some, bst_some _ (by simp; omega), sbind_some]; simp)
    (fun i c r o hx hi hdr hI ih => by
      have hc := hl c (mem_of_at hx)
      have hex : (toB l).extract ((i : Int).toNat) ((wi64 ((i : Int) + 1)).toNat) = toB [c] := by
        rw [wi64_add1 (by omega), Int.toNat_natCast, Int.toNat_natCast, extract_toB, List.drop_take, show i + 1 - i = 1 by omega, hdr]; rfl
      have hcB : inB [c] := fun x hx => by rw [List.mem_singleton] at hx; rw [hx]; exact hc
      have hh := impl_HexText_some [c] hcB (by simp)
      have hhl := hexI_len [c]
      have hqB : inB ([92] ++ hexI [c]) := fun x hx => by
        rcases List.mem_append.1 hx with hx | hx
        · rw [List.mem_singleton] at hx; omega
        · exact hexI_in [c] x hx
      have hql : ([92] ++ hexI [c]).length ≤ 3 := by rw [List.length_append, hhl]; simp
      rw [impl_quoted_l4_eq, sif_t (by omega), bidx_toB hl (by omega), Int.toNat_natCast, hx, sbind_some, toB_size, sif_pos (b := le3 0 (wi64 ((i : Int) + 1)) (l.length : Int)) (by rw [wi64_add1 (by omega)]; exact le3_ok (by omega) (by omega)), sif_pos (b := le3 0 (i : Int) (wi64 ((i : Int) + 1))) (by rw [wi64_add1 (by omega)]; exact le3_ok (by omega) (by omega)),
        show (toB l).extract i ((wi64 ((i : Int) + 1)).toNat) = toB [c] from hex, hh, sbind_some, e92, sif_pos (b := joins (toB [92]) _) (joinsT (by rw [hhl]; simp)), toB_append, ws_some _ o hqB (by omega), sbind_some, wb_some c o (by omega), sbind_some, wi64_add1 (by omega)]
      have hq := qb_len c
      have hstep : ∀ w : List Int, qb c = w → impl_quoted_l4 (toB l) (l.length : Int) ((i + 1 : Nat) : Int) (o ++ w) = some (toB ((o ++ (c :: r).flatMap qb) ++ [34])) := fun w hw => by
        rw [ih _ (by rw [List.length_append, ← hw]; omega), List.flatMap_cons, hw]; simp
      by_cases a1 : c < 32
      · rw [sif_t a1]; exact hstep _ (by unfold qb esc; rw [decide_eq_true a1]; rfl)
      rw [sif_f a1]
      by_cases a2 : c > 126
      · rw [sif_t a2]; exact hstep _ (by unfold qb esc; rw [decide_eq_true a2, decide_eq_false a1]; rfl)
      rw [sif_f a2]
      by_cases a3 : c = 34
      · rw [kbeq a3, sif_true]; exact hstep _ (by unfold qb esc; rw [decide_eq_false a2, decide_eq_false a1, kbeq a3]; rfl)
      rw [kbne a3, sif_false]
      by_cases a4 : c = 92
      · rw [kbeq a4, sif_true]; exact hstep _ (by unfold qb esc; rw [decide_eq_false a2, decide_eq_false a1, kbne a3, kbeq a4]; rfl)
      · rw [kbne a4, sif_false]; exact hstep [c] (by unfold qb esc; rw [decide_eq_false a2, decide_eq_false a1, kbne a3, kbne a4]; rfl)) 0 [34] (by omega) (by simp)
  rw [impl_quoted_eq, wb_some 34 [] (by simp), sbind_some, toB_size]
  exact k
/-- a loop that joins words -/
theorem loop_jn {α R : Type} (l : List α) (F : Nat → ByteArray → Option R) (f : α → List Int) (sep P0 : List Int) (K B : Nat) (hK : ∀ x ∈ l, (f x).length ≤ K) (hB : P0.length + l.length * (K + sep.length) ≤ B) (G : List Int → Option R) (hend : ∀ o, o.length ≤ B → F l.length (toB o) = G o)
    (h0 : ∀ x, l[0]? = some x → F 0 (toB P0) = F 1 (toB (P0 ++ f x))) (hs : ∀ i x o, 1 ≤ i → l[i]? = some x → o.length + (K + sep.length) ≤ B → F i (toB o) = F (i + 1) (toB ((o ++ sep) ++ f x))) : F 0 (toB P0) = G (P0 ++ jnL sep (l.map f)) := by
  have k := loop_up l (fun i (o : List Int) => F i (toB o)) (fun r o => G (o ++ jnT sep (r.map f))) (fun i o => 1 ≤ i ∧ o.length ≤ P0.length + i * (K + sep.length))
    (fun o hI => by rw [hend o (by omega)]; simp [jnT])
    (fun i x r o hx hi hdr hI ih => by
      have h1 : (i + 1) * (K + sep.length) ≤ l.length * (K + sep.length) := Nat.mul_le_mul_right _ hi
      have h2 := hK x (mem_of_at hx)
      have h3 : (i + 1) * (K + sep.length) = i * (K + sep.length) + (K + sep.length) := by rw [Nat.add_mul, Nat.one_mul]
      rw [hs i x o hI.1 hx (by omega), ih _ ⟨by omega, by rw [List.length_append, List.length_append]; omega⟩]
      simp [jnT])
  cases l with
  | nil =>
    have := hend P0 (by simpa using hB)
    simpa [jnL] using this
  | cons x r =>
    have h2 := hK x (by simp)
    have h3 := k 1 (P0 ++ f x) (by simp) ⟨Nat.le_refl _, by rw [List.length_append]; omega⟩
    rw [h0 x rfl]
    refine h3.trans ?_
    rw [show (x :: r).drop 1 = r from rfl, List.map_cons, jnL, List.append_assoc]
def enN (t : Ty_Type) (l : List Int) : List Ty_Type → ByteArray
  | [x] => t.f_Names.getD (t.f_Nums.findIdx (· == nmE x l)) (bs [])
  | _ => bs []
def arT (e : Ty_Type → List Int → List Int) (c : Int) (l : List Int) : List Ty_Type → List (List Int)
  | [x] => (List.range c.toNat).map fun i => e x (slc l x i)
  | _ => []
def mwI (e : Ty_Type → List Int → List Int) (l : List Int) (m : ByteArray × Int × Ty_Type) : List Int := (ofB m.1 ++ [61]) ++ e m.2.2 (slm l m)
def shT : Nat → Ty_Type → List Int → List Int
  | 0, _, _ => []
  | d + 1, t, l => if t.f_Kind = 1 then itI (nmE t l) else if t.f_Kind = 6 then [35] ++ itI (leN l) else if t.f_Kind = 2 then qtI (tzL l) else if t.f_Kind = 3 then ofB (enN t l t.f_Base)
      else if t.f_Kind = 4 then ([123] ++ jnL [44] (t.f_Members.map (mwI (shT d) l))) ++ [125] else if t.f_Kind = 5 then ([91] ++ jnL [44] (arT (shT d) t.f_Count l t.f_Base)) ++ [93] else []
theorem shT_succ (d : Nat) (t : Ty_Type) (l : List Int) : shT (d + 1) t l = if t.f_Kind = 1 then itI (nmE t l) else if t.f_Kind = 6 then [35] ++ itI (leN l) else if t.f_Kind = 2 then qtI (tzL l) else if t.f_Kind = 3 then ofB (enN t l t.f_Base)
      else if t.f_Kind = 4 then ([123] ++ jnL [44] (t.f_Members.map (mwI (shT d) l))) ++ [125] else if t.f_Kind = 5 then ([91] ++ jnL [44] (arT (shT d) t.f_Count l t.f_Base)) ++ [93] else [] := rfl
def cS : Nat → Nat
  | 0 => 200
  | d + 1 => 5 * cS d + 200
theorem cS_le {d : Nat} (h : d ≤ 3) : cS d ≤ 50000 := by
  rcases (by omega : d = 0 ∨ d = 1 ∨ d = 2 ∨ d = 3) with rfl | rfl | rfl | rfl <;> decide
theorem cS_ge (d : Nat) : 200 ≤ cS d := by
  cases d with
  | zero => exact Nat.le_refl _
  | succ d => rw [cS]; omega
theorem nmS {x : ByteArray} (h : isNm x = true) : x.size ≤ 12 := by
  unfold isNm at h
  simp only [Bool.and_eq_true, decide_eq_true_eq] at h
  exact h.1.2
theorem df_names {N : List ByteArray} (h : dfN N = true) : ∀ s ∈ N, s.size ≤ 12 := by
  intro s hs
  obtain ⟨i, hi⟩ := List.mem_iff_getElem?.1 hs
  have hlt := (List.getElem?_eq_some_iff.1 hi).1
  have h1 := List.all_eq_true.1 h i (List.mem_range.2 hlt)
  have h2 := strD hlt
  rw [hi, Option.some.injEq] at h2
  unfold dfAt at h1
  rw [Bool.and_eq_true, ← h2] at h1
  exact nmS h1.1
theorem mem_names {d : Nat} {t : Ty_Type} (h : vT (d + 1) t = true) (hk : t.f_Kind = 4) : ∀ m ∈ t.f_Members, m.1.size ≤ 12 := by
  rw [vT_succ, if_neg (by omega), if_neg (by omega), if_neg (by omega), if_pos hk] at h
  simp only [Bool.and_eq_true] at h
  intro m hm
  exact df_names h.2.2.2 m.1 (List.mem_map.2 ⟨m, hm, rfl⟩)
theorem enM_names {N : List ByteArray} {M : List Int} {x : Ty_Type} (h : enM N M x = true) : N.length = M.length ∧ M.length ≤ 6 ∧ ∀ s ∈ N, s.size ≤ 12 := by
  unfold enM at h
  simp only [Bool.and_eq_true, inr_iff, beq_iff_eq] at h
  exact ⟨by omega, by omega, df_names h.2.2.2.2⟩
theorem hf_rng {s : Int} {n : Nat} (h : s = 1 ∨ s = 2 ∨ s = 4 ∨ s = 8) (hs : (n : Int) = s) : 0 ≤ hfS s ∧ hfS s ≤ 9223372036854775808 ∧ (256 : Int) ^ n = 2 * hfS s ∧ (s < 8 → hfS s ≤ 2147483648) := by
  rcases h with rfl | rfl | rfl | rfl
  · obtain rfl : n = 1 := by omega
    decide
  · obtain rfl : n = 2 := by omega
    decide
  · obtain rfl : n = 4 := by omega
    decide
  · obtain rfl : n = 8 := by omega
    decide
theorem nmE_rng (t : Ty_Type) (l : List Int) (hl : inB l) (hi : iOk t.f_Size t.f_Signed t.f_Big = true) (hs : (l.length : Int) = t.f_Size) : -9223372036854775808 ≤ nmE t l ∧ nmE t l ≤ 9223372036854775807 := by
  obtain ⟨h1, h2⟩ := iOk_in hi
  have hU := leN_ord (g := t.f_Big) hl
  obtain ⟨f0, f1, f2, f3⟩ := hf_rng h1 hs
  rw [f2] at hU
  unfold nmE sgn
  generalize leN (ordL t.f_Big l) = U at hU
  split
  · split <;> omega
  · next hg =>
    have := f3 (by rcases h2 with h | h; exact absurd h hg; exact h)
    omega
theorem sh_len : ∀ (d : Nat) (t : Ty_Type) (l : List Int), vT d t = true → inB l → eT d t l = true → (shT d t l).length ≤ cS d
  | 0, _, _, h, _, _ => by cases h
  | d + 1, t, l, h, hl, he => by
    have hg := cS_ge d
    have hlen := eT_len he
    have hsz := vT_size h
    rw [shT_succ, cS]
    rcases vT_kinds h with ⟨hk, h1⟩ | ⟨hk, h1⟩ | ⟨hk, x, hx, h1⟩ | ⟨hk, h1, h2, h3⟩ | ⟨hk, h1, x, hx, h2, h3⟩ | ⟨hk, h1⟩
    · have := itI_len (nmE_rng t l hl h1 (by rw [hlen, szT_o (by omega) (by omega)]))
      rw [if_pos hk]; omega
    · have := qt_len (tzL l)
      have h5 : (tzL l).length ≤ l.length := by
        obtain ⟨z, e, _⟩ := tz_split l
        have := (congrArg List.length e).trans List.length_append
        omega
      rw [if_neg (by omega), if_neg (by omega), if_pos hk]
      unfold qtI
      simp only [List.length_cons, List.length_append, List.length_nil]
      omega
    · obtain ⟨n1, n2, n3⟩ := enM_names h1
      rw [if_neg (by omega), if_neg (by omega), if_neg (by omega), if_pos hk, hx, ofB_len]
      show (t.f_Names.getD _ (bs [])).size ≤ _
      rw [List.getD_eq_getElem?_getD]
      cases hn : t.f_Names[t.f_Nums.findIdx (· == nmE x l)]? with
      | none => show (bs []).size ≤ _; rw [bs_size]; simp
      | some s => have := n3 s (mem_of_at hn); show s.size ≤ _; omega
    · have hnm := mem_names h hk
      have hj := jnL_len [44] (cS d + 13) (t.f_Members.map (mwI (shT d) l)) (fun w hw => by
        obtain ⟨m, hm, rfl⟩ := List.mem_map.1 hw
        have a := hnm m hm
        have b := sh_len d m.2.2 (slm l m) (cpM_all h3 m hm) (sl_in hl _ _) (eT_mem hk he m hm)
        unfold mwI
        simp only [List.length_append, List.length_cons, List.length_nil, ofB_len]
        omega)
      have hm := Nat.mul_le_mul_right (cS d + 13 + [(44 : Int)].length) h2.2
      rw [List.length_map] at hj
      rw [if_neg (by omega), if_neg (by omega), if_neg (by omega), if_neg (by omega), if_pos hk]
      simp only [List.length_append, List.length_cons, List.length_nil] at hj hm ⊢
      omega
    · have hj := jnL_len [44] (cS d) (arT (shT d) t.f_Count l [x]) (fun w hw => by
        obtain ⟨i, hi, rfl⟩ := List.mem_map.1 hw
        exact sh_len d x (slc l x i) h2 (sl_in hl _ _) (eT_arr hk hx he i (List.mem_range.1 hi)))
      have hq : (arT (shT d) t.f_Count l [x]).length ≤ 4 := by show ((List.range t.f_Count.toNat).map _).length ≤ 4; rw [List.length_map, List.length_range]; omega
      have hm := Nat.mul_le_mul_right (cS d + [(44 : Int)].length) hq
      rw [if_neg (by omega), if_neg (by omega), if_neg (by omega), if_neg (by omega), if_neg (by omega), if_pos hk, hx]
      simp only [List.length_append, List.length_cons, List.length_nil] at hj hm ⊢
      omega
    · have hh := leN_lt hl
      have h2 : l.length = 2 := by rw [szT_o (by omega) (by omega), h1] at hlen; omega
      rw [h2] at hh
      have := itI_len (n := leN l) (by have := leN_ge hl; omega)
      rw [if_neg (by omega), if_pos hk]
      simp only [List.length_append, List.length_cons, List.length_nil]
      omega
theorem en_at {M : List Int} {n : Int} (h : (M.any fun y => y == n) = true) : M.findIdx (· == n) < M.length ∧ M[M.findIdx (· == n)]? = some n ∧ ∀ (j : Nat) x, j < M.findIdx (· == n) → M[j]? = some x → x ≠ n := by
  obtain ⟨y, hy, he⟩ := List.any_eq_true.1 h
  have hlt : M.findIdx (· == n) < M.length := List.findIdx_lt_length_of_exists ⟨y, hy, he⟩
  refine ⟨hlt, ?_, fun j x hj hx => ?_⟩
  · rw [List.getElem?_eq_getElem hlt]
    have := List.findIdx_getElem (xs := M) (p := (· == n)) (w := hlt)
    rw [beq_iff_eq] at this
    rw [this]
  · have hjl : j < M.length := by omega
    have := List.not_of_lt_findIdx (xs := M) (p := (· == n)) hj
    rw [List.getElem?_eq_getElem hjl, Option.some.injEq] at hx
    intro e
    rw [hx, e] at this
    simp at this
theorem enE_any {M : List Int} {x : Ty_Type} {l : List Int} (h : enE M l [x] = true) : (M.any fun y => y == nmE x l) = true := h
theorem spec_en_loop (k s : Int) (g b : Bool) (N : List ByteArray) (M : List Int) (E : List (ByteArray × Int × Ty_Type)) (B : List Ty_Type) (c : Int) (n : Int) (hM : M.length ≤ 6) (hN : N.length = M.length) (h : (M.any fun y => y == n) = true) :
    spec_l03Show_l11 n 0 k s g b N M E B c = some (N.getD (M.findIdx (· == n)) (bs [])) := by
  obtain ⟨h1, h2, h3⟩ := en_at h
  have key : ∀ m i : Nat, M.findIdx (· == n) = i + m → spec_l03Show_l11 n (i : Int) k s g b N M E B c = some (N.getD (M.findIdx (· == n)) (bs [])) := by
    intro m
    induction m with
    | zero =>
      intro i hi
      have hn : N[i]? = some (N.getD (M.findIdx (· == n)) (bs [])) := by rw [hi, Nat.add_zero]; exact strD (by omega)
      rw [hi, Nat.add_zero] at h2
      rw [spec_l03Show_l11_eq, sif_t (by omega), idx_some h2, sbind_some, kbeq rfl, sif_true, idx_some hn, sbind_some]
    | succ m ih =>
      intro i hi
      have hlt : i < M.length := by omega
      have hx : M[i] ≠ n := h3 i M[i] (by omega) (List.getElem?_eq_getElem hlt)
      rw [spec_l03Show_l11_eq, sif_t (by omega), idx_some (List.getElem?_eq_getElem hlt), sbind_some, kbne hx, sif_false, wi64_add1 (by omega)]
      exact ih (i + 1) (by omega)
  exact key (M.findIdx (· == n)) 0 (by omega)
theorem impl_en_index (M : List Int) (n : Int) (hM : M.length ≤ 6) (h : (M.any fun y => y == n) = true) : slices_Index_sint64_int64 M n = some ((M.findIdx (· == n) : Nat) : Int) := by
  obtain ⟨h1, h2, h3⟩ := en_at h
  have key : ∀ m i : Nat, M.findIdx (· == n) = i + m → slices_Index_sint64_int64_l2 M n (M.length : Int) (i : Int) = some ((M.findIdx (· == n) : Nat) : Int) := by
    intro m
    induction m with
    | zero =>
      intro i hi
      rw [hi, Nat.add_zero] at h2 ⊢
      rw [slices_Index_sint64_int64_l2_eq, sif_t (by omega), idx_some h2, sbind_some, kbeq rfl, sif_true]
    | succ m ih =>
      intro i hi
      have hlt : i < M.length := by omega
      have hx : M[i] ≠ n := h3 i M[i] (by omega) (List.getElem?_eq_getElem hlt)
      rw [slices_Index_sint64_int64_l2_eq, sif_t (by omega), idx_some (List.getElem?_eq_getElem hlt), sbind_some, kbne (fun e => hx e.symm), sif_false, wi64_add1 (by omega)]
      exact ih (i + 1) (by omega)
  rw [slices_Index_sint64_int64_eq]
  exact key (M.findIdx (· == n)) 0 (by omega)
theorem eT_text {d : Nat} {t : Ty_Type} {l : List Int} (hk : t.f_Kind = 2) (h : eT (d + 1) t l = true) : (tzL l).any (· == 0) = false := by
  rw [eT_succ, if_pos hk, Bool.and_eq_true, Bool.not_eq_true'] at h
  exact h.2
theorem eT_enum {d : Nat} {t x : Ty_Type} {l : List Int} (hk : t.f_Kind = 3) (hx : t.f_Base = [x]) (h : eT (d + 1) t l = true) : (t.f_Nums.any fun y => y == nmE x l) = true := by
  rw [eT_succ, if_neg (by omega), if_pos hk, hx, Bool.and_eq_true] at h
  exact enE_any h.2
theorem spec_show_some : ∀ (d : Nat) (t : Ty_Type) (l : List Int), d ≤ 3 → vT d t = true → inB l → eT d t l = true → spec_l03Show t.f_Kind t.f_Size t.f_Signed t.f_Big t.f_Names t.f_Nums t.f_Members t.f_Base t.f_Count (toB l) = some (toB (shT d t l))
  | 0, _, _, _, h, _, _ => by cases h
  | d + 1, t, l, hd, h, hl, he => by
    have hlen := eT_len he
    have hsz := vT_size h
    have hc := cS_le (d := d) (by omega)
    rw [shT_succ, spec_l03Show_eq]
    rcases vT_kinds h with ⟨hk, h1⟩ | ⟨hk, h1⟩ | ⟨hk, x, hx, h1⟩ | ⟨hk, h1, h2, h3⟩ | ⟨hk, h1, x, hx, h2, h3⟩ | ⟨hk, h1⟩
    · have hs : (l.length : Int) = t.f_Size := by rw [hlen, szT_o (by omega) (by omega)]
      rw [if_pos hk, kbeq hk, sif_true, spec_num_some _ _ _ _ _ _ _ _ _ l hl h1 hs, sbind_some, show sgn t.f_Size t.f_Signed (leN (ordL t.f_Big l)) = nmE t l from rfl, spec_dec_all _ (nmE_rng t l hl h1 hs), sbind_some]
    · rw [if_neg (by omega), if_neg (by omega), if_pos hk, kbne (show t.f_Kind ≠ 1 by omega), kbne (show t.f_Kind ≠ 6 by omega), kbeq hk, sif_false, sif_false, sif_true, spec_quote_some l hl (by omega) (eT_text hk he), sbind_some]
    · have hi := enM_base h1
      obtain ⟨n1, n2, n3⟩ := enM_names h1
      have hs : (l.length : Int) = x.f_Size := by rw [hlen, szT_k3 hk hx]
      have hb0 : idx t.f_Base 0 = some x := by rw [hx]; rfl
      rw [if_neg (by omega), if_neg (by omega), if_neg (by omega), if_pos hk, kbne (show t.f_Kind ≠ 1 by omega), kbne (show t.f_Kind ≠ 6 by omega), kbne (show t.f_Kind ≠ 2 by omega), kbeq hk, sif_false, sif_false, sif_false, sif_true, hb0, sbind_some, spec_num_some _ _ _ _ _ _ _ _ _ l hl hi.2 hs, sbind_some, show sgn x.f_Size x.f_Signed (leN (ordL x.f_Big l)) = nmE x l from rfl, spec_en_loop _ _ _ _ _ _ _ _ _ _ n2 n1 (eT_enum hk hx he), hx, toB_ofB]
      rfl
    · have hs : szT t = t.f_Size := szT_o (by omega) (by omega)
      have hnm := mem_names h hk
      have hin := cpM_in (fun t h => (vT_size h).1) (by omega) h3
      have word : ∀ (i : Nat) (m : ByteArray × Int × Ty_Type) (o : List Int), t.f_Members[i]? = some m → i < 4 → o.length ≤ 400000 →
          (sif (joins m.1 (bs [61])) (sbind (spec_l02Size m.2.2.f_Kind m.2.2.f_Size m.2.2.f_Signed m.2.2.f_Big m.2.2.f_Names m.2.2.f_Nums m.2.2.f_Members m.2.2.f_Base m.2.2.f_Count) fun r2 =>
              sif (le3 0 (wi64 (m.2.1 + r2)) ((toB l).size : Int))
               (sif (le3 0 m.2.1 (wi64 (m.2.1 + r2)))
                 (sbind (spec_l03Show m.2.2.f_Kind m.2.2.f_Size m.2.2.f_Signed m.2.2.f_Big m.2.2.f_Names m.2.2.f_Nums m.2.2.f_Members m.2.2.f_Base m.2.2.f_Count ((toB l).extract m.2.1.toNat ((wi64 (m.2.1 + r2)).toNat))) fun r3 =>
                  sif (joins (m.1 ++ (bs [61])) r3)
                   (sif (joins (toB o) ((m.1 ++ (bs [61])) ++ r3))
                     (spec_l03Show_l19 (toB l) (toB o ++ ((m.1 ++ (bs [61])) ++ r3)) (wi64 ((i : Int) + 1)) t.f_Kind t.f_Size t.f_Signed t.f_Big t.f_Names t.f_Nums t.f_Members t.f_Base t.f_Count) (none)) (none)) (none)) (none)) (none))
          = spec_l03Show_l19 (toB l) (toB (o ++ mwI (shT d) l m)) ((i + 1 : Nat) : Int) t.f_Kind t.f_Size t.f_Signed t.f_Big t.f_Names t.f_Nums t.f_Members t.f_Base t.f_Count := fun i m o hm hi ho => by
        have hmm := mem_of_at hm
        obtain ⟨v, m0, m1⟩ := hin m hmm
        have hz := vT_size v
        have a := hnm m hmm
        have e : toB (ofB m.1) = m.1 := toB_ofB m.1
        have ih := spec_show_some d m.2.2 (slm l m) (by omega) v (sl_in hl _ _) (eT_mem hk he m hmm)
        have hL := sh_len d m.2.2 (slm l m) v (sl_in hl _ _) (eT_mem hk he m hmm)
        have j1 : joins m.1 (bs [61]) = true := joins_ok (by rw [bs_size]; simp; omega)
        have a1 : m.1 ++ bs [61] = toB (ofB m.1 ++ [61]) := by rw [← toB_append, e]; rfl
        rw [sif_pos j1, spec_size_some v, sbind_some, wi64_id (n := m.2.1 + szT m.2.2) (by omega) (by omega), toB_size, sif_pos (le3_ok (by omega) (by omega)), sif_pos (le3_ok (by omega) (by omega)), ext_sl, show sl l m.2.1.toNat (m.2.1 + szT m.2.2).toNat = slm l m from rfl, ih, sbind_some, a1, sif_pos (joinsT (by simp only [List.length_append, ofB_len, List.length_cons, List.length_nil]; omega)), toB_append, sif_pos (joinsT (by simp only [List.length_append, ofB_len, List.length_cons, List.length_nil]; omega)), toB_append, wi64_add1 (by omega)]
        rfl
      have lp := loop_jn t.f_Members (fun i out => spec_l03Show_l19 (toB l) out (i : Int) t.f_Kind t.f_Size t.f_Signed t.f_Big t.f_Names t.f_Nums t.f_Members t.f_Base t.f_Count) (mwI (shT d) l) [44] [123] (cS d + 13) 300000 (fun m hm => by
          have a := hnm m hm
          have b := sh_len d m.2.2 (slm l m) (hin m hm).1 (sl_in hl _ _) (eT_mem hk he m hm)
          unfold mwI
          simp only [List.length_append, List.length_cons, List.length_nil, ofB_len]
          omega) (by have := Nat.mul_le_mul_right (cS d + 13 + [(44 : Int)].length) h2.2; simp only [List.length_cons, List.length_nil] at this ⊢; omega) (fun o => some (toB (o ++ [125])))
        (fun o ho => by rw [spec_l03Show_l19_eq, sif_f (by omega), show bs [125] = toB [125] from rfl, sif_pos (joinsT (by simp; omega)), toB_append])
        (fun m hm => by
          have hlt := (List.getElem?_eq_some_iff.1 hm).1
          rw [spec_l03Show_l19_eq, sif_t (by omega), show ((0 : Nat) : Int) = 0 from rfl, show idx t.f_Members 0 = some m from idx_some hm, sbind_some, sif_f (by omega)]
          exact word 0 m [123] hm (by omega) (by simp))
        (fun i m o h1i hm ho => by
          have hlt := (List.getElem?_eq_some_iff.1 hm).1
          rw [spec_l03Show_l19_eq, sif_t (by omega), idx_some hm, sbind_some, sif_t (by omega), show bs [44] = toB [44] from rfl, sif_pos (joinsT (by simp; omega)), toB_append]
          exact word i m (o ++ [44]) hm (by omega) (by simp; omega))
      rw [if_neg (by omega), if_neg (by omega), if_neg (by omega), if_neg (by omega), if_pos hk, kbne (show t.f_Kind ≠ 1 by omega), kbne (show t.f_Kind ≠ 6 by omega), kbne (show t.f_Kind ≠ 2 by omega), kbne (show t.f_Kind ≠ 3 by omega), kbeq hk, sif_false, sif_false, sif_false, sif_false, sif_true]
      exact lp
    · have hs := szT_k5 hk hx
      have hz := vT_size h2
      have hb0 : idx t.f_Base 0 = some x := by rw [hx]; rfl
      have word : ∀ (i : Nat) (o : List Int), i < t.f_Count.toNat → o.length ≤ 400000 →
          (sbind (idx t.f_Base 0) fun x1 =>
            sif (le3 0 (wi64 ((wi64 ((i : Int) + 1)) * szT x)) ((toB l).size : Int))
             (sif (le3 0 (wi64 ((i : Int) * szT x)) (wi64 ((wi64 ((i : Int) + 1)) * szT x)))
               (sbind (spec_l03Show x1.f_Kind x1.f_Size x1.f_Signed x1.f_Big x1.f_Names x1.f_Nums x1.f_Members x1.f_Base x1.f_Count ((toB l).extract ((wi64 ((i : Int) * szT x)).toNat) ((wi64 ((wi64 ((i : Int) + 1)) * szT x)).toNat))) fun r2 =>
                sif (joins (toB o) r2)
                 (spec_l03Show_l29 (toB l) (toB o ++ r2) (szT x) (wi64 ((i : Int) + 1)) t.f_Kind t.f_Size t.f_Signed t.f_Big t.f_Names t.f_Nums t.f_Members t.f_Base t.f_Count) (none)) (none)) (none))
          = spec_l03Show_l29 (toB l) (toB (o ++ shT d x (slc l x i))) (szT x) ((i + 1 : Nat) : Int) t.f_Kind t.f_Size t.f_Signed t.f_Big t.f_Names t.f_Nums t.f_Members t.f_Base t.f_Count := fun i o hi ho => by
        have hs2 : (l.length : Int) = t.f_Count * szT x := by rw [hlen, hs]
        obtain ⟨b1, b2, b3, b4, b5⟩ := arr_bounds (n := l.length) h1 hz hs2 hi
        have hea := eT_arr hk hx he i hi
        have ih := spec_show_some d x (slc l x i) (by omega) h2 (sl_in hl _ _) hea
        have hL := sh_len d x (slc l x i) h2 (sl_in hl _ _) hea
        rw [hb0, sbind_some, wi64_id (n := (i : Int) + 1) (by omega) (by omega), b1, b2, wi64_id (n := ((i * (szT x).toNat : Nat) : Int)) (by omega) (by omega), wi64_id (n := (((i + 1) * (szT x).toNat : Nat) : Int)) (by omega) (by omega), toB_size, sif_pos (le3_ok (by omega) (by omega)), sif_pos (le3_ok (by omega) (by omega)), Int.toNat_natCast, Int.toNat_natCast, ext_sl, show sl l (i * (szT x).toNat) ((i + 1) * (szT x).toNat) = slc l x i from rfl, ih, sbind_some, sif_pos (joinsT (by omega)), toB_append]
        rfl
      have hrl : (List.range t.f_Count.toNat).length = t.f_Count.toNat := List.length_range
      have lp := loop_jn (List.range t.f_Count.toNat) (fun i out => spec_l03Show_l29 (toB l) out (szT x) (i : Int) t.f_Kind t.f_Size t.f_Signed t.f_Big t.f_Names t.f_Nums t.f_Members t.f_Base t.f_Count) (fun i => shT d x (slc l x i)) [44] [91] (cS d) 300000 (fun i hi => sh_len d x (slc l x i) h2 (sl_in hl _ _) (eT_arr hk hx he i (List.mem_range.1 hi)))
        (by have hq : (List.range t.f_Count.toNat).length ≤ 4 := by omega
            have := Nat.mul_le_mul_right (cS d + [(44 : Int)].length) hq; simp only [List.length_cons, List.length_nil] at this ⊢; omega) (fun o => some (toB (o ++ [93])))
        (fun o ho => by rw [hrl, spec_l03Show_l29_eq, sif_f (by omega), show bs [93] = toB [93] from rfl, sif_pos (joinsT (by simp; omega)), toB_append])
        (fun q hq => by
          have hlt := (List.getElem?_eq_some_iff.1 hq).1
          rw [hrl] at hlt
          rw [List.getElem?_range hlt, Option.some.injEq] at hq
          subst hq
          rw [spec_l03Show_l29_eq, sif_t (by omega), sif_f (by omega)]
          exact word 0 [91] hlt (by simp))
        (fun i q o h1i hq ho => by
          have hlt := (List.getElem?_eq_some_iff.1 hq).1
          rw [hrl] at hlt
          rw [List.getElem?_range hlt, Option.some.injEq] at hq
          subst hq
          rw [spec_l03Show_l29_eq, sif_t (by omega), sif_t (by omega), show bs [44] = toB [44] from rfl, sif_pos (joinsT (by simp; omega)), toB_append]
          exact word i (o ++ [44]) hlt (by simp; omega))
      rw [if_neg (by omega), if_neg (by omega), if_neg (by omega), if_neg (by omega), if_neg (by omega), if_pos hk, kbne (show t.f_Kind ≠ 1 by omega), kbne (show t.f_Kind ≠ 6 by omega), kbne (show t.f_Kind ≠ 2 by omega), kbne (show t.f_Kind ≠ 3 by omega), kbne (show t.f_Kind ≠ 4 by omega), sif_false, sif_false, sif_false, sif_false, sif_false, hb0, sbind_some, spec_size_some h2, sbind_some, hx]
      rw [hx] at lp
      exact lp
    · have hh := leN_lt hl
      have h2 : l.length = 2 := by rw [szT_o (by omega) (by omega), h1] at hlen; omega
      rw [h2] at hh
      have hge := leN_ge hl
      have hn := itI_len (n := leN l) (by omega)
      rw [if_neg (by omega), if_pos hk, kbne (show t.f_Kind ≠ 1 by omega), kbeq hk, sif_false, sif_true, spec_num_some 0 2 false false [] [] [] [] 0 l hl rfl (by omega), sbind_some]
      show sbind (spec_l02Dec (leN l)) _ = _
      rw [spec_dec_all _ (by omega), sbind_some, show bs [35] = toB [35] from rfl, sif_pos (joinsT (by simp; omega)), toB_append]
/-! showI -/
/-! the program's text of an element -/
theorem loop_tx {α R : Type} (l : List α) (F : Nat → List ByteArray → Option R) (f : α → ByteArray) (hs : ∀ i x o, l[i]? = some x → o.length = i → F i o = F (i + 1) (o ++ [f x])) : F 0 [] = F l.length (l.map f) := by
  have k := loop_up l F (fun r o => F l.length (o ++ r.map f)) (fun i o => o.length = i)
    (fun o _ => by rw [List.map_nil, List.append_nil])
    (fun i x r o hx hi hdr hI ih => by
      rw [hs i x o hx hI, ih _ (by rw [List.length_append, hI]; rfl), List.map_cons, List.append_assoc]; rfl) 0 [] (by omega) rfl
  rwa [List.drop_zero, List.nil_append] at k
theorem join_mid (ws : List (List Int)) (h1 : ws.length ≤ 4) (h2 : ∀ w ∈ ws, w.length ≤ 60000) : strings_Join (ws.map toB) (bs [44]) = some (toB (jnL [44] ws)) ∧ (jnL [44] ws).length ≤ 300000 := by
  have := jnL_len [44] 60000 ws h2
  have h3 : ws.length * (60000 + [(44 : Int)].length) ≤ 4 * 60001 := Nat.mul_le_mul h1 (by simp)
  exact ⟨join_some ws [44] (by omega) (by omega), by omega⟩
theorem tz_len (l : List Int) : (tzL l).length ≤ l.length := by
  obtain ⟨z, h1, _⟩ := tz_split l
  have := congrArg List.length h1
  rw [List.length_append] at this
  omega
theorem impl_show_some : ∀ (d : Nat) (t : Ty_Type) (l : List Int), d ≤ 3 → Ok_Ty_Type t → vT d t = true → inB l → eT d t l = true → impl_Type_elementText t.f_Kind t.f_Size t.f_Signed t.f_Big t.f_Names t.f_Nums t.f_Members t.f_Base t.f_Count (toB l) = some (toB (shT d t l))
  | 0, _, _, _, _, h, _, _ => by cases h
  | d + 1, t, l, hd, hok, h, hl, he => by
    obtain ⟨l1, l2, l3, l4, k1, k2⟩ := ok_lens hok
    have hlen := eT_len he
    have hsz := vT_size h
    have hc := cS_le (d := d) (by omega)
    have nojoin : strings_Join ([] : List ByteArray) (bs [44]) = some (toB []) := join_some [] [44] (by simp) (by simp [jnL])
    rw [shT_succ, impl_Type_elementText_eq, impl_Type_parts_eq]
    rcases vT_kinds h with ⟨hk, h1⟩ | ⟨hk, h1⟩ | ⟨hk, x, hx, h1⟩ | ⟨hk, h1, h2, h3⟩ | ⟨hk, h1, x, hx, h2, h3⟩ | ⟨hk, h1⟩
    · have hs : (l.length : Int) = t.f_Size := by rw [hlen, szT_o (by omega) (by omega)]
      rw [if_pos hk, kbne (show t.f_Kind ≠ 4 by omega), kbne (show t.f_Kind ≠ 5 by omega), sif_false, sif_false, sbind_some, impl_Type_elementText_l3_eq, sif_f (by simp), nojoin, sbind_some, kbeq hk, sif_true, impl_num_some _ _ _ _ _ _ _ _ _ (by omega) l hl h1 hs, sbind_some, show sgn t.f_Size t.f_Signed (leN (ordL t.f_Big l)) = nmE t l from rfl, impl_decimal_some _ (nmE_rng t l hl h1 hs), sbind_some]
    · have htz := tz_len l
      rw [if_neg (by omega), if_neg (by omega), if_pos hk, kbne (show t.f_Kind ≠ 4 by omega), kbne (show t.f_Kind ≠ 5 by omega), sif_false, sif_false, sbind_some, impl_Type_elementText_l3_eq, sif_f (by simp), nojoin, sbind_some, kbne (show t.f_Kind ≠ 1 by omega), sif_false, kbeq hk, sif_true, impl_trimmed_some l hl (by omega), sbind_some, impl_quote_some _ (tz_in hl) (by omega), sbind_some]
    · have hi := enM_base h1
      obtain ⟨n1, n2, n3⟩ := enM_names h1
      have hs : (l.length : Int) = x.f_Size := by rw [hlen, szT_k3 hk hx]
      have hnum : impl_Type_number t.f_Kind t.f_Size t.f_Signed t.f_Big t.f_Names t.f_Nums t.f_Members t.f_Base t.f_Count (toB l) = some (nmE x l) := by
        have hb0 : idx t.f_Base 0 = some x := by rw [hx]; rfl
        rw [impl_Type_number_eq, kbeq hk, sif_true, hb0, sbind_some]
        show sbind (impl_Type_number x.f_Kind x.f_Size x.f_Signed x.f_Big x.f_Names x.f_Nums x.f_Members x.f_Base x.f_Count (toB l)) _ = _
        rw [impl_num_some _ _ _ _ _ _ _ _ _ (by omega) l hl hi.2 hs, sbind_some]; rfl
      have hany := eT_enum hk hx he
      obtain ⟨e1, e2, e3⟩ := en_at hany
      have hn : t.f_Names[t.f_Nums.findIdx (· == nmE x l)]? = some (t.f_Names.getD (t.f_Nums.findIdx (· == nmE x l)) (bs [])) := strD (by omega)
      rw [if_neg (by omega), if_neg (by omega), if_neg (by omega), if_pos hk, kbne (show t.f_Kind ≠ 4 by omega), kbne (show t.f_Kind ≠ 5 by omega), sif_false, sif_false, sbind_some, impl_Type_elementText_l3_eq, sif_f (by simp), nojoin, sbind_some, kbne (show t.f_Kind ≠ 1 by omega), sif_false, kbne (show t.f_Kind ≠ 2 by omega), sif_false, hnum, kbeq hk, sif_true, sbind_some, impl_en_index _ _ n2 hany, sbind_some, idx_some hn, sbind_some, hx, toB_ofB]
      rfl
    · have hs : szT t = t.f_Size := szT_o (by omega) (by omega)
      have hnm := mem_names h hk
      have hin := cpM_in (fun t h => (vT_size h).1) (by omega) h3
      have hsl : ∀ m ∈ t.f_Members, eT d m.2.2 (slm l m) = true := eT_mem hk he
      have pa := impl_parts_loop d l t.f_Members h2.2 t.f_Size (by omega) (by omega) t.f_Members 0 0 [] rfl (by omega) (by omega) h3 (by simp)
      have hw : ∀ m ∈ t.f_Members, (mwI (shT d) l m).length ≤ 60000 := fun m hm => by
        have a := hnm m hm
        have b := sh_len d m.2.2 (slm l m) (hin m hm).1 (sl_in hl _ _) (hsl m hm)
        unfold mwI
        simp only [List.length_append, List.length_cons, List.length_nil, ofB_len]
        omega
      have lp := loop_tx t.f_Members (fun i o => impl_Type_elementText_l3 (toB l) (((t.f_Members.map (partM l)).length : Nat) : Int) (i : Int) t.f_Kind t.f_Size t.f_Signed t.f_Big t.f_Names t.f_Nums t.f_Members t.f_Base t.f_Count o (t.f_Members.map (partM l))) (fun m => toB (mwI (shT d) l m)) (fun i m o hm ho => by
        have hlt := (List.getElem?_eq_some_iff.1 hm).1
        have hmm := mem_of_at hm
        have a := hnm m hmm
        have b := hw m hmm
        have hL := sh_len d m.2.2 (slm l m) (hin m hmm).1 (sl_in hl _ _) (hsl m hmm)
        have hp : (t.f_Members.map (partM l))[i]? = some (m.2.2, toB (slm l m)) := by rw [List.getElem?_map, hm]; rfl
        have ih := impl_show_some d m.2.2 (slm l m) (by omega) (k1 m hmm) (hin m hmm).1 (sl_in hl _ _) (hsl m hmm)
        have e : toB (ofB m.1) = m.1 := toB_ofB m.1
        have j1 : joins m.1 (bs [61]) = true := joins_ok (by rw [bs_size]; simp; omega)
        have a1 : m.1 ++ bs [61] = toB (ofB m.1 ++ [61]) := by rw [← toB_append, e]; rfl
        rw [impl_Type_elementText_l3_eq, List.length_map, sif_t (by omega), sif_pos (by unfold lt3; simp; omega), Int.toNat_natCast, hp, sbind_some]
        show sbind (impl_Type_elementText m.2.2.f_Kind m.2.2.f_Size m.2.2.f_Signed m.2.2.f_Big m.2.2.f_Names m.2.2.f_Nums m.2.2.f_Members m.2.2.f_Base m.2.2.f_Count (toB (slm l m))) _ = _
        rw [ih, sbind_some, kbeq hk, sif_true, idx_some hm, sbind_some, sif_pos j1, a1, sif_pos (joinsT (by simp only [List.length_append, ofB_len, List.length_cons, List.length_nil]; omega)), toB_append, sif_pos (room16 (by omega)), wi64_add1 (by omega)]
        rfl)
      obtain ⟨q1, q2⟩ := join_mid (t.f_Members.map (mwI (shT d) l)) (by rw [List.length_map]; exact h2.2) (fun w hw' => by
        obtain ⟨m, hm, rfl⟩ := List.mem_map.1 hw'
        exact hw m hm)
      rw [List.map_map] at q1
      rw [if_neg (by omega), if_neg (by omega), if_neg (by omega), if_neg (by omega), if_pos hk, kbeq hk, sif_true, show impl_Type_parts_l5 (toB l) t.f_Members (t.f_Members.length : Int) 0 [] = _ from pa, sbind_some, List.nil_append]
      refine (show impl_Type_elementText_l3 (toB l) (((t.f_Members.map (partM l)).length : Nat) : Int) 0 t.f_Kind t.f_Size t.f_Signed t.f_Big t.f_Names t.f_Nums t.f_Members t.f_Base t.f_Count [] (t.f_Members.map (partM l)) = _ from lp).trans ?_
      rw [impl_Type_elementText_l3_eq, List.length_map, sif_f (by omega), show strings_Join (t.f_Members.map fun m => toB (mwI (shT d) l m)) (bs [44]) = _ from q1, sbind_some, kbne (show t.f_Kind ≠ 1 by omega), kbne (show t.f_Kind ≠ 2 by omega), kbne (show t.f_Kind ≠ 3 by omega), kbeq hk, sif_false, sif_false, sif_false, sif_true, show bs [123] = toB [123] from rfl, show bs [125] = toB [125] from rfl, sif_pos (joinsT (by simp; omega)), toB_append, sif_pos (joinsT (by simp; omega)), toB_append]
    · have hs := szT_k5 hk hx
      have hz := vT_size h2
      have hi : idx t.f_Base 0 = some x := by rw [hx]; rfl
      have hokx := k2 x (by rw [hx]; simp)
      have hea := eT_arr hk hx he
      have hrl : (List.range t.f_Count.toNat).length = t.f_Count.toNat := List.length_range
      have pa := impl_parts_arr l x t.f_Kind t.f_Size t.f_Signed t.f_Big t.f_Names t.f_Nums t.f_Members t.f_Base t.f_Count hx hz h1 (by omega) t.f_Count.toNat 0 [] (by omega) (by simp)
      have hw : ∀ i, i < t.f_Count.toNat → (shT d x (slc l x i)).length ≤ 60000 := fun i hi => by
        have b := sh_len d x (slc l x i) h2 (sl_in hl _ _) (hea i hi)
        omega
      let P : List (Ty_Type × ByteArray) := (List.range t.f_Count.toNat).map fun i => (x, toB (slc l x i))
      have hPl : P.length = t.f_Count.toNat := by rw [List.length_map, List.length_range]
      have lp := loop_tx (List.range t.f_Count.toNat) (fun i o => impl_Type_elementText_l3 (toB l) ((P.length : Nat) : Int) (i : Int) t.f_Kind t.f_Size t.f_Signed t.f_Big t.f_Names t.f_Nums t.f_Members t.f_Base t.f_Count o P) (fun i => toB (shT d x (slc l x i))) (fun i q o hq ho => by
        have hlt := (List.getElem?_eq_some_iff.1 hq).1
        rw [hrl] at hlt
        rw [List.getElem?_range hlt, Option.some.injEq] at hq
        subst hq
        have hp : P[i]? = some (x, toB (slc l x i)) := by rw [List.getElem?_map, List.getElem?_range hlt]; rfl
        have ih := impl_show_some d x (slc l x i) (by omega) hokx h2 (sl_in hl _ _) (hea i hlt)
        rw [impl_Type_elementText_l3_eq, hPl, sif_t (by omega), sif_pos (by unfold lt3; simp; omega), Int.toNat_natCast, hp, sbind_some]
        show sbind (impl_Type_elementText x.f_Kind x.f_Size x.f_Signed x.f_Big x.f_Names x.f_Nums x.f_Members x.f_Base x.f_Count (toB (slc l x i))) _ = _
        rw [ih, sbind_some, kbne (show t.f_Kind ≠ 4 by omega), sif_false, sif_pos (room16 (by omega)), wi64_add1 (by omega)])
      rw [hrl] at lp
      obtain ⟨q1, q2⟩ := join_mid ((List.range t.f_Count.toNat).map fun i => shT d x (slc l x i)) (by rw [List.length_map, hrl]; omega) (fun w hw' => by
        obtain ⟨i, hi, rfl⟩ := List.mem_map.1 hw'
        exact hw i (List.mem_range.1 hi))
      rw [List.map_map] at q1
      rw [if_neg (by omega), if_neg (by omega), if_neg (by omega), if_neg (by omega), if_neg (by omega), if_pos hk, kbne (show t.f_Kind ≠ 4 by omega), kbeq hk, sif_false, sif_true, hi, sbind_some, impl_size_some h2, sbind_some, show impl_Type_parts_l12 (toB l) (szT x) t.f_Count 0 t.f_Kind t.f_Size t.f_Signed t.f_Big t.f_Names t.f_Nums t.f_Members t.f_Base t.f_Count [] = _ from pa, sbind_some, List.nil_append, List.drop_zero]
      refine (show impl_Type_elementText_l3 (toB l) ((P.length : Nat) : Int) 0 t.f_Kind t.f_Size t.f_Signed t.f_Big t.f_Names t.f_Nums t.f_Members t.f_Base t.f_Count [] P = _ from lp).trans ?_
      rw [impl_Type_elementText_l3_eq, hPl, sif_f (by omega), show strings_Join ((List.range t.f_Count.toNat).map fun i => toB (shT d x (slc l x i))) (bs [44]) = _ from q1, sbind_some, kbne (show t.f_Kind ≠ 1 by omega), kbne (show t.f_Kind ≠ 2 by omega), kbne (show t.f_Kind ≠ 3 by omega), kbne (show t.f_Kind ≠ 4 by omega), kbeq hk, sif_false, sif_false, sif_false, sif_false, sif_true, show bs [91] = toB [91] from rfl, show bs [93] = toB [93] from rfl, sif_pos (joinsT (by simp; omega)), toB_append, sif_pos (joinsT (by simp; omega)), toB_append, hx]
      rfl
    · obtain ⟨hg, hbg⟩ := ref_plain1 hk h
      have hh := leN_lt hl
      have h2 : l.length = 2 := by rw [szT_o (by omega) (by omega), h1] at hlen; omega
      rw [h2] at hh
      have hge := leN_ge hl
      have hn := itI_len (n := leN l) (by omega)
      rw [if_neg (by omega), if_pos hk, kbne (show t.f_Kind ≠ 4 by omega), kbne (show t.f_Kind ≠ 5 by omega), sif_false, sif_false, sbind_some, impl_Type_elementText_l3_eq, sif_f (by simp), nojoin, sbind_some, kbne (show t.f_Kind ≠ 1 by omega), kbne (show t.f_Kind ≠ 2 by omega), kbne (show t.f_Kind ≠ 3 by omega), kbne (show t.f_Kind ≠ 4 by omega), kbne (show t.f_Kind ≠ 5 by omega), sif_false, sif_false, sif_false, sif_false, sif_false, impl_num_ref _ _ _ _ _ _ _ _ _ (by omega) hg hbg l hl h2, sbind_some, impl_decimal_some _ (by omega), sbind_some, show bs [35] = toB [35] from rfl, sif_pos (joinsT (by simp; omega)), toB_append]
/-! FnExactElementText -/
def etM (t : Ty_Type) (l : List Int) : ByteArray := if (vT 3 t && eT 3 t l) = true then toB (shT 3 t l) else bs []
theorem spec_et (t : Ty_Type) (hok : Ok_Ty_Type t) (a : List Int) (ha : inB a) (hna : a.length ≤ 1048576) : spec_ElementText t.f_Kind t.f_Size t.f_Signed t.f_Big t.f_Names t.f_Nums t.f_Members t.f_Base t.f_Count (toB a) = some (etM t a) := by
  rw [spec_ElementText_eq, spec_ValidElement_eq, spec_ok_some t hok, sbind_some, etM]
  cases hv : vT 3 t with
  | false => rfl
  | true =>
    rw [sif_true, spec_elt_some 3 t a hv ha hna, sbind_some, sbind_some]
    cases ea : eT 3 t a with
    | false => rfl
    | true => rw [Bool.not_true, sif_false, spec_show_some 3 t a (by omega) hv ha ea, sbind_some]; rfl
theorem impl_et (t : Ty_Type) (hok : Ok_Ty_Type t) (a : List Int) (ha : inB a) (hna : a.length ≤ 1048576) : impl_ElementText t.f_Kind t.f_Size t.f_Signed t.f_Big t.f_Names t.f_Nums t.f_Members t.f_Base t.f_Count (toB a) = some (etM t a) := by
  rw [impl_ElementText_eq, impl_ValidElement_eq, impl_ValidType_eq, show impl_Type_valid t.f_Kind t.f_Size t.f_Signed t.f_Big t.f_Names t.f_Nums t.f_Members t.f_Base t.f_Count 3 = _ from impl_valid_some 3 (by omega) t hok, sbind_some, sbind_some, etM]
  cases hv : vT 3 t with
  | false => rfl
  | true =>
    rw [sif_true, impl_elt_some 3 t a hok hv ha hna, sbind_some, sbind_some]
    cases ea : eT 3 t a with
    | false => rfl
    | true => rw [Bool.not_true, sif_false, impl_show_some 3 t a (by omega) hok hv ha ea, sbind_some]; rfl
theorem et_main (t : Ty_Type) (hok : Ok_Ty_Type t) (a : ByteArray) : laws_FnExactElementText t.f_Kind t.f_Size t.f_Signed t.f_Big t.f_Names t.f_Nums t.f_Members t.f_Base t.f_Count a = some true := by
  rw [laws_FnExactElementText_eq]
  by_cases ha : (a.size : Int) > 1048576
  · rw [sif_t ha]
  rw [sif_f ha]
  obtain ⟨r1, h1, _, _⟩ := szType_a t hok 1048576 (by decide) (by decide)
  rw [h1, sbind_some]
  by_cases hr : r1 < 0
  · rw [sif_t hr]
  rw [sif_f hr]
  have t0 : laws_toType t.f_Kind t.f_Size t.f_Signed t.f_Big t.f_Names t.f_Nums t.f_Members t.f_Base t.f_Count = some (t.f_Kind, t.f_Size, t.f_Signed, t.f_Big, t.f_Count, t.f_Names, t.f_Nums, t.f_Members, t.f_Base) := toType_a t hok
  have q0 := eqType_a t hok
  have e1 := spec_et t hok (ofB a) (ofB_inB a) (by rw [ofB_len]; omega)
  have e2 := impl_et t hok (ofB a) (ofB_inB a) (by rw [ofB_len]; omega)
  rw [toB_ofB] at e1 e2
  simp only [t0, sbind_some, e1, e2, q0, seq_self, bne_self_eq_false, sif_false, beq_self_eq_true, Bool.not_true]
theorem pure_FnExactElementText (aT_Kind : Int) (aT_Size : Int) (aT_Signed : Bool) (aT_Big : Bool) (aT_Names : List ByteArray) (aT_Nums : List Int) (aT_Members : List (ByteArray × Int × Ty_Type)) (aT_Base : List Ty_Type) (aT_Count : Int) (aB : ByteArray) (O0 : ((Lit.int .i64 aT_Kind).wf = true) ∧ ((Lit.int .i64 aT_Size).wf = true) ∧ (True) ∧ (True) ∧ (aT_Names.length ≤ maxLen ∧ aT_Names.length * 16 ≤ 140737488351232 ∧ ∀ e_ ∈ aT_Names, e_.size ≤ 140737488351232) ∧ (aT_Nums.length ≤ maxLen ∧ aT_Nums.length * 8 ≤ 140737488351232 ∧ ∀ e_ ∈ aT_Nums, (Lit.int .i64 e_).wf = true) ∧ (aT_Members.length ≤ maxLen ∧ aT_Members.length * 152 ≤ 140737488351232 ∧ ∀ e_ ∈ aT_Members, (e_.1.size ≤ 140737488351232) ∧ ((Lit.int .i64 e_.2.1).wf = true) ∧ (Ok_Ty_Type e_.2.2)) ∧ (aT_Base.length ≤ maxLen ∧ aT_Base.length * 128 ≤ 140737488351232 ∧ ∀ e_ ∈ aT_Base, Ok_Ty_Type e_) ∧ ((Lit.int .i64 aT_Count).wf = true)) (O1 : aB.size ≤ 140737488351232) : laws_FnExactElementText aT_Kind aT_Size aT_Signed aT_Big aT_Names aT_Nums aT_Members aT_Base aT_Count aB = some true := et_main (Ty_Type.mk aT_Kind aT_Size aT_Signed aT_Big aT_Names aT_Nums aT_Members aT_Base aT_Count) (Ok_Ty_Type.mk _ O0) aB
end Go.Ve.X
