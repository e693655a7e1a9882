/- What 'FnExactSourcePaths' comes to, in plain words over numbers, texts and lists: each function that it reaches answers what is told; put together, the law answers true. No condition but the sizes that come in. -/
import Derived.Test.YtaijkhkgjedkaaaGreatDoorEqFnExactSourcePaths
namespace Go.Ve.X
open Go.Ve
set_option linter.all false
set_option maxRecDepth 100000
abbrev K_Member := ByteArray × Int × Ty_Type
abbrev OkA_Member (x : K_Member) : Prop := (x.1.size ≤ 140737488351232) ∧ ((Lit.int .i64 x.2.1).wf = true) ∧ (Ok_Ty_Type x.2.2)
abbrev K_Point := List Int
abbrev OkA_Point (x : K_Point) : Prop := x.length ≤ maxLen ∧ x.length * 8 ≤ 140737488351232 ∧ ∀ e_ ∈ x, (Lit.int .i64 e_).wf = true
abbrev K_Mapping := ByteArray × Int × List Int × List Int × List Int × List Int × List (List Int) × Int × List Int × List Int × List Int × List Int × List (List Int)
abbrev OkA_Mapping (x : K_Mapping) : Prop := (x.1.size ≤ 140737488351232) ∧ ((Lit.int .i64 x.2.1).wf = true) ∧ (x.2.2.1.length ≤ maxLen ∧ x.2.2.1.length * 8 ≤ 140737488351232 ∧ ∀ e_ ∈ x.2.2.1, (Lit.int .i64 e_).wf = true) ∧ (x.2.2.2.1.length ≤ maxLen ∧ x.2.2.2.1.length * 8 ≤ 140737488351232 ∧ ∀ e_ ∈ x.2.2.2.1, (Lit.int .i64 e_).wf = true) ∧ (x.2.2.2.2.1.length ≤ maxLen ∧ x.2.2.2.2.1.length * 8 ≤ 140737488351232 ∧ ∀ e_ ∈ x.2.2.2.2.1, (Lit.int .i64 e_).wf = true) ∧ (x.2.2.2.2.2.1.length ≤ maxLen ∧ x.2.2.2.2.2.1.length * 8 ≤ 140737488351232 ∧ ∀ e_ ∈ x.2.2.2.2.2.1, (Lit.int .i64 e_).wf = true) ∧ (x.2.2.2.2.2.2.1.length ≤ maxLen ∧ x.2.2.2.2.2.2.1.length * 24 ≤ 140737488351232 ∧ ∀ e_ ∈ x.2.2.2.2.2.2.1, OkA_Point e_) ∧ ((Lit.int .i64 x.2.2.2.2.2.2.2.1).wf = true) ∧ (x.2.2.2.2.2.2.2.2.1.length ≤ maxLen ∧ x.2.2.2.2.2.2.2.2.1.length * 8 ≤ 140737488351232 ∧ ∀ e_ ∈ x.2.2.2.2.2.2.2.2.1, (Lit.int .i64 e_).wf = true) ∧ (x.2.2.2.2.2.2.2.2.2.1.length ≤ maxLen ∧ x.2.2.2.2.2.2.2.2.2.1.length * 8 ≤ 140737488351232 ∧ ∀ e_ ∈ x.2.2.2.2.2.2.2.2.2.1, (Lit.int .i64 e_).wf = true) ∧ (x.2.2.2.2.2.2.2.2.2.2.1.length ≤ maxLen ∧ x.2.2.2.2.2.2.2.2.2.2.1.length * 8 ≤ 140737488351232 ∧ ∀ e_ ∈ x.2.2.2.2.2.2.2.2.2.2.1, (Lit.int .i64 e_).wf = true) ∧ (x.2.2.2.2.2.2.2.2.2.2.2.1.length ≤ maxLen ∧ x.2.2.2.2.2.2.2.2.2.2.2.1.length * 8 ≤ 140737488351232 ∧ ∀ e_ ∈ x.2.2.2.2.2.2.2.2.2.2.2.1, (Lit.int .i64 e_).wf = true) ∧ (x.2.2.2.2.2.2.2.2.2.2.2.2.length ≤ maxLen ∧ x.2.2.2.2.2.2.2.2.2.2.2.2.length * 24 ≤ 140737488351232 ∧ ∀ e_ ∈ x.2.2.2.2.2.2.2.2.2.2.2.2, OkA_Point e_)
abbrev K_Virtual := Ty_Type × List Int × ByteArray × List (ByteArray × Int × List Int × List Int × List Int × List Int × List (List Int) × Int × List Int × List Int × List Int × List Int × List (List Int))
abbrev OkA_Virtual (x : K_Virtual) : Prop := (Ok_Ty_Type x.1) ∧ (x.2.1.length ≤ maxLen ∧ x.2.1.length * 8 ≤ 140737488351232 ∧ ∀ e_ ∈ x.2.1, (Lit.int .i64 e_).wf = true) ∧ (x.2.2.1.size ≤ 140737488351232) ∧ (x.2.2.2.length ≤ maxLen ∧ x.2.2.2.length * 272 ≤ 140737488351232 ∧ ∀ e_ ∈ x.2.2.2, OkA_Mapping e_)
theorem Ty_Type.ind {P : Ty_Type → Prop} (h : ∀ x : Ty_Type, (∀ m ∈ x.f_Members, P m.2.2) → (∀ m ∈ x.f_Base, P m) → P x) (x : Ty_Type) : P x :=
  h x (fun m hm => Ty_Type.ind h m.2.2) (fun m hm => Ty_Type.ind h m)
termination_by SizeOf.sizeOf x
decreasing_by
  · obtain ⟨⟩ := x
    have h1 := List.sizeOf_lt_of_mem hm
    obtain ⟨a0, a1, a2⟩ := m
    simp [Ty_Type.f_Members] at h1 ⊢
    omega
  · obtain ⟨⟩ := x
    have h1 := List.sizeOf_lt_of_mem hm
    simp [Ty_Type.f_Base] at h1 ⊢
    omega
theorem szStringS_g (a : List ByteArray) (h : a.length ≤ maxLen ∧ a.length * 16 ≤ 140737488351232 ∧ ∀ e_ ∈ a, e_.size ≤ 140737488351232) : ∀ left : Int, 0 ≤ left → left ≤ 1048576 → TotM (laws_szStringS a left) := by
  have hl : a.length ≤ 140737488351232 := len_bound h.2.1 (by omega)
  have key : ∀ left : Int, 0 ≤ left → left ≤ 1048576 → TotM (laws_szStringS_l5 a left 0) := loop_totm a (fun i left => laws_szStringS_l5 a left (i : Int)) (fun left h0 h1 => by
    rw [laws_szStringS_l5_eq, sif_f (by omega)]; exact totm_some (by omega) h1) (fun i x left hx hi h0 h1 ih => by
    rw [laws_szStringS_l5_eq, sif_t (by omega), idx_some hx, sbind_some, wi64_add1 (by omega)]
    have hxs := h.2.2 x (mem_of_at hx)
    repeat' (first | with_reducible refine totm_some ?_ ?_ | with_reducible refine ih _ ?_ ?_ | with_reducible refine totm_sub ?_ ?_ ?_ ?_ (fun _ _ => ?_) | with_reducible refine totm_lt (fun _ => ?_) | with_reducible refine totm_bind ?_ (fun _ _ _ => ?_) | omega))
  intro left hl0 hl1
  rw [laws_szStringS_eq]
  repeat' (first | with_reducible refine totm_some ?_ ?_ | with_reducible refine key _ ?_ ?_ | with_reducible refine totm_sub ?_ ?_ ?_ ?_ (fun _ _ => ?_) | with_reducible refine totm_lt (fun _ => ?_) | with_reducible refine totm_bind ?_ (fun _ _ _ => ?_) | omega)
theorem szInt64S_g (a : List Int) (h : a.length ≤ maxLen ∧ a.length * 8 ≤ 140737488351232 ∧ ∀ e_ ∈ a, (Lit.int .i64 e_).wf = true) : ∀ left : Int, 0 ≤ left → left ≤ 1048576 → TotM (laws_szInt64S a left) := by
  have hl : a.length ≤ 140737488351232 := len_bound h.2.1 (by omega)
  intro left hl0 hl1
  rw [laws_szInt64S_eq]
  repeat' (first | with_reducible refine totm_some ?_ ?_ | with_reducible refine totm_sub ?_ ?_ ?_ ?_ (fun _ _ => ?_) | with_reducible refine totm_lt (fun _ => ?_) | with_reducible refine totm_bind ?_ (fun _ _ _ => ?_) | omega)
theorem szMember_g (x : K_Member) (h : OkA_Member x) (h2 : ∀ left : Int, 0 ≤ left → left ≤ 1048576 → TotM (laws_szType x.2.2.f_Kind x.2.2.f_Size x.2.2.f_Signed x.2.2.f_Big x.2.2.f_Names x.2.2.f_Nums x.2.2.f_Members x.2.2.f_Base x.2.2.f_Count left)) : ∀ left : Int, 0 ≤ left → left ≤ 1048576 → TotM (laws_szMember x.1 x.2.1 x.2.2.f_Kind x.2.2.f_Size x.2.2.f_Signed x.2.2.f_Big x.2.2.f_Names x.2.2.f_Nums x.2.2.f_Members x.2.2.f_Base x.2.2.f_Count left) := by
  intro left hl0 hl1
  rw [laws_szMember_eq]
  have hs0 := h.1
  repeat' (first | with_reducible refine totm_some ?_ ?_ | with_reducible refine h2 _ ?_ ?_ | with_reducible refine totm_sub ?_ ?_ ?_ ?_ (fun _ _ => ?_) | with_reducible refine totm_lt (fun _ => ?_) | with_reducible refine totm_bind ?_ (fun _ _ _ => ?_) | omega)
theorem szMemberS_g (a : List (ByteArray × Int × Ty_Type)) (h : a.length ≤ maxLen ∧ a.length * 152 ≤ 140737488351232 ∧ ∀ e_ ∈ a, OkA_Member e_) (hr : ∀ x ∈ a, ∀ left : Int, 0 ≤ left → left ≤ 1048576 → TotM (laws_szMember x.1 x.2.1 x.2.2.f_Kind x.2.2.f_Size x.2.2.f_Signed x.2.2.f_Big x.2.2.f_Names x.2.2.f_Nums x.2.2.f_Members x.2.2.f_Base x.2.2.f_Count left)) : ∀ left : Int, 0 ≤ left → left ≤ 1048576 → TotM (laws_szMemberS a left) := by
  have hl : a.length ≤ 140737488351232 := len_bound h.2.1 (by omega)
  have key : ∀ left : Int, 0 ≤ left → left ≤ 1048576 → TotM (laws_szMemberS_l5 a left 0) := loop_totm a (fun i left => laws_szMemberS_l5 a left (i : Int)) (fun left h0 h1 => by
    rw [laws_szMemberS_l5_eq, sif_f (by omega)]; exact totm_some (by omega) h1) (fun i x left hx hi h0 h1 ih => by
    rw [laws_szMemberS_l5_eq, sif_t (by omega), idx_some hx, sbind_some, wi64_add1 (by omega)]
    repeat' (first | with_reducible refine totm_some ?_ ?_ | with_reducible refine ih _ ?_ ?_ | with_reducible refine hr x (mem_of_at hx) _ ?_ ?_ | with_reducible refine totm_sub ?_ ?_ ?_ ?_ (fun _ _ => ?_) | with_reducible refine totm_lt (fun _ => ?_) | with_reducible refine totm_bind ?_ (fun _ _ _ => ?_) | omega))
  intro left hl0 hl1
  rw [laws_szMemberS_eq]
  repeat' (first | with_reducible refine totm_some ?_ ?_ | with_reducible refine key _ ?_ ?_ | with_reducible refine totm_sub ?_ ?_ ?_ ?_ (fun _ _ => ?_) | with_reducible refine totm_lt (fun _ => ?_) | with_reducible refine totm_bind ?_ (fun _ _ _ => ?_) | omega)
theorem szTypeS_g (a : List Ty_Type) (h : a.length ≤ maxLen ∧ a.length * 128 ≤ 140737488351232 ∧ ∀ e_ ∈ a, Ok_Ty_Type e_) (hr : ∀ x ∈ a, ∀ left : Int, 0 ≤ left → left ≤ 1048576 → TotM (laws_szType x.f_Kind x.f_Size x.f_Signed x.f_Big x.f_Names x.f_Nums x.f_Members x.f_Base x.f_Count left)) : ∀ left : Int, 0 ≤ left → left ≤ 1048576 → TotM (laws_szTypeS a left) := by
  have hl : a.length ≤ 140737488351232 := len_bound h.2.1 (by omega)
  have key : ∀ left : Int, 0 ≤ left → left ≤ 1048576 → TotM (laws_szTypeS_l5 a left 0) := loop_totm a (fun i left => laws_szTypeS_l5 a left (i : Int)) (fun left h0 h1 => by
    rw [laws_szTypeS_l5_eq, sif_f (by omega)]; exact totm_some (by omega) h1) (fun i x left hx hi h0 h1 ih => by
    rw [laws_szTypeS_l5_eq, sif_t (by omega), idx_some hx, sbind_some, wi64_add1 (by omega)]
    repeat' (first | with_reducible refine totm_some ?_ ?_ | with_reducible refine ih _ ?_ ?_ | with_reducible refine hr x (mem_of_at hx) _ ?_ ?_ | with_reducible refine totm_sub ?_ ?_ ?_ ?_ (fun _ _ => ?_) | with_reducible refine totm_lt (fun _ => ?_) | with_reducible refine totm_bind ?_ (fun _ _ _ => ?_) | omega))
  intro left hl0 hl1
  rw [laws_szTypeS_eq]
  repeat' (first | with_reducible refine totm_some ?_ ?_ | with_reducible refine key _ ?_ ?_ | with_reducible refine totm_sub ?_ ?_ ?_ ?_ (fun _ _ => ?_) | with_reducible refine totm_lt (fun _ => ?_) | with_reducible refine totm_bind ?_ (fun _ _ _ => ?_) | omega)
theorem szType_g (x : Ty_Type) (h : Ok_Ty_Type x) : ∀ left : Int, 0 ≤ left → left ≤ 1048576 → TotM (laws_szType x.f_Kind x.f_Size x.f_Signed x.f_Big x.f_Names x.f_Nums x.f_Members x.f_Base x.f_Count left) := by
  revert h
  refine Ty_Type.ind (P := fun x => Ok_Ty_Type x → ∀ left : Int, 0 ≤ left → left ≤ 1048576 → TotM (laws_szType x.f_Kind x.f_Size x.f_Signed x.f_Big x.f_Names x.f_Nums x.f_Members x.f_Base x.f_Count left)) ?_ x
  intro x ih_Members ih_Base h
  have h := Ok_Ty_Type.out h
  have g0 := (szStringS_g x.f_Names h.2.2.2.2.1)
  have g1 := (szInt64S_g x.f_Nums h.2.2.2.2.2.1)
  have g2 := (szMemberS_g x.f_Members h.2.2.2.2.2.2.1 (fun y hy => (szMember_g y (h.2.2.2.2.2.2.1.2.2 y hy) (ih_Members y hy (h.2.2.2.2.2.2.1.2.2 y hy).2.2))))
  have g3 := (szTypeS_g x.f_Base h.2.2.2.2.2.2.2.1 (fun y hy => (ih_Base y hy (h.2.2.2.2.2.2.2.1.2.2 y hy))))
  intro left hl0 hl1
  rw [laws_szType_eq]
  repeat' (first | with_reducible refine totm_some ?_ ?_ | with_reducible refine g0 _ ?_ ?_ | with_reducible refine g1 _ ?_ ?_ | with_reducible refine g2 _ ?_ ?_ | with_reducible refine g3 _ ?_ ?_ | with_reducible refine totm_sub ?_ ?_ ?_ ?_ (fun _ _ => ?_) | with_reducible refine totm_lt (fun _ => ?_) | with_reducible refine totm_bind ?_ (fun _ _ _ => ?_) | omega)
abbrev K_Selection := Int × List Int × List Int × List Int × List Int × List (List Int)
abbrev OkA_Selection (x : K_Selection) : Prop := ((Lit.int .i64 x.1).wf = true) ∧ (x.2.1.length ≤ maxLen ∧ x.2.1.length * 8 ≤ 140737488351232 ∧ ∀ e_ ∈ x.2.1, (Lit.int .i64 e_).wf = true) ∧ (x.2.2.1.length ≤ maxLen ∧ x.2.2.1.length * 8 ≤ 140737488351232 ∧ ∀ e_ ∈ x.2.2.1, (Lit.int .i64 e_).wf = true) ∧ (x.2.2.2.1.length ≤ maxLen ∧ x.2.2.2.1.length * 8 ≤ 140737488351232 ∧ ∀ e_ ∈ x.2.2.2.1, (Lit.int .i64 e_).wf = true) ∧ (x.2.2.2.2.1.length ≤ maxLen ∧ x.2.2.2.2.1.length * 8 ≤ 140737488351232 ∧ ∀ e_ ∈ x.2.2.2.2.1, (Lit.int .i64 e_).wf = true) ∧ (x.2.2.2.2.2.length ≤ maxLen ∧ x.2.2.2.2.2.length * 24 ≤ 140737488351232 ∧ ∀ e_ ∈ x.2.2.2.2.2, OkA_Point e_)
theorem szPoint_g (x : K_Point) (h : OkA_Point x) (h0 : ∀ left : Int, 0 ≤ left → left ≤ 1048576 → TotM (laws_szInt64S x left)) : ∀ left : Int, 0 ≤ left → left ≤ 1048576 → TotM (laws_szPoint x left) := by
  intro left hl0 hl1
  rw [laws_szPoint_eq]
  repeat' (first | with_reducible refine totm_some ?_ ?_ | with_reducible refine h0 _ ?_ ?_ | with_reducible refine totm_sub ?_ ?_ ?_ ?_ (fun _ _ => ?_) | with_reducible refine totm_lt (fun _ => ?_) | with_reducible refine totm_bind ?_ (fun _ _ _ => ?_) | omega)
theorem szPointS_g (a : List (List Int)) (h : a.length ≤ maxLen ∧ a.length * 24 ≤ 140737488351232 ∧ ∀ e_ ∈ a, OkA_Point e_) (hr : ∀ x ∈ a, ∀ left : Int, 0 ≤ left → left ≤ 1048576 → TotM (laws_szPoint x left)) : ∀ left : Int, 0 ≤ left → left ≤ 1048576 → TotM (laws_szPointS a left) := by
  have hl : a.length ≤ 140737488351232 := len_bound h.2.1 (by omega)
  have key : ∀ left : Int, 0 ≤ left → left ≤ 1048576 → TotM (laws_szPointS_l5 a left 0) := loop_totm a (fun i left => laws_szPointS_l5 a left (i : Int)) (fun left h0 h1 => by
    rw [laws_szPointS_l5_eq, sif_f (by omega)]; exact totm_some (by omega) h1) (fun i x left hx hi h0 h1 ih => by
    rw [laws_szPointS_l5_eq, sif_t (by omega), idx_some hx, sbind_some, wi64_add1 (by omega)]
    repeat' (first | with_reducible refine totm_some ?_ ?_ | with_reducible refine ih _ ?_ ?_ | with_reducible refine hr x (mem_of_at hx) _ ?_ ?_ | with_reducible refine totm_sub ?_ ?_ ?_ ?_ (fun _ _ => ?_) | with_reducible refine totm_lt (fun _ => ?_) | with_reducible refine totm_bind ?_ (fun _ _ _ => ?_) | omega))
  intro left hl0 hl1
  rw [laws_szPointS_eq]
  repeat' (first | with_reducible refine totm_some ?_ ?_ | with_reducible refine key _ ?_ ?_ | with_reducible refine totm_sub ?_ ?_ ?_ ?_ (fun _ _ => ?_) | with_reducible refine totm_lt (fun _ => ?_) | with_reducible refine totm_bind ?_ (fun _ _ _ => ?_) | omega)
theorem szSelection_g (x : K_Selection) (h : OkA_Selection x) (h1 : ∀ left : Int, 0 ≤ left → left ≤ 1048576 → TotM (laws_szInt64S x.2.1 left)) (h2 : ∀ left : Int, 0 ≤ left → left ≤ 1048576 → TotM (laws_szInt64S x.2.2.1 left)) (h3 : ∀ left : Int, 0 ≤ left → left ≤ 1048576 → TotM (laws_szInt64S x.2.2.2.1 left)) (h4 : ∀ left : Int, 0 ≤ left → left ≤ 1048576 → TotM (laws_szInt64S x.2.2.2.2.1 left)) (h5 : ∀ left : Int, 0 ≤ left → left ≤ 1048576 → TotM (laws_szPointS x.2.2.2.2.2 left)) : ∀ left : Int, 0 ≤ left → left ≤ 1048576 → TotM (laws_szSelection x.1 x.2.1 x.2.2.1 x.2.2.2.1 x.2.2.2.2.1 x.2.2.2.2.2 left) := by
  intro left hl0 hl1
  rw [laws_szSelection_eq]
  repeat' (first | with_reducible refine totm_some ?_ ?_ | with_reducible refine h1 _ ?_ ?_ | with_reducible refine h2 _ ?_ ?_ | with_reducible refine h3 _ ?_ ?_ | with_reducible refine h4 _ ?_ ?_ | with_reducible refine h5 _ ?_ ?_ | with_reducible refine totm_sub ?_ ?_ ?_ ?_ (fun _ _ => ?_) | with_reducible refine totm_lt (fun _ => ?_) | with_reducible refine totm_bind ?_ (fun _ _ _ => ?_) | omega)
theorem szMapping_g (x : K_Mapping) (h : OkA_Mapping x) (h1 : ∀ left : Int, 0 ≤ left → left ≤ 1048576 → TotM (laws_szSelection x.2.1 x.2.2.1 x.2.2.2.1 x.2.2.2.2.1 x.2.2.2.2.2.1 x.2.2.2.2.2.2.1 left)) (h2 : ∀ left : Int, 0 ≤ left → left ≤ 1048576 → TotM (laws_szSelection x.2.2.2.2.2.2.2.1 x.2.2.2.2.2.2.2.2.1 x.2.2.2.2.2.2.2.2.2.1 x.2.2.2.2.2.2.2.2.2.2.1 x.2.2.2.2.2.2.2.2.2.2.2.1 x.2.2.2.2.2.2.2.2.2.2.2.2 left)) : ∀ left : Int, 0 ≤ left → left ≤ 1048576 → TotM (laws_szMapping x.1 x.2.1 x.2.2.1 x.2.2.2.1 x.2.2.2.2.1 x.2.2.2.2.2.1 x.2.2.2.2.2.2.1 x.2.2.2.2.2.2.2.1 x.2.2.2.2.2.2.2.2.1 x.2.2.2.2.2.2.2.2.2.1 x.2.2.2.2.2.2.2.2.2.2.1 x.2.2.2.2.2.2.2.2.2.2.2.1 x.2.2.2.2.2.2.2.2.2.2.2.2 left) := by
  intro left hl0 hl1
  rw [laws_szMapping_eq]
  have hs0 := h.1
  repeat' (first | with_reducible refine totm_some ?_ ?_ | with_reducible refine h1 _ ?_ ?_ | with_reducible refine h2 _ ?_ ?_ | with_reducible refine totm_sub ?_ ?_ ?_ ?_ (fun _ _ => ?_) | with_reducible refine totm_lt (fun _ => ?_) | with_reducible refine totm_bind ?_ (fun _ _ _ => ?_) | omega)
theorem szType_a (x : Ty_Type) (h : Ok_Ty_Type x) : ∀ left : Int, 0 ≤ left → left ≤ 1048576 → TotM (laws_szType x.f_Kind x.f_Size x.f_Signed x.f_Big x.f_Names x.f_Nums x.f_Members x.f_Base x.f_Count left) := (szType_g x h)
theorem szInt64S_a (a : List Int) (h : a.length ≤ maxLen ∧ a.length * 8 ≤ 140737488351232 ∧ ∀ e_ ∈ a, (Lit.int .i64 e_).wf = true) : ∀ left : Int, 0 ≤ left → left ≤ 1048576 → TotM (laws_szInt64S a left) := (szInt64S_g a h)
theorem szMapping_a (x : K_Mapping) (h : OkA_Mapping x) : ∀ left : Int, 0 ≤ left → left ≤ 1048576 → TotM (laws_szMapping x.1 x.2.1 x.2.2.1 x.2.2.2.1 x.2.2.2.2.1 x.2.2.2.2.2.1 x.2.2.2.2.2.2.1 x.2.2.2.2.2.2.2.1 x.2.2.2.2.2.2.2.2.1 x.2.2.2.2.2.2.2.2.2.1 x.2.2.2.2.2.2.2.2.2.2.1 x.2.2.2.2.2.2.2.2.2.2.2.1 x.2.2.2.2.2.2.2.2.2.2.2.2 left) := (szMapping_g x h (szSelection_g (x.2.1, x.2.2.1, x.2.2.2.1, x.2.2.2.2.1, x.2.2.2.2.2.1, x.2.2.2.2.2.2.1) ⟨h.2.1, h.2.2.1, h.2.2.2.1, h.2.2.2.2.1, h.2.2.2.2.2.1, h.2.2.2.2.2.2.1⟩ (szInt64S_g x.2.2.1 h.2.2.1) (szInt64S_g x.2.2.2.1 h.2.2.2.1) (szInt64S_g x.2.2.2.2.1 h.2.2.2.2.1) (szInt64S_g x.2.2.2.2.2.1 h.2.2.2.2.2.1) (szPointS_g x.2.2.2.2.2.2.1 h.2.2.2.2.2.2.1 (fun y hy => (szPoint_g y (h.2.2.2.2.2.2.1.2.2 y hy) (szInt64S_g y (h.2.2.2.2.2.2.1.2.2 y hy)))))) (szSelection_g (x.2.2.2.2.2.2.2.1, x.2.2.2.2.2.2.2.2.1, x.2.2.2.2.2.2.2.2.2.1, x.2.2.2.2.2.2.2.2.2.2.1, x.2.2.2.2.2.2.2.2.2.2.2.1, x.2.2.2.2.2.2.2.2.2.2.2.2) ⟨h.2.2.2.2.2.2.2.1, h.2.2.2.2.2.2.2.2.1, h.2.2.2.2.2.2.2.2.2.1, h.2.2.2.2.2.2.2.2.2.2.1, h.2.2.2.2.2.2.2.2.2.2.2.1, h.2.2.2.2.2.2.2.2.2.2.2.2⟩ (szInt64S_g x.2.2.2.2.2.2.2.2.1 h.2.2.2.2.2.2.2.2.1) (szInt64S_g x.2.2.2.2.2.2.2.2.2.1 h.2.2.2.2.2.2.2.2.2.1) (szInt64S_g x.2.2.2.2.2.2.2.2.2.2.1 h.2.2.2.2.2.2.2.2.2.2.1) (szInt64S_g x.2.2.2.2.2.2.2.2.2.2.2.1 h.2.2.2.2.2.2.2.2.2.2.2.1) (szPointS_g x.2.2.2.2.2.2.2.2.2.2.2.2 h.2.2.2.2.2.2.2.2.2.2.2.2 (fun y hy => (szPoint_g y (h.2.2.2.2.2.2.2.2.2.2.2.2.2.2 y hy) (szInt64S_g y (h.2.2.2.2.2.2.2.2.2.2.2.2.2.2 y hy)))))))
theorem toStringS_g (a : List ByteArray) (h : a.length ≤ maxLen ∧ a.length * 16 ≤ 140737488351232 ∧ ∀ e_ ∈ a, e_.size ≤ 140737488351232) : laws_toStringS a = some a := by
  have hl : a.length ≤ 140737488351232 := len_bound h.2.1 (by omega)
  have key := fun z => loop_fill a id (fun i out => laws_toStringS_l3 a i out) id (fun out ho => by rw [laws_toStringS_l3_eq, sif_f (by omega)]; rfl) (fun i x out hx hi ho => by
    rw [laws_toStringS_l3_eq, sif_t (by omega), idx_some hx, sbind_some, sif_pos (lt3_ok (by omega) (by omega)), wi64_add1 (by omega)]
    rfl) (List.replicate a.length z) (by simp)
  rw [laws_toStringS_eq, sif_pos (by rw [le3_ok (by omega) (by omega), room_ok (by omega)]; rfl)]
  exact (key _).trans (by simp)
theorem toInt64S_g (a : List Int) (h : a.length ≤ maxLen ∧ a.length * 8 ≤ 140737488351232 ∧ ∀ e_ ∈ a, (Lit.int .i64 e_).wf = true) : laws_toInt64S a = some a := by
  have hl : a.length ≤ 140737488351232 := len_bound h.2.1 (by omega)
  have key := fun z => loop_fill a id (fun i out => laws_toInt64S_l3 a i out) id (fun out ho => by rw [laws_toInt64S_l3_eq, sif_f (by omega)]; rfl) (fun i x out hx hi ho => by
    rw [laws_toInt64S_l3_eq, sif_t (by omega), idx_some hx, sbind_some, sif_pos (lt3_ok (by omega) (by omega)), wi64_add1 (by omega)]
    rfl) (List.replicate a.length z) (by simp)
  rw [laws_toInt64S_eq, sif_pos (by rw [le3_ok (by omega) (by omega), room_ok (by omega)]; rfl)]
  exact (key _).trans (by simp)
theorem toMember_g (x : K_Member) (h : OkA_Member x) (h2 : laws_toType x.2.2.f_Kind x.2.2.f_Size x.2.2.f_Signed x.2.2.f_Big x.2.2.f_Names x.2.2.f_Nums x.2.2.f_Members x.2.2.f_Base x.2.2.f_Count = some (x.2.2.f_Kind, x.2.2.f_Size, x.2.2.f_Signed, x.2.2.f_Big, x.2.2.f_Count, x.2.2.f_Names, x.2.2.f_Nums, x.2.2.f_Members, x.2.2.f_Base)) : laws_toMember x.1 x.2.1 x.2.2.f_Kind x.2.2.f_Size x.2.2.f_Signed x.2.2.f_Big x.2.2.f_Names x.2.2.f_Nums x.2.2.f_Members x.2.2.f_Base x.2.2.f_Count = some (x.1, x.2.1, x.2.2.f_Kind, x.2.2.f_Size, x.2.2.f_Signed, x.2.2.f_Big, x.2.2.f_Count, x.2.2.f_Names, x.2.2.f_Nums, x.2.2.f_Members, x.2.2.f_Base) := by
  rw [laws_toMember_eq, h2, sbind_some]
theorem toMemberS_g (a : List (ByteArray × Int × Ty_Type)) (h : a.length ≤ maxLen ∧ a.length * 152 ≤ 140737488351232 ∧ ∀ e_ ∈ a, OkA_Member e_) (hr : ∀ x ∈ a, laws_toMember x.1 x.2.1 x.2.2.f_Kind x.2.2.f_Size x.2.2.f_Signed x.2.2.f_Big x.2.2.f_Names x.2.2.f_Nums x.2.2.f_Members x.2.2.f_Base x.2.2.f_Count = some (x.1, x.2.1, x.2.2.f_Kind, x.2.2.f_Size, x.2.2.f_Signed, x.2.2.f_Big, x.2.2.f_Count, x.2.2.f_Names, x.2.2.f_Nums, x.2.2.f_Members, x.2.2.f_Base)) : laws_toMemberS a = some a := by
  have hl : a.length ≤ 140737488351232 := len_bound h.2.1 (by omega)
  have key := fun z => loop_fill a id (fun i out => laws_toMemberS_l3 a i out) id (fun out ho => by rw [laws_toMemberS_l3_eq, sif_f (by omega)]; rfl) (fun i x out hx hi ho => by
    rw [laws_toMemberS_l3_eq, sif_t (by omega), idx_some hx, sbind_some, hr x (mem_of_at hx), sbind_some, sif_pos (lt3_ok (by omega) (by omega)), wi64_add1 (by omega)]
    simp only [Ty_Type.eta]
    rfl) (List.replicate a.length z) (by simp)
  rw [laws_toMemberS_eq, sif_pos (by rw [le3_ok (by omega) (by omega), room_ok (by omega)]; rfl)]
  exact (key _).trans (by simp)
theorem toTypeS_g (a : List Ty_Type) (h : a.length ≤ maxLen ∧ a.length * 128 ≤ 140737488351232 ∧ ∀ e_ ∈ a, Ok_Ty_Type e_) (hr : ∀ x ∈ a, laws_toType x.f_Kind x.f_Size x.f_Signed x.f_Big x.f_Names x.f_Nums x.f_Members x.f_Base x.f_Count = some (x.f_Kind, x.f_Size, x.f_Signed, x.f_Big, x.f_Count, x.f_Names, x.f_Nums, x.f_Members, x.f_Base)) : laws_toTypeS a = some a := by
  have hl : a.length ≤ 140737488351232 := len_bound h.2.1 (by omega)
  have key := fun z => loop_fill a id (fun i out => laws_toTypeS_l3 a i out) id (fun out ho => by rw [laws_toTypeS_l3_eq, sif_f (by omega)]; rfl) (fun i x out hx hi ho => by
    rw [laws_toTypeS_l3_eq, sif_t (by omega), idx_some hx, sbind_some, hr x (mem_of_at hx), sbind_some, sif_pos (lt3_ok (by omega) (by omega)), wi64_add1 (by omega)]
    simp only [Ty_Type.eta]
    rfl) (List.replicate a.length z) (by simp)
  rw [laws_toTypeS_eq, sif_pos (by rw [le3_ok (by omega) (by omega), room_ok (by omega)]; rfl)]
  exact (key _).trans (by simp)
theorem toType_g (x : Ty_Type) (h : Ok_Ty_Type x) : laws_toType x.f_Kind x.f_Size x.f_Signed x.f_Big x.f_Names x.f_Nums x.f_Members x.f_Base x.f_Count = some (x.f_Kind, x.f_Size, x.f_Signed, x.f_Big, x.f_Count, x.f_Names, x.f_Nums, x.f_Members, x.f_Base) := by
  revert h
  refine Ty_Type.ind (P := fun x => Ok_Ty_Type x → laws_toType x.f_Kind x.f_Size x.f_Signed x.f_Big x.f_Names x.f_Nums x.f_Members x.f_Base x.f_Count = some (x.f_Kind, x.f_Size, x.f_Signed, x.f_Big, x.f_Count, x.f_Names, x.f_Nums, x.f_Members, x.f_Base)) ?_ x
  intro x ih_Members ih_Base h
  have h := Ok_Ty_Type.out h
  have g0 := (toStringS_g x.f_Names h.2.2.2.2.1)
  have g1 := (toInt64S_g x.f_Nums h.2.2.2.2.2.1)
  have g2 := (toMemberS_g x.f_Members h.2.2.2.2.2.2.1 (fun y hy => (toMember_g y (h.2.2.2.2.2.2.1.2.2 y hy) (ih_Members y hy (h.2.2.2.2.2.2.1.2.2 y hy).2.2))))
  have g3 := (toTypeS_g x.f_Base h.2.2.2.2.2.2.2.1 (fun y hy => (ih_Base y hy (h.2.2.2.2.2.2.2.1.2.2 y hy))))
  rw [laws_toType_eq, g0, sbind_some, g1, sbind_some, g2, sbind_some, g3, sbind_some]
theorem toPoint_g (x : K_Point) (h : OkA_Point x) (h0 : laws_toInt64S x = some x) : laws_toPoint x = some x := by
  rw [laws_toPoint_eq, h0, sbind_some]
theorem toPointS_g (a : List (List Int)) (h : a.length ≤ maxLen ∧ a.length * 24 ≤ 140737488351232 ∧ ∀ e_ ∈ a, OkA_Point e_) (hr : ∀ x ∈ a, laws_toPoint x = some x) : laws_toPointS a = some a := by
  have hl : a.length ≤ 140737488351232 := len_bound h.2.1 (by omega)
  have key := fun z => loop_fill a id (fun i out => laws_toPointS_l3 a i out) id (fun out ho => by rw [laws_toPointS_l3_eq, sif_f (by omega)]; rfl) (fun i x out hx hi ho => by
    rw [laws_toPointS_l3_eq, sif_t (by omega), idx_some hx, sbind_some, hr x (mem_of_at hx), sbind_some, sif_pos (lt3_ok (by omega) (by omega)), wi64_add1 (by omega)]
    rfl) (List.replicate a.length z) (by simp)
  rw [laws_toPointS_eq, sif_pos (by rw [le3_ok (by omega) (by omega), room_ok (by omega)]; rfl)]
  exact (key _).trans (by simp)
theorem toSelection_g (x : K_Selection) (h : OkA_Selection x) (h1 : laws_toInt64S x.2.1 = some x.2.1) (h2 : laws_toInt64S x.2.2.1 = some x.2.2.1) (h3 : laws_toInt64S x.2.2.2.1 = some x.2.2.2.1) (h4 : laws_toInt64S x.2.2.2.2.1 = some x.2.2.2.2.1) (h5 : laws_toPointS x.2.2.2.2.2 = some x.2.2.2.2.2) : laws_toSelection x.1 x.2.1 x.2.2.1 x.2.2.2.1 x.2.2.2.2.1 x.2.2.2.2.2 = some (x.1, x.2.1, x.2.2.1, x.2.2.2.1, x.2.2.2.2.1, x.2.2.2.2.2) := by
  rw [laws_toSelection_eq, h1, sbind_some, h2, sbind_some, h3, sbind_some, h4, sbind_some, h5, sbind_some]
theorem toMapping_g (x : K_Mapping) (h : OkA_Mapping x) (h1 : laws_toSelection x.2.1 x.2.2.1 x.2.2.2.1 x.2.2.2.2.1 x.2.2.2.2.2.1 x.2.2.2.2.2.2.1 = some (x.2.1, x.2.2.1, x.2.2.2.1, x.2.2.2.2.1, x.2.2.2.2.2.1, x.2.2.2.2.2.2.1)) (h2 : laws_toSelection x.2.2.2.2.2.2.2.1 x.2.2.2.2.2.2.2.2.1 x.2.2.2.2.2.2.2.2.2.1 x.2.2.2.2.2.2.2.2.2.2.1 x.2.2.2.2.2.2.2.2.2.2.2.1 x.2.2.2.2.2.2.2.2.2.2.2.2 = some (x.2.2.2.2.2.2.2.1, x.2.2.2.2.2.2.2.2.1, x.2.2.2.2.2.2.2.2.2.1, x.2.2.2.2.2.2.2.2.2.2.1, x.2.2.2.2.2.2.2.2.2.2.2.1, x.2.2.2.2.2.2.2.2.2.2.2.2)) : laws_toMapping x.1 x.2.1 x.2.2.1 x.2.2.2.1 x.2.2.2.2.1 x.2.2.2.2.2.1 x.2.2.2.2.2.2.1 x.2.2.2.2.2.2.2.1 x.2.2.2.2.2.2.2.2.1 x.2.2.2.2.2.2.2.2.2.1 x.2.2.2.2.2.2.2.2.2.2.1 x.2.2.2.2.2.2.2.2.2.2.2.1 x.2.2.2.2.2.2.2.2.2.2.2.2 = some (x.1, x.2.1, x.2.2.2.2.2.2.2.1, x.2.2.1, x.2.2.2.1, x.2.2.2.2.1, x.2.2.2.2.2.1, x.2.2.2.2.2.2.1, x.2.2.2.2.2.2.2.2.1, x.2.2.2.2.2.2.2.2.2.1, x.2.2.2.2.2.2.2.2.2.2.1, x.2.2.2.2.2.2.2.2.2.2.2.1, x.2.2.2.2.2.2.2.2.2.2.2.2) := by
  rw [laws_toMapping_eq, h1, sbind_some, h2, sbind_some]
theorem toMappingS_g (a : List (ByteArray × Int × List Int × List Int × List Int × List Int × List (List Int) × Int × List Int × List Int × List Int × List Int × List (List Int))) (h : a.length ≤ maxLen ∧ a.length * 272 ≤ 140737488351232 ∧ ∀ e_ ∈ a, OkA_Mapping e_) (hr : ∀ x ∈ a, laws_toMapping x.1 x.2.1 x.2.2.1 x.2.2.2.1 x.2.2.2.2.1 x.2.2.2.2.2.1 x.2.2.2.2.2.2.1 x.2.2.2.2.2.2.2.1 x.2.2.2.2.2.2.2.2.1 x.2.2.2.2.2.2.2.2.2.1 x.2.2.2.2.2.2.2.2.2.2.1 x.2.2.2.2.2.2.2.2.2.2.2.1 x.2.2.2.2.2.2.2.2.2.2.2.2 = some (x.1, x.2.1, x.2.2.2.2.2.2.2.1, x.2.2.1, x.2.2.2.1, x.2.2.2.2.1, x.2.2.2.2.2.1, x.2.2.2.2.2.2.1, x.2.2.2.2.2.2.2.2.1, x.2.2.2.2.2.2.2.2.2.1, x.2.2.2.2.2.2.2.2.2.2.1, x.2.2.2.2.2.2.2.2.2.2.2.1, x.2.2.2.2.2.2.2.2.2.2.2.2)) : laws_toMappingS a = some a := by
  have hl : a.length ≤ 140737488351232 := len_bound h.2.1 (by omega)
  have key := fun z => loop_fill a id (fun i out => laws_toMappingS_l3 a i out) id (fun out ho => by rw [laws_toMappingS_l3_eq, sif_f (by omega)]; rfl) (fun i x out hx hi ho => by
    rw [laws_toMappingS_l3_eq, sif_t (by omega), idx_some hx, sbind_some, hr x (mem_of_at hx), sbind_some, sif_pos (lt3_ok (by omega) (by omega)), wi64_add1 (by omega)]
    rfl) (List.replicate a.length z) (by simp)
  rw [laws_toMappingS_eq, sif_pos (by rw [le3_ok (by omega) (by omega), room_ok (by omega)]; rfl)]
  exact (key _).trans (by simp)
theorem toVirtual_g (x : K_Virtual) (h : OkA_Virtual x) (h0 : laws_toType x.1.f_Kind x.1.f_Size x.1.f_Signed x.1.f_Big x.1.f_Names x.1.f_Nums x.1.f_Members x.1.f_Base x.1.f_Count = some (x.1.f_Kind, x.1.f_Size, x.1.f_Signed, x.1.f_Big, x.1.f_Count, x.1.f_Names, x.1.f_Nums, x.1.f_Members, x.1.f_Base)) (h1 : laws_toInt64S x.2.1 = some x.2.1) (h3 : laws_toMappingS x.2.2.2 = some x.2.2.2) : laws_toVirtual x.1.f_Kind x.1.f_Size x.1.f_Signed x.1.f_Big x.1.f_Names x.1.f_Nums x.1.f_Members x.1.f_Base x.1.f_Count x.2.1 x.2.2.1 x.2.2.2 = some (x.1.f_Kind, x.1.f_Size, x.1.f_Signed, x.1.f_Big, x.1.f_Count, x.2.2.1, x.1.f_Names, x.1.f_Nums, x.1.f_Members, x.1.f_Base, x.2.1, x.2.2.2) := by
  rw [laws_toVirtual_eq, h0, sbind_some, h1, sbind_some, h3, sbind_some]
theorem toVirtual_a (x : K_Virtual) (h : OkA_Virtual x) : laws_toVirtual x.1.f_Kind x.1.f_Size x.1.f_Signed x.1.f_Big x.1.f_Names x.1.f_Nums x.1.f_Members x.1.f_Base x.1.f_Count x.2.1 x.2.2.1 x.2.2.2 = some (x.1.f_Kind, x.1.f_Size, x.1.f_Signed, x.1.f_Big, x.1.f_Count, x.2.2.1, x.1.f_Names, x.1.f_Nums, x.1.f_Members, x.1.f_Base, x.2.1, x.2.2.2) := (toVirtual_g x h (toType_g x.1 h.1) (toInt64S_g x.2.1 h.2.1) (toMappingS_g x.2.2.2 h.2.2.2 (fun y hy => (toMapping_g y (h.2.2.2.2.2 y hy) (toSelection_g (y.2.1, y.2.2.1, y.2.2.2.1, y.2.2.2.2.1, y.2.2.2.2.2.1, y.2.2.2.2.2.2.1) ⟨(h.2.2.2.2.2 y hy).2.1, (h.2.2.2.2.2 y hy).2.2.1, (h.2.2.2.2.2 y hy).2.2.2.1, (h.2.2.2.2.2 y hy).2.2.2.2.1, (h.2.2.2.2.2 y hy).2.2.2.2.2.1, (h.2.2.2.2.2 y hy).2.2.2.2.2.2.1⟩ (toInt64S_g y.2.2.1 (h.2.2.2.2.2 y hy).2.2.1) (toInt64S_g y.2.2.2.1 (h.2.2.2.2.2 y hy).2.2.2.1) (toInt64S_g y.2.2.2.2.1 (h.2.2.2.2.2 y hy).2.2.2.2.1) (toInt64S_g y.2.2.2.2.2.1 (h.2.2.2.2.2 y hy).2.2.2.2.2.1) (toPointS_g y.2.2.2.2.2.2.1 (h.2.2.2.2.2 y hy).2.2.2.2.2.2.1 (fun y_ hy_ => (toPoint_g y_ ((h.2.2.2.2.2 y hy).2.2.2.2.2.2.1.2.2 y_ hy_) (toInt64S_g y_ ((h.2.2.2.2.2 y hy).2.2.2.2.2.2.1.2.2 y_ hy_)))))) (toSelection_g (y.2.2.2.2.2.2.2.1, y.2.2.2.2.2.2.2.2.1, y.2.2.2.2.2.2.2.2.2.1, y.2.2.2.2.2.2.2.2.2.2.1, y.2.2.2.2.2.2.2.2.2.2.2.1, y.2.2.2.2.2.2.2.2.2.2.2.2) ⟨(h.2.2.2.2.2 y hy).2.2.2.2.2.2.2.1, (h.2.2.2.2.2 y hy).2.2.2.2.2.2.2.2.1, (h.2.2.2.2.2 y hy).2.2.2.2.2.2.2.2.2.1, (h.2.2.2.2.2 y hy).2.2.2.2.2.2.2.2.2.2.1, (h.2.2.2.2.2 y hy).2.2.2.2.2.2.2.2.2.2.2.1, (h.2.2.2.2.2 y hy).2.2.2.2.2.2.2.2.2.2.2.2⟩ (toInt64S_g y.2.2.2.2.2.2.2.2.1 (h.2.2.2.2.2 y hy).2.2.2.2.2.2.2.2.1) (toInt64S_g y.2.2.2.2.2.2.2.2.2.1 (h.2.2.2.2.2 y hy).2.2.2.2.2.2.2.2.2.1) (toInt64S_g y.2.2.2.2.2.2.2.2.2.2.1 (h.2.2.2.2.2 y hy).2.2.2.2.2.2.2.2.2.2.1) (toInt64S_g y.2.2.2.2.2.2.2.2.2.2.2.1 (h.2.2.2.2.2 y hy).2.2.2.2.2.2.2.2.2.2.2.1) (toPointS_g y.2.2.2.2.2.2.2.2.2.2.2.2 (h.2.2.2.2.2 y hy).2.2.2.2.2.2.2.2.2.2.2.2 (fun y_ hy_ => (toPoint_g y_ ((h.2.2.2.2.2 y hy).2.2.2.2.2.2.2.2.2.2.2.2.2.2 y_ hy_) (toInt64S_g y_ ((h.2.2.2.2.2 y hy).2.2.2.2.2.2.2.2.2.2.2.2.2.2 y_ hy_))))))))))
theorem eqStringS_g (a : List ByteArray) (h : a.length ≤ maxLen ∧ a.length * 16 ≤ 140737488351232 ∧ ∀ e_ ∈ a, e_.size ≤ 140737488351232) : laws_eqStringS a a = some true := by
  have hl : a.length ≤ 140737488351232 := len_bound h.2.1 (by omega)
  have key := loop_all a (fun i => laws_eqStringS_l4 a a (i : Int)) (some true) (by rw [laws_eqStringS_l4_eq, sif_f (by omega)]) (fun i x hx hi => by
    rw [laws_eqStringS_l4_eq, sif_t (by omega), idx_some hx, sbind_some, sbind_some, seq_self, Bool.not_true, sif_false, wi64_add1 (by omega)])
  rw [laws_eqStringS_eq, bne_self_eq_false, sif_false]
  exact key
theorem eqStringS_a (a : List ByteArray) (h : a.length ≤ maxLen ∧ a.length * 16 ≤ 140737488351232 ∧ ∀ e_ ∈ a, e_.size ≤ 140737488351232) : laws_eqStringS a a = some true := (eqStringS_g a h)
theorem eqInt64S_g (a : List Int) (h : a.length ≤ maxLen ∧ a.length * 8 ≤ 140737488351232 ∧ ∀ e_ ∈ a, (Lit.int .i64 e_).wf = true) : laws_eqInt64S a a = some true := by
  have hl : a.length ≤ 140737488351232 := len_bound h.2.1 (by omega)
  have key := loop_all a (fun i => laws_eqInt64S_l4 a a (i : Int)) (some true) (by rw [laws_eqInt64S_l4_eq, sif_f (by omega)]) (fun i x hx hi => by
    rw [laws_eqInt64S_l4_eq, sif_t (by omega), idx_some hx, sbind_some, sbind_some, bne_self_eq_false, sif_false, wi64_add1 (by omega)])
  rw [laws_eqInt64S_eq, bne_self_eq_false, sif_false]
  exact key
theorem eqMember_g (x : K_Member) (h : OkA_Member x) (h2 : laws_eqType x.2.2.f_Kind x.2.2.f_Size x.2.2.f_Signed x.2.2.f_Big x.2.2.f_Names x.2.2.f_Nums x.2.2.f_Members x.2.2.f_Base x.2.2.f_Count x.2.2.f_Kind x.2.2.f_Size x.2.2.f_Signed x.2.2.f_Big x.2.2.f_Names x.2.2.f_Nums x.2.2.f_Members x.2.2.f_Base x.2.2.f_Count = some true) : laws_eqMember x.1 x.2.1 x.2.2.f_Kind x.2.2.f_Size x.2.2.f_Signed x.2.2.f_Big x.2.2.f_Names x.2.2.f_Nums x.2.2.f_Members x.2.2.f_Base x.2.2.f_Count x.1 x.2.1 x.2.2.f_Kind x.2.2.f_Size x.2.2.f_Signed x.2.2.f_Big x.2.2.f_Names x.2.2.f_Nums x.2.2.f_Members x.2.2.f_Base x.2.2.f_Count = some true := by
  rw [laws_eqMember_eq, h2, sbind_some]
  simp only [seq_self, bne_self_eq_false, beq_self_eq_true, Bool.not_true, Bool.not_false, sif_false, sif_true]
theorem eqMemberS_g (a : List (ByteArray × Int × Ty_Type)) (h : a.length ≤ maxLen ∧ a.length * 152 ≤ 140737488351232 ∧ ∀ e_ ∈ a, OkA_Member e_) (hr : ∀ x ∈ a, laws_eqMember x.1 x.2.1 x.2.2.f_Kind x.2.2.f_Size x.2.2.f_Signed x.2.2.f_Big x.2.2.f_Names x.2.2.f_Nums x.2.2.f_Members x.2.2.f_Base x.2.2.f_Count x.1 x.2.1 x.2.2.f_Kind x.2.2.f_Size x.2.2.f_Signed x.2.2.f_Big x.2.2.f_Names x.2.2.f_Nums x.2.2.f_Members x.2.2.f_Base x.2.2.f_Count = some true) : laws_eqMemberS a a = some true := by
  have hl : a.length ≤ 140737488351232 := len_bound h.2.1 (by omega)
  have key := loop_all a (fun i => laws_eqMemberS_l4 a a (i : Int)) (some true) (by rw [laws_eqMemberS_l4_eq, sif_f (by omega)]) (fun i x hx hi => by
    rw [laws_eqMemberS_l4_eq, sif_t (by omega), idx_some hx, sbind_some, sbind_some, hr x (mem_of_at hx), sbind_some, Bool.not_true, sif_false, wi64_add1 (by omega)])
  rw [laws_eqMemberS_eq, bne_self_eq_false, sif_false]
  exact key
theorem eqTypeS_g (a : List Ty_Type) (h : a.length ≤ maxLen ∧ a.length * 128 ≤ 140737488351232 ∧ ∀ e_ ∈ a, Ok_Ty_Type e_) (hr : ∀ x ∈ a, laws_eqType x.f_Kind x.f_Size x.f_Signed x.f_Big x.f_Names x.f_Nums x.f_Members x.f_Base x.f_Count x.f_Kind x.f_Size x.f_Signed x.f_Big x.f_Names x.f_Nums x.f_Members x.f_Base x.f_Count = some true) : laws_eqTypeS a a = some true := by
  have hl : a.length ≤ 140737488351232 := len_bound h.2.1 (by omega)
  have key := loop_all a (fun i => laws_eqTypeS_l4 a a (i : Int)) (some true) (by rw [laws_eqTypeS_l4_eq, sif_f (by omega)]) (fun i x hx hi => by
    rw [laws_eqTypeS_l4_eq, sif_t (by omega), idx_some hx, sbind_some, sbind_some, hr x (mem_of_at hx), sbind_some, Bool.not_true, sif_false, wi64_add1 (by omega)])
  rw [laws_eqTypeS_eq, bne_self_eq_false, sif_false]
  exact key
theorem eqType_g (x : Ty_Type) (h : Ok_Ty_Type x) : laws_eqType x.f_Kind x.f_Size x.f_Signed x.f_Big x.f_Names x.f_Nums x.f_Members x.f_Base x.f_Count x.f_Kind x.f_Size x.f_Signed x.f_Big x.f_Names x.f_Nums x.f_Members x.f_Base x.f_Count = some true := by
  revert h
  refine Ty_Type.ind (P := fun x => Ok_Ty_Type x → laws_eqType x.f_Kind x.f_Size x.f_Signed x.f_Big x.f_Names x.f_Nums x.f_Members x.f_Base x.f_Count x.f_Kind x.f_Size x.f_Signed x.f_Big x.f_Names x.f_Nums x.f_Members x.f_Base x.f_Count = some true) ?_ x
  intro x ih_Members ih_Base h
  have h := Ok_Ty_Type.out h
  have g0 := (eqStringS_g x.f_Names h.2.2.2.2.1)
  have g1 := (eqInt64S_g x.f_Nums h.2.2.2.2.2.1)
  have g2 := (eqMemberS_g x.f_Members h.2.2.2.2.2.2.1 (fun y hy => (eqMember_g y (h.2.2.2.2.2.2.1.2.2 y hy) (ih_Members y hy (h.2.2.2.2.2.2.1.2.2 y hy).2.2))))
  have g3 := (eqTypeS_g x.f_Base h.2.2.2.2.2.2.2.1 (fun y hy => (ih_Base y hy (h.2.2.2.2.2.2.2.1.2.2 y hy))))
  rw [laws_eqType_eq, g0, sbind_some, g1, sbind_some, g2, sbind_some, g3, sbind_some]
  simp only [seq_self, bne_self_eq_false, beq_self_eq_true, Bool.not_true, Bool.not_false, sif_false, sif_true]
theorem eqPoint_g (x : K_Point) (h : OkA_Point x) (h0 : laws_eqInt64S x x = some true) : laws_eqPoint x x = some true := by
  rw [laws_eqPoint_eq, h0, sbind_some]
  simp only [seq_self, bne_self_eq_false, beq_self_eq_true, Bool.not_true, Bool.not_false, sif_false, sif_true]
theorem eqPointS_g (a : List (List Int)) (h : a.length ≤ maxLen ∧ a.length * 24 ≤ 140737488351232 ∧ ∀ e_ ∈ a, OkA_Point e_) (hr : ∀ x ∈ a, laws_eqPoint x x = some true) : laws_eqPointS a a = some true := by
  have hl : a.length ≤ 140737488351232 := len_bound h.2.1 (by omega)
  have key := loop_all a (fun i => laws_eqPointS_l4 a a (i : Int)) (some true) (by rw [laws_eqPointS_l4_eq, sif_f (by omega)]) (fun i x hx hi => by
    rw [laws_eqPointS_l4_eq, sif_t (by omega), idx_some hx, sbind_some, sbind_some, hr x (mem_of_at hx), sbind_some, Bool.not_true, sif_false, wi64_add1 (by omega)])
  rw [laws_eqPointS_eq, bne_self_eq_false, sif_false]
  exact key
theorem eqSelection_g (x : K_Selection) (h : OkA_Selection x) (h1 : laws_eqInt64S x.2.1 x.2.1 = some true) (h2 : laws_eqInt64S x.2.2.1 x.2.2.1 = some true) (h3 : laws_eqInt64S x.2.2.2.1 x.2.2.2.1 = some true) (h4 : laws_eqInt64S x.2.2.2.2.1 x.2.2.2.2.1 = some true) (h5 : laws_eqPointS x.2.2.2.2.2 x.2.2.2.2.2 = some true) : laws_eqSelection x.1 x.2.1 x.2.2.1 x.2.2.2.1 x.2.2.2.2.1 x.2.2.2.2.2 x.1 x.2.1 x.2.2.1 x.2.2.2.1 x.2.2.2.2.1 x.2.2.2.2.2 = some true := by
  rw [laws_eqSelection_eq, h1, sbind_some, h2, sbind_some, h3, sbind_some, h4, sbind_some, h5, sbind_some]
  simp only [seq_self, bne_self_eq_false, beq_self_eq_true, Bool.not_true, Bool.not_false, sif_false, sif_true]
theorem eqMapping_g (x : K_Mapping) (h : OkA_Mapping x) (h1 : laws_eqSelection x.2.1 x.2.2.1 x.2.2.2.1 x.2.2.2.2.1 x.2.2.2.2.2.1 x.2.2.2.2.2.2.1 x.2.1 x.2.2.1 x.2.2.2.1 x.2.2.2.2.1 x.2.2.2.2.2.1 x.2.2.2.2.2.2.1 = some true) (h2 : laws_eqSelection x.2.2.2.2.2.2.2.1 x.2.2.2.2.2.2.2.2.1 x.2.2.2.2.2.2.2.2.2.1 x.2.2.2.2.2.2.2.2.2.2.1 x.2.2.2.2.2.2.2.2.2.2.2.1 x.2.2.2.2.2.2.2.2.2.2.2.2 x.2.2.2.2.2.2.2.1 x.2.2.2.2.2.2.2.2.1 x.2.2.2.2.2.2.2.2.2.1 x.2.2.2.2.2.2.2.2.2.2.1 x.2.2.2.2.2.2.2.2.2.2.2.1 x.2.2.2.2.2.2.2.2.2.2.2.2 = some true) : laws_eqMapping x.1 x.2.1 x.2.2.1 x.2.2.2.1 x.2.2.2.2.1 x.2.2.2.2.2.1 x.2.2.2.2.2.2.1 x.2.2.2.2.2.2.2.1 x.2.2.2.2.2.2.2.2.1 x.2.2.2.2.2.2.2.2.2.1 x.2.2.2.2.2.2.2.2.2.2.1 x.2.2.2.2.2.2.2.2.2.2.2.1 x.2.2.2.2.2.2.2.2.2.2.2.2 x.1 x.2.1 x.2.2.1 x.2.2.2.1 x.2.2.2.2.1 x.2.2.2.2.2.1 x.2.2.2.2.2.2.1 x.2.2.2.2.2.2.2.1 x.2.2.2.2.2.2.2.2.1 x.2.2.2.2.2.2.2.2.2.1 x.2.2.2.2.2.2.2.2.2.2.1 x.2.2.2.2.2.2.2.2.2.2.2.1 x.2.2.2.2.2.2.2.2.2.2.2.2 = some true := by
  rw [laws_eqMapping_eq, h1, sbind_some, h2, sbind_some]
  simp only [seq_self, bne_self_eq_false, beq_self_eq_true, Bool.not_true, Bool.not_false, sif_false, sif_true]
theorem eqMappingS_g (a : List (ByteArray × Int × List Int × List Int × List Int × List Int × List (List Int) × Int × List Int × List Int × List Int × List Int × List (List Int))) (h : a.length ≤ maxLen ∧ a.length * 272 ≤ 140737488351232 ∧ ∀ e_ ∈ a, OkA_Mapping e_) (hr : ∀ x ∈ a, laws_eqMapping x.1 x.2.1 x.2.2.1 x.2.2.2.1 x.2.2.2.2.1 x.2.2.2.2.2.1 x.2.2.2.2.2.2.1 x.2.2.2.2.2.2.2.1 x.2.2.2.2.2.2.2.2.1 x.2.2.2.2.2.2.2.2.2.1 x.2.2.2.2.2.2.2.2.2.2.1 x.2.2.2.2.2.2.2.2.2.2.2.1 x.2.2.2.2.2.2.2.2.2.2.2.2 x.1 x.2.1 x.2.2.1 x.2.2.2.1 x.2.2.2.2.1 x.2.2.2.2.2.1 x.2.2.2.2.2.2.1 x.2.2.2.2.2.2.2.1 x.2.2.2.2.2.2.2.2.1 x.2.2.2.2.2.2.2.2.2.1 x.2.2.2.2.2.2.2.2.2.2.1 x.2.2.2.2.2.2.2.2.2.2.2.1 x.2.2.2.2.2.2.2.2.2.2.2.2 = some true) : laws_eqMappingS a a = some true := by
  have hl : a.length ≤ 140737488351232 := len_bound h.2.1 (by omega)
  have key := loop_all a (fun i => laws_eqMappingS_l4 a a (i : Int)) (some true) (by rw [laws_eqMappingS_l4_eq, sif_f (by omega)]) (fun i x hx hi => by
    rw [laws_eqMappingS_l4_eq, sif_t (by omega), idx_some hx, sbind_some, sbind_some, hr x (mem_of_at hx), sbind_some, Bool.not_true, sif_false, wi64_add1 (by omega)])
  rw [laws_eqMappingS_eq, bne_self_eq_false, sif_false]
  exact key
theorem eqVirtual_g (x : K_Virtual) (h : OkA_Virtual x) (h0 : laws_eqType x.1.f_Kind x.1.f_Size x.1.f_Signed x.1.f_Big x.1.f_Names x.1.f_Nums x.1.f_Members x.1.f_Base x.1.f_Count x.1.f_Kind x.1.f_Size x.1.f_Signed x.1.f_Big x.1.f_Names x.1.f_Nums x.1.f_Members x.1.f_Base x.1.f_Count = some true) (h1 : laws_eqInt64S x.2.1 x.2.1 = some true) (h3 : laws_eqMappingS x.2.2.2 x.2.2.2 = some true) : laws_eqVirtual x.1.f_Kind x.1.f_Size x.1.f_Signed x.1.f_Big x.1.f_Names x.1.f_Nums x.1.f_Members x.1.f_Base x.1.f_Count x.2.1 x.2.2.1 x.2.2.2 x.1.f_Kind x.1.f_Size x.1.f_Signed x.1.f_Big x.1.f_Names x.1.f_Nums x.1.f_Members x.1.f_Base x.1.f_Count x.2.1 x.2.2.1 x.2.2.2 = some true := by
  rw [laws_eqVirtual_eq, h0, sbind_some, h1, sbind_some, h3, sbind_some]
  simp only [seq_self, bne_self_eq_false, beq_self_eq_true, Bool.not_true, Bool.not_false, sif_false, sif_true]
theorem eqVirtual_a (x : K_Virtual) (h : OkA_Virtual x) : laws_eqVirtual x.1.f_Kind x.1.f_Size x.1.f_Signed x.1.f_Big x.1.f_Names x.1.f_Nums x.1.f_Members x.1.f_Base x.1.f_Count x.2.1 x.2.2.1 x.2.2.2 x.1.f_Kind x.1.f_Size x.1.f_Signed x.1.f_Big x.1.f_Names x.1.f_Nums x.1.f_Members x.1.f_Base x.1.f_Count x.2.1 x.2.2.1 x.2.2.2 = some true := (eqVirtual_g x h (eqType_g x.1 h.1) (eqInt64S_g x.2.1 h.2.1) (eqMappingS_g x.2.2.2 h.2.2.2 (fun y hy => (eqMapping_g y (h.2.2.2.2.2 y hy) (eqSelection_g (y.2.1, y.2.2.1, y.2.2.2.1, y.2.2.2.2.1, y.2.2.2.2.2.1, y.2.2.2.2.2.2.1) ⟨(h.2.2.2.2.2 y hy).2.1, (h.2.2.2.2.2 y hy).2.2.1, (h.2.2.2.2.2 y hy).2.2.2.1, (h.2.2.2.2.2 y hy).2.2.2.2.1, (h.2.2.2.2.2 y hy).2.2.2.2.2.1, (h.2.2.2.2.2 y hy).2.2.2.2.2.2.1⟩ (eqInt64S_g y.2.2.1 (h.2.2.2.2.2 y hy).2.2.1) (eqInt64S_g y.2.2.2.1 (h.2.2.2.2.2 y hy).2.2.2.1) (eqInt64S_g y.2.2.2.2.1 (h.2.2.2.2.2 y hy).2.2.2.2.1) (eqInt64S_g y.2.2.2.2.2.1 (h.2.2.2.2.2 y hy).2.2.2.2.2.1) (eqPointS_g y.2.2.2.2.2.2.1 (h.2.2.2.2.2 y hy).2.2.2.2.2.2.1 (fun y_ hy_ => (eqPoint_g y_ ((h.2.2.2.2.2 y hy).2.2.2.2.2.2.1.2.2 y_ hy_) (eqInt64S_g y_ ((h.2.2.2.2.2 y hy).2.2.2.2.2.2.1.2.2 y_ hy_)))))) (eqSelection_g (y.2.2.2.2.2.2.2.1, y.2.2.2.2.2.2.2.2.1, y.2.2.2.2.2.2.2.2.2.1, y.2.2.2.2.2.2.2.2.2.2.1, y.2.2.2.2.2.2.2.2.2.2.2.1, y.2.2.2.2.2.2.2.2.2.2.2.2) ⟨(h.2.2.2.2.2 y hy).2.2.2.2.2.2.2.1, (h.2.2.2.2.2 y hy).2.2.2.2.2.2.2.2.1, (h.2.2.2.2.2 y hy).2.2.2.2.2.2.2.2.2.1, (h.2.2.2.2.2 y hy).2.2.2.2.2.2.2.2.2.2.1, (h.2.2.2.2.2 y hy).2.2.2.2.2.2.2.2.2.2.2.1, (h.2.2.2.2.2 y hy).2.2.2.2.2.2.2.2.2.2.2.2⟩ (eqInt64S_g y.2.2.2.2.2.2.2.2.1 (h.2.2.2.2.2 y hy).2.2.2.2.2.2.2.2.1) (eqInt64S_g y.2.2.2.2.2.2.2.2.2.1 (h.2.2.2.2.2 y hy).2.2.2.2.2.2.2.2.2.1) (eqInt64S_g y.2.2.2.2.2.2.2.2.2.2.1 (h.2.2.2.2.2 y hy).2.2.2.2.2.2.2.2.2.2.1) (eqInt64S_g y.2.2.2.2.2.2.2.2.2.2.2.1 (h.2.2.2.2.2 y hy).2.2.2.2.2.2.2.2.2.2.2.1) (eqPointS_g y.2.2.2.2.2.2.2.2.2.2.2.2 (h.2.2.2.2.2 y hy).2.2.2.2.2.2.2.2.2.2.2.2 (fun y_ hy_ => (eqPoint_g y_ ((h.2.2.2.2.2 y hy).2.2.2.2.2.2.2.2.2.2.2.2.2.2 y_ hy_) (eqInt64S_g y_ ((h.2.2.2.2.2 y hy).2.2.2.2.2.2.2.2.2.2.2.2.2.2 y_ hy_))))))))))
/-! marks -/
theorem markText_loop : ∀ (n : Nat) (k : Int) (out : ByteArray), k.toNat ≤ n → 0 ≤ k → k ≤ 9000000000000000000 → out.size + n ≤ 9000000000000000000 → ∃ r, laws_markText_l4 k out = some r := by
  intro n
  induction n with
  | zero =>
    intro k out h1 h2 h3 h4
    rw [laws_markText_l4_eq, sif_f (by omega), sif_pos (joins_ok (by rw [bs_size]; simp; omega))]
    exact ⟨_, rfl⟩
  | succ n ih =>
    intro k out h1 h2 h3 h4
    rw [laws_markText_l4_eq]
    by_cases c : k > 0
    · rw [sif_t c, sif_pos (joins_ok (by rw [toB_size]; simp; omega)), Int.tdiv_eq_ediv_of_nonneg h2, wi64_id (n := k / 10) (by omega) (by omega)]
      exact ih _ _ (by omega) (by omega) (by omega) (by rw [ByteArray.size_append, toB_size]; simp; omega)
    · rw [sif_f c, sif_pos (joins_ok (by rw [bs_size]; simp; omega))]
      exact ⟨_, rfl⟩
noncomputable def mt (k : Int) : ByteArray := (laws_markText k).getD (bs [])
theorem mt_some {k : Int} (h0 : 0 ≤ k) (h1 : k ≤ 4000000000000000000) : laws_markText k = some (mt k) := by
  have : ∃ r, laws_markText k = some r := by
    rw [laws_markText_eq]
    by_cases c : k ≤ 0
    · rw [sif_t c]; exact ⟨_, rfl⟩
    · rw [sif_f c]; exact markText_loop k.toNat k _ (Nat.le_refl _) (by omega) (by omega) (by rw [bs_size]; simp; omega)
  obtain ⟨r, hr⟩ := this
  unfold mt
  rw [hr]; rfl
theorem Ty_Type.e_Kind (a0 : Int) (a1 : Int) (a2 : Bool) (a3 : Bool) (a4 : List ByteArray) (a5 : List Int) (a6 : List (ByteArray × Int × Ty_Type)) (a7 : List Ty_Type) (a8 : Int) : (Ty_Type.mk a0 a1 a2 a3 a4 a5 a6 a7 a8).f_Kind = a0 := rfl
theorem Ty_Type.e_Size (a0 : Int) (a1 : Int) (a2 : Bool) (a3 : Bool) (a4 : List ByteArray) (a5 : List Int) (a6 : List (ByteArray × Int × Ty_Type)) (a7 : List Ty_Type) (a8 : Int) : (Ty_Type.mk a0 a1 a2 a3 a4 a5 a6 a7 a8).f_Size = a1 := rfl
theorem Ty_Type.e_Signed (a0 : Int) (a1 : Int) (a2 : Bool) (a3 : Bool) (a4 : List ByteArray) (a5 : List Int) (a6 : List (ByteArray × Int × Ty_Type)) (a7 : List Ty_Type) (a8 : Int) : (Ty_Type.mk a0 a1 a2 a3 a4 a5 a6 a7 a8).f_Signed = a2 := rfl
theorem Ty_Type.e_Big (a0 : Int) (a1 : Int) (a2 : Bool) (a3 : Bool) (a4 : List ByteArray) (a5 : List Int) (a6 : List (ByteArray × Int × Ty_Type)) (a7 : List Ty_Type) (a8 : Int) : (Ty_Type.mk a0 a1 a2 a3 a4 a5 a6 a7 a8).f_Big = a3 := rfl
theorem Ty_Type.e_Names (a0 : Int) (a1 : Int) (a2 : Bool) (a3 : Bool) (a4 : List ByteArray) (a5 : List Int) (a6 : List (ByteArray × Int × Ty_Type)) (a7 : List Ty_Type) (a8 : Int) : (Ty_Type.mk a0 a1 a2 a3 a4 a5 a6 a7 a8).f_Names = a4 := rfl
theorem Ty_Type.e_Nums (a0 : Int) (a1 : Int) (a2 : Bool) (a3 : Bool) (a4 : List ByteArray) (a5 : List Int) (a6 : List (ByteArray × Int × Ty_Type)) (a7 : List Ty_Type) (a8 : Int) : (Ty_Type.mk a0 a1 a2 a3 a4 a5 a6 a7 a8).f_Nums = a5 := rfl
theorem Ty_Type.e_Members (a0 : Int) (a1 : Int) (a2 : Bool) (a3 : Bool) (a4 : List ByteArray) (a5 : List Int) (a6 : List (ByteArray × Int × Ty_Type)) (a7 : List Ty_Type) (a8 : Int) : (Ty_Type.mk a0 a1 a2 a3 a4 a5 a6 a7 a8).f_Members = a6 := rfl
theorem Ty_Type.e_Base (a0 : Int) (a1 : Int) (a2 : Bool) (a3 : Bool) (a4 : List ByteArray) (a5 : List Int) (a6 : List (ByteArray × Int × Ty_Type)) (a7 : List Ty_Type) (a8 : Int) : (Ty_Type.mk a0 a1 a2 a3 a4 a5 a6 a7 a8).f_Base = a7 := rfl
theorem Ty_Type.e_Count (a0 : Int) (a1 : Int) (a2 : Bool) (a3 : Bool) (a4 : List ByteArray) (a5 : List Int) (a6 : List (ByteArray × Int × Ty_Type)) (a7 : List Ty_Type) (a8 : Int) : (Ty_Type.mk a0 a1 a2 a3 a4 a5 a6 a7 a8).f_Count = a8 := rfl
def Mk_Ty_Type (x : Ty_Type) : Prop := (MkP (fun k => laws_markStringS_v k x.f_Names) (fun y k K => laws_heldStringS y k = some K) (fun s => laws_szStringS x.f_Names s)) ∧ (MkP (fun k => laws_markInt64S_v k x.f_Nums) (fun _ _ _ => True) (fun s => laws_szInt64S x.f_Nums s)) ∧ (MkP (fun k => laws_markMemberS_t k x.f_Members) (fun _ _ _ => True) (fun s => laws_szMemberS x.f_Members s)) ∧ (MkP (fun k => laws_markTypeS_t k x.f_Base) (fun _ _ _ => True) (fun s => laws_szTypeS x.f_Base s))
theorem mkFStringS (a : List ByteArray) (hl : a.length ≤ 140737488351232) : ∃ c : Nat, c ≤ 64 * a.length ∧ ∀ k : Int, 0 ≤ k → k + c ≤ 1000000000000 → ∃ y, laws_markStringS_v k a = some (k + c, y) ∧ y.length = a.length ∧ (fun y k K => laws_heldStringS y k = some K) y k (k + c) := by
  refine Exists.elim (mk_rows a (fun k i l => laws_markStringS_v_l2 k i l) (fun l i k K => laws_heldStringS_l2 l k (i : Int) = some K) (fun s i => some s) (fun k l hl => by rw [laws_markStringS_v_l2_eq, sif_f (by omega)]) (fun l k hl => by show laws_heldStringS_l2 l k (l.length : Int) = some k; rw [laws_heldStringS_l2_eq, sif_f (by omega)]) (fun _ => rfl) (fun i x hx hi => ?_)) (fun c hc => ?_)
  · skip
    refine ⟨1, fun k l h0 hk hl hlx => ?_, fun s r h0 h1 hz hr => ?_⟩
    · have hi2 : i < l.length := by omega
      have ei := wi64_add1 (n := i) (by omega)
      have lt : lt3 0 (i : Int) (l.length : Int) = true := lt3_ok (by omega) (by omega)
      have t0 := mt_some (k := k) (by omega) (by omega)
      have e0 : wi64 (k + 1) = k + 1 := wi64_id (by omega) (by omega)
      have ek : k + ((1 : Nat) : Int) = k + 1 := by omega
      refine ⟨mt (k), ?_, ?_⟩
      · rw [ek, laws_markStringS_v_l2_eq, sif_t (by omega)]
        simp only [Int.toNat_natCast, slet_eq, List.length_set, lt, sif_true, hlx, sbind_some, List.getElem?_set_self hi2, List.set_set, t0, e0, ei]
      · intro l2 K hl2 hy hR
        show laws_heldStringS_l2 l2 k i = some K
        rw [ek] at hR
        rw [laws_heldStringS_l2_eq, sif_t (by omega), idx_some hy]
        simp only [sbind_some, bne_self_eq_false, beq_self_eq_true, seq_self, Bool.not_true, sif_false, t0, e0, ei]
        exact hR
    · exact ⟨s, h0, Int.le_refl _, hz, by omega⟩
  · obtain ⟨h1, h2⟩ := hc
    have h2 := (h2 0 0 (by omega) (by omega) rfl (by omega)).2
    refine ⟨c, by omega, fun k h0 hk => ?_⟩
    obtain ⟨y, e, hl2, hR⟩ := h1 k h0 hk
    rw [laws_markStringS_v_eq]
    refine ⟨y, e, hl2, ?_⟩
    show laws_heldStringS y k = _
    rw [laws_heldStringS_eq]
    exact hR
theorem mkSStringS_g (a : List ByteArray) (h : a.length ≤ maxLen ∧ a.length * 16 ≤ 140737488351232 ∧ ∀ e_ ∈ a, e_.size ≤ 140737488351232) : MkP (fun k => laws_markStringS_v k a) (fun y k K => laws_heldStringS y k = some K) (fun s => laws_szStringS a s) := by
  have hl : a.length ≤ 140737488351232 := len_bound h.2.1 (by omega)
  refine Exists.elim (mk_rows a (fun k i l => laws_markStringS_v_l2 k i l) (fun l i k K => laws_heldStringS_l2 l k (i : Int) = some K) (fun s i => laws_szStringS_l5 a s i) (fun k l hl => by rw [laws_markStringS_v_l2_eq, sif_f (by omega)]) (fun l k hl => by show laws_heldStringS_l2 l k (l.length : Int) = some k; rw [laws_heldStringS_l2_eq, sif_f (by omega)]) (fun s => by rw [laws_szStringS_l5_eq, sif_f (by omega)]) (fun i x hx hi => ?_)) (fun c hc => ?_)
  · skip
    refine ⟨1, fun k l h0 hk hl hlx => ?_, fun s r h0 h1 hz hr => ?_⟩
    · have hi2 : i < l.length := by omega
      have ei := wi64_add1 (n := i) (by omega)
      have lt : lt3 0 (i : Int) (l.length : Int) = true := lt3_ok (by omega) (by omega)
      have t0 := mt_some (k := k) (by omega) (by omega)
      have e0 : wi64 (k + 1) = k + 1 := wi64_id (by omega) (by omega)
      have ek : k + ((1 : Nat) : Int) = k + 1 := by omega
      refine ⟨mt (k), ?_, ?_⟩
      · rw [ek, laws_markStringS_v_l2_eq, sif_t (by omega)]
        simp only [Int.toNat_natCast, slet_eq, List.length_set, lt, sif_true, hlx, sbind_some, List.getElem?_set_self hi2, List.set_set, t0, e0, ei]
      · intro l2 K hl2 hy hR
        show laws_heldStringS_l2 l2 k i = some K
        rw [ek] at hR
        rw [laws_heldStringS_l2_eq, sif_t (by omega), idx_some hy]
        simp only [sbind_some, bne_self_eq_false, beq_self_eq_true, seq_self, Bool.not_true, sif_false, t0, e0, ei]
        exact hR
    · rw [laws_szStringS_l5_eq, sif_t (by omega), idx_some hx, sbind_some, wi64_add1 (by omega)] at hz
      have w : x.size ≤ 140737488351232 := h.2.2 x (mem_of_at hx)
      obtain ⟨g, hz⟩ := inv_neg hz hr
      rw [wi64_id (by omega) (by omega)] at g hz
      exact ⟨_, g, by omega, hz, by omega⟩
  · obtain ⟨h1, h2⟩ := hc
    refine ⟨c, fun k h0 hk => ?_, fun s r h0 h1 hz hr => ?_⟩
    · obtain ⟨y, e, hl2, hR⟩ := h1 k h0 hk
      show ∃ y, laws_markStringS_v k a = _ ∧ _
      rw [laws_markStringS_v_eq]
      refine ⟨y, e, ?_⟩
      show laws_heldStringS y k = _
      rw [laws_heldStringS_eq]
      exact hR
    · have hz : laws_szStringS a s = some r := hz
      rw [laws_szStringS_eq] at hz
      obtain ⟨g, hz⟩ := inv_neg hz hr
      rw [wi64_id (by omega) (by omega)] at g hz
      have := h2 _ r g (by omega) hz hr
      omega
theorem mkSInt64S_g (a : List Int) (h : a.length ≤ maxLen ∧ a.length * 8 ≤ 140737488351232 ∧ ∀ e_ ∈ a, (Lit.int .i64 e_).wf = true) : MkP (fun k => laws_markInt64S_v k a) (fun _ _ _ => True) (fun s => laws_szInt64S a s) := by
  have hl : a.length ≤ 140737488351232 := len_bound h.2.1 (by omega)
  refine Exists.elim (mk_rows a (fun k i l => laws_markInt64S_v_l2 k i l) (fun _ _ _ _ => True) (fun s i => some s) (fun k l hl => by rw [laws_markInt64S_v_l2_eq, sif_f (by omega)]) (fun _ _ _ => trivial) (fun _ => rfl) (fun i x hx hi => ?_)) (fun c hc => ?_)
  · skip
    refine ⟨1, fun k l h0 hk hl hlx => ?_, fun s r h0 h1 hz hr => ?_⟩
    · have hi2 : i < l.length := by omega
      have ei := wi64_add1 (n := i) (by omega)
      have lt : lt3 0 (i : Int) (l.length : Int) = true := lt3_ok (by omega) (by omega)
      have e0 : wi64 (k + 1) = k + 1 := wi64_id (by omega) (by omega)
      have ek : k + ((1 : Nat) : Int) = k + 1 := by omega
      refine ⟨k, ?_, fun _ _ _ _ _ => trivial⟩
      · rw [ek, laws_markInt64S_v_l2_eq, sif_t (by omega)]
        simp only [Int.toNat_natCast, slet_eq, List.length_set, lt, sif_true, hlx, sbind_some, List.getElem?_set_self hi2, List.set_set, e0, ei]
    · exact ⟨s, h0, Int.le_refl _, hz, by omega⟩
  · obtain ⟨h1, h2⟩ := hc
    refine ⟨c, fun k h0 hk => ?_, fun s r h0 h1 hz hr => ?_⟩
    · obtain ⟨y, e, hl2, hR⟩ := h1 k h0 hk
      show ∃ y, laws_markInt64S_v k a = _ ∧ _
      rw [laws_markInt64S_v_eq]
      refine ⟨y, e, ?_⟩
      trivial
    · have hz : laws_szInt64S a s = some r := hz
      rw [laws_szInt64S_eq] at hz
      obtain ⟨g, hz⟩ := inv_neg hz hr
      rw [wi64_id (by omega) (by omega)] at g hz
      have := h2 _ r g (by omega) hz hr
      omega
theorem mkSMemberS_g (a : List (ByteArray × Int × Ty_Type)) (h : a.length ≤ maxLen ∧ a.length * 152 ≤ 140737488351232 ∧ ∀ e_ ∈ a, OkA_Member e_) (hT : ∀ x ∈ a, Mk_Ty_Type x.2.2) : MkP (fun k => laws_markMemberS_t k a) (fun _ _ _ => True) (fun s => laws_szMemberS a s) := by
  have hl : a.length ≤ 140737488351232 := len_bound h.2.1 (by omega)
  refine Exists.elim (mk_rows a (fun k i l => laws_markMemberS_t_l2 k i l) (fun _ _ _ _ => True) (fun s i => laws_szMemberS_l5 a s i) (fun k l hl => by rw [laws_markMemberS_t_l2_eq, sif_f (by omega)]) (fun _ _ _ => trivial) (fun s => by rw [laws_szMemberS_l5_eq, sif_f (by omega)]) (fun i x hx hi => ?_)) (fun c hc => ?_)
  · have hT := hT x (mem_of_at hx)
    obtain ⟨c1, m1, z1⟩ := hT.1
    obtain ⟨c2, m2, z2⟩ := hT.2.1
    obtain ⟨c3, m3, z3⟩ := hT.2.2.1
    obtain ⟨c4, m4, z4⟩ := hT.2.2.2
    refine ⟨7 + c1 + c2 + c3 + c4, fun k l h0 hk hl hlx => ?_, fun s r h0 h1 hz hr => ?_⟩
    · have hi2 : i < l.length := by omega
      have ei := wi64_add1 (n := i) (by omega)
      have lt : lt3 0 (i : Int) (l.length : Int) = true := lt3_ok (by omega) (by omega)
      have t0 := mt_some (k := k) (by omega) (by omega)
      have e0 : wi64 (k + 1) = k + 1 := wi64_id (by omega) (by omega)
      have e1 : wi64 (k + 1 + 1) = k + 1 + 1 := wi64_id (by omega) (by omega)
      have e2 : wi64 (k + 1 + 1 + 1) = k + 1 + 1 + 1 := wi64_id (by omega) (by omega)
      have e3 : wi64 (k + 1 + 1 + 1 + 1) = k + 1 + 1 + 1 + 1 := wi64_id (by omega) (by omega)
      have e4 : wi64 (k + 1 + 1 + 1 + 1 + 1) = k + 1 + 1 + 1 + 1 + 1 := wi64_id (by omega) (by omega)
      have e5 : wi64 (k + 1 + 1 + 1 + 1 + 1 + 1) = k + 1 + 1 + 1 + 1 + 1 + 1 := wi64_id (by omega) (by omega)
      obtain ⟨y1, p1, s1⟩ := m1 (k + 1 + 1 + 1 + 1 + 1 + 1) (by omega) (by omega)
      have d1 : decide (k + 1 + 1 + 1 + 1 + 1 + 1 + c1 < 0) = false := decide_eq_false (by omega)
      obtain ⟨y2, p2, s2⟩ := m2 (k + 1 + 1 + 1 + 1 + 1 + 1 + c1) (by omega) (by omega)
      obtain ⟨y3, p3, s3⟩ := m3 (k + 1 + 1 + 1 + 1 + 1 + 1 + c1 + c2) (by omega) (by omega)
      obtain ⟨y4, p4, s4⟩ := m4 (k + 1 + 1 + 1 + 1 + 1 + 1 + c1 + c2 + c3) (by omega) (by omega)
      have e6 : wi64 (k + 1 + 1 + 1 + 1 + 1 + 1 + c1 + c2 + c3 + c4 + 1) = k + 1 + 1 + 1 + 1 + 1 + 1 + c1 + c2 + c3 + c4 + 1 := wi64_id (by omega) (by omega)
      have ek : k + ((7 + c1 + c2 + c3 + c4 : Nat) : Int) = k + 1 + 1 + 1 + 1 + 1 + 1 + c1 + c2 + c3 + c4 + 1 := by omega
      refine ⟨(mt (k), k + 1, (Ty_Type.mk (k + 1 + 1) (k + 1 + 1 + 1) (Int.tmod (k + 1 + 1 + 1 + 1) 3 == 0) (Int.tmod (k + 1 + 1 + 1 + 1 + 1) 3 == 0) y1 y2 y3 y4 (k + 1 + 1 + 1 + 1 + 1 + 1 + c1 + c2 + c3 + c4))), ?_, fun _ _ _ _ _ => trivial⟩
      · rw [ek, laws_markMemberS_t_l2_eq, sif_t (by omega)]
        simp only [Int.toNat_natCast, slet_eq, List.length_set, lt, sif_true, hlx, sbind_some, List.getElem?_set_self hi2, List.set_set, t0, e0, e1, e2, e3, e4, e5, p1, p2, p3, p4, e6, ei, Ty_Type.e_Kind, Ty_Type.e_Size, Ty_Type.e_Signed, Ty_Type.e_Big, Ty_Type.e_Names, Ty_Type.e_Nums, Ty_Type.e_Members, Ty_Type.e_Base, Ty_Type.e_Count]
    · rw [laws_szMemberS_l5_eq, sif_t (by omega), idx_some hx, sbind_some, wi64_add1 (by omega)] at hz
      obtain ⟨s2, q, hz⟩ := inv_bind hz
      obtain ⟨g, hz⟩ := inv_neg hz hr
      rw [laws_szMember_eq] at q
      have w1 : _ ≤ 140737488351232 := (h.2.2 x (mem_of_at hx)).1
      obtain ⟨g1, q⟩ := inv_neg q g
      rw [wi64_id (by omega) (by omega)] at g1 q
      obtain ⟨r2, q2, q⟩ := inv_bind q
      obtain ⟨g2, q⟩ := inv_neg q g
      rw [laws_szType_eq] at q2
      obtain ⟨r3, q3, q2⟩ := inv_bind q2
      obtain ⟨g3, q2⟩ := inv_neg q2 g2
      have u4 := z1 _ _ (by omega) (by omega) q3 g3
      obtain ⟨r5, q5, q2⟩ := inv_bind q2
      obtain ⟨g5, q2⟩ := inv_neg q2 g2
      have u6 := z2 _ _ (by omega) (by omega) q5 g5
      obtain ⟨r7, q7, q2⟩ := inv_bind q2
      obtain ⟨g7, q2⟩ := inv_neg q2 g2
      have u8 := z3 _ _ (by omega) (by omega) q7 g7
      obtain ⟨r9, q9, q2⟩ := inv_bind q2
      obtain ⟨g9, q2⟩ := inv_neg q2 g2
      have u10 := z4 _ _ (by omega) (by omega) q9 g9
      injection q2 with q2
      injection q with q
      exact ⟨s2, g, by omega, hz, by omega⟩
  · obtain ⟨h1, h2⟩ := hc
    refine ⟨c, fun k h0 hk => ?_, fun s r h0 h1 hz hr => ?_⟩
    · obtain ⟨y, e, hl2, hR⟩ := h1 k h0 hk
      show ∃ y, laws_markMemberS_t k a = _ ∧ _
      rw [laws_markMemberS_t_eq]
      refine ⟨y, e, ?_⟩
      trivial
    · have hz : laws_szMemberS a s = some r := hz
      rw [laws_szMemberS_eq] at hz
      obtain ⟨g, hz⟩ := inv_neg hz hr
      rw [wi64_id (by omega) (by omega)] at g hz
      have := h2 _ r g (by omega) hz hr
      omega
theorem mkSTypeS_g (a : List Ty_Type) (h : a.length ≤ maxLen ∧ a.length * 128 ≤ 140737488351232 ∧ ∀ e_ ∈ a, Ok_Ty_Type e_) (hT : ∀ x ∈ a, Mk_Ty_Type x) : MkP (fun k => laws_markTypeS_t k a) (fun _ _ _ => True) (fun s => laws_szTypeS a s) := by
  have hl : a.length ≤ 140737488351232 := len_bound h.2.1 (by omega)
  refine Exists.elim (mk_rows a (fun k i l => laws_markTypeS_t_l2 k i l) (fun _ _ _ _ => True) (fun s i => laws_szTypeS_l5 a s i) (fun k l hl => by rw [laws_markTypeS_t_l2_eq, sif_f (by omega)]) (fun _ _ _ => trivial) (fun s => by rw [laws_szTypeS_l5_eq, sif_f (by omega)]) (fun i x hx hi => ?_)) (fun c hc => ?_)
  · have hT := hT x (mem_of_at hx)
    obtain ⟨c1, m1, z1⟩ := hT.1
    obtain ⟨c2, m2, z2⟩ := hT.2.1
    obtain ⟨c3, m3, z3⟩ := hT.2.2.1
    obtain ⟨c4, m4, z4⟩ := hT.2.2.2
    refine ⟨5 + c1 + c2 + c3 + c4, fun k l h0 hk hl hlx => ?_, fun s r h0 h1 hz hr => ?_⟩
    · have hi2 : i < l.length := by omega
      have ei := wi64_add1 (n := i) (by omega)
      have lt : lt3 0 (i : Int) (l.length : Int) = true := lt3_ok (by omega) (by omega)
      have e0 : wi64 (k + 1) = k + 1 := wi64_id (by omega) (by omega)
      have e1 : wi64 (k + 1 + 1) = k + 1 + 1 := wi64_id (by omega) (by omega)
      have e2 : wi64 (k + 1 + 1 + 1) = k + 1 + 1 + 1 := wi64_id (by omega) (by omega)
      have e3 : wi64 (k + 1 + 1 + 1 + 1) = k + 1 + 1 + 1 + 1 := wi64_id (by omega) (by omega)
      obtain ⟨y1, p1, s1⟩ := m1 (k + 1 + 1 + 1 + 1) (by omega) (by omega)
      have d1 : decide (k + 1 + 1 + 1 + 1 + c1 < 0) = false := decide_eq_false (by omega)
      obtain ⟨y2, p2, s2⟩ := m2 (k + 1 + 1 + 1 + 1 + c1) (by omega) (by omega)
      obtain ⟨y3, p3, s3⟩ := m3 (k + 1 + 1 + 1 + 1 + c1 + c2) (by omega) (by omega)
      obtain ⟨y4, p4, s4⟩ := m4 (k + 1 + 1 + 1 + 1 + c1 + c2 + c3) (by omega) (by omega)
      have e4 : wi64 (k + 1 + 1 + 1 + 1 + c1 + c2 + c3 + c4 + 1) = k + 1 + 1 + 1 + 1 + c1 + c2 + c3 + c4 + 1 := wi64_id (by omega) (by omega)
      have ek : k + ((5 + c1 + c2 + c3 + c4 : Nat) : Int) = k + 1 + 1 + 1 + 1 + c1 + c2 + c3 + c4 + 1 := by omega
      refine ⟨(Ty_Type.mk k (k + 1) (Int.tmod (k + 1 + 1) 3 == 0) (Int.tmod (k + 1 + 1 + 1) 3 == 0) y1 y2 y3 y4 (k + 1 + 1 + 1 + 1 + c1 + c2 + c3 + c4)), ?_, fun _ _ _ _ _ => trivial⟩
      · rw [ek, laws_markTypeS_t_l2_eq, sif_t (by omega)]
        simp only [Int.toNat_natCast, slet_eq, List.length_set, lt, sif_true, hlx, sbind_some, List.getElem?_set_self hi2, List.set_set, e0, e1, e2, e3, p1, p2, p3, p4, e4, ei, Ty_Type.e_Kind, Ty_Type.e_Size, Ty_Type.e_Signed, Ty_Type.e_Big, Ty_Type.e_Names, Ty_Type.e_Nums, Ty_Type.e_Members, Ty_Type.e_Base, Ty_Type.e_Count]
    · rw [laws_szTypeS_l5_eq, sif_t (by omega), idx_some hx, sbind_some, wi64_add1 (by omega)] at hz
      obtain ⟨s2, q, hz⟩ := inv_bind hz
      obtain ⟨g, hz⟩ := inv_neg hz hr
      rw [laws_szType_eq] at q
      obtain ⟨r1, q1, q⟩ := inv_bind q
      obtain ⟨g1, q⟩ := inv_neg q g
      have u2 := z1 _ _ (by omega) (by omega) q1 g1
      obtain ⟨r3, q3, q⟩ := inv_bind q
      obtain ⟨g3, q⟩ := inv_neg q g
      have u4 := z2 _ _ (by omega) (by omega) q3 g3
      obtain ⟨r5, q5, q⟩ := inv_bind q
      obtain ⟨g5, q⟩ := inv_neg q g
      have u6 := z3 _ _ (by omega) (by omega) q5 g5
      obtain ⟨r7, q7, q⟩ := inv_bind q
      obtain ⟨g7, q⟩ := inv_neg q g
      have u8 := z4 _ _ (by omega) (by omega) q7 g7
      injection q with q
      exact ⟨s2, g, by omega, hz, by omega⟩
  · obtain ⟨h1, h2⟩ := hc
    refine ⟨c, fun k h0 hk => ?_, fun s r h0 h1 hz hr => ?_⟩
    · obtain ⟨y, e, hl2, hR⟩ := h1 k h0 hk
      show ∃ y, laws_markTypeS_t k a = _ ∧ _
      rw [laws_markTypeS_t_eq]
      refine ⟨y, e, ?_⟩
      trivial
    · have hz : laws_szTypeS a s = some r := hz
      rw [laws_szTypeS_eq] at hz
      obtain ⟨g, hz⟩ := inv_neg hz hr
      rw [wi64_id (by omega) (by omega)] at g hz
      have := h2 _ r g (by omega) hz hr
      omega
theorem mkTy_Type_a (x : Ty_Type) (h : Ok_Ty_Type x) : Mk_Ty_Type x := by
  revert h
  refine Ty_Type.ind (P := fun x => Ok_Ty_Type x → Mk_Ty_Type x) ?_ x
  intro x ih_Members ih_Base h
  have h := Ok_Ty_Type.out h
  exact ⟨mkSStringS_g _ h.2.2.2.2.1, mkSInt64S_g _ h.2.2.2.2.2.1, mkSMemberS_g _ h.2.2.2.2.2.2.1 (fun y hy => ih_Members y hy (h.2.2.2.2.2.2.1.2.2 y hy).2.2), mkSTypeS_g _ h.2.2.2.2.2.2.2.1 (fun y hy => ih_Base y hy (h.2.2.2.2.2.2.2.1.2.2 y hy))⟩
theorem mkType_x (x : Ty_Type) (h : Ok_Ty_Type x) : MkP (fun k => laws_markType_vvtt x.f_Kind x.f_Size x.f_Signed x.f_Big x.f_Count k x.f_Names x.f_Nums x.f_Members x.f_Base) (fun _ _ _ => True) (fun s => laws_szType x.f_Kind x.f_Size x.f_Signed x.f_Big x.f_Names x.f_Nums x.f_Members x.f_Base x.f_Count s) := by
  have hT := mkTy_Type_a x h
  obtain ⟨c1, m1, z1⟩ := hT.1
  obtain ⟨c2, m2, z2⟩ := hT.2.1
  obtain ⟨c3, m3, z3⟩ := hT.2.2.1
  obtain ⟨c4, m4, z4⟩ := hT.2.2.2
  refine ⟨c1 + c2 + c3 + c4, fun k h0 hk => ?_, fun s r h0 h1 hz hr => ?_⟩
  · obtain ⟨y1, p1, _⟩ := m1 (k) (by omega) (by omega)
    dsimp only at p1
    obtain ⟨y2, p2, _⟩ := m2 (k + c1) (by omega) (by omega)
    dsimp only at p2
    obtain ⟨y3, p3, _⟩ := m3 (k + c1 + c2) (by omega) (by omega)
    dsimp only at p3
    obtain ⟨y4, p4, _⟩ := m4 (k + c1 + c2 + c3) (by omega) (by omega)
    dsimp only at p4
    have ek : k + ((c1 + c2 + c3 + c4 : Nat) : Int) = k + c1 + c2 + c3 + c4 := by omega
    refine ⟨(y1, y2, y3, y4), ?_, trivial⟩
    rw [ek]
    dsimp only
    rw [laws_markType_vvtt_eq, p1, sbind_some, p2, sbind_some, p3, sbind_some, p4, sbind_some]
  · dsimp only at hz
    rw [laws_szType_eq] at hz
    obtain ⟨r5, q5, hz⟩ := inv_bind hz
    obtain ⟨g5, hz⟩ := inv_neg hz hr
    have u5 := z1 _ _ (by omega) (by omega) q5 g5
    obtain ⟨r6, q6, hz⟩ := inv_bind hz
    obtain ⟨g6, hz⟩ := inv_neg hz hr
    have u6 := z2 _ _ (by omega) (by omega) q6 g6
    obtain ⟨r7, q7, hz⟩ := inv_bind hz
    obtain ⟨g7, hz⟩ := inv_neg hz hr
    have u7 := z3 _ _ (by omega) (by omega) q7 g7
    obtain ⟨r8, q8, hz⟩ := inv_bind hz
    obtain ⟨g8, hz⟩ := inv_neg hz hr
    have u8 := z4 _ _ (by omega) (by omega) q8 g8
    injection hz with hz
    omega
theorem mkSPointS_g (a : List (List Int)) (h : a.length ≤ maxLen ∧ a.length * 24 ≤ 140737488351232 ∧ ∀ e_ ∈ a, OkA_Point e_) : MkP (fun k => laws_markPointS_t k a) (fun _ _ _ => True) (fun s => laws_szPointS a s) := by
  have hl : a.length ≤ 140737488351232 := len_bound h.2.1 (by omega)
  refine Exists.elim (mk_rows a (fun k i l => laws_markPointS_t_l2 k i l) (fun _ _ _ _ => True) (fun s i => laws_szPointS_l5 a s i) (fun k l hl => by rw [laws_markPointS_t_l2_eq, sif_f (by omega)]) (fun _ _ _ => trivial) (fun s => by rw [laws_szPointS_l5_eq, sif_f (by omega)]) (fun i x hx hi => ?_)) (fun c hc => ?_)
  · skip
    obtain ⟨c1, m1, z1⟩ := (mkSInt64S_g x (h.2.2 x (mem_of_at hx)))
    refine ⟨c1, fun k l h0 hk hl hlx => ?_, fun s r h0 h1 hz hr => ?_⟩
    · have hi2 : i < l.length := by omega
      have ei := wi64_add1 (n := i) (by omega)
      have lt : lt3 0 (i : Int) (l.length : Int) = true := lt3_ok (by omega) (by omega)
      obtain ⟨y1, p1, s1⟩ := m1 (k) (by omega) (by omega)
      have ek : k + ((c1 : Nat) : Int) = k + c1 := by omega
      refine ⟨y1, ?_, fun _ _ _ _ _ => trivial⟩
      · rw [ek, laws_markPointS_t_l2_eq, sif_t (by omega)]
        simp only [Int.toNat_natCast, slet_eq, List.length_set, lt, sif_true, hlx, sbind_some, List.getElem?_set_self hi2, List.set_set, p1, ei]
    · rw [laws_szPointS_l5_eq, sif_t (by omega), idx_some hx, sbind_some, wi64_add1 (by omega)] at hz
      obtain ⟨s2, q, hz⟩ := inv_bind hz
      obtain ⟨g, hz⟩ := inv_neg hz hr
      rw [laws_szPoint_eq] at q
      obtain ⟨r1, q1, q⟩ := inv_bind q
      obtain ⟨g1, q⟩ := inv_neg q g
      have u2 := z1 _ _ (by omega) (by omega) q1 g1
      injection q with q
      exact ⟨s2, g, by omega, hz, by omega⟩
  · obtain ⟨h1, h2⟩ := hc
    refine ⟨c, fun k h0 hk => ?_, fun s r h0 h1 hz hr => ?_⟩
    · obtain ⟨y, e, hl2, hR⟩ := h1 k h0 hk
      show ∃ y, laws_markPointS_t k a = _ ∧ _
      rw [laws_markPointS_t_eq]
      refine ⟨y, e, ?_⟩
      trivial
    · have hz : laws_szPointS a s = some r := hz
      rw [laws_szPointS_eq] at hz
      obtain ⟨g, hz⟩ := inv_neg hz hr
      rw [wi64_id (by omega) (by omega)] at g hz
      have := h2 _ r g (by omega) hz hr
      omega
theorem mkSMappingS_g (a : List (ByteArray × Int × List Int × List Int × List Int × List Int × List (List Int) × Int × List Int × List Int × List Int × List Int × List (List Int))) (h : a.length ≤ maxLen ∧ a.length * 272 ≤ 140737488351232 ∧ ∀ e_ ∈ a, OkA_Mapping e_) : MkP (fun k => laws_markMappingS_t k a) (fun _ _ _ => True) (fun s => laws_szMappingS a s) := by
  have hl : a.length ≤ 140737488351232 := len_bound h.2.1 (by omega)
  refine Exists.elim (mk_rows a (fun k i l => laws_markMappingS_t_l2 k i l) (fun _ _ _ _ => True) (fun s i => laws_szMappingS_l5 a s i) (fun k l hl => by rw [laws_markMappingS_t_l2_eq, sif_f (by omega)]) (fun _ _ _ => trivial) (fun s => by rw [laws_szMappingS_l5_eq, sif_f (by omega)]) (fun i x hx hi => ?_)) (fun c hc => ?_)
  · skip
    obtain ⟨c1, m1, z1⟩ := (mkSInt64S_g x.2.2.1 (h.2.2 x (mem_of_at hx)).2.2.1)
    obtain ⟨c2, m2, z2⟩ := (mkSInt64S_g x.2.2.2.1 (h.2.2 x (mem_of_at hx)).2.2.2.1)
    obtain ⟨c3, m3, z3⟩ := (mkSInt64S_g x.2.2.2.2.1 (h.2.2 x (mem_of_at hx)).2.2.2.2.1)
    obtain ⟨c4, m4, z4⟩ := (mkSInt64S_g x.2.2.2.2.2.1 (h.2.2 x (mem_of_at hx)).2.2.2.2.2.1)
    obtain ⟨c5, m5, z5⟩ := (mkSPointS_g x.2.2.2.2.2.2.1 (h.2.2 x (mem_of_at hx)).2.2.2.2.2.2.1)
    obtain ⟨c6, m6, z6⟩ := (mkSInt64S_g x.2.2.2.2.2.2.2.2.1 (h.2.2 x (mem_of_at hx)).2.2.2.2.2.2.2.2.1)
    obtain ⟨c7, m7, z7⟩ := (mkSInt64S_g x.2.2.2.2.2.2.2.2.2.1 (h.2.2 x (mem_of_at hx)).2.2.2.2.2.2.2.2.2.1)
    obtain ⟨c8, m8, z8⟩ := (mkSInt64S_g x.2.2.2.2.2.2.2.2.2.2.1 (h.2.2 x (mem_of_at hx)).2.2.2.2.2.2.2.2.2.2.1)
    obtain ⟨c9, m9, z9⟩ := (mkSInt64S_g x.2.2.2.2.2.2.2.2.2.2.2.1 (h.2.2 x (mem_of_at hx)).2.2.2.2.2.2.2.2.2.2.2.1)
    obtain ⟨c10, m10, z10⟩ := (mkSPointS_g x.2.2.2.2.2.2.2.2.2.2.2.2 (h.2.2 x (mem_of_at hx)).2.2.2.2.2.2.2.2.2.2.2.2)
    refine ⟨3 + c1 + c2 + c3 + c4 + c5 + c6 + c7 + c8 + c9 + c10, fun k l h0 hk hl hlx => ?_, fun s r h0 h1 hz hr => ?_⟩
    · have hi2 : i < l.length := by omega
      have ei := wi64_add1 (n := i) (by omega)
      have lt : lt3 0 (i : Int) (l.length : Int) = true := lt3_ok (by omega) (by omega)
      have t0 := mt_some (k := k) (by omega) (by omega)
      have e0 : wi64 (k + 1) = k + 1 := wi64_id (by omega) (by omega)
      have e1 : wi64 (k + 1 + 1) = k + 1 + 1 := wi64_id (by omega) (by omega)
      obtain ⟨y1, p1, s1⟩ := m1 (k + 1 + 1) (by omega) (by omega)
      obtain ⟨y2, p2, s2⟩ := m2 (k + 1 + 1 + c1) (by omega) (by omega)
      obtain ⟨y3, p3, s3⟩ := m3 (k + 1 + 1 + c1 + c2) (by omega) (by omega)
      obtain ⟨y4, p4, s4⟩ := m4 (k + 1 + 1 + c1 + c2 + c3) (by omega) (by omega)
      obtain ⟨y5, p5, s5⟩ := m5 (k + 1 + 1 + c1 + c2 + c3 + c4) (by omega) (by omega)
      have e2 : wi64 (k + 1 + 1 + c1 + c2 + c3 + c4 + c5 + 1) = k + 1 + 1 + c1 + c2 + c3 + c4 + c5 + 1 := wi64_id (by omega) (by omega)
      obtain ⟨y6, p6, s6⟩ := m6 (k + 1 + 1 + c1 + c2 + c3 + c4 + c5 + 1) (by omega) (by omega)
      obtain ⟨y7, p7, s7⟩ := m7 (k + 1 + 1 + c1 + c2 + c3 + c4 + c5 + 1 + c6) (by omega) (by omega)
      obtain ⟨y8, p8, s8⟩ := m8 (k + 1 + 1 + c1 + c2 + c3 + c4 + c5 + 1 + c6 + c7) (by omega) (by omega)
      obtain ⟨y9, p9, s9⟩ := m9 (k + 1 + 1 + c1 + c2 + c3 + c4 + c5 + 1 + c6 + c7 + c8) (by omega) (by omega)
      obtain ⟨y10, p10, s10⟩ := m10 (k + 1 + 1 + c1 + c2 + c3 + c4 + c5 + 1 + c6 + c7 + c8 + c9) (by omega) (by omega)
      have ek : k + ((3 + c1 + c2 + c3 + c4 + c5 + c6 + c7 + c8 + c9 + c10 : Nat) : Int) = k + 1 + 1 + c1 + c2 + c3 + c4 + c5 + 1 + c6 + c7 + c8 + c9 + c10 := by omega
      refine ⟨(mt (k), k + 1, y1, y2, y3, y4, y5, k + 1 + 1 + c1 + c2 + c3 + c4 + c5, y6, y7, y8, y9, y10), ?_, fun _ _ _ _ _ => trivial⟩
      · rw [ek, laws_markMappingS_t_l2_eq, sif_t (by omega)]
        simp only [Int.toNat_natCast, slet_eq, List.length_set, lt, sif_true, hlx, sbind_some, List.getElem?_set_self hi2, List.set_set, t0, e0, e1, p1, p2, p3, p4, p5, e2, p6, p7, p8, p9, p10, ei]
    · rw [laws_szMappingS_l5_eq, sif_t (by omega), idx_some hx, sbind_some, wi64_add1 (by omega)] at hz
      obtain ⟨s2, q, hz⟩ := inv_bind hz
      obtain ⟨g, hz⟩ := inv_neg hz hr
      rw [laws_szMapping_eq] at q
      have w1 : _ ≤ 140737488351232 := (h.2.2 x (mem_of_at hx)).1
      obtain ⟨g1, q⟩ := inv_neg q g
      rw [wi64_id (by omega) (by omega)] at g1 q
      obtain ⟨r2, q2, q⟩ := inv_bind q
      obtain ⟨g2, q⟩ := inv_neg q g
      rw [laws_szSelection_eq] at q2
      obtain ⟨r3, q3, q2⟩ := inv_bind q2
      obtain ⟨g3, q2⟩ := inv_neg q2 g2
      have u4 := z1 _ _ (by omega) (by omega) q3 g3
      obtain ⟨r5, q5, q2⟩ := inv_bind q2
      obtain ⟨g5, q2⟩ := inv_neg q2 g2
      have u6 := z2 _ _ (by omega) (by omega) q5 g5
      obtain ⟨r7, q7, q2⟩ := inv_bind q2
      obtain ⟨g7, q2⟩ := inv_neg q2 g2
      have u8 := z3 _ _ (by omega) (by omega) q7 g7
      obtain ⟨r9, q9, q2⟩ := inv_bind q2
      obtain ⟨g9, q2⟩ := inv_neg q2 g2
      have u10 := z4 _ _ (by omega) (by omega) q9 g9
      obtain ⟨r11, q11, q2⟩ := inv_bind q2
      obtain ⟨g11, q2⟩ := inv_neg q2 g2
      have u12 := z5 _ _ (by omega) (by omega) q11 g11
      injection q2 with q2
      obtain ⟨r13, q13, q⟩ := inv_bind q
      obtain ⟨g13, q⟩ := inv_neg q g
      rw [laws_szSelection_eq] at q13
      obtain ⟨r14, q14, q13⟩ := inv_bind q13
      obtain ⟨g14, q13⟩ := inv_neg q13 g13
      have u15 := z6 _ _ (by omega) (by omega) q14 g14
      obtain ⟨r16, q16, q13⟩ := inv_bind q13
      obtain ⟨g16, q13⟩ := inv_neg q13 g13
      have u17 := z7 _ _ (by omega) (by omega) q16 g16
      obtain ⟨r18, q18, q13⟩ := inv_bind q13
      obtain ⟨g18, q13⟩ := inv_neg q13 g13
      have u19 := z8 _ _ (by omega) (by omega) q18 g18
      obtain ⟨r20, q20, q13⟩ := inv_bind q13
      obtain ⟨g20, q13⟩ := inv_neg q13 g13
      have u21 := z9 _ _ (by omega) (by omega) q20 g20
      obtain ⟨r22, q22, q13⟩ := inv_bind q13
      obtain ⟨g22, q13⟩ := inv_neg q13 g13
      have u23 := z10 _ _ (by omega) (by omega) q22 g22
      injection q13 with q13
      injection q with q
      exact ⟨s2, g, by omega, hz, by omega⟩
  · obtain ⟨h1, h2⟩ := hc
    refine ⟨c, fun k h0 hk => ?_, fun s r h0 h1 hz hr => ?_⟩
    · obtain ⟨y, e, hl2, hR⟩ := h1 k h0 hk
      show ∃ y, laws_markMappingS_t k a = _ ∧ _
      rw [laws_markMappingS_t_eq]
      refine ⟨y, e, ?_⟩
      trivial
    · have hz : laws_szMappingS a s = some r := hz
      rw [laws_szMappingS_eq] at hz
      obtain ⟨g, hz⟩ := inv_neg hz hr
      rw [wi64_id (by omega) (by omega)] at g hz
      have := h2 _ r g (by omega) hz hr
      omega
theorem mkVirtual_x (x : K_Virtual) (h : OkA_Virtual x) : MkP (fun k => laws_markVirtual_vvttvt x.1.f_Kind x.1.f_Size x.1.f_Signed x.1.f_Big x.1.f_Count x.2.2.1 k x.1.f_Names x.1.f_Nums x.1.f_Members x.1.f_Base x.2.1 x.2.2.2) (fun _ _ _ => True) (fun s => laws_szVirtual x.1.f_Kind x.1.f_Size x.1.f_Signed x.1.f_Big x.1.f_Names x.1.f_Nums x.1.f_Members x.1.f_Base x.1.f_Count x.2.1 x.2.2.1 x.2.2.2 s) := by
  obtain ⟨c1, m1, z1⟩ := (mkType_x x.1 h.1)
  obtain ⟨c2, m2, z2⟩ := (mkSInt64S_g x.2.1 h.2.1)
  obtain ⟨c3, m3, z3⟩ := (mkSMappingS_g x.2.2.2 h.2.2.2)
  refine ⟨c1 + c2 + c3, fun k h0 hk => ?_, fun s r h0 h1 hz hr => ?_⟩
  · obtain ⟨y1, p1, _⟩ := m1 (k) (by omega) (by omega)
    dsimp only at p1
    obtain ⟨y2, p2, _⟩ := m2 (k + c1) (by omega) (by omega)
    dsimp only at p2
    obtain ⟨y3, p3, _⟩ := m3 (k + c1 + c2) (by omega) (by omega)
    dsimp only at p3
    have ek : k + ((c1 + c2 + c3 : Nat) : Int) = k + c1 + c2 + c3 := by omega
    refine ⟨(y1.1, y1.2.1, y1.2.2.1, y1.2.2.2, y2, y3), ?_, trivial⟩
    rw [ek]
    dsimp only
    rw [laws_markVirtual_vvttvt_eq, p1, sbind_some, p2, sbind_some, p3, sbind_some]
  · dsimp only at hz
    rw [laws_szVirtual_eq] at hz
    obtain ⟨r1, q1, hz⟩ := inv_bind hz
    obtain ⟨g1, hz⟩ := inv_neg hz hr
    have u1 := z1 _ _ (by omega) (by omega) q1 g1
    obtain ⟨r2, q2, hz⟩ := inv_bind hz
    obtain ⟨g2, hz⟩ := inv_neg hz hr
    have u2 := z2 _ _ (by omega) (by omega) q2 g2
    have w3 : _ ≤ 140737488351232 := h.2.2.1
    obtain ⟨g3, hz⟩ := inv_neg hz hr
    rw [wi64_id (by omega) (by omega)] at g3 hz
    obtain ⟨r4, q4, hz⟩ := inv_bind hz
    obtain ⟨g4, hz⟩ := inv_neg hz hr
    have u4 := z3 _ _ (by omega) (by omega) q4 g4
    injection hz with hz
    omega
/-! bytesL -/
theorem bidx_ofB (s : ByteArray) (i : Int) : bidx s i = idx (Ve.ofB s) i := by
  unfold bidx idx
  split
  · unfold Ve.ofB
    rw [List.getElem?_map]
    congr 1
    rw [Array.getElem?_toList, getElem?_def, getElem?_def]
    rfl
  · rfl
def inB (l : List Int) : Prop := ∀ x ∈ l, 0 ≤ x ∧ x ≤ 255
theorem ofB_inB (s : ByteArray) : inB (Ve.ofB s) := by
  intro x hx
  unfold Ve.ofB at hx
  obtain ⟨b, _, rfl⟩ := List.mem_map.1 hx
  have := b.toNat_lt
  omega
theorem toB_ofB (s : ByteArray) : Ve.toB (Ve.ofB s) = s := by
  unfold Ve.toB Ve.ofB
  rw [List.map_map]
  have : ((fun n : Int => UInt8.ofNat n.toNat) ∘ fun b : UInt8 => (b.toNat : Int)) = id := by funext b; simp
  rw [this, List.map_id]
theorem ofB_toB {l : List Int} (h : inB l) : Ve.ofB (Ve.toB l) = l := by
  unfold Ve.toB Ve.ofB
  simp only [List.map_map]
  conv => rhs; rw [← List.map_id l]
  refine List.map_congr_left (fun x hx => ?_)
  have := h x hx
  simp only [Function.comp, id]
  rw [UInt8.toNat_ofNat']
  omega
/-! sameE -/
abbrev LenOk {α : Type} (l : List α) : Prop := l.length ≤ 140737488351232
theorem slEq_int (a b : List Int) (h : LenOk a) : slices_Equal_sint64_int64 a b = some (eqB a b) := by
  rw [slices_Equal_sint64_int64_eq]
  refine eqLoop a b (fun i => slices_Equal_sint64_int64_l4 a b (a.length : Int) (i : Int)) (by rw [slices_Equal_sint64_int64_l4_eq, sif_f (by omega)]) (fun i x y hx hy hi => ?_)
  rw [slices_Equal_sint64_int64_l4_eq, sif_t (by omega), idx_some hx, idx_some hy, sbind_some, sbind_some, bne_eqB, wi64_add1 (by omega)]
theorem slEq_str (a b : List ByteArray) (h : LenOk a) : slices_Equal_sstring_string a b = some (eqB a b) := by
  rw [slices_Equal_sstring_string_eq]
  refine eqLoop a b (fun i => slices_Equal_sstring_string_l4 a b (a.length : Int) (i : Int)) (by rw [slices_Equal_sstring_string_l4_eq, sif_f (by omega)]) (fun i x y hx hy hi => ?_)
  rw [slices_Equal_sstring_string_l4_eq, sif_t (by omega), idx_some hx, idx_some hy, sbind_some, sbind_some, seq_eqB, wi64_add1 (by omega)]
theorem slEq_lists (a b : List (List Int)) (h : LenOk a) (h' : ∀ x ∈ a, LenOk x) : slices_EqualFunc_ssint64_ssint64_sint64_sint64_dd_Equal_sint64_int64 a b = some (eqB a b) := by
  rw [slices_EqualFunc_ssint64_ssint64_sint64_sint64_dd_Equal_sint64_int64_eq]
  refine eqLoop a b (fun i => slices_EqualFunc_ssint64_ssint64_sint64_sint64_dd_Equal_sint64_int64_l4 b a (a.length : Int) (i : Int)) (by rw [slices_EqualFunc_ssint64_ssint64_sint64_sint64_dd_Equal_sint64_int64_l4_eq, sif_f (by omega)]) (fun i x y hx hy hi => ?_)
  rw [slices_EqualFunc_ssint64_ssint64_sint64_sint64_dd_Equal_sint64_int64_l4_eq, sif_t (by omega), idx_some hx, idx_some hy, sbind_some, sbind_some, slEq_int _ _ (h' x (mem_of_at hx)), sbind_some, wi64_add1 (by omega)]
theorem slEq_points (a b : List (List Int)) (h : LenOk a) (h' : ∀ x ∈ a, LenOk x) : slices_EqualFunc_simpl_Point_simpl_Point_impl_Point_impl_Point_dd_samePoint a b = some (eqB a b) := by
  rw [slices_EqualFunc_simpl_Point_simpl_Point_impl_Point_impl_Point_dd_samePoint_eq]
  refine eqLoop a b (fun i => slices_EqualFunc_simpl_Point_simpl_Point_impl_Point_impl_Point_dd_samePoint_l4 b a (a.length : Int) (i : Int)) (by rw [slices_EqualFunc_simpl_Point_simpl_Point_impl_Point_impl_Point_dd_samePoint_l4_eq, sif_f (by omega)]) (fun i x y hx hy hi => ?_)
  rw [slices_EqualFunc_simpl_Point_simpl_Point_impl_Point_impl_Point_dd_samePoint_l4_eq, sif_t (by omega), idx_some hx, idx_some hy, sbind_some, sbind_some, impl_samePoint_eq, slEq_int _ _ (h' x (mem_of_at hx)), sbind_some, sbind_some, wi64_add1 (by omega)]
/-! selections -/
abbrev SelK := Int × List Int × List Int × List Int × List Int × List (List Int)
def selLen (s : SelK) : Prop := LenOk s.2.1 ∧ LenOk s.2.2.1 ∧ LenOk s.2.2.2.1 ∧ LenOk s.2.2.2.2.1 ∧ LenOk s.2.2.2.2.2 ∧ ∀ x ∈ s.2.2.2.2.2, LenOk x
theorem impl_sel_eqB (a b : SelK) (h : selLen a) : impl_SameSelection a.1 a.2.1 a.2.2.1 a.2.2.2.1 a.2.2.2.2.1 a.2.2.2.2.2 b.1 b.2.1 b.2.2.1 b.2.2.2.1 b.2.2.2.2.1 b.2.2.2.2.2 = some (eqB a b) := by
  obtain ⟨h1, h2, h3, h4, h5, h6⟩ := h
  rw [impl_SameSelection_eq, impl_Selection_lists_eq, impl_Selection_lists_eq, sbind_some, sbind_some, slEq_lists [a.2.1, a.2.2.1, a.2.2.2.1, a.2.2.2.2.1] _ (by unfold LenOk; simp) (fun x hx => by simp only [List.mem_cons, List.not_mem_nil, or_false] at hx; rcases hx with rfl | rfl | rfl | rfl <;> assumption), slEq_points _ _ h5 h6]
  simp only [sbind_some, sif_bool, beq_eqB, eqB_pair]
  have e : eqB [a.2.1, a.2.2.1, a.2.2.2.1, a.2.2.2.2.1] [b.2.1, b.2.2.1, b.2.2.2.1, b.2.2.2.2.1] = (eqB a.2.1 b.2.1 && (eqB a.2.2.1 b.2.2.1 && (eqB a.2.2.2.1 b.2.2.2.1 && eqB a.2.2.2.2.1 b.2.2.2.2.1))) := by
    rw [Bool.eq_iff_iff]
    simp only [Bool.and_eq_true, eqB_iff, List.cons.injEq, and_true]
  rw [e]
  simp only [Bool.and_assoc]
/-! mappings -/
abbrev MapK := ByteArray × Int × List Int × List Int × List Int × List Int × List (List Int) × Int × List Int × List Int × List Int × List Int × List (List Int)
/-! types -/
theorem ty_ext {x y : Ty_Type} : x = y ↔ x.f_Kind = y.f_Kind ∧ x.f_Size = y.f_Size ∧ x.f_Signed = y.f_Signed ∧ x.f_Big = y.f_Big ∧ x.f_Names = y.f_Names ∧ x.f_Nums = y.f_Nums ∧ x.f_Members = y.f_Members ∧ x.f_Base = y.f_Base ∧ x.f_Count = y.f_Count := by
  constructor
  · rintro rfl; simp
  · rintro ⟨h1, h2, h3, h4, h5, h6, h7, h8, h9⟩
    rw [← Ty_Type.eta x, ← Ty_Type.eta y, h1, h2, h3, h4, h5, h6, h7, h8, h9]
theorem ty_eqB (x y : Ty_Type) : eqB x y = (eqB x.f_Kind y.f_Kind && (eqB x.f_Size y.f_Size && (eqB x.f_Signed y.f_Signed && (eqB x.f_Big y.f_Big && (eqB x.f_Names y.f_Names && (eqB x.f_Nums y.f_Nums && (eqB x.f_Members y.f_Members && (eqB x.f_Base y.f_Base && eqB x.f_Count y.f_Count)))))))) := by
  rw [Bool.eq_iff_iff]
  simp only [Bool.and_eq_true, eqB_iff]
  exact ty_ext
theorem ok_lens {x : Ty_Type} (h : Ok_Ty_Type x) : LenOk x.f_Names ∧ LenOk x.f_Nums ∧ LenOk x.f_Members ∧ LenOk x.f_Base ∧ (∀ m ∈ x.f_Members, Ok_Ty_Type m.2.2) ∧ ∀ b ∈ x.f_Base, Ok_Ty_Type b := by
  have h := Ok_Ty_Type.out h
  exact ⟨len_bound h.2.2.2.2.1.2.1 (by omega), len_bound h.2.2.2.2.2.1.2.1 (by omega), len_bound h.2.2.2.2.2.2.1.2.1 (by omega), len_bound h.2.2.2.2.2.2.2.1.2.1 (by omega), fun m hm => (h.2.2.2.2.2.2.1.2.2 m hm).2.2, fun b hb => h.2.2.2.2.2.2.2.1.2.2 b hb⟩
theorem slEq_members (a b : List (ByteArray × Int × Ty_Type)) (h : LenOk a) (ih : ∀ m ∈ a, ∀ y : Ty_Type, impl_SameType m.2.2.f_Kind m.2.2.f_Size m.2.2.f_Signed m.2.2.f_Big m.2.2.f_Names m.2.2.f_Nums m.2.2.f_Members m.2.2.f_Base m.2.2.f_Count y.f_Kind y.f_Size y.f_Signed y.f_Big y.f_Names y.f_Nums y.f_Members y.f_Base y.f_Count = some (eqB m.2.2 y)) : slices_EqualFunc_simpl_Member_simpl_Member_impl_Member_impl_Member_dd_sameMember a b = some (eqB a b) := by
  rw [slices_EqualFunc_simpl_Member_simpl_Member_impl_Member_impl_Member_dd_sameMember_eq]
  refine eqLoop a b (fun i => slices_EqualFunc_simpl_Member_simpl_Member_impl_Member_impl_Member_dd_sameMember_l4 b a (a.length : Int) (i : Int)) (by rw [slices_EqualFunc_simpl_Member_simpl_Member_impl_Member_impl_Member_dd_sameMember_l4_eq, sif_f (by omega)]) (fun i x y hx hy hi => ?_)
  rw [slices_EqualFunc_simpl_Member_simpl_Member_impl_Member_impl_Member_dd_sameMember_l4_eq, sif_t (by omega), idx_some hx, idx_some hy, sbind_some, sbind_some, impl_sameMember_eq, ih x (mem_of_at hx) y.2.2]
  simp only [sbind_some, sif_bool, seq_eqB, beq_eqB, eqB_pair]
  rw [wi64_add1 (by omega)]
theorem slEq_types (a b : List Ty_Type) (h : LenOk a) (ih : ∀ m ∈ a, ∀ y : Ty_Type, impl_SameType m.f_Kind m.f_Size m.f_Signed m.f_Big m.f_Names m.f_Nums m.f_Members m.f_Base m.f_Count y.f_Kind y.f_Size y.f_Signed y.f_Big y.f_Names y.f_Nums y.f_Members y.f_Base y.f_Count = some (eqB m y)) : slices_EqualFunc_simpl_Type_simpl_Type_impl_Type_impl_Type_dd_SameType a b = some (eqB a b) := by
  rw [slices_EqualFunc_simpl_Type_simpl_Type_impl_Type_impl_Type_dd_SameType_eq]
  refine eqLoop a b (fun i => slices_EqualFunc_simpl_Type_simpl_Type_impl_Type_impl_Type_dd_SameType_l4 b a (a.length : Int) (i : Int)) (by rw [slices_EqualFunc_simpl_Type_simpl_Type_impl_Type_impl_Type_dd_SameType_l4_eq, sif_f (by omega)]) (fun i x y hx hy hi => ?_)
  rw [slices_EqualFunc_simpl_Type_simpl_Type_impl_Type_impl_Type_dd_SameType_l4_eq, sif_t (by omega), idx_some hx, idx_some hy, sbind_some, sbind_some, ih x (mem_of_at hx) y, sbind_some, wi64_add1 (by omega)]
theorem impl_type_eqB (x : Ty_Type) (h : Ok_Ty_Type x) : ∀ y : Ty_Type, impl_SameType x.f_Kind x.f_Size x.f_Signed x.f_Big x.f_Names x.f_Nums x.f_Members x.f_Base x.f_Count y.f_Kind y.f_Size y.f_Signed y.f_Big y.f_Names y.f_Nums y.f_Members y.f_Base y.f_Count = some (eqB x y) := by
  revert h
  refine Ty_Type.ind (P := fun x => Ok_Ty_Type x → ∀ y : Ty_Type, impl_SameType x.f_Kind x.f_Size x.f_Signed x.f_Big x.f_Names x.f_Nums x.f_Members x.f_Base x.f_Count y.f_Kind y.f_Size y.f_Signed y.f_Big y.f_Names y.f_Nums y.f_Members y.f_Base y.f_Count = some (eqB x y)) ?_ x
  intro x ih1 ih2 h y
  obtain ⟨l1, l2, l3, l4, k1, k2⟩ := ok_lens h
  rw [impl_SameType_eq, slEq_str _ _ l1, slEq_int _ _ l2, slEq_members _ _ l3 (fun m hm y => ih1 m hm (k1 m hm) y), slEq_types _ _ l4 (fun m hm y => ih2 m hm (k2 m hm) y), ty_eqB]
  simp only [sbind_some, sif_bool, beq_eqB]
  cases eqB x.f_Kind y.f_Kind <;> cases eqB x.f_Size y.f_Size <;> cases eqB x.f_Signed y.f_Signed <;> cases eqB x.f_Big y.f_Big <;> cases eqB x.f_Count y.f_Count <;> simp
/-! within -/
theorem spec_l00In_some (n lo hi : Int) : spec_l00In n lo hi = some (inr n lo hi) := by rw [spec_l00In_eq, inr_sif]
theorem impl_within_some (n lo hi : Int) : impl_within n lo hi = some (inr n lo hi) := by rw [impl_within_eq, inr_sif]
/-! nmL -/
/-! names -/
def letr (c : Int) : Bool := (decide (65 ≤ c) && decide (c ≤ 90)) || (decide (97 ≤ c) && decide (c ≤ 122))
def nmC (c : Int) : Bool := letr c || (decide (48 ≤ c) && decide (c ≤ 57)) || (c == 95)
def nmAt (s : ByteArray) (i : Nat) : Bool := if i = 0 then letr ((Ve.ofB s).getD i 0) else nmC ((Ve.ofB s).getD i 0)
def isNm (s : ByteArray) : Bool := (decide (1 ≤ s.size) && decide (s.size ≤ 12)) && (List.range s.size).all (nmAt s)
theorem bidx_D {s : ByteArray} {i : Nat} (h : i < s.size) : bidx s (i : Int) = some ((Ve.ofB s).getD i 0) := by
  rw [bidx_ofB, idx_nat, List.getD_eq_getElem?_getD, List.getElem?_eq_getElem (by rw [ofB_len]; exact h)]; rfl
theorem spec_letter_some (c : Int) : spec_l01Letter c = some (letr c) := by
  rw [spec_l01Letter_eq]
  unfold letr
  by_cases a : 65 ≤ c <;> by_cases b : c ≤ 90 <;> by_cases d : 97 ≤ c <;> by_cases e : c ≤ 122 <;> simp [a, b, d, e, sif] <;> omega
theorem spec_IsName_some (s : ByteArray) : spec_IsName s = some (isNm s) := by
  rw [spec_IsName_eq]
  unfold isNm
  by_cases h0 : s.size = 0
  · rw [show (((s.size : Int) == 0)) = true by rw [beq_iff_eq]; omega, sif_true, decide_eq_false (show ¬ 1 ≤ s.size by omega)]; rfl
  · rw [show (((s.size : Int) == 0)) = false by rw [beq_eq_false_iff_ne]; omega, sif_false, decide_eq_true (show 1 ≤ s.size by omega)]
    by_cases h1 : (s.size : Int) > 12
    · rw [sif_t h1, decide_eq_false (show ¬ s.size ≤ 12 by omega)]; rfl
    · rw [sif_f h1, decide_eq_true (show s.size ≤ 12 by omega)]
      have k := all_loop (List.range s.size) (nmAt s) (fun i => match i with | 0 => sif (letr ((Ve.ofB s).getD 0 0)) (spec_IsName_l4 s 1) (some false) | i + 1 => spec_IsName_l4 s ((i + 1 : Nat) : Int)) false (fun i x hx hi => by
        rw [List.length_range] at hi
        rw [List.getElem?_range hi, Option.some.injEq] at hx
        subst hx
        unfold nmAt
        match i, hi with
        | 0, _ => rfl
        | i + 1, hi =>
          show spec_IsName_l4 s ((i + 1 : Nat) : Int) = sif (if i + 1 = 0 then _ else _) (spec_IsName_l4 s ((i + 1 + 1 : Nat) : Int)) _
          rw [if_neg (by omega), spec_IsName_l4_eq, sif_t (by omega), bidx_D hi, sbind_some, spec_letter_some, sbind_some, sbind_some, sbind_some, wi64_add1 (by omega)]
          unfold nmC
          generalize (Ve.ofB s).getD (i + 1) 0 = c
          cases letr c
          · simp only [bne, ge_iff_le, sbind_some]
            generalize (c == 95) = q, decide (48 ≤ c) = x1, decide (c ≤ 57) = x2
            cases q <;> cases x1 <;> cases x2 <;> rfl
          · rfl)
      have e0 : (match (0 : Nat) with | 0 => sif (letr ((Ve.ofB s).getD 0 0)) (spec_IsName_l4 s 1) (some false) | i + 1 => spec_IsName_l4 s ((i + 1 : Nat) : Int)) = sif (letr ((Ve.ofB s).getD 0 0)) (spec_IsName_l4 s 1) (some false) := rfl
      rw [show (0 : Int) = ((0 : Nat) : Int) from rfl, bidx_D (by omega), sbind_some, spec_letter_some, sbind_some, sif_not]
      refine k.trans ?_
      rw [List.length_range]
      have hn : s.size = (s.size - 1) + 1 := by omega
      rw [hn]
      show sif _ (spec_IsName_l4 s ((s.size - 1 + 1 : Nat) : Int)) _ = _
      rw [← hn, spec_IsName_l4_eq, sif_f (by omega), sif_some]
      cases (List.range s.size).all (nmAt s) <;> rfl
theorem impl_IsName_some (s : ByteArray) (h : s.size ≤ 140737488351232) : impl_IsName s = some (isNm s) := by
  rw [impl_IsName_eq]
  have k := all_loop (List.range s.size) (nmAt s) (fun i => impl_IsName_l2 s (s.size : Int) (i : Int)) false (fun i x hx hi => by
    rw [List.length_range] at hi
    rw [List.getElem?_range hi, Option.some.injEq] at hx
    subst hx
    show impl_IsName_l2 s (s.size : Int) (i : Int) = _
    rw [impl_IsName_l2_eq, sif_t (by omega), bidx_D hi, sbind_some]
    unfold nmAt nmC letr
    generalize (Ve.ofB s).getD i 0 = c
    simp only [impl_IsName_l6_eq, wi64_add1 (show i < 9223372036854775807 by omega)]
    by_cases hz : i = 0
    · subst hz
      by_cases a : 65 ≤ c <;> by_cases b : c ≤ 90 <;> by_cases d : 97 ≤ c <;> by_cases e : c ≤ 122 <;> simp [a, b, d, e, sif] <;> omega
    · have hz' : ((i : Int) == 0) = false := by rw [beq_eq_false_iff_ne]; omega
      rw [if_neg hz]
      simp only [hz', sif_false, bne]
      rw [show decide (48 ≤ c) = !decide (c < 48) by rw [← decide_not, decide_eq_decide]; omega, show decide (c ≤ 57) = !decide (c > 57) by rw [← decide_not, decide_eq_decide]; omega]
      by_cases f : c < 48 <;> by_cases g : c > 57 <;> by_cases a : 65 ≤ c <;> by_cases b : c ≤ 90 <;> by_cases d : 97 ≤ c <;> by_cases e : c ≤ 122 <;> (first | (exfalso; omega) | (generalize (c == 95) = q; cases q <;> simp [a, b, d, e, f, g, sif])))
  refine k.trans ?_
  show sif _ (impl_IsName_l2 s (s.size : Int) ((List.range s.size).length : Nat)) _ = _
  rw [List.length_range, impl_IsName_l2_eq, sif_f (by omega), sif_bool]
  unfold isNm
  rw [sif_bool, Bool.and_comm]
  congr 2
  rw [show decide ((s.size : Int) ≥ 1) = decide (1 ≤ s.size) by rw [decide_eq_decide]; omega, show decide ((s.size : Int) ≤ 12) = decide (s.size ≤ 12) by rw [decide_eq_decide]; omega]
/-! different names -/
/-! typeA -/
/-! membership -/
theorem spec_has_some (l : List Int) (x : Int) (hl : l.length ≤ 140737488351232) : spec_l00Has l x = some (l.any fun y => y == x) := by
  rw [spec_l00Has_eq]
  have k := all_loop l (fun y => !(y == x)) (fun i => spec_l00Has_l2 l x (i : Int)) true (fun i y hy hi => by
    show spec_l00Has_l2 l x (i : Int) = _
    rw [spec_l00Has_l2_eq, sif_t (by omega), idx_some hy, sbind_some, sif_not, wi64_add1 (by omega)])
  refine k.trans ?_
  show sif _ (spec_l00Has_l2 l x (l.length : Int)) _ = _
  rw [spec_l00Has_l2_eq, sif_f (by omega), sif_some]
  congr 1
  induction l with
  | nil => rfl
  | cons y r ih =>
    rw [List.all_cons, List.any_cons]
    have := ih (by rw [List.length_cons] at hl; omega)
    cases y == x
    · simpa using this (all_loop r (fun y => !(y == x)) (fun i => spec_l00Has_l2 r x (i : Int)) true (fun i y hy hi => by
        show spec_l00Has_l2 r x (i : Int) = _
        rw [spec_l00Has_l2_eq, sif_t (by omega), idx_some hy, sbind_some, sif_not, wi64_add1 (by rw [List.length_cons] at hl; omega)]))
    · rfl
theorem impl_hasI_some (l : List Int) (x : Int) (hl : l.length ≤ 140737488351232) : slices_Contains_sint64_int64 l x = some (l.any fun y => x == y) := by
  rw [slices_Contains_sint64_int64_eq, slices_Index_sint64_int64_eq]
  refine find_any (find_loop l (fun y => x == y) (fun i => slices_Index_sint64_int64_l2 l x (l.length : Int) i) (by rw [slices_Index_sint64_int64_l2_eq, sif_f (by omega)]) (fun i y hy hi => ?_))
  rw [slices_Index_sint64_int64_l2_eq, sif_t (by omega), idx_some hy, sbind_some, wi64_add1 (by omega)]
theorem impl_hasS_some (l : List ByteArray) (x : ByteArray) (hl : l.length ≤ 140737488351232) : slices_Contains_sstring_string l x = some (l.any fun y => seq x y) := by
  rw [slices_Contains_sstring_string_eq, slices_Index_sstring_string_eq]
  refine find_any (find_loop l (fun y => seq x y) (fun i => slices_Index_sstring_string_l2 l x (l.length : Int) i) (by rw [slices_Index_sstring_string_l2_eq, sif_f (by omega)]) (fun i y hy hi => ?_))
  rw [slices_Index_sstring_string_l2_eq, sif_t (by omega), idx_some hy, sbind_some, wi64_add1 (by omega)]
/-! names -/
def dfAt (N : List ByteArray) (i : Nat) : Bool := isNm (N.getD i (bs [])) && !((N.take i).any fun y => seq (N.getD i (bs [])) y)
def dfN (N : List ByteArray) : Bool := (List.range N.length).all (dfAt N)
theorem strD {N : List ByteArray} {i : Nat} (h : i < N.length) : N[i]? = some (N.getD i (bs [])) := by
  rw [List.getD_eq_getElem?_getD, List.getElem?_eq_getElem h]; rfl
theorem impl_diff_some (N : List ByteArray) (h : N.length ≤ 140737488351232) (hs : ∀ x ∈ N, x.size ≤ 140737488351232) : impl_differentNames N = some (dfN N) := by
  rw [impl_differentNames_eq]
  have k := all_loop (List.range N.length) (dfAt N) (fun i => impl_differentNames_l2 N N (N.length : Int) (i : Int)) false (fun i x hx hi => by
    rw [List.length_range] at hi
    rw [List.getElem?_range hi, Option.some.injEq] at hx
    subst hx
    show impl_differentNames_l2 N N (N.length : Int) (i : Int) = _
    have hm : N.getD i (bs []) ∈ N := List.mem_of_getElem? (strD hi)
    rw [impl_differentNames_l2_eq, sif_t (by omega), idx_nat, strD hi, sbind_some, impl_IsName_some _ (hs _ hm), sbind_some, sif_pos (le3_ok (by omega) (by omega)), Int.toNat_natCast, List.drop_zero, impl_hasS_some _ _ (by rw [List.length_take]; omega), sbind_some, wi64_add1 (by omega)]
    unfold dfAt
    cases isNm (N.getD i (bs [])) <;> cases (N.take i).any (fun y => seq (N.getD i (bs [])) y) <;> rfl)
  refine k.trans ?_
  show sif _ (impl_differentNames_l2 N N (N.length : Int) ((List.range N.length).length : Nat)) _ = _
  rw [List.length_range, impl_differentNames_l2_eq, sif_f (by omega), sif_some]
  unfold dfN
  cases (List.range N.length).all (dfAt N) <;> rfl
/-! typeB -/
/-! integers -/
def iOk (s : Int) (g b : Bool) : Bool := ([1, 2, 4, 8] : List Int).any (fun y => y == s) && ((g || decide (s < 8)) && !(b && (s == 1)))
def lz {α : Type} (l : List α) : Bool := (l.length : Int) == 0
def rest0 (N : List ByteArray) (M : List Int) (E : List (ByteArray × Int × Ty_Type)) (B : List Ty_Type) (c : Int) : Bool := lz N && (lz M && (lz E && (lz B && (c == 0))))
theorem four_in {s : Int} (h : (([1, 2, 4, 8] : List Int).any fun y => y == s) = true) : s = 1 ∨ s = 2 ∨ s = 4 ∨ s = 8 := by
  simp only [List.any_cons, List.any_nil, Bool.or_false, Bool.or_eq_true, beq_iff_eq] at h
  omega
theorem spec_Int_some (k s : Int) (g b : Bool) (N : List ByteArray) (M : List Int) (E : List (ByteArray × Int × Ty_Type)) (B : List Ty_Type) (c : Int) : spec_l02Int k s g b N M E B c = some (iOk s g b && rest0 N M E B c) := by
  rw [spec_l02Int_eq, spec_has_some _ _ (by simp), sbind_some]
  unfold iOk rest0 lz
  generalize ((N.length : Int) == 0) = n1, ((M.length : Int) == 0) = n2, ((E.length : Int) == 0) = n3, ((B.length : Int) == 0) = n4, (c == 0) = n5
  cases h : (([1, 2, 4, 8] : List Int).any fun y => y == s) with
  | false => rfl
  | true =>
    rcases four_in h with rfl | rfl | rfl | rfl <;> cases g <;> cases b <;> cases n1 <;> cases n2 <;> cases n3 <;> cases n4 <;> rfl
theorem any_swap (l : List Int) (x : Int) : (l.any fun y => x == y) = l.any fun y => y == x := by
  congr 1; funext y; rw [Bool.eq_iff_iff, beq_iff_eq, beq_iff_eq]; exact eq_comm
theorem impl_intOk_some (k s : Int) (g b : Bool) (N : List ByteArray) (M : List Int) (E : List (ByteArray × Int × Ty_Type)) (B : List Ty_Type) (c : Int) : impl_Type_intOk k s g b N M E B c = some (iOk s g b) := by
  rw [impl_Type_intOk_eq, impl_hasI_some _ _ (by simp), any_swap, sbind_some]
  unfold iOk
  cases h : (([1, 2, 4, 8] : List Int).any fun y => y == s) with
  | false => rfl
  | true => rcases four_in h with rfl | rfl | rfl | rfl <;> cases g <;> cases b <;> rfl
def rngM (s : Int) (g : Bool) : Int × Int :=
  if g = true then (if s = 1 then (-128, 127) else if s = 2 then (-32768, 32767) else if s = 4 then (-2147483648, 2147483647) else (-9223372036854775808, 9223372036854775807))
  else (if s = 1 then (0, 255) else if s = 2 then (0, 65535) else (0, 4294967295))
theorem iOk_in {s : Int} {g b : Bool} (h : iOk s g b = true) : (s = 1 ∨ s = 2 ∨ s = 4 ∨ s = 8) ∧ (g = true ∨ s < 8) := by
  unfold iOk at h
  simp only [Bool.and_eq_true, Bool.or_eq_true, decide_eq_true_eq] at h
  exact ⟨four_in h.1, h.2.1⟩
theorem spec_Range_some (k s : Int) (g b : Bool) (N : List ByteArray) (M : List Int) (E : List (ByteArray × Int × Ty_Type)) (B : List Ty_Type) (c : Int) (h : iOk s g b = true) : spec_l02Range k s g b N M E B c = some (rngM s g) := by
  obtain ⟨h1, h2⟩ := iOk_in h
  rw [spec_l02Range_eq]
  rcases h1 with rfl | rfl | rfl | rfl <;> cases g <;> first | rfl | (exfalso; simp at h2)
theorem impl_range_some (k s : Int) (g b : Bool) (N : List ByteArray) (M : List Int) (E : List (ByteArray × Int × Ty_Type)) (B : List Ty_Type) (c : Int) (h : iOk s g b = true) : impl_Type_intRange k s g b N M E B c = some (rngM s g) := by
  obtain ⟨h1, h2⟩ := iOk_in h
  rw [impl_Type_intRange_eq]
  rcases h1 with rfl | rfl | rfl | rfl <;> cases g <;> first | rfl | (exfalso; simp at h2)
theorem spec_Plain_some (k s : Int) (g b : Bool) (N : List ByteArray) (M : List Int) (E : List (ByteArray × Int × Ty_Type)) (B : List Ty_Type) (c : Int) : spec_l02Plain k s g b N M E B c = some (!g && !b) := by
  rw [spec_l02Plain_eq]; cases g <;> rfl
/-! enumerations -/
def numAt (lo hi : Int) (M : List Int) (i : Nat) : Bool := inr (M.getD i 0) lo hi && (decide (i = 0) || decide (M.getD (i - 1) 0 < M.getD i 0))
theorem intD {M : List Int} {i : Nat} (h : i < M.length) : M[i]? = some (M.getD i 0) := by
  rw [List.getD_eq_getElem?_getD, List.getElem?_eq_getElem h]; rfl
theorem all_and2 {α : Type} (l : List α) (p q : α → Bool) : l.all (fun x => p x && q x) = (l.all p && l.all q) := by
  induction l with
  | nil => rfl
  | cons x l ih => rw [List.all_cons, List.all_cons, List.all_cons, ih]; cases p x <;> cases q x <;> cases l.all p <;> rfl
theorem seq_swap (a b : ByteArray) : seq a b = seq b a := by
  rw [seq_eqB, seq_eqB, Bool.eq_iff_iff, eqB_iff, eqB_iff]; exact eq_comm
theorem not_any_all {α : Type} (l : List α) (p : α → Bool) : (!l.any p) = l.all fun x => !p x := by
  induction l with
  | nil => rfl
  | cons x l ih => rw [List.any_cons, List.all_cons, ← ih]; cases p x <;> rfl
theorem spec_Enum_loop (lo hi : Int) (k s : Int) (g b : Bool) (N : List ByteArray) (M : List Int) (E : List (ByteArray × Int × Ty_Type)) (B : List Ty_Type) (c : Int) (hn : N.length = M.length) (hl : N.length ≤ 140737488351232) : spec_l02Enum_l7 lo hi 0 k s g b N M E B c = some ((List.range N.length).all (numAt lo hi M) && dfN N) := by
  have k0 := all_loop (List.range N.length) (fun i => numAt lo hi M i && dfAt N i) (fun i => spec_l02Enum_l7 lo hi (i : Int) k s g b N M E B c) false (fun i x hx hi' => by
    rw [List.length_range] at hi'
    rw [List.getElem?_range hi', Option.some.injEq] at hx
    subst hx
    have inner : spec_l02Enum_l12 lo hi (i : Int) 0 k s g b N M E B c = sif (!((N.take i).any fun y => seq (N.getD i (bs [])) y)) (spec_l02Enum_l7 lo hi ((i + 1 : Nat) : Int) k s g b N M E B c) (some false) := by
      have k1 := all_loop (N.take i) (fun y => !seq (N.getD i (bs [])) y) (fun j => spec_l02Enum_l12 lo hi (i : Int) (j : Int) k s g b N M E B c) false (fun j y hy hj => by
        rw [List.length_take] at hj
        rw [List.getElem?_take, if_pos (by omega)] at hy
        show spec_l02Enum_l12 lo hi (i : Int) (j : Int) k s g b N M E B c = _
        rw [spec_l02Enum_l12_eq, sif_t (by omega), idx_some hy, sbind_some, idx_nat, strD hi', sbind_some, sif_not, wi64_add1 (by omega), seq_swap])
      refine k1.trans ?_
      rw [List.length_take, Nat.min_eq_left (by omega), ← not_any_all]
      show sif _ (spec_l02Enum_l12 lo hi (i : Int) (i : Int) k s g b N M E B c) _ = _
      rw [spec_l02Enum_l12_eq lo hi (i : Int) (i : Int), sif_f (by omega), wi64_add1 (by omega)]
    show spec_l02Enum_l7 lo hi (i : Int) k s g b N M E B c = _
    rw [spec_l02Enum_l7_eq, sif_t (by omega), idx_nat, strD hi', sbind_some, spec_IsName_some, sbind_some, idx_nat, intD (by omega), sbind_some, spec_l00In_some, sbind_some, inner]
    unfold dfAt numAt
    generalize ((N.take i).any fun y => seq (N.getD i (bs [])) y) = q
    by_cases hz : i = 0
    · rw [sif_f (by omega), decide_eq_true hz]
      cases isNm (N.getD i (bs [])) <;> cases inr (M.getD i 0) lo hi <;> cases q <;> rfl
    · rw [sif_t (by omega), wi64_id (by omega) (by omega), show (i : Int) - 1 = ((i - 1 : Nat) : Int) by omega, idx_nat, intD (by omega), sbind_some, sbind_some, decide_eq_false hz]
      by_cases hc : M.getD (i - 1) 0 ≥ M.getD i 0
      · rw [sif_t hc, decide_eq_false (by omega)]
        cases isNm (N.getD i (bs [])) <;> cases inr (M.getD i 0) lo hi <;> cases q <;> rfl
      · rw [sif_f hc, decide_eq_true (by omega)]
        cases isNm (N.getD i (bs [])) <;> cases inr (M.getD i 0) lo hi <;> cases q <;> rfl)
  refine k0.trans ?_
  show sif _ (spec_l02Enum_l7 lo hi ((List.range N.length).length : Nat) k s g b N M E B c) _ = _
  rw [List.length_range, spec_l02Enum_l7_eq, sif_f (by omega), sif_some, all_and2]
  unfold dfN
  cases (List.range N.length).all (numAt lo hi M) <;> cases (List.range N.length).all (dfAt N) <;> rfl
theorem impl_enum_loop (lo hi : Int) (k s : Int) (g b : Bool) (N : List ByteArray) (M : List Int) (E : List (ByteArray × Int × Ty_Type)) (B : List Ty_Type) (c : Int) (hl : M.length ≤ 140737488351232) (hN : N.length ≤ 140737488351232) (hs : ∀ x ∈ N, x.size ≤ 140737488351232) : impl_Type_enumOk_l5 lo hi M (M.length : Int) 0 k s g b N M E B c = some ((List.range M.length).all (numAt lo hi M) && (inr (M.length : Int) 1 6 && (((N.length : Int) == (M.length : Int)) && dfN N))) := by
  have k0 := all_loop (List.range M.length) (numAt lo hi M) (fun i => impl_Type_enumOk_l5 lo hi M (M.length : Int) (i : Int) k s g b N M E B c) false (fun i x hx hi' => by
    rw [List.length_range] at hi'
    rw [List.getElem?_range hi', Option.some.injEq] at hx
    subst hx
    show impl_Type_enumOk_l5 lo hi M (M.length : Int) (i : Int) k s g b N M E B c = _
    rw [impl_Type_enumOk_l5_eq, sif_t (by omega), idx_nat, intD hi', sbind_some, impl_within_some, sbind_some, wi64_add1 (by omega)]
    unfold numAt
    by_cases hz : i = 0
    · rw [sif_f (by omega), decide_eq_true hz]
      cases inr (M.getD i 0) lo hi <;> rfl
    · rw [sif_t (by omega), wi64_id (by omega) (by omega), show (i : Int) - 1 = ((i - 1 : Nat) : Int) by omega, idx_nat, intD (by omega), sbind_some, decide_eq_false hz]
      by_cases hc : M.getD i 0 ≤ M.getD (i - 1) 0
      · rw [sif_t hc, decide_eq_false (by omega)]
        cases inr (M.getD i 0) lo hi <;> rfl
      · rw [sif_f hc, decide_eq_true (by omega)]
        cases inr (M.getD i 0) lo hi <;> rfl)
  refine k0.trans ?_
  show sif _ (impl_Type_enumOk_l5 lo hi M (M.length : Int) ((List.range M.length).length : Nat) k s g b N M E B c) _ = _
  rw [List.length_range, impl_Type_enumOk_l5_eq, sif_f (by omega), impl_within_some, sbind_some, impl_diff_some N hN hs, sbind_some, sif_bool, sif_bool, sif_bool]
/-! typeC -/
/-! sizes, validity -/
def szT : Ty_Type → Int
  | .mk k s _ _ _ _ _ B c => if k = 3 then (match B with | [] => 0 | x :: _ => x.f_Size) else if k = 5 then (match B with | [] => 0 | x :: _ => c * szT x) else s
theorem szT_eq (t : Ty_Type) : szT t = if t.f_Kind = 3 then (match t.f_Base with | [] => 0 | x :: _ => x.f_Size) else if t.f_Kind = 5 then (match t.f_Base with | [] => 0 | x :: _ => t.f_Count * szT x) else t.f_Size := by
  cases t with
  | mk k s g b N M E B c => rw [szT.eq_def]; rfl
def enM (N : List ByteArray) (M : List Int) (x : Ty_Type) : Bool :=
  ((x.f_Kind == 1) && (iOk x.f_Size x.f_Signed x.f_Big && rest0 x.f_Names x.f_Nums x.f_Members x.f_Base x.f_Count)) && ((List.range M.length).all (numAt (rngM x.f_Size x.f_Signed).1 (rngM x.f_Size x.f_Signed).2 M) && (inr (M.length : Int) 1 6 && (((N.length : Int) == (M.length : Int)) && dfN N)))
def enB (N : List ByteArray) (M : List Int) : List Ty_Type → Bool
  | [x] => enM N M x
  | _ => false
def arB (v : Ty_Type → Bool) (c : Int) : List Ty_Type → Bool
  | [x] => v x && decide (c * szT x ≤ 24)
  | _ => false
theorem enB_in {N : List ByteArray} {M : List Int} {B : List Ty_Type} (h : enB N M B = true) : ∃ x, B = [x] ∧ enM N M x = true := by
  match B, h with
  | [x], h => exact ⟨x, rfl, h⟩
theorem arB_in {v : Ty_Type → Bool} {c : Int} {B : List Ty_Type} (h : arB v c B = true) : ∃ x, B = [x] ∧ v x = true ∧ c * szT x ≤ 24 := by
  match B, h with
  | [x], h =>
    have h : (v x && decide (c * szT x ≤ 24)) = true := h
    simp only [Bool.and_eq_true, decide_eq_true_eq] at h
    exact ⟨x, rfl, h⟩
def cpM (v : Ty_Type → Bool) : Int → List (ByteArray × Int × Ty_Type) → Int → Bool
  | e, [], s => decide (e ≤ s)
  | e, m :: r, s => v m.2.2 && (!decide (m.2.1 < e) && (!decide (m.2.1 > 24) && cpM v (m.2.1 + szT m.2.2) r s))
def vT : Nat → Ty_Type → Bool
  | 0, _ => false
  | d + 1, t =>
    if t.f_Kind = 1 then iOk t.f_Size t.f_Signed t.f_Big && rest0 t.f_Names t.f_Nums t.f_Members t.f_Base t.f_Count
    else if t.f_Kind = 2 then (inr t.f_Size 1 16 && (!t.f_Signed && !t.f_Big)) && rest0 t.f_Names t.f_Nums t.f_Members t.f_Base t.f_Count
    else if t.f_Kind = 3 then ((t.f_Size == 0) && (!t.f_Signed && !t.f_Big)) && ((lz t.f_Members && (t.f_Count == 0)) && enB t.f_Names t.f_Nums t.f_Base)
    else if t.f_Kind = 4 then ((inr t.f_Size 1 24 && (!t.f_Signed && !t.f_Big)) && ((lz t.f_Names && lz t.f_Nums) && (lz t.f_Base && (t.f_Count == 0)))) && (inr (t.f_Members.length : Int) 1 4 && (cpM (vT d) 0 t.f_Members t.f_Size && dfN (t.f_Members.map Prod.fst)))
    else if t.f_Kind = 5 then ((t.f_Size == 0) && (!t.f_Signed && !t.f_Big)) && (((lz t.f_Names && lz t.f_Nums) && lz t.f_Members) && (inr t.f_Count 1 4 && arB (vT d) t.f_Count t.f_Base))
    else if t.f_Kind = 6 then ((t.f_Size == 2) && (!t.f_Signed && !t.f_Big)) && rest0 t.f_Names t.f_Nums t.f_Members t.f_Base t.f_Count
    else false
theorem vT_succ (d : Nat) (t : Ty_Type) : vT (d + 1) t =
    if t.f_Kind = 1 then iOk t.f_Size t.f_Signed t.f_Big && rest0 t.f_Names t.f_Nums t.f_Members t.f_Base t.f_Count
    else if t.f_Kind = 2 then (inr t.f_Size 1 16 && (!t.f_Signed && !t.f_Big)) && rest0 t.f_Names t.f_Nums t.f_Members t.f_Base t.f_Count
    else if t.f_Kind = 3 then ((t.f_Size == 0) && (!t.f_Signed && !t.f_Big)) && ((lz t.f_Members && (t.f_Count == 0)) && enB t.f_Names t.f_Nums t.f_Base)
    else if t.f_Kind = 4 then ((inr t.f_Size 1 24 && (!t.f_Signed && !t.f_Big)) && ((lz t.f_Names && lz t.f_Nums) && (lz t.f_Base && (t.f_Count == 0)))) && (inr (t.f_Members.length : Int) 1 4 && (cpM (vT d) 0 t.f_Members t.f_Size && dfN (t.f_Members.map Prod.fst)))
    else if t.f_Kind = 5 then ((t.f_Size == 0) && (!t.f_Signed && !t.f_Big)) && (((lz t.f_Names && lz t.f_Nums) && lz t.f_Members) && (inr t.f_Count 1 4 && arB (vT d) t.f_Count t.f_Base))
    else if t.f_Kind = 6 then ((t.f_Size == 2) && (!t.f_Signed && !t.f_Big)) && rest0 t.f_Names t.f_Nums t.f_Members t.f_Base t.f_Count
    else false := rfl
/-- a valid type, kind by kind -/
theorem vT_kinds {d : Nat} {t : Ty_Type} (h : vT (d + 1) t = true) :
    (t.f_Kind = 1 ∧ iOk t.f_Size t.f_Signed t.f_Big = true) ∨ (t.f_Kind = 2 ∧ 1 ≤ t.f_Size ∧ t.f_Size ≤ 16) ∨
    (t.f_Kind = 3 ∧ ∃ x, t.f_Base = [x] ∧ enM t.f_Names t.f_Nums x = true) ∨
    (t.f_Kind = 4 ∧ (1 ≤ t.f_Size ∧ t.f_Size ≤ 24) ∧ (1 ≤ t.f_Members.length ∧ t.f_Members.length ≤ 4) ∧ cpM (vT d) 0 t.f_Members t.f_Size = true) ∨
    (t.f_Kind = 5 ∧ (1 ≤ t.f_Count ∧ t.f_Count ≤ 4) ∧ ∃ x, t.f_Base = [x] ∧ vT d x = true ∧ t.f_Count * szT x ≤ 24) ∨ (t.f_Kind = 6 ∧ t.f_Size = 2) := by
  rw [vT_succ] at h
  split at h
  · next c => simp only [Bool.and_eq_true] at h; exact .inl ⟨c, h.1⟩
  split at h
  · next c => simp only [Bool.and_eq_true, inr_iff] at h; exact .inr (.inl ⟨c, h.1.1⟩)
  split at h
  · next c =>
    simp only [Bool.and_eq_true] at h
    exact .inr (.inr (.inl ⟨c, enB_in h.2.2⟩))
  split at h
  · next c =>
    simp only [Bool.and_eq_true, inr_iff] at h
    exact .inr (.inr (.inr (.inl ⟨c, h.1.1.1, by omega, h.2.2.1⟩)))
  split at h
  · next c =>
    simp only [Bool.and_eq_true, inr_iff] at h
    exact .inr (.inr (.inr (.inr (.inl ⟨c, h.2.2.1, arB_in h.2.2.2⟩))))
  split at h
  · next c => simp only [Bool.and_eq_true, beq_iff_eq] at h; exact .inr (.inr (.inr (.inr (.inr ⟨c, h.1.1⟩))))
  · cases h
theorem enM_base {N : List ByteArray} {M : List Int} {x : Ty_Type} (h : enM N M x = true) : x.f_Kind = 1 ∧ iOk x.f_Size x.f_Signed x.f_Big = true := by
  unfold enM at h
  simp only [Bool.and_eq_true, beq_iff_eq] at h
  exact ⟨h.1.1, h.1.2.1⟩
theorem iOk_size {s : Int} {g b : Bool} (h : iOk s g b = true) : 1 ≤ s ∧ s ≤ 8 := by have := (iOk_in h).1; omega
theorem vT_size : ∀ {d : Nat} {t : Ty_Type}, vT d t = true → 1 ≤ szT t ∧ szT t ≤ 24
  | 0, _, h => by cases h
  | d + 1, t, h => by
    rw [szT_eq]
    rcases vT_kinds h with ⟨hk, h1⟩ | ⟨hk, h1⟩ | ⟨hk, x, hx, h1⟩ | ⟨hk, h1, _⟩ | ⟨hk, h1, x, hx, h2, h3⟩ | ⟨hk, h1⟩
    · rw [hk]; have := iOk_size h1; simp; omega
    · rw [hk]; simp; omega
    · rw [hk, hx]; have := iOk_size (enM_base h1).2; simp; omega
    · rw [hk]; simp; omega
    · rw [hk, hx]
      have := vT_size h2
      have h4 : 1 * 1 ≤ t.f_Count * szT x := Int.mul_le_mul h1.1 this.1 (by omega) (by omega)
      simp; omega
    · rw [hk, h1]; simp
theorem impl_size_some : ∀ {d : Nat} {t : Ty_Type}, vT d t = true → impl_Type_size t.f_Kind t.f_Size t.f_Signed t.f_Big t.f_Names t.f_Nums t.f_Members t.f_Base t.f_Count = some (szT t)
  | 0, _, h => by cases h
  | d + 1, t, h => by
    have hz := vT_size h
    rw [szT_eq] at hz ⊢
    rw [impl_Type_size_eq]
    rcases vT_kinds h with ⟨hk, h1⟩ | ⟨hk, h1⟩ | ⟨hk, x, hx, h1⟩ | ⟨hk, h1, _⟩ | ⟨hk, h1, x, hx, h2, h3⟩ | ⟨hk, h1⟩
    · rw [hk]; rfl
    · rw [hk]; rfl
    · rw [hk, hx]
      show sbind (impl_Type_size x.f_Kind x.f_Size x.f_Signed x.f_Big x.f_Names x.f_Nums x.f_Members x.f_Base x.f_Count) _ = _
      rw [impl_Type_size_eq, (enM_base h1).1]; rfl
    · rw [hk]; rfl
    · rw [hk, hx] at hz ⊢
      show sbind (impl_Type_size x.f_Kind x.f_Size x.f_Signed x.f_Big x.f_Names x.f_Nums x.f_Members x.f_Base x.f_Count) _ = _
      rw [impl_size_some h2, sbind_some]
      have hz : 1 ≤ t.f_Count * szT x ∧ t.f_Count * szT x ≤ 24 := hz
      rw [wi64_id (by omega) (by omega)]; rfl
    · rw [hk]; rfl
theorem spec_size_some : ∀ {d : Nat} {t : Ty_Type}, vT d t = true → spec_l02Size t.f_Kind t.f_Size t.f_Signed t.f_Big t.f_Names t.f_Nums t.f_Members t.f_Base t.f_Count = some (szT t)
  | 0, _, h => by cases h
  | d + 1, t, h => by
    have hz := vT_size h
    rw [szT_eq] at hz ⊢
    rw [spec_l02Size_eq]
    rcases vT_kinds h with ⟨hk, h1⟩ | ⟨hk, h1⟩ | ⟨hk, x, hx, h1⟩ | ⟨hk, h1, _⟩ | ⟨hk, h1, x, hx, h2, h3⟩ | ⟨hk, h1⟩
    · rw [hk]; rfl
    · rw [hk]; rfl
    · rw [hk, hx]; rfl
    · rw [hk]; rfl
    · rw [hk, hx] at hz ⊢
      show sbind (spec_l02Size x.f_Kind x.f_Size x.f_Signed x.f_Big x.f_Names x.f_Nums x.f_Members x.f_Base x.f_Count) _ = _
      rw [spec_size_some h2, sbind_some]
      have hz : 1 ≤ t.f_Count * szT x ∧ t.f_Count * szT x ≤ 24 := hz
      rw [wi64_id (by omega) (by omega)]; rfl
    · rw [hk]; rfl
/-! kbL -/
theorem kbeq {a b : Int} (h : a = b) : (a == b) = true := by rw [beq_iff_eq]; exact h
theorem kbne {a b : Int} (h : a ≠ b) : (a == b) = false := by rw [beq_eq_false_iff_ne]; exact h
/-! typeD -/
theorem eqB_nil {α : Type} (l : List α) : eqB l [] = lz l := by
  rw [Bool.eq_iff_iff, eqB_iff]; unfold lz; cases l <;> simp; omega
theorem eqB_zero (c : Int) : eqB c 0 = (c == 0) := (beq_eqB c 0).symm
theorem eqB_ff (g : Bool) : eqB g false = !g := by rw [← beq_eqB]; cases g <;> rfl
theorem impl_same_only (t : Ty_Type) (hok : Ok_Ty_Type t) (s' : Int) (g' b' : Bool) (N' : List ByteArray) (M' : List Int) (E' : List (ByteArray × Int × Ty_Type)) (B' : List Ty_Type) (c' : Int) :
    impl_SameType t.f_Kind t.f_Size t.f_Signed t.f_Big t.f_Names t.f_Nums t.f_Members t.f_Base t.f_Count t.f_Kind s' g' b' N' M' E' B' c' = some (eqB t.f_Size s' && (eqB t.f_Signed g' && (eqB t.f_Big b' && (eqB t.f_Names N' && (eqB t.f_Nums M' && (eqB t.f_Members E' && (eqB t.f_Base B' && eqB t.f_Count c'))))))) := by
  refine (impl_type_eqB t hok (Ty_Type.mk t.f_Kind s' g' b' N' M' E' B' c')).trans ?_
  rw [ty_eqB]
  show some (eqB t.f_Kind t.f_Kind && _) = _
  rw [eqB_self, Bool.true_and]; rfl
theorem impl_valid_int (x : Ty_Type) (hok : Ok_Ty_Type x) (hk : x.f_Kind = 1) (n : Int) (hn : 1 ≤ n) : impl_Type_valid x.f_Kind x.f_Size x.f_Signed x.f_Big x.f_Names x.f_Nums x.f_Members x.f_Base x.f_Count n = some (iOk x.f_Size x.f_Signed x.f_Big && rest0 x.f_Names x.f_Nums x.f_Members x.f_Base x.f_Count) := by
  rw [impl_Type_valid_eq, sif_f (by omega), impl_Type_only_eq]
  simp only [kbeq hk, sif_true, sbind_some, impl_same_only x hok, eqB_self, eqB_nil, eqB_zero, Bool.true_and, impl_intOk_some]
  show sif (!rest0 x.f_Names x.f_Nums x.f_Members x.f_Base x.f_Count) _ _ = _
  cases rest0 x.f_Names x.f_Nums x.f_Members x.f_Base x.f_Count <;> cases iOk x.f_Size x.f_Signed x.f_Big <;> rfl
theorem impl_enumOk_some (k s : Int) (g b : Bool) (N : List ByteArray) (M : List Int) (E : List (ByteArray × Int × Ty_Type)) (B : List Ty_Type) (c : Int) (hB : ∀ x ∈ B, Ok_Ty_Type x) (hM : M.length ≤ 140737488351232) (hN : N.length ≤ 140737488351232) (hs : ∀ x ∈ N, x.size ≤ 140737488351232) : impl_Type_enumOk k s g b N M E B c = some (enB N M B) := by
  rw [impl_Type_enumOk_eq]
  match B, hB with
  | [], _ => rfl
  | _ :: _ :: _, _ => 
    rw [sif_pos (by rw [bne_iff_ne]; simp only [List.length_cons]; omega)]; rfl
  | [x], hB =>
    have hx := hB x (by simp)
    rw [sif_neg (by rfl)]
    show sif (x.f_Kind != 1) _ (sbind (impl_Type_valid x.f_Kind x.f_Size x.f_Signed x.f_Big x.f_Names x.f_Nums x.f_Members x.f_Base x.f_Count 1) _) = _
    show _ = some (enM N M x)
    unfold enM
    by_cases hk : x.f_Kind = 1
    · rw [sif_neg (by rw [bne_eq_false_iff_eq]; exact hk), impl_valid_int x hx hk 1 (by omega), sbind_some, kbeq hk, Bool.true_and]
      cases hi : (iOk x.f_Size x.f_Signed x.f_Big && rest0 x.f_Names x.f_Nums x.f_Members x.f_Base x.f_Count) with
      | false => rfl
      | true =>
        simp only [Bool.and_eq_true] at hi
        rw [Bool.not_true, sif_false]
        show sbind (impl_Type_intRange x.f_Kind x.f_Size x.f_Signed x.f_Big x.f_Names x.f_Nums x.f_Members x.f_Base x.f_Count) _ = _
        rw [impl_range_some _ _ _ _ _ _ _ _ _ hi.1, sbind_some, impl_enum_loop _ _ _ _ _ _ _ _ _ _ _ hM hN hs]; rfl
    · rw [sif_pos (by rw [bne_iff_ne]; exact hk), kbne hk]; rfl
theorem room16 {n : Nat} (h : n ≤ 100) : room n 16 = true := by
  unfold room
  exact Nat.ble_eq_true_of_le (by omega)
theorem impl_comp_loop (d : Nat) (ih : ∀ t, Ok_Ty_Type t → impl_Type_valid t.f_Kind t.f_Size t.f_Signed t.f_Big t.f_Names t.f_Nums t.f_Members t.f_Base t.f_Count (d : Int) = some (vT d t)) (k s : Int) (g b : Bool) (N : List ByteArray) (M : List Int) (E : List (ByteArray × Int × Ty_Type)) (B : List Ty_Type) (c : Int) (hE : E.length ≤ 4) (hok : ∀ m ∈ E, Ok_Ty_Type m.2.2) (hs : ∀ m ∈ E, m.1.size ≤ 140737488351232) :
    ∀ n (i : Nat) (e : Int), E.length = i + n → 0 ≤ e → e ≤ 1000 → impl_Type_compoundOk_l6 (d : Int) e E (E.length : Int) (i : Int) k s g b N M E B c ((E.take i).map Prod.fst) = some (cpM (vT d) e (E.drop i) s && dfN (E.map Prod.fst)) := by
  intro n
  induction n with
  | zero =>
    intro i e hi h0 h1
    rw [impl_Type_compoundOk_l6_eq, sif_f (by omega), List.take_of_length_le (by omega), List.drop_eq_nil_of_le (by omega), impl_diff_some _ (by rw [List.length_map]; omega) (fun x hx => by
      obtain ⟨m, hm, rfl⟩ := List.mem_map.1 hx
      exact hs m hm), sbind_some, sif_bool]
    rfl
  | succ n ihn =>
    intro i e hi h0 h1
    have hlt : i < E.length := by omega
    have hm : E[i] ∈ E := List.getElem_mem hlt
    rw [impl_Type_compoundOk_l6_eq, sif_t (by omega), idx_nat, List.getElem?_eq_getElem hlt, sbind_some, ih _ (hok _ hm), sbind_some, List.drop_eq_getElem_cons hlt]
    show _ = some ((vT d E[i].2.2 && (!decide (E[i].2.1 < e) && (!decide (E[i].2.1 > 24) && cpM (vT d) (E[i].2.1 + szT E[i].2.2) (E.drop (i + 1)) s))) && _)
    cases hv : vT d E[i].2.2 with
    | false => rfl
    | true =>
      have hz := vT_size hv
      rw [Bool.not_true, sif_false]
      by_cases c1 : E[i].2.1 < e
      · rw [sif_t c1, decide_eq_true c1]; rfl
      · rw [sif_f c1, decide_eq_false c1]
        by_cases c2 : E[i].2.1 > 24
        · rw [sif_t c2, decide_eq_true c2]; rfl
        · rw [sif_f c2, decide_eq_false c2, impl_size_some hv, sbind_some, sif_pos (room16 (by rw [List.length_map, List.length_take]; omega)), wi64_id (by omega) (by omega), wi64_add1 (by omega)]
          have := ihn (i + 1) (E[i].2.1 + szT E[i].2.2) (by omega) (by omega) (by omega)
          rw [List.take_succ_eq_append_getElem hlt, List.map_append] at this
          exact this
theorem impl_comp_some (d : Nat) (ih : ∀ t, Ok_Ty_Type t → impl_Type_valid t.f_Kind t.f_Size t.f_Signed t.f_Big t.f_Names t.f_Nums t.f_Members t.f_Base t.f_Count (d : Int) = some (vT d t)) (k s : Int) (g b : Bool) (N : List ByteArray) (M : List Int) (E : List (ByteArray × Int × Ty_Type)) (B : List Ty_Type) (c : Int) (hok : ∀ m ∈ E, Ok_Ty_Type m.2.2) (hs : ∀ m ∈ E, m.1.size ≤ 140737488351232) :
    impl_Type_compoundOk k s g b N M E B c (d : Int) = some (inr s 1 24 && (inr (E.length : Int) 1 4 && (cpM (vT d) 0 E s && dfN (E.map Prod.fst)))) := by
  rw [impl_Type_compoundOk_eq, impl_within_some, sbind_some, impl_within_some, sbind_some]
  cases h1 : inr s 1 24 with
  | false => rfl
  | true =>
    cases h2 : inr (E.length : Int) 1 4 with
    | false => rfl
    | true =>
      have h2' := inr_iff.1 h2
      have := impl_comp_loop d ih k s g b N M E B c (by omega) hok hs E.length 0 0 (by omega) (by omega) (by omega)
      exact this
theorem impl_valid_some : ∀ (d : Nat), d ≤ 3 → ∀ t, Ok_Ty_Type t → impl_Type_valid t.f_Kind t.f_Size t.f_Signed t.f_Big t.f_Names t.f_Nums t.f_Members t.f_Base t.f_Count (d : Int) = some (vT d t)
  | 0, _, t, _ => by rw [impl_Type_valid_eq, sif_t (by omega)]; rfl
  | d + 1, hd, t, hok => by
    have ih := impl_valid_some d (by omega)
    obtain ⟨l1, l2, l3, l4, k1, k2⟩ := ok_lens hok
    have hO := Ok_Ty_Type.out hok
    by_cases c1 : t.f_Kind = 1
    · rw [impl_valid_int t hok c1 _ (by omega), vT_succ, if_pos c1]
    rw [impl_Type_valid_eq, sif_f (by omega), impl_Type_only_eq, vT_succ, if_neg c1, show wi64 (((d + 1 : Nat) : Int) - 1) = (d : Int) by rw [wi64_id (by omega) (by omega)]; omega]
    simp only [kbne c1, sif_false]
    by_cases c2 : t.f_Kind = 2
    · rw [if_pos c2]
      simp only [kbeq c2, sif_true, sbind_some, impl_same_only t hok, eqB_self, eqB_nil, eqB_zero, eqB_ff, Bool.true_and, impl_within_some]
      show sif (!(!t.f_Signed && (!t.f_Big && rest0 t.f_Names t.f_Nums t.f_Members t.f_Base t.f_Count))) _ _ = _
      cases rest0 t.f_Names t.f_Nums t.f_Members t.f_Base t.f_Count <;> cases t.f_Signed <;> cases t.f_Big <;> cases inr t.f_Size 1 16 <;> rfl
    rw [if_neg c2]
    simp only [kbne c2, sif_false]
    by_cases c6 : t.f_Kind = 6
    · rw [if_neg (by omega), if_neg (by omega), if_neg (by omega), if_pos c6]
      simp only [kbeq c6, kbne (show t.f_Kind ≠ 3 by omega), kbne (show t.f_Kind ≠ 4 by omega), kbne (show t.f_Kind ≠ 5 by omega), sif_true, sif_false, sbind_some, impl_same_only t hok, eqB_self, eqB_nil, eqB_zero, eqB_ff, Bool.true_and]
      show sif (!(!t.f_Signed && (!t.f_Big && rest0 t.f_Names t.f_Nums t.f_Members t.f_Base t.f_Count))) _ _ = _
      cases rest0 t.f_Names t.f_Nums t.f_Members t.f_Base t.f_Count <;> cases t.f_Signed <;> cases t.f_Big <;> cases t.f_Size == 2 <;> rfl
    simp only [kbne c6, sif_false]
    by_cases c3 : t.f_Kind = 3
    · rw [if_pos c3]
      simp only [kbeq c3, sif_true, sbind_some, impl_same_only t hok, eqB_self, eqB_nil, eqB_zero, eqB_ff, Bool.true_and, impl_enumOk_some _ _ _ _ _ _ _ _ _ k2 l2 l1 hO.2.2.2.2.1.2.2]
      generalize (enB t.f_Names t.f_Nums t.f_Base) = q
      cases t.f_Size == 0 <;> cases t.f_Signed <;> cases t.f_Big <;> cases lz t.f_Members <;> cases t.f_Count == 0 <;> cases q <;> rfl
    rw [if_neg c3]
    simp only [kbne c3, sif_false]
    by_cases c4 : t.f_Kind = 4
    · rw [if_pos c4]
      simp only [kbeq c4, sif_true, sbind_some, impl_same_only t hok, eqB_self, eqB_nil, eqB_zero, eqB_ff, Bool.true_and, impl_comp_some d ih _ _ _ _ _ _ _ _ _ k1 (fun m hm => (hO.2.2.2.2.2.2.1.2.2 m hm).1)]
      generalize (inr (t.f_Members.length : Int) 1 4 && (cpM (vT d) 0 t.f_Members t.f_Size && dfN (t.f_Members.map Prod.fst))) = q
      cases inr t.f_Size 1 24 <;> cases t.f_Signed <;> cases t.f_Big <;> cases lz t.f_Names <;> cases lz t.f_Nums <;> cases lz t.f_Base <;> cases t.f_Count == 0 <;> cases q <;> rfl
    rw [if_neg c4]
    simp only [kbne c4, sif_false]
    by_cases c5 : t.f_Kind = 5
    · rw [if_pos c5]
      simp only [kbeq c5, sif_true, sbind_some, impl_same_only t hok, eqB_self, eqB_nil, eqB_zero, eqB_ff, Bool.true_and, impl_within_some]
      have body : sif (inr t.f_Count 1 4) (sif ((t.f_Base.length : Int) == 1) (sbind (idx t.f_Base 0) fun x4 => sbind (impl_Type_valid x4.f_Kind x4.f_Size x4.f_Signed x4.f_Big x4.f_Names x4.f_Nums x4.f_Members x4.f_Base x4.f_Count (d : Int)) fun r5 => sif r5 (sbind (impl_Type_size t.f_Kind t.f_Size t.f_Signed t.f_Big t.f_Names t.f_Nums t.f_Members t.f_Base t.f_Count) fun r6 => some (decide (r6 ≤ 24))) (some false)) (some false)) (some false) = some (inr t.f_Count 1 4 && arB (vT d) t.f_Count t.f_Base) := by
        cases hc : inr t.f_Count 1 4 with
        | false => rfl
        | true =>
          have hc := inr_iff.1 hc
          match hB : t.f_Base with
          | [] => rfl
          | _ :: _ :: _ => rw [sif_true, sif_neg (by rw [beq_eq_false_iff_ne]; simp only [List.length_cons]; omega)]; rfl
          | [x] =>
            have hx := k2 x (by rw [hB]; simp)
            show sbind (impl_Type_valid x.f_Kind x.f_Size x.f_Signed x.f_Big x.f_Names x.f_Nums x.f_Members x.f_Base x.f_Count (d : Int)) _ = _
            show _ = some (vT d x && decide (t.f_Count * szT x ≤ 24))
            rw [ih x hx, sbind_some]
            cases hv : vT d x with
            | false => rfl
            | true =>
              have hz := vT_size hv
              have h4 : t.f_Count * szT x ≤ 4 * 24 := Int.mul_le_mul hc.2 hz.2 (by omega) (by omega)
              have h5 : 1 * 1 ≤ t.f_Count * szT x := Int.mul_le_mul hc.1 hz.1 (by omega) (by omega)
              rw [sif_true, impl_Type_size_eq, kbne c3, kbeq c5, sif_false, sif_true]
              show sbind (sbind (impl_Type_size x.f_Kind x.f_Size x.f_Signed x.f_Big x.f_Names x.f_Nums x.f_Members x.f_Base x.f_Count) _) _ = _
              rw [impl_size_some hv, sbind_some, sbind_some, wi64_id (by omega) (by omega)]; rfl
      rw [body]
      generalize (inr t.f_Count 1 4 && arB (vT d) t.f_Count t.f_Base) = q
      cases t.f_Size == 0 <;> cases t.f_Signed <;> cases t.f_Big <;> cases lz t.f_Names <;> cases lz t.f_Nums <;> cases lz t.f_Members <;> cases q <;> rfl
    rw [if_neg c5, if_neg c6]
    simp only [kbne c5, sif_false, sbind_some, impl_same_only t hok, sif_same]
/-! typeE -/
/-! depths -/
def mxI (a b : Int) : Int := if a > b then a else b
def dpT : Nat → Ty_Type → Int
  | 0, _ => 1
  | n + 1, t => if t.f_Kind = 4 then t.f_Members.foldl (fun a m => mxI a (dpT n m.2.2)) 0 + 1 else if t.f_Kind = 5 then (match t.f_Base with | [] => 1 | x :: _ => dpT n x + 1) else 1
theorem mxI_rng {a b l h : Int} (h1 : l ≤ a ∧ a ≤ h) (h2 : l ≤ b ∧ b ≤ h) : l ≤ mxI a b ∧ mxI a b ≤ h := by unfold mxI; split <;> omega
theorem fold_rng {α : Type} (f : α → Int) (h : Int) : ∀ (l : List α) (a : Int), (0 ≤ a ∧ a ≤ h) → (∀ x ∈ l, 1 ≤ f x ∧ f x ≤ h) → 0 ≤ l.foldl (fun a m => mxI a (f m)) a ∧ l.foldl (fun a m => mxI a (f m)) a ≤ h
  | [], a, ha, _ => ha
  | x :: l, a, ha, hl => fold_rng f h l _ (mxI_rng ha (by have := hl x (by simp); omega)) (fun y hy => hl y (by simp [hy]))
theorem dpT_rng : ∀ (n : Nat) (t : Ty_Type), 1 ≤ dpT n t ∧ dpT n t ≤ (n : Int) + 1
  | 0, t => by show (1 : Int) ≤ 1 ∧ (1 : Int) ≤ _; omega
  | n + 1, t => by
    show 1 ≤ (if t.f_Kind = 4 then _ else _) ∧ (if t.f_Kind = 4 then _ else _) ≤ _
    split
    · have := fold_rng (fun m : ByteArray × Int × Ty_Type => dpT n m.2.2) ((n : Int) + 1) t.f_Members 0 (by omega) (fun x _ => dpT_rng n x.2.2)
      omega
    · split
      · split
        · omega
        · next x r hx => have := dpT_rng n x; omega
      · omega
theorem cpM_all {v : Ty_Type → Bool} {s : Int} : ∀ {E : List (ByteArray × Int × Ty_Type)} {e : Int}, cpM v e E s = true → ∀ m ∈ E, v m.2.2 = true
  | [], _, _, m, hm => by cases hm
  | x :: r, e, h, m, hm => by
    simp only [cpM, Bool.and_eq_true] at h
    rcases List.mem_cons.1 hm with rfl | hm
    · exact h.1
    · exact cpM_all h.2.2.2 m hm
theorem cpM_imp {v v' : Ty_Type → Bool} {s : Int} : ∀ {E : List (ByteArray × Int × Ty_Type)} {e : Int}, cpM v e E s = true → cpM v' e E s = E.all fun m => v' m.2.2
  | [], _, h => h
  | x :: r, e, h => by
    simp only [cpM, Bool.and_eq_true] at h
    rw [cpM, h.2.1, h.2.2.1, cpM_imp h.2.2.2, List.all_cons]; rfl
theorem cpM_mono {v v' : Ty_Type → Bool} (hv : ∀ t, v t = true → v' t = true) {s : Int} {E : List (ByteArray × Int × Ty_Type)} {e : Int} (h : cpM v e E s = true) : cpM v' e E s = true := by
  rw [cpM_imp h, List.all_eq_true]
  exact fun m hm => hv _ (cpM_all h m hm)
theorem vT_mono : ∀ {d : Nat} {t : Ty_Type}, vT d t = true → vT (d + 1) t = true
  | 0, _, h => by cases h
  | d + 1, t, h => by
    rw [vT_succ] at h ⊢
    split
    · next c => rw [if_pos c] at h; exact h
    next c1 =>
    rw [if_neg c1] at h
    split
    · next c => rw [if_pos c] at h; exact h
    next c2 =>
    rw [if_neg c2] at h
    split
    · next c => rw [if_pos c] at h; exact h
    next c3 =>
    rw [if_neg c3] at h
    split
    · next c =>
      rw [if_pos c] at h
      simp only [Bool.and_eq_true] at h ⊢
      exact ⟨h.1, h.2.1, cpM_mono (fun _ hx => vT_mono hx) h.2.2.1, h.2.2.2⟩
    next c4 =>
    rw [if_neg c4] at h
    split
    · next c =>
      rw [if_pos c] at h
      simp only [Bool.and_eq_true] at h ⊢
      refine ⟨h.1, h.2.1, h.2.2.1, ?_⟩
      obtain ⟨x, hx, h1, h2⟩ := arB_in h.2.2.2
      rw [hx]
      show (vT (d + 1) x && decide (t.f_Count * szT x ≤ 24)) = true
      rw [vT_mono h1, decide_eq_true h2]; rfl
    next c5 =>
    rw [if_neg c5] at h
    exact h
theorem fold_le {α : Type} (f : α → Int) (d : Int) : ∀ (l : List α) (a : Int), decide (l.foldl (fun a m => mxI a (f m)) a ≤ d) = (decide (a ≤ d) && l.all fun m => decide (f m ≤ d))
  | [], a => by rw [List.all_nil, Bool.and_true]; rfl
  | x :: l, a => by
    rw [List.foldl_cons, fold_le f d l, List.all_cons, ← Bool.and_assoc]
    congr 1
    rw [← Bool.decide_and, decide_eq_decide]
    unfold mxI
    split <;> omega
theorem all_congr_mem {α : Type} {l : List α} {p q : α → Bool} (h : ∀ x ∈ l, p x = q x) : l.all p = l.all q := by
  induction l with
  | nil => rfl
  | cons x l ih => rw [List.all_cons, List.all_cons, h x (by simp), ih (fun y hy => h y (by simp [hy]))]
theorem vT_4 {d : Nat} {t : Ty_Type} (h : t.f_Kind = 4) : vT (d + 1) t = (((inr t.f_Size 1 24 && (!t.f_Signed && !t.f_Big)) && ((lz t.f_Names && lz t.f_Nums) && (lz t.f_Base && (t.f_Count == 0)))) && (inr (t.f_Members.length : Int) 1 4 && (cpM (vT d) 0 t.f_Members t.f_Size && dfN (t.f_Members.map Prod.fst)))) := by
  rw [vT_succ, if_neg (by omega), if_neg (by omega), if_neg (by omega), if_pos h]
theorem vT_5 {d : Nat} {t : Ty_Type} (h : t.f_Kind = 5) : vT (d + 1) t = (((t.f_Size == 0) && (!t.f_Signed && !t.f_Big)) && (((lz t.f_Names && lz t.f_Nums) && lz t.f_Members) && (inr t.f_Count 1 4 && arB (vT d) t.f_Count t.f_Base))) := by
  rw [vT_succ, if_neg (by omega), if_neg (by omega), if_neg (by omega), if_neg (by omega), if_pos h]
theorem vT_o {d n : Nat} {t : Ty_Type} (h4 : t.f_Kind ≠ 4) (h5 : t.f_Kind ≠ 5) : vT (d + 1) t = vT (n + 1) t := by
  rw [vT_succ, vT_succ]
  simp only [if_neg h4, if_neg h5]
theorem dpT_4 {n : Nat} {t : Ty_Type} (h : t.f_Kind = 4) : dpT (n + 1) t = t.f_Members.foldl (fun a m => mxI a (dpT n m.2.2)) 0 + 1 := by
  rw [dpT, if_pos h]
theorem dpT_5 {n : Nat} {t x : Ty_Type} (h : t.f_Kind = 5) (hx : t.f_Base = [x]) : dpT (n + 1) t = dpT n x + 1 := by
  rw [dpT, if_neg (by omega), if_pos h, hx]
theorem dpT_o {n : Nat} {t : Ty_Type} (h4 : t.f_Kind ≠ 4) (h5 : t.f_Kind ≠ 5) : dpT (n + 1) t = 1 := by
  rw [dpT, if_neg h4, if_neg h5]
theorem dep_le : ∀ (n d : Nat) (t : Ty_Type), d ≤ n → vT n t = true → decide (dpT n t ≤ (d : Int)) = vT d t
  | 0, _, _, _, h => by cases h
  | n + 1, 0, t, _, _ => by
    have := (dpT_rng (n + 1) t).1
    rw [decide_eq_false (by omega)]; rfl
  | n + 1, d + 1, t, hd, h => by
    have h' := h
    by_cases c4 : t.f_Kind = 4
    · rw [vT_4 c4] at h' ⊢
      rw [dpT_4 c4]
      simp only [Bool.and_eq_true] at h'
      rw [cpM_imp h'.2.2.1, h'.2.1, h'.2.2.2, Bool.and_true, Bool.true_and]
      have e : ((inr t.f_Size 1 24 && (!t.f_Signed && !t.f_Big)) && ((lz t.f_Names && lz t.f_Nums) && (lz t.f_Base && (t.f_Count == 0)))) = true := by
        simp only [Bool.and_eq_true]; exact h'.1
      rw [e, Bool.true_and]
      have k := fold_le (fun m : ByteArray × Int × Ty_Type => dpT n m.2.2) (d : Int) t.f_Members 0
      rw [decide_eq_true (show (0 : Int) ≤ d by omega), Bool.true_and] at k
      rw [← all_congr_mem (fun m hm => dep_le n d m.2.2 (by omega) (cpM_all h'.2.2.1 m hm)), ← k, decide_eq_decide]
      omega
    · by_cases c5 : t.f_Kind = 5
      · rw [vT_5 c5] at h' ⊢
        simp only [Bool.and_eq_true] at h'
        obtain ⟨x, hx, h1, h2⟩ := arB_in h'.2.2.2
        have e : ((t.f_Size == 0) && (!t.f_Signed && !t.f_Big)) = true := by simp only [Bool.and_eq_true]; exact h'.1
        have e2 : ((lz t.f_Names && lz t.f_Nums) && lz t.f_Members) = true := by simp only [Bool.and_eq_true]; exact h'.2.1
        rw [e, e2, h'.2.2.1, hx, dpT_5 c5 hx]
        show decide (dpT n x + 1 ≤ ((d + 1 : Nat) : Int)) = (true && (true && (true && (vT d x && decide (t.f_Count * szT x ≤ 24)))))
        rw [decide_eq_true h2, Bool.and_true, Bool.true_and, Bool.true_and, Bool.true_and, ← dep_le n d x (by omega) h1, decide_eq_decide]
        omega
      · rw [dpT_o c4 c5, decide_eq_true (by omega), vT_o (n := n) c4 c5]
        exact h'.symm
theorem spec_max_some (a b : Int) : spec_l00Max a b = some (mxI a b) := by
  rw [spec_l00Max_eq, sif_some]; unfold mxI; congr 1; simp only [decide_eq_true_eq]
theorem spec_depth_loop (d : Nat) (hd : d ≤ 10) (ih : ∀ t, vT d t = true → spec_l02Depth t.f_Kind t.f_Size t.f_Signed t.f_Big t.f_Names t.f_Nums t.f_Members t.f_Base t.f_Count = some (dpT d t)) (k s : Int) (g b : Bool) (N : List ByteArray) (M : List Int) (E : List (ByteArray × Int × Ty_Type)) (B : List Ty_Type) (c : Int) (hE : E.length ≤ 4) (hv : ∀ m ∈ E, vT d m.2.2 = true) :
    ∀ n (i : Nat) (a : Int), E.length = i + n → 0 ≤ a → a ≤ 20 → spec_l02Depth_l5 a (i : Int) k s g b N M E B c = some ((E.drop i).foldl (fun a m => mxI a (dpT d m.2.2)) a + 1) := by
  intro n
  induction n with
  | zero =>
    intro i a hi h0 h1
    rw [spec_l02Depth_l5_eq, sif_f (by omega), List.drop_eq_nil_of_le (by omega), wi64_id (by omega) (by omega)]; rfl
  | succ n ihn =>
    intro i a hi h0 h1
    have hlt : i < E.length := by omega
    have hr := dpT_rng d E[i].2.2
    have hm := mxI_rng (l := 0) (h := 20) ⟨h0, h1⟩ (b := dpT d E[i].2.2) (by omega)
    rw [spec_l02Depth_l5_eq, sif_t (by omega), idx_nat, List.getElem?_eq_getElem hlt, sbind_some, ih _ (hv _ (List.getElem_mem hlt)), sbind_some, spec_max_some, sbind_some, wi64_add1 (by omega), ihn (i + 1) _ (by omega) hm.1 hm.2, List.drop_eq_getElem_cons hlt, List.foldl_cons]
theorem spec_depth_some : ∀ (d : Nat), d ≤ 10 → ∀ t, vT d t = true → spec_l02Depth t.f_Kind t.f_Size t.f_Signed t.f_Big t.f_Names t.f_Nums t.f_Members t.f_Base t.f_Count = some (dpT d t)
  | 0, _, _, h => by cases h
  | d + 1, hd, t, h => by
    have ih := spec_depth_some d (by omega)
    rw [spec_l02Depth_eq]
    rcases vT_kinds h with ⟨hk, h1⟩ | ⟨hk, h1⟩ | ⟨hk, x, hx, h1⟩ | ⟨hk, h1, h2, h3⟩ | ⟨hk, h1, x, hx, h2, h3⟩ | ⟨hk, h1⟩
    · rw [dpT_o (by omega) (by omega), kbne (show t.f_Kind ≠ 4 by omega), kbne (show t.f_Kind ≠ 5 by omega)]; rfl
    · rw [dpT_o (by omega) (by omega), kbne (show t.f_Kind ≠ 4 by omega), kbne (show t.f_Kind ≠ 5 by omega)]; rfl
    · rw [dpT_o (by omega) (by omega), kbne (show t.f_Kind ≠ 4 by omega), kbne (show t.f_Kind ≠ 5 by omega)]; rfl
    · rw [kbeq hk, sif_true, dpT_4 hk]
      exact spec_depth_loop d (by omega) ih _ _ _ _ _ _ _ _ _ h2.2 (cpM_all h3) t.f_Members.length 0 0 (by omega) (by omega) (by omega)
    · have hr := dpT_rng d x
      rw [kbne (show t.f_Kind ≠ 4 by omega), kbeq hk, sif_false, sif_true, dpT_5 hk hx, hx]
      show sbind (spec_l02Depth x.f_Kind x.f_Size x.f_Signed x.f_Big x.f_Names x.f_Nums x.f_Members x.f_Base x.f_Count) _ = _
      rw [ih x h2, sbind_some, wi64_id (by omega) (by omega)]
    · rw [dpT_o (by omega) (by omega), kbne (show t.f_Kind ≠ 4 by omega), kbne (show t.f_Kind ≠ 5 by omega)]; rfl
/-! typeF -/
theorem spec_comp_inner (k s : Int) (g b : Bool) (N : List ByteArray) (M : List Int) (E : List (ByteArray × Int × Ty_Type)) (B : List Ty_Type) (c : Int) (i : Nat) (hi : i ≤ E.length) (hE : E.length ≤ 4) (nm : ByteArray) (off : Int) (x : Ty_Type) : spec_l02Compound_l13 (i : Int) 0 k s g b N M E B c nm off x.f_Kind x.f_Size x.f_Signed x.f_Big x.f_Names x.f_Nums x.f_Members x.f_Base x.f_Count = sif (!(((E.map Prod.fst).take i).any fun y => seq nm y)) (sbind (spec_l02Size x.f_Kind x.f_Size x.f_Signed x.f_Big x.f_Names x.f_Nums x.f_Members x.f_Base x.f_Count) fun r1 => spec_l02Compound_l7 (wi64 (off + r1)) (wi64 ((i : Int) + 1)) k s g b N M E B c) (some false) := by
  have k1 := all_loop (E.take i) (fun y => !seq nm y.1) (fun j => spec_l02Compound_l13 (i : Int) (j : Int) k s g b N M E B c nm off x.f_Kind x.f_Size x.f_Signed x.f_Big x.f_Names x.f_Nums x.f_Members x.f_Base x.f_Count) false (fun j y hy hj => by
    rw [List.length_take] at hj
    rw [List.getElem?_take, if_pos (by omega)] at hy
    show spec_l02Compound_l13 (i : Int) (j : Int) k s g b N M E B c nm off x.f_Kind x.f_Size x.f_Signed x.f_Big x.f_Names x.f_Nums x.f_Members x.f_Base x.f_Count = _
    rw [spec_l02Compound_l13_eq, sif_t (by omega), idx_some hy, sbind_some, sif_not, wi64_add1 (by omega), seq_swap])
  refine k1.trans ?_
  rw [List.length_take, Nat.min_eq_left hi, ← not_any_all, ← List.map_take, List.any_map]
  show sif (!((E.take i).any fun y => seq nm y.1)) (spec_l02Compound_l13 (i : Int) (i : Int) k s g b N M E B c nm off x.f_Kind x.f_Size x.f_Signed x.f_Big x.f_Names x.f_Nums x.f_Members x.f_Base x.f_Count) _ = sif (!((E.take i).any fun y => seq nm y.1)) _ _
  rw [spec_l02Compound_l13_eq (i : Int) (i : Int), sif_f (by omega)]
theorem map_fstD {E : List (ByteArray × Int × Ty_Type)} {i : Nat} (h : i < E.length) : (E.map Prod.fst).getD i (bs []) = E[i].1 := by
  rw [List.getD_eq_getElem?_getD, List.getElem?_map, List.getElem?_eq_getElem h]; rfl
theorem spec_comp_loop (k s : Int) (g b : Bool) (N : List ByteArray) (M : List Int) (E : List (ByteArray × Int × Ty_Type)) (B : List Ty_Type) (c : Int) (ih : ∀ m ∈ E, spec_l02Ok m.2.2.f_Kind m.2.2.f_Size m.2.2.f_Signed m.2.2.f_Big m.2.2.f_Names m.2.2.f_Nums m.2.2.f_Members m.2.2.f_Base m.2.2.f_Count = some (vT 3 m.2.2)) (hE : E.length ≤ 4) :
    ∀ n (i : Nat) (e : Int), E.length = i + n → 0 ≤ e → e ≤ 1000 → spec_l02Compound_l7 e (i : Int) k s g b N M E B c = some (cpM (vT 3) e (E.drop i) s && ((List.range E.length).drop i).all (dfAt (E.map Prod.fst))) := by
  intro n
  induction n with
  | zero =>
    intro i e hi h0 h1
    rw [spec_l02Compound_l7_eq, sif_f (by omega), List.drop_eq_nil_of_le (by omega), List.drop_eq_nil_of_le (by rw [List.length_range]; omega), List.all_nil, Bool.and_true]
    rfl
  | succ n ihn =>
    intro i e hi h0 h1
    have hlt : i < E.length := by omega
    have hm : E[i] ∈ E := List.getElem_mem hlt
    rw [spec_l02Compound_l7_eq, sif_t (by omega), idx_nat, List.getElem?_eq_getElem hlt, sbind_some, spec_IsName_some, sbind_some, ih _ hm, sbind_some, spec_comp_inner _ _ _ _ _ _ _ _ _ i (by omega) hE, List.drop_eq_getElem_cons hlt, List.drop_eq_getElem_cons (l := List.range E.length) (by rw [List.length_range]; omega), List.all_cons, List.getElem_range]
    have hd : dfAt (E.map Prod.fst) i = (isNm E[i].1 && !(((E.map Prod.fst).take i).any fun y => seq E[i].1 y)) := by unfold dfAt; rw [map_fstD hlt]
    rw [hd]
    show _ = some ((vT 3 E[i].2.2 && (!decide (E[i].2.1 < e) && (!decide (E[i].2.1 > 24) && cpM (vT 3) (E[i].2.1 + szT E[i].2.2) (E.drop (i + 1)) s))) && _)
    generalize (((E.map Prod.fst).take i).any fun y => seq E[i].1 y) = q
    cases hn : isNm E[i].1 with
    | false => rw [Bool.not_false, sif_true, Bool.false_and, Bool.false_and, Bool.and_false]
    | true =>
      rw [Bool.not_true, sif_false]
      by_cases c1 : E[i].2.1 < e
      · rw [sif_t c1, decide_eq_true c1, Bool.not_true, Bool.false_and, Bool.and_false, Bool.false_and]
      · rw [sif_f c1, decide_eq_false c1]
        by_cases c2 : E[i].2.1 > 24
        · rw [sif_t c2, decide_eq_true c2, Bool.not_true, Bool.false_and, Bool.and_false, Bool.and_false, Bool.false_and]
        · rw [sif_f c2, decide_eq_false c2]
          cases hv : vT 3 E[i].2.2 with
          | false => rfl
          | true =>
            have hz := vT_size hv
            rw [Bool.not_true, sif_false, spec_size_some hv, sbind_some, wi64_id (n := E[i].2.1 + szT E[i].2.2) (by omega) (by omega), wi64_add1 (by omega), ihn (i + 1) _ (by omega) (by omega) (by omega)]
            cases q
            · rfl
            · show some false = some (_ && ((true && false) && _))
              rw [Bool.and_false, Bool.false_and, Bool.and_false]
theorem spec_comp_some (k s : Int) (g b : Bool) (N : List ByteArray) (M : List Int) (E : List (ByteArray × Int × Ty_Type)) (B : List Ty_Type) (c : Int) (ih : ∀ m ∈ E, spec_l02Ok m.2.2.f_Kind m.2.2.f_Size m.2.2.f_Signed m.2.2.f_Big m.2.2.f_Names m.2.2.f_Nums m.2.2.f_Members m.2.2.f_Base m.2.2.f_Count = some (vT 3 m.2.2)) : spec_l02Compound k s g b N M E B c = some (((inr s 1 24 && (!g && !b)) && ((lz N && lz M) && (lz B && (c == 0)))) && (inr (E.length : Int) 1 4 && (cpM (vT 3) 0 E s && dfN (E.map Prod.fst)))) := by
  have lp : ∀ {α : Type} (l : List α), decide ((l.length : Int) > 0) = !lz l := fun l => by
    unfold lz
    rw [Bool.eq_iff_iff]
    simp only [decide_eq_true_eq, Bool.not_eq_true', beq_eq_false_iff_ne]
    omega
  rw [spec_l02Compound_eq, spec_l00In_some, sbind_some, spec_Plain_some, sbind_some, lp, lp, lp]
  have hl : ¬ ((E.length : Int) < 1) → ¬ ((E.length : Int) > 4) → spec_l02Compound_l7 0 0 k s g b N M E B c = some (cpM (vT 3) 0 E s && dfN (E.map Prod.fst)) := fun h1 h2 => by
    have := spec_comp_loop k s g b N M E B c ih (by omega) E.length 0 0 (by omega) (by omega) (by omega)
    rw [List.drop_zero, List.drop_zero] at this
    refine this.trans ?_
    unfold dfN
    rw [List.length_map]
  have he : sif (decide ((E.length : Int) < 1)) (some false) (sif (decide ((E.length : Int) > 4)) (some false) (spec_l02Compound_l7 0 0 k s g b N M E B c)) = some (inr (E.length : Int) 1 4 && (cpM (vT 3) 0 E s && dfN (E.map Prod.fst))) := by
    by_cases h1 : (E.length : Int) < 1
    · rw [sif_t h1, show inr (E.length : Int) 1 4 = false by rw [Bool.eq_false_iff]; intro h; rw [inr_iff] at h; omega]; rfl
    · rw [sif_f h1]
      by_cases h2 : (E.length : Int) > 4
      · rw [sif_t h2, show inr (E.length : Int) 1 4 = false by rw [Bool.eq_false_iff]; intro h; rw [inr_iff] at h; omega]; rfl
      · rw [sif_f h2, hl h1 h2, show inr (E.length : Int) 1 4 = true by rw [inr_iff]; omega]; rfl
  rw [he]
  generalize (inr (E.length : Int) 1 4 && (cpM (vT 3) 0 E s && dfN (E.map Prod.fst))) = q
  simp only [bne]
  cases inr s 1 24 <;> cases g <;> cases b <;> cases lz N <;> cases lz M <;> cases lz B <;> cases c == 0 <;> rfl
theorem spec_enum_some (k s : Int) (g b : Bool) (N : List ByteArray) (M : List Int) (E : List (ByteArray × Int × Ty_Type)) (B : List Ty_Type) (c : Int) (hN : N.length ≤ 140737488351232) : spec_l02Enum k s g b N M E B c = some (((s == 0) && (!g && !b)) && ((lz E && (c == 0)) && enB N M B)) := by
  have lp : decide ((E.length : Int) > 0) = !lz E := by
    unfold lz
    rw [Bool.eq_iff_iff]
    simp only [decide_eq_true_eq, Bool.not_eq_true', beq_eq_false_iff_ne]
    omega
  rw [spec_l02Enum_eq, spec_Plain_some, sbind_some, lp]
  have tail : (sif (((B.length : Int) != 1)) (some false) <|
      sbind (idx B 0) fun x2 =>
      sif ((x2.f_Kind != 1)) (some false) <|
      sbind (idx B 0) fun x3 =>
      sbind (spec_l02Int x3.f_Kind x3.f_Size x3.f_Signed x3.f_Big x3.f_Names x3.f_Nums x3.f_Members x3.f_Base x3.f_Count) fun r4 =>
      sif (!r4) (some false) <|
      sif (decide ((N.length : Int) < 1)) (some false) <|
      sif (decide ((N.length : Int) > 6)) (some false) <|
      sif (((M.length : Int) != (N.length : Int))) (some false) <|
      sbind (idx B 0) fun x5 =>
      sbind (spec_l02Range x5.f_Kind x5.f_Size x5.f_Signed x5.f_Big x5.f_Names x5.f_Nums x5.f_Members x5.f_Base x5.f_Count) fun r6 =>
      spec_l02Enum_l7 r6.1 r6.2 0 k s g b N M E B c) = some (enB N M B) := by
    match B with
    | [] => rfl
    | _ :: _ :: _ => rw [sif_pos (by rw [bne_iff_ne]; simp only [List.length_cons]; omega)]; rfl
    | [x] =>
      rw [sif_neg (by rfl)]
      show sif (x.f_Kind != 1) _ (sbind (spec_l02Int x.f_Kind x.f_Size x.f_Signed x.f_Big x.f_Names x.f_Nums x.f_Members x.f_Base x.f_Count) _) = some (enM N M x)
      rw [spec_Int_some, sbind_some]
      unfold enM
      by_cases hk : x.f_Kind = 1
      · rw [sif_neg (by rw [bne_eq_false_iff_eq]; exact hk), kbeq hk, Bool.true_and]
        cases hi : (iOk x.f_Size x.f_Signed x.f_Big && rest0 x.f_Names x.f_Nums x.f_Members x.f_Base x.f_Count) with
        | false => rfl
        | true =>
          simp only [Bool.and_eq_true] at hi
          rw [Bool.not_true, sif_false, Bool.true_and]
          by_cases hn : N.length = M.length
          · by_cases h1 : (N.length : Int) < 1
            · rw [sif_t h1, show inr (M.length : Int) 1 6 = false by rw [Bool.eq_false_iff]; intro h; rw [inr_iff] at h; omega, Bool.false_and, Bool.and_false]
            · rw [sif_f h1]
              by_cases h2 : (N.length : Int) > 6
              · rw [sif_t h2, show inr (M.length : Int) 1 6 = false by rw [Bool.eq_false_iff]; intro h; rw [inr_iff] at h; omega, Bool.false_and, Bool.and_false]
              · rw [sif_f h2, sif_neg (by rw [bne_eq_false_iff_eq]; omega), show inr (M.length : Int) 1 6 = true by rw [inr_iff]; omega, kbeq (show (N.length : Int) = M.length by omega), Bool.true_and, Bool.true_and]
                show sbind (spec_l02Range x.f_Kind x.f_Size x.f_Signed x.f_Big x.f_Names x.f_Nums x.f_Members x.f_Base x.f_Count) _ = _
                rw [spec_Range_some _ _ _ _ _ _ _ _ _ hi.1, sbind_some, spec_Enum_loop _ _ _ _ _ _ _ _ _ _ _ hn hN, hn]
          · rw [kbne (show (N.length : Int) ≠ M.length by omega), Bool.false_and, Bool.and_false, Bool.and_false, sif_pos (b := ((M.length : Int) != (N.length : Int))) (by rw [bne_iff_ne]; omega), sif_same, sif_same]
      · rw [sif_pos (by rw [bne_iff_ne]; exact hk), kbne hk]; rfl
  rw [tail]
  generalize enB N M B = q
  simp only [bne]
  cases s == 0 <;> cases g <;> cases b <;> cases lz E <;> cases c == 0 <;> cases q <;> rfl
/-! typeG -/
def arO (v : Ty_Type → Bool) : List Ty_Type → Bool
  | [x] => v x
  | _ => false
theorem spec_arr_some (k s : Int) (g b : Bool) (N : List ByteArray) (M : List Int) (E : List (ByteArray × Int × Ty_Type)) (B : List Ty_Type) (c : Int) (ih : ∀ m ∈ B, spec_l02Ok m.f_Kind m.f_Size m.f_Signed m.f_Big m.f_Names m.f_Nums m.f_Members m.f_Base m.f_Count = some (vT 3 m)) : spec_l02Array k s g b N M E B c = some (((s == 0) && (!g && !b)) && (((lz N && lz M) && lz E) && (inr c 1 4 && arO (vT 3) B))) := by
  have lp : ∀ {α : Type} (l : List α), decide ((l.length : Int) > 0) = !lz l := fun l => by
    unfold lz
    rw [Bool.eq_iff_iff]
    simp only [decide_eq_true_eq, Bool.not_eq_true', beq_eq_false_iff_ne]
    omega
  rw [spec_l02Array_eq, spec_Plain_some, sbind_some, lp, lp, lp, spec_l00In_some]
  have tail : (sif (((B.length : Int) != 1)) (some false) <|
      sbind (some (inr c 1 4)) fun r2 =>
      sif (r2)
       (sbind (idx B 0) fun x3 =>
        sbind (spec_l02Ok x3.f_Kind x3.f_Size x3.f_Signed x3.f_Big x3.f_Names x3.f_Nums x3.f_Members x3.f_Base x3.f_Count) fun r4 =>
        some r4) (some false)) = some (inr c 1 4 && arO (vT 3) B) := by
    rw [sbind_some]
    match B, ih with
    | [], _ => rw [sif_pos (by rfl)]; show _ = some (_ && false); rw [Bool.and_false]
    | _ :: _ :: _, _ => rw [sif_pos (by rw [bne_iff_ne]; simp only [List.length_cons]; omega)]; show _ = some (_ && false); rw [Bool.and_false]
    | [x], ih =>
      rw [sif_neg (by rfl)]
      show sif _ (sbind (spec_l02Ok x.f_Kind x.f_Size x.f_Signed x.f_Big x.f_Names x.f_Nums x.f_Members x.f_Base x.f_Count) _) _ = some (_ && vT 3 x)
      rw [ih x (by simp), sbind_some, sif_bool]
  rw [tail]
  generalize (inr c 1 4 && arO (vT 3) B) = q
  simp only [bne]
  cases s == 0 <;> cases g <;> cases b <;> cases lz N <;> cases lz M <;> cases lz E <;> cases q <;> rfl
theorem l17_false (k s : Int) (g b : Bool) (N : List ByteArray) (M : List Int) (E : List (ByteArray × Int × Ty_Type)) (B : List Ty_Type) (c : Int) : spec_l02Ok_l17 false k s g b N M E B c = some false := by rw [spec_l02Ok_l17_eq]; rfl
theorem l17_true (t : Ty_Type) (h : vT 4 t = true) : spec_l02Ok_l17 true t.f_Kind t.f_Size t.f_Signed t.f_Big t.f_Names t.f_Nums t.f_Members t.f_Base t.f_Count = some (vT 3 t) := by
  have hz := vT_size h
  rw [spec_l02Ok_l17_eq, sif_true, spec_size_some h, sbind_some, sif_t (by omega), spec_depth_some 4 (by omega) t h, sbind_some]
  exact congrArg some (dep_le 4 3 t (by omega) h)
theorem l17_fine (t : Ty_Type) (f : Bool) (h : f = vT 4 t) : spec_l02Ok_l17 f t.f_Kind t.f_Size t.f_Signed t.f_Big t.f_Names t.f_Nums t.f_Members t.f_Base t.f_Count = some (vT 3 t) := by
  cases f with
  | true => exact l17_true t h.symm
  | false =>
    rw [l17_false]
    cases h3 : vT 3 t with
    | false => rfl
    | true => rw [vT_mono h3] at h; cases h
theorem l15_o (f : Bool) (k s : Int) (g b : Bool) (N : List ByteArray) (M : List Int) (E : List (ByteArray × Int × Ty_Type)) (B : List Ty_Type) (c : Int) (h2 : k ≠ 2) (h6 : k ≠ 6) : spec_l02Ok_l15 f k s g b N M E B c = spec_l02Ok_l17 f k s g b N M E B c := by
  rw [spec_l02Ok_l15_eq, kbne h2, kbne h6, sif_false, sif_false]
theorem l15_p (f : Bool) (k s : Int) (g b : Bool) (N : List ByteArray) (M : List Int) (E : List (ByteArray × Int × Ty_Type)) (B : List Ty_Type) (c : Int) (h : k = 2 ∨ k = 6) : spec_l02Ok_l15 f k s g b N M E B c = spec_l02Ok_l17 ((f && (!g && !b)) && rest0 N M E B c) k s g b N M E B c := by
  have e : (sif (f)
         (sbind (spec_l02Plain k s g b N M E B c) fun r1 =>
          sif (r1)
           (sif (((N.length : Int) == 0))
             (sif (((M.length : Int) == 0))
               (sif (((E.length : Int) == 0))
                 (sif (((B.length : Int) == 0))
                   (spec_l02Ok_l17 (c == 0) k s g b N M E B c) <|
                  spec_l02Ok_l17 false k s g b N M E B c) <|
                spec_l02Ok_l17 false k s g b N M E B c) <|
              spec_l02Ok_l17 false k s g b N M E B c) <|
            spec_l02Ok_l17 false k s g b N M E B c) <|
          spec_l02Ok_l17 false k s g b N M E B c) <|
        spec_l02Ok_l17 false k s g b N M E B c) = spec_l02Ok_l17 ((f && (!g && !b)) && rest0 N M E B c) k s g b N M E B c := by
    rw [spec_Plain_some, sbind_some]
    unfold rest0 lz
    generalize ((N.length : Int) == 0) = n1, ((M.length : Int) == 0) = n2, ((E.length : Int) == 0) = n3, ((B.length : Int) == 0) = n4, (c == 0) = n5
    cases f <;> cases g <;> cases b <;> cases n1 <;> cases n2 <;> cases n3 <;> cases n4 <;> rfl
  rw [spec_l02Ok_l15_eq, e]
  rcases h with rfl | rfl
  · rfl
  · rfl
theorem spec_ok_some (t : Ty_Type) : Ok_Ty_Type t → spec_l02Ok t.f_Kind t.f_Size t.f_Signed t.f_Big t.f_Names t.f_Nums t.f_Members t.f_Base t.f_Count = some (vT 3 t) := by
  refine Ty_Type.ind (P := fun t => Ok_Ty_Type t → spec_l02Ok t.f_Kind t.f_Size t.f_Signed t.f_Big t.f_Names t.f_Nums t.f_Members t.f_Base t.f_Count = some (vT 3 t)) ?_ t
  intro t ih1 ih2 hok
  obtain ⟨l1, l2, l3, l4, k1, k2⟩ := ok_lens hok
  rw [spec_l02Ok_eq]
  by_cases c1 : t.f_Kind = 1
  · rw [kbeq c1, sif_true, spec_Int_some, sbind_some, l15_o _ _ _ _ _ _ _ _ _ _ (by omega) (by omega)]
    exact l17_fine t _ (by rw [vT_succ, if_pos c1])
  rw [kbne c1, sif_false]
  by_cases c2 : t.f_Kind = 2
  · rw [kbeq c2, sif_true, spec_l00In_some, sbind_some, l15_p _ _ _ _ _ _ _ _ _ _ (.inl c2)]
    exact l17_fine t _ (by rw [vT_succ, if_neg c1, if_pos c2])
  rw [kbne c2, sif_false]
  by_cases c3 : t.f_Kind = 3
  · rw [kbeq c3, sif_true, spec_enum_some _ _ _ _ _ _ _ _ _ l1, sbind_some, l15_o _ _ _ _ _ _ _ _ _ _ (by omega) (by omega)]
    exact l17_fine t _ (by rw [vT_succ, if_neg c1, if_neg c2, if_pos c3])
  rw [kbne c3, sif_false]
  by_cases c4 : t.f_Kind = 4
  · rw [kbeq c4, sif_true, spec_comp_some _ _ _ _ _ _ _ _ _ (fun m hm => ih1 m hm (k1 m hm)), sbind_some, l15_o _ _ _ _ _ _ _ _ _ _ (by omega) (by omega)]
    exact l17_fine t _ (by rw [vT_4 c4])
  rw [kbne c4, sif_false]
  by_cases c5 : t.f_Kind = 5
  · rw [kbeq c5, sif_true, spec_arr_some _ _ _ _ _ _ _ _ _ (fun m hm => ih2 m hm (k2 m hm)), sbind_some, l15_o _ _ _ _ _ _ _ _ _ _ (by omega) (by omega)]
    cases hp : (((t.f_Size == 0) && (!t.f_Signed && !t.f_Big)) && (((lz t.f_Names && lz t.f_Nums) && lz t.f_Members) && inr t.f_Count 1 4)) with
    | false =>
      have e : (((t.f_Size == 0) && (!t.f_Signed && !t.f_Big)) && (((lz t.f_Names && lz t.f_Nums) && lz t.f_Members) && (inr t.f_Count 1 4 && arO (vT 3) t.f_Base))) = false := by
        rw [← Bool.and_assoc ((lz t.f_Names && lz t.f_Nums) && lz t.f_Members), ← Bool.and_assoc, hp, Bool.false_and]
      have e2 : vT 3 t = false := by
        rw [vT_5 c5, ← Bool.and_assoc ((lz t.f_Names && lz t.f_Nums) && lz t.f_Members), ← Bool.and_assoc, hp, Bool.false_and]
      rw [e, e2, l17_false]
    | true =>
      have e : (((t.f_Size == 0) && (!t.f_Signed && !t.f_Big)) && (((lz t.f_Names && lz t.f_Nums) && lz t.f_Members) && (inr t.f_Count 1 4 && arO (vT 3) t.f_Base))) = arO (vT 3) t.f_Base := by
        rw [← Bool.and_assoc ((lz t.f_Names && lz t.f_Nums) && lz t.f_Members), ← Bool.and_assoc, hp, Bool.true_and]
      have e4 : ∀ d, vT (d + 1) t = arB (vT d) t.f_Count t.f_Base := fun d => by
        rw [vT_5 c5, ← Bool.and_assoc ((lz t.f_Names && lz t.f_Nums) && lz t.f_Members), ← Bool.and_assoc, hp, Bool.true_and]
      simp only [Bool.and_eq_true, inr_iff] at hp
      rw [e]
      match hB : t.f_Base with
      | [] => rw [e4 2, hB]; show spec_l02Ok_l17 false _ _ _ _ _ _ _ _ _ = _; rw [l17_false]; rfl
      | _ :: _ :: _ => rw [e4 2, hB]; show spec_l02Ok_l17 false _ _ _ _ _ _ _ _ _ = _; rw [l17_false]; rfl
      | [x] =>
        show spec_l02Ok_l17 (vT 3 x) t.f_Kind t.f_Size t.f_Signed t.f_Big t.f_Names t.f_Nums t.f_Members [x] t.f_Count = _
        rw [← hB]
        cases hv : vT 3 x with
        | false => exact l17_fine t _ (by rw [e4 3, hB]; show false = (vT 3 x && _); rw [hv]; rfl)
        | true =>
          by_cases hs : t.f_Count * szT x ≤ 24
          · exact l17_fine t _ (by rw [e4 3, hB]; show true = (vT 3 x && decide (t.f_Count * szT x ≤ 24)); rw [hv, decide_eq_true hs]; rfl)
          · have hz := vT_size hv
            have hc := hp.2.2
            have h4 : t.f_Count * szT x ≤ 4 * 24 := Int.mul_le_mul hc.2 hz.2 (by omega) (by omega)
            have e3 : vT 3 t = false := by
              rw [e4 2, hB]; show (vT 2 x && decide (t.f_Count * szT x ≤ 24)) = false; rw [decide_eq_false hs, Bool.and_false]
            rw [e3, spec_l02Ok_l17_eq, sif_true, spec_l02Size_eq, kbne c3, kbeq c5, sif_false, sif_true, hB]
            show sbind (sbind (spec_l02Size x.f_Kind x.f_Size x.f_Signed x.f_Big x.f_Names x.f_Nums x.f_Members x.f_Base x.f_Count) _) _ = _
            rw [spec_size_some hv, sbind_some, sbind_some, wi64_id (by omega) (by omega), sif_f hs]
  rw [kbne c5, sif_false]
  by_cases c6 : t.f_Kind = 6
  · rw [kbeq c6, sif_true, l15_p _ _ _ _ _ _ _ _ _ _ (.inr c6)]
    exact l17_fine t _ (by rw [vT_succ, if_neg c1, if_neg c2, if_neg c3, if_neg c4, if_neg c5, if_pos c6])
  · rw [kbne c6, sif_false, l15_o _ _ _ _ _ _ _ _ _ _ (by omega) (by omega)]
    exact l17_fine t _ (by rw [vT_succ, if_neg c1, if_neg c2, if_neg c3, if_neg c4, if_neg c5, if_neg c6])
/-! leL -/
def leN : List Int → Int
  | [] => 0
  | b :: r => b + 256 * leN r
theorem leN_ge : ∀ {l : List Int}, inB l → 0 ≤ leN l
  | [], _ => by simp [leN]
  | b :: r, h => by
    have := leN_ge (l := r) (fun x hx => h x (by simp [hx])); have := h b (by simp); simp only [leN]; omega
theorem leN_lt : ∀ {l : List Int}, inB l → leN l < 256 ^ l.length
  | [], _ => by simp [leN]
  | b :: r, h => by
    have := leN_lt (l := r) (fun x hx => h x (by simp [hx])); have := h b (by simp)
    simp only [leN, List.length_cons, Int.pow_succ]; omega
theorem leN_append : ∀ (a b : List Int), leN (a ++ b) = leN a + 256 ^ a.length * leN b
  | [], b => by simp [leN]
  | x :: a, b => by
    simp only [List.cons_append, leN, leN_append a b, List.length_cons, Int.pow_succ]
    rw [Int.mul_add, Int.mul_comm (256 ^ a.length) 256, Int.mul_assoc]; omega
theorem inB_take {l : List Int} (h : inB l) (n : Nat) : inB (l.take n) := fun x hx => h x (List.mem_of_mem_take hx)
theorem inB_drop {l : List Int} (h : inB l) (n : Nat) : inB (l.drop n) := fun x hx => h x (List.mem_of_mem_drop hx)
def leB (n : Int) (k : Nat) : List Int := (List.range k).map (fun i => wu8 (Int.fdiv n (2 ^ (8 * i))))
theorem leB_len (n : Int) (k : Nat) : (leB n k).length = k := by simp [leB]
theorem leB_in (n : Int) (k : Nat) : inB (leB n k) := by
  intro x hx
  obtain ⟨i, _, rfl⟩ := List.mem_map.1 hx
  rw [wu8_def]; omega
theorem fdiv_shift (n : Int) (i : Nat) : Int.fdiv n (2 ^ (8 * (i + 1))) = Int.fdiv (Int.fdiv n 256) (2 ^ (8 * i)) := by
  rw [Int.fdiv_eq_ediv_of_nonneg _ (Int.pow_nonneg (by decide)), Int.fdiv_eq_ediv_of_nonneg _ (Int.pow_nonneg (by decide)), Int.fdiv_eq_ediv_of_nonneg _ (by decide)]
  rw [Int.ediv_ediv_of_nonneg (by decide)]
  congr 1
  rw [Nat.mul_add, Int.pow_add, Int.mul_comm]; rfl
theorem leB_succ (n : Int) (k : Nat) : leB n (k + 1) = wu8 n :: leB (Int.fdiv n 256) k := by
  unfold leB
  rw [List.range_succ_eq_map, List.map_cons, List.map_map]
  congr 1
  · simp [Int.fdiv_one]
  · refine List.map_congr_left (fun i _ => ?_)
    simp only [Function.comp]
    rw [Nat.succ_eq_add_one, fdiv_shift]
theorem or_add {x b k : Nat} (h : x < 2 ^ k) : x ||| (b * 2 ^ k) = x + b * 2 ^ k := by
  have := Nat.shiftLeft_add_eq_or_of_lt h b
  rw [Nat.shiftLeft_eq] at this
  rw [Nat.or_comm, ← this, Nat.add_comm]
theorem bits_or_nat {x y : Nat} (hx : x < 18446744073709551616) (hy : y < 18446744073709551616) : bits .or .u64 (x : Int) (y : Int) = ((x ||| y : Nat) : Int) := by
  have e : bits .or .u64 (x : Int) (y : Int) = wu64 (((BitVec.ofInt 64 (x : Int)) ||| (BitVec.ofInt 64 (y : Int))).toNat : Int) := rfl
  have hxy : x ||| y < 2 ^ 64 := Nat.or_lt_two_pow hx hy
  rw [e, BitVec.toNat_or, BitVec.ofInt_natCast, BitVec.ofInt_natCast, BitVec.toNat_ofNat, BitVec.toNat_ofNat, Nat.mod_eq_of_lt hx, Nat.mod_eq_of_lt hy, wu64_id (by omega) (by omega)]
theorem or_step {n b : Int} {i : Nat} (hi : i ≤ 7) (h0 : 0 ≤ n) (h1 : n < 256 ^ i) (b0 : 0 ≤ b) (b1 : b ≤ 255) : bits .or .u64 n (wu64 ((wu64 b) * 2 ^ (min (wi64 (8 * (i : Int))).toNat 64))) = n + 256 ^ i * b := by
  rw [wi64_id (by omega) (by omega), wu64_id (n := b) (by omega) (by omega)]
  have hm : min (8 * (i : Int)).toNat 64 = 8 * i := by omega
  rw [hm]
  have hp : (256 : Int) ^ i = 2 ^ (8 * i) := by rw [Int.pow_mul]; rfl
  have hpn : ((2 ^ (8 * i) : Nat) : Int) = 2 ^ (8 * i) := by push_cast; rfl
  have hle : (2 : Nat) ^ (8 * i) ≤ 2 ^ 56 := Nat.pow_le_pow_right (by decide) (by omega)
  obtain ⟨bn, rfl⟩ : ∃ bn : Nat, b = bn := ⟨b.toNat, by omega⟩
  obtain ⟨nn, rfl⟩ : ∃ nn : Nat, n = nn := ⟨n.toNat, by omega⟩
  rw [hp, ← hpn] at h1
  have hmul : bn * 2 ^ (8 * i) ≤ 255 * 2 ^ 56 := Nat.mul_le_mul (by omega) hle
  rw [hp, ← hpn, ← Int.natCast_mul, wu64_id (by omega) (by omega), bits_or_nat (by omega) (by omega), or_add (by omega)]
  push_cast
  rw [Int.mul_comm]
theorem wu8_and (m : Int) : wu8 (bits .and .i64 m 255) = wu8 m := by
  have e : bits .and .i64 m 255 = wi64 (((BitVec.ofInt 64 m) &&& 255#64).toNat : Int) := rfl
  have h : ∀ x : BitVec 64, (x &&& 255#64).toNat = x.toNat % 256 := fun x => by
    rw [BitVec.toNat_and]; exact Nat.and_two_pow_sub_one_eq_mod x.toNat 8
  rw [e, h, BitVec.toNat_ofInt, wi64_id (by omega) (by omega), wu8_def, wu8_def]
  omega
theorem toB_append (a b : List Int) : toB a ++ toB b = toB (a ++ b) := by
  unfold toB
  apply ByteArray.ext
  simp
theorem joinsT {a b : List Int} (h : a.length + b.length ≤ 4611686018427387904) : joins (toB a) (toB b) = true := joins_ok (by rw [toB_size, toB_size]; omega)
theorem extract_toB (l : List Int) (i j : Nat) : (toB l).extract i j = toB ((l.take j).drop i) := by
  unfold toB
  apply ByteArray.ext
  simp [ByteArray.data_extract, List.map_take, List.map_drop, List.drop_take]
theorem bidx_toB {l : List Int} (h : inB l) {i : Int} (h0 : 0 ≤ i) : bidx (toB l) i = l[i.toNat]? := by rw [bidx_ofB, ofB_toB h, idx_int h0]
theorem toB_inj {a b : List Int} (ha : inB a) (hb : inB b) (h : toB a = toB b) : a = b := by rw [← ofB_toB ha, h, ofB_toB hb]
theorem seq_toB {a b : List Int} (ha : inB a) (hb : inB b) : seq (toB a) (toB b) = decide (a = b) := by
  rw [seq_eq, Bool.eq_iff_iff]
  simp only [decide_eq_true_eq]
  exact ⟨toB_inj ha hb, fun h => by rw [h]⟩
/-! revL -/
theorem rev_aux {α R : Type} (l : List α) (F : Int → Int → List α → Option R) (r : List α → Option R) (hend : ∀ (i j : Int) s, ¬ i < j → F i j s = r s)
    (hstep : ∀ (i j : Int) s x y, i < j → 0 ≤ i → j < l.length → s.length = l.length → s[j.toNat]? = some x → s[i.toNat]? = some y → F i j s = F (i + 1) (j - 1) ((s.set i.toNat x).set j.toNat y)) :
    ∀ (n i : Nat) (s : List α), l.length - 2 * i ≤ n → 2 * i ≤ l.length + 1 → s.length = l.length → (∀ k, k < l.length → s[k]? = if k < i ∨ l.length - i ≤ k then l[l.length - 1 - k]? else l[k]?) →
    F i ((l.length : Int) - 1 - i) s = r l.reverse := by
  intro n
  induction n with
  | zero =>
    intro i s hn hi hs hk
    rw [hend _ _ _ (by omega)]
    congr 1
    refine List.ext_getElem? (fun k => ?_)
    rcases Nat.lt_or_ge k l.length with h | h
    · rw [hk k h, List.getElem?_reverse h]
      split
      · rfl
      · congr 1; omega
    · rw [List.getElem?_eq_none (by omega), List.getElem?_eq_none (by simpa using h)]
  | succ n ih =>
    intro i s hn hi hs hk
    by_cases h : (i : Int) < (l.length : Int) - 1 - i
    · have hj : ((l.length : Int) - 1 - i).toNat = l.length - 1 - i := by omega
      have hi2 : ((i : Int)).toNat = i := by omega
      have h1 : l.length - 1 - i < s.length := by omega
      have h2 : i < s.length := by omega
      rw [hstep i _ s s[l.length - 1 - i] s[i] h (by omega) (by omega) hs (by rw [hj]; exact List.getElem?_eq_getElem h1) (by rw [hi2]; exact List.getElem?_eq_getElem h2)]
      have e1 := ih (i + 1) ((s.set i s[l.length - 1 - i]).set (l.length - 1 - i) s[i]) (by omega) (by omega) (by simp [hs]) (fun k hkl => by
        have g1 := hk (l.length - 1 - i) (by omega)
        have g2 := hk i (by omega)
        rw [List.getElem?_eq_getElem h1, if_neg (by omega)] at g1
        rw [List.getElem?_eq_getElem h2, if_neg (by omega)] at g2
        rw [List.getElem?_set, List.getElem?_set]
        by_cases ha : l.length - 1 - i = k
        · subst ha
          rw [if_pos rfl, if_pos (by simp; omega), if_pos (by omega), show l.length - 1 - (l.length - 1 - i) = i by omega, g2]
        · rw [if_neg ha]
          by_cases hb : i = k
          · subst hb
            rw [if_pos rfl, if_pos (by omega), if_pos (by omega), g1]
          · rw [if_neg hb, hk k hkl]
            by_cases hc : k < i ∨ l.length - i ≤ k
            · rw [if_pos hc, if_pos (by omega)]
            · rw [if_neg hc, if_neg (by omega)])
      rw [hj, hi2]
      have e2 : ((i : Int) + 1) = ((i + 1 : Nat) : Int) := by omega
      have e3 : ((l.length : Int) - 1 - i - 1) = (l.length : Int) - 1 - ((i + 1 : Nat) : Int) := by omega
      rw [e2, e3]; exact e1
    · rw [hend _ _ _ h]
      congr 1
      refine List.ext_getElem? (fun k => ?_)
      rcases Nat.lt_or_ge k l.length with h' | h'
      · rw [hk k h', List.getElem?_reverse h']
        split
        · rfl
        · congr 1; omega
      · rw [List.getElem?_eq_none (by omega), List.getElem?_eq_none (by simpa using h')]
end Go.Ve.X
