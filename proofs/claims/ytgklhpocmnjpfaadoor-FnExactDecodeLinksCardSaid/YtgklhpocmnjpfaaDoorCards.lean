/-
  DERIVED. GIVEN WITH THE SEED: THE CARDS: each row of YtgklhpocmnjpfaaDoorRows.lean that lists a variable, with what it lists TIED to the program's text (the seventh form; the later family's looks); each row that meets fmt, with fmt's text TOLD by the authors' own Lean function (tested against real Go, not proved from fmt's source: count such statements apart). THE CARD IS WHAT COUNTS. Prove the row's statement (the work); the ties are given (YtgklhpocmnjpfaaDoorTie.lean); close each card by the builder's one call (the guide's Derived/Test/ToyasCard.lean, 'card_holds'). Laid BY PROGRAM, IN A SANDBOX (cutbox-door.mjs). By AI agents, Wed Nov 11 2026. No macro, syntax, notation, axiom, sorry.
-/
import Derived.Test.YtgklhpocmnjpfaaDoorRows
import GoSem.ClaimSeven
namespace Go.Proofs.YtgklhpocmnjpfaaDoor
namespace Rows

/-- THE TIED CARD OF 'laws.FnExactProblemText'. -/
def fnExactProblemTextCard : Claim7 := { stood := { row := fnExactProblemTextRow, standIns := [], harness := (true, "d8822d272275aa2cb022dd6169fa5c087d083b84a0574103176f38e16837131e"), looks := true }, kinds := [], alts := [], laidByText := true, laidKinds := [.data, .data, .data], laidTests := true, laidLooks := .later }
def FnExactProblemTextCardSaid : Prop := Claim7.holds Tryd.pinned (.plain (OpenSpec.ofChange fnExactProblemTextSpec)) fnExactProblemTextCard

/-- THE TIED CARD OF 'laws.FnExactPipelineText'. -/
def fnExactPipelineTextCard : Claim7 := { stood := { row := fnExactPipelineTextRow, standIns := [], harness := (true, "d8822d272275aa2cb022dd6169fa5c087d083b84a0574103176f38e16837131e"), looks := true }, kinds := [], alts := [], laidByText := true, laidKinds := [.data, .data, .data], laidTests := true, laidLooks := .later }
def FnExactPipelineTextCardSaid : Prop := Claim7.holds Tryd.pinned (.plain (OpenSpec.ofChange fnExactPipelineTextSpec)) fnExactPipelineTextCard

/-- THE TIED CARD OF 'laws.FnExactSpaceText'. -/
def fnExactSpaceTextCard : Claim7 := { stood := { row := fnExactSpaceTextRow, standIns := [], harness := (true, "d8822d272275aa2cb022dd6169fa5c087d083b84a0574103176f38e16837131e"), looks := true }, kinds := [], alts := [], laidByText := true, laidKinds := [.data, .data, .data], laidTests := true, laidLooks := .later }
def FnExactSpaceTextCardSaid : Prop := Claim7.holds Tryd.pinned (.plain (OpenSpec.ofChange fnExactSpaceTextSpec)) fnExactSpaceTextCard

/-- THE TIED CARD OF 'laws.FnExactNumbersText'. -/
def fnExactNumbersTextCard : Claim7 := { stood := { row := fnExactNumbersTextRow, standIns := [], harness := (true, "d8822d272275aa2cb022dd6169fa5c087d083b84a0574103176f38e16837131e"), looks := true }, kinds := [], alts := [], laidByText := true, laidKinds := [.data, .data, .data], laidTests := true, laidLooks := .later }
def FnExactNumbersTextCardSaid : Prop := Claim7.holds Tryd.pinned (.plain (OpenSpec.ofChange fnExactNumbersTextSpec)) fnExactNumbersTextCard

/-- THE TIED CARD OF 'laws.FnExactDecodeLinks'. -/
def fnExactDecodeLinksCard : Claim7 := { stood := { row := fnExactDecodeLinksRow, standIns := [], harness := (true, "d8822d272275aa2cb022dd6169fa5c087d083b84a0574103176f38e16837131e"), looks := true }, kinds := [], alts := [], laidByText := true, laidKinds := [.data, .pinned], laidTests := true, laidLooks := .later }
def FnExactDecodeLinksCardSaid : Prop := Claim7.holds Tryd.pinned (.plain (OpenSpec.ofChange fnExactDecodeLinksSpec)) fnExactDecodeLinksCard

/-- THE TIED CARD OF 'laws.FnExactReadProblem'. -/
def fnExactReadProblemCard : Claim7 := { stood := { row := fnExactReadProblemRow, standIns := [], harness := (true, "d8822d272275aa2cb022dd6169fa5c087d083b84a0574103176f38e16837131e"), looks := true }, kinds := [], alts := [], laidByText := true, laidKinds := [.data, .data, .data, .sentinel, .sentinel], laidTests := true, laidLooks := .later }
def FnExactReadProblemCardSaid : Prop := Claim7.holds Tryd.pinned (.plain (OpenSpec.ofChange fnExactReadProblemSpec)) fnExactReadProblemCard

/-- THE SECOND FORM's CARD OF 'laws.FnExactProblemText'. -/
def fnExactProblemTextUptoCard : Claim7 := { stood := { row := fnExactProblemTextUptoRow, standIns := [], harness := (true, "d8822d272275aa2cb022dd6169fa5c087d083b84a0574103176f38e16837131e"), looks := true }, kinds := [], alts := [], laidByText := true, laidKinds := [.data, .data, .data], laidTests := true, laidLooks := .later }
def FnExactProblemTextUptoCardSaid : Prop := Claim7.holds Tryd.pinned (.plain (OpenSpec.upto fnExactProblemTextSpec)) fnExactProblemTextUptoCard

/-- THE SECOND FORM's CARD OF 'laws.FnExactPipelineText'. -/
def fnExactPipelineTextUptoCard : Claim7 := { stood := { row := fnExactPipelineTextUptoRow, standIns := [], harness := (true, "d8822d272275aa2cb022dd6169fa5c087d083b84a0574103176f38e16837131e"), looks := true }, kinds := [], alts := [], laidByText := true, laidKinds := [.data, .data, .data], laidTests := true, laidLooks := .later }
def FnExactPipelineTextUptoCardSaid : Prop := Claim7.holds Tryd.pinned (.plain (OpenSpec.upto fnExactPipelineTextSpec)) fnExactPipelineTextUptoCard

/-- THE SECOND FORM's CARD OF 'laws.FnExactSpaceText'. -/
def fnExactSpaceTextUptoCard : Claim7 := { stood := { row := fnExactSpaceTextUptoRow, standIns := [], harness := (true, "d8822d272275aa2cb022dd6169fa5c087d083b84a0574103176f38e16837131e"), looks := true }, kinds := [], alts := [], laidByText := true, laidKinds := [.data, .data, .data], laidTests := true, laidLooks := .later }
def FnExactSpaceTextUptoCardSaid : Prop := Claim7.holds Tryd.pinned (.plain (OpenSpec.upto fnExactSpaceTextSpec)) fnExactSpaceTextUptoCard

/-- THE SECOND FORM's CARD OF 'laws.FnExactNumbersText'. -/
def fnExactNumbersTextUptoCard : Claim7 := { stood := { row := fnExactNumbersTextUptoRow, standIns := [], harness := (true, "d8822d272275aa2cb022dd6169fa5c087d083b84a0574103176f38e16837131e"), looks := true }, kinds := [], alts := [], laidByText := true, laidKinds := [.data, .data, .data], laidTests := true, laidLooks := .later }
def FnExactNumbersTextUptoCardSaid : Prop := Claim7.holds Tryd.pinned (.plain (OpenSpec.upto fnExactNumbersTextSpec)) fnExactNumbersTextUptoCard

/-- THE SECOND FORM's CARD OF 'laws.FnExactDecodeLinks'. -/
def fnExactDecodeLinksUptoCard : Claim7 := { stood := { row := fnExactDecodeLinksUptoRow, standIns := [], harness := (true, "d8822d272275aa2cb022dd6169fa5c087d083b84a0574103176f38e16837131e"), looks := true }, kinds := [], alts := [], laidByText := true, laidKinds := [.data, .pinned], laidTests := true, laidLooks := .later }
def FnExactDecodeLinksUptoCardSaid : Prop := Claim7.holds Tryd.pinned (.plain (OpenSpec.upto fnExactDecodeLinksSpec)) fnExactDecodeLinksUptoCard

/-- THE SECOND FORM's CARD OF 'laws.FnExactReadProblem'. -/
def fnExactReadProblemUptoCard : Claim7 := { stood := { row := fnExactReadProblemUptoRow, standIns := [], harness := (true, "d8822d272275aa2cb022dd6169fa5c087d083b84a0574103176f38e16837131e"), looks := true }, kinds := [], alts := [], laidByText := true, laidKinds := [.data, .data, .data, .sentinel, .sentinel], laidTests := true, laidLooks := .later }
def FnExactReadProblemUptoCardSaid : Prop := Claim7.holds Tryd.pinned (.plain (OpenSpec.upto fnExactReadProblemSpec)) fnExactReadProblemUptoCard
end Rows
end Go.Proofs.YtgklhpocmnjpfaaDoor
