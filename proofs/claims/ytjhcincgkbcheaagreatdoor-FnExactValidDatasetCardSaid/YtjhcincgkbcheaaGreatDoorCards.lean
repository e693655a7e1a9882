/-
  DERIVED. GIVEN WITH THE SEED: THE CARDS: each row of YtjhcincgkbcheaaGreatDoorRows.lean that lists a variable, with what it lists TIED to the program's text (the seventh form; the later family's looks); each row that meets fmt, with fmt's text TOLD by the authors' own Lean function (tested against real Go, not proved from fmt's source: count such statements apart). THE CARD IS WHAT COUNTS. Prove the row's statement (the work); the ties are given (YtjhcincgkbcheaaGreatDoorTie.lean); close each card by the builder's one call (the guide's Derived/Test/ToyasCard.lean, 'card_holds'). Laid BY PROGRAM, IN A SANDBOX (cutbox-door.mjs). By AI agents, Wed Nov 11 2026. No macro, syntax, notation, axiom, sorry.
-/
import Derived.Test.YtjhcincgkbcheaaGreatDoorRows
import GoSem.ClaimSeven
namespace Go.Proofs.YtjhcincgkbcheaaGreatDoor
namespace Rows

/-- THE TIED CARD OF 'laws.FnExactValidArray'. -/
def fnExactValidArrayCard : Claim7 := { stood := { row := fnExactValidArrayRow, standIns := [], harness := (true, "94159eabe0ae146337164ad5a33ab4b1703a2e91e4d2a52c48da2ed49a95b0ca"), looks := false }, kinds := [], alts := [], laidByText := true, laidKinds := [.data, .pinned], laidTests := true, laidLooks := .later }
def FnExactValidArrayCardSaid : Prop := Claim7.holds Tryz.pinned (.plain (OpenSpec.ofChange fnExactValidArraySpec)) fnExactValidArrayCard

/-- THE TIED CARD OF 'laws.FnExactCompareElements'. -/
def fnExactCompareElementsCard : Claim7 := { stood := { row := fnExactCompareElementsRow, standIns := [], harness := (true, "94159eabe0ae146337164ad5a33ab4b1703a2e91e4d2a52c48da2ed49a95b0ca"), looks := false }, kinds := [], alts := [], laidByText := true, laidKinds := [.data, .pinned], laidTests := true, laidLooks := .later }
def FnExactCompareElementsCardSaid : Prop := Claim7.holds Tryz.pinned (.plain (OpenSpec.ofChange fnExactCompareElementsSpec)) fnExactCompareElementsCard

/-- THE TIED CARD OF 'laws.FnExactElementAt'. -/
def fnExactElementAtCard : Claim7 := { stood := { row := fnExactElementAtRow, standIns := [], harness := (true, "94159eabe0ae146337164ad5a33ab4b1703a2e91e4d2a52c48da2ed49a95b0ca"), looks := false }, kinds := [], alts := [], laidByText := true, laidKinds := [.data, .pinned], laidTests := true, laidLooks := .later }
def FnExactElementAtCardSaid : Prop := Claim7.holds Tryz.pinned (.plain (OpenSpec.ofChange fnExactElementAtSpec)) fnExactElementAtCard

/-- THE TIED CARD OF 'laws.FnExactValidAttribute'. -/
def fnExactValidAttributeCard : Claim7 := { stood := { row := fnExactValidAttributeRow, standIns := [], harness := (true, "94159eabe0ae146337164ad5a33ab4b1703a2e91e4d2a52c48da2ed49a95b0ca"), looks := false }, kinds := [], alts := [], laidByText := true, laidKinds := [.data, .pinned], laidTests := true, laidLooks := .later }
def FnExactValidAttributeCardSaid : Prop := Claim7.holds Tryz.pinned (.plain (OpenSpec.ofChange fnExactValidAttributeSpec)) fnExactValidAttributeCard

/-- THE TIED CARD OF 'laws.FnExactEncodeAttribute'. -/
def fnExactEncodeAttributeCard : Claim7 := { stood := { row := fnExactEncodeAttributeRow, standIns := [], harness := (true, "94159eabe0ae146337164ad5a33ab4b1703a2e91e4d2a52c48da2ed49a95b0ca"), looks := false }, kinds := [], alts := [], laidByText := true, laidKinds := [.data, .pinned], laidTests := true, laidLooks := .later }
def FnExactEncodeAttributeCardSaid : Prop := Claim7.holds Tryz.pinned (.plain (OpenSpec.ofChange fnExactEncodeAttributeSpec)) fnExactEncodeAttributeCard

/-- THE TIED CARD OF 'laws.FnExactValidDataset'. -/
def fnExactValidDatasetCard : Claim7 := { stood := { row := fnExactValidDatasetRow, standIns := [], harness := (true, "94159eabe0ae146337164ad5a33ab4b1703a2e91e4d2a52c48da2ed49a95b0ca"), looks := false }, kinds := [], alts := [], laidByText := true, laidKinds := [.data, .pinned], laidTests := true, laidLooks := .later }
def FnExactValidDatasetCardSaid : Prop := Claim7.holds Tryz.pinned (.plain (OpenSpec.ofChange fnExactValidDatasetSpec)) fnExactValidDatasetCard

/-- THE SECOND FORM's CARD OF 'laws.FnExactValidArray'. -/
def fnExactValidArrayUptoCard : Claim7 := { stood := { row := fnExactValidArrayUptoRow, standIns := [], harness := (true, "94159eabe0ae146337164ad5a33ab4b1703a2e91e4d2a52c48da2ed49a95b0ca"), looks := false }, kinds := [], alts := [], laidByText := true, laidKinds := [.data, .pinned], laidTests := true, laidLooks := .later }
def FnExactValidArrayUptoCardSaid : Prop := Claim7.holds Tryz.pinned (.plain (OpenSpec.upto fnExactValidArraySpec)) fnExactValidArrayUptoCard

/-- THE SECOND FORM's CARD OF 'laws.FnExactCompareElements'. -/
def fnExactCompareElementsUptoCard : Claim7 := { stood := { row := fnExactCompareElementsUptoRow, standIns := [], harness := (true, "94159eabe0ae146337164ad5a33ab4b1703a2e91e4d2a52c48da2ed49a95b0ca"), looks := false }, kinds := [], alts := [], laidByText := true, laidKinds := [.data, .pinned], laidTests := true, laidLooks := .later }
def FnExactCompareElementsUptoCardSaid : Prop := Claim7.holds Tryz.pinned (.plain (OpenSpec.upto fnExactCompareElementsSpec)) fnExactCompareElementsUptoCard

/-- THE SECOND FORM's CARD OF 'laws.FnExactElementAt'. -/
def fnExactElementAtUptoCard : Claim7 := { stood := { row := fnExactElementAtUptoRow, standIns := [], harness := (true, "94159eabe0ae146337164ad5a33ab4b1703a2e91e4d2a52c48da2ed49a95b0ca"), looks := false }, kinds := [], alts := [], laidByText := true, laidKinds := [.data, .pinned], laidTests := true, laidLooks := .later }
def FnExactElementAtUptoCardSaid : Prop := Claim7.holds Tryz.pinned (.plain (OpenSpec.upto fnExactElementAtSpec)) fnExactElementAtUptoCard

/-- THE SECOND FORM's CARD OF 'laws.FnExactValidAttribute'. -/
def fnExactValidAttributeUptoCard : Claim7 := { stood := { row := fnExactValidAttributeUptoRow, standIns := [], harness := (true, "94159eabe0ae146337164ad5a33ab4b1703a2e91e4d2a52c48da2ed49a95b0ca"), looks := false }, kinds := [], alts := [], laidByText := true, laidKinds := [.data, .pinned], laidTests := true, laidLooks := .later }
def FnExactValidAttributeUptoCardSaid : Prop := Claim7.holds Tryz.pinned (.plain (OpenSpec.upto fnExactValidAttributeSpec)) fnExactValidAttributeUptoCard

/-- THE SECOND FORM's CARD OF 'laws.FnExactEncodeAttribute'. -/
def fnExactEncodeAttributeUptoCard : Claim7 := { stood := { row := fnExactEncodeAttributeUptoRow, standIns := [], harness := (true, "94159eabe0ae146337164ad5a33ab4b1703a2e91e4d2a52c48da2ed49a95b0ca"), looks := false }, kinds := [], alts := [], laidByText := true, laidKinds := [.data, .pinned], laidTests := true, laidLooks := .later }
def FnExactEncodeAttributeUptoCardSaid : Prop := Claim7.holds Tryz.pinned (.plain (OpenSpec.upto fnExactEncodeAttributeSpec)) fnExactEncodeAttributeUptoCard

/-- THE SECOND FORM's CARD OF 'laws.FnExactValidDataset'. -/
def fnExactValidDatasetUptoCard : Claim7 := { stood := { row := fnExactValidDatasetUptoRow, standIns := [], harness := (true, "94159eabe0ae146337164ad5a33ab4b1703a2e91e4d2a52c48da2ed49a95b0ca"), looks := false }, kinds := [], alts := [], laidByText := true, laidKinds := [.data, .pinned], laidTests := true, laidLooks := .later }
def FnExactValidDatasetUptoCardSaid : Prop := Claim7.holds Tryz.pinned (.plain (OpenSpec.upto fnExactValidDatasetSpec)) fnExactValidDatasetUptoCard
end Rows
end Go.Proofs.YtjhcincgkbcheaaGreatDoor
