/-
  DERIVED. GIVEN WITH THE SEED: THE CARDS: each row of YtaijkhkgjedkaaaGreatDoorRows.lean that lists a variable, with what it lists TIED to the program's text (the seventh form; the later family's looks); each row that meets fmt, with fmt's text TOLD by the authors' own Lean function (tested against real Go, not proved from fmt's source: count such statements apart). THE CARD IS WHAT COUNTS. Prove the row's statement (the work); the ties are given (YtaijkhkgjedkaaaGreatDoorTie.lean); close each card by the builder's one call (the guide's Derived/Test/ToyasCard.lean, 'card_holds'). Laid BY PROGRAM, IN A SANDBOX (cutbox-door.mjs). By AI agents, Wed Nov 11 2026. No macro, syntax, notation, axiom, sorry.
-/
import Derived.Test.YtaijkhkgjedkaaaGreatDoorRows
import GoSem.ClaimSeven
namespace Go.Proofs.YtaijkhkgjedkaaaGreatDoor
namespace Rows

/-- THE TIED CARD OF 'laws.FnExactMappingAt'. -/
def fnExactMappingAtCard : Claim7 := { stood := { row := fnExactMappingAtRow, standIns := [], harness := (true, "6dd4bb12b71498a1734e97556b771094c2e43f52464da07c91d53feaac490c23"), looks := false }, kinds := [], alts := [], laidByText := true, laidKinds := [.data, .pinned], laidTests := true, laidLooks := .later }
def FnExactMappingAtCardSaid : Prop := Claim7.holds Tryz.pinned (.plain (OpenSpec.ofChange fnExactMappingAtSpec)) fnExactMappingAtCard

/-- THE TIED CARD OF 'laws.FnExactSourcePaths'. -/
def fnExactSourcePathsCard : Claim7 := { stood := { row := fnExactSourcePathsRow, standIns := [], harness := (true, "6dd4bb12b71498a1734e97556b771094c2e43f52464da07c91d53feaac490c23"), looks := false }, kinds := [], alts := [], laidByText := true, laidKinds := [.data, .pinned], laidTests := true, laidLooks := .later }
def FnExactSourcePathsCardSaid : Prop := Claim7.holds Tryz.pinned (.plain (OpenSpec.ofChange fnExactSourcePathsSpec)) fnExactSourcePathsCard

/-- THE TIED CARD OF 'laws.FnExactValidOp'. -/
def fnExactValidOpCard : Claim7 := { stood := { row := fnExactValidOpRow, standIns := [], harness := (true, "6dd4bb12b71498a1734e97556b771094c2e43f52464da07c91d53feaac490c23"), looks := false }, kinds := [], alts := [], laidByText := true, laidKinds := [.data, .pinned], laidTests := true, laidLooks := .later }
def FnExactValidOpCardSaid : Prop := Claim7.holds Tryz.pinned (.plain (OpenSpec.ofChange fnExactValidOpSpec)) fnExactValidOpCard

/-- THE TIED CARD OF 'laws.FnExactElementText'. -/
def fnExactElementTextCard : Claim7 := { stood := { row := fnExactElementTextRow, standIns := [], harness := (true, "6dd4bb12b71498a1734e97556b771094c2e43f52464da07c91d53feaac490c23"), looks := false }, kinds := [], alts := [], laidByText := true, laidKinds := [.data, .data, .data, .data, .pinned], laidTests := true, laidLooks := .later }
def FnExactElementTextCardSaid : Prop := Claim7.holds Tryz.pinned (.plain (OpenSpec.ofChange fnExactElementTextSpec)) fnExactElementTextCard

/-- THE TIED CARD OF 'laws.FnExactGather'. -/
def fnExactGatherCard : Claim7 := { stood := { row := fnExactGatherRow, standIns := [], harness := (true, "6dd4bb12b71498a1734e97556b771094c2e43f52464da07c91d53feaac490c23"), looks := false }, kinds := [], alts := [], laidByText := true, laidKinds := [.data, .pinned], laidTests := true, laidLooks := .later }
def FnExactGatherCardSaid : Prop := Claim7.holds Tryz.pinned (.plain (OpenSpec.ofChange fnExactGatherSpec)) fnExactGatherCard

/-- THE TIED CARD OF 'laws.FnExactValidVirtual'. -/
def fnExactValidVirtualCard : Claim7 := { stood := { row := fnExactValidVirtualRow, standIns := [], harness := (true, "6dd4bb12b71498a1734e97556b771094c2e43f52464da07c91d53feaac490c23"), looks := false }, kinds := [], alts := [], laidByText := true, laidKinds := [.data, .pinned], laidTests := true, laidLooks := .later }
def FnExactValidVirtualCardSaid : Prop := Claim7.holds Tryz.pinned (.plain (OpenSpec.ofChange fnExactValidVirtualSpec)) fnExactValidVirtualCard

/-- THE SECOND FORM's CARD OF 'laws.FnExactMappingAt'. -/
def fnExactMappingAtUptoCard : Claim7 := { stood := { row := fnExactMappingAtUptoRow, standIns := [], harness := (true, "6dd4bb12b71498a1734e97556b771094c2e43f52464da07c91d53feaac490c23"), looks := false }, kinds := [], alts := [], laidByText := true, laidKinds := [.data, .pinned], laidTests := true, laidLooks := .later }
def FnExactMappingAtUptoCardSaid : Prop := Claim7.holds Tryz.pinned (.plain (OpenSpec.upto fnExactMappingAtSpec)) fnExactMappingAtUptoCard

/-- THE SECOND FORM's CARD OF 'laws.FnExactSourcePaths'. -/
def fnExactSourcePathsUptoCard : Claim7 := { stood := { row := fnExactSourcePathsUptoRow, standIns := [], harness := (true, "6dd4bb12b71498a1734e97556b771094c2e43f52464da07c91d53feaac490c23"), looks := false }, kinds := [], alts := [], laidByText := true, laidKinds := [.data, .pinned], laidTests := true, laidLooks := .later }
def FnExactSourcePathsUptoCardSaid : Prop := Claim7.holds Tryz.pinned (.plain (OpenSpec.upto fnExactSourcePathsSpec)) fnExactSourcePathsUptoCard

/-- THE SECOND FORM's CARD OF 'laws.FnExactValidOp'. -/
def fnExactValidOpUptoCard : Claim7 := { stood := { row := fnExactValidOpUptoRow, standIns := [], harness := (true, "6dd4bb12b71498a1734e97556b771094c2e43f52464da07c91d53feaac490c23"), looks := false }, kinds := [], alts := [], laidByText := true, laidKinds := [.data, .pinned], laidTests := true, laidLooks := .later }
def FnExactValidOpUptoCardSaid : Prop := Claim7.holds Tryz.pinned (.plain (OpenSpec.upto fnExactValidOpSpec)) fnExactValidOpUptoCard

/-- THE SECOND FORM's CARD OF 'laws.FnExactElementText'. -/
def fnExactElementTextUptoCard : Claim7 := { stood := { row := fnExactElementTextUptoRow, standIns := [], harness := (true, "6dd4bb12b71498a1734e97556b771094c2e43f52464da07c91d53feaac490c23"), looks := false }, kinds := [], alts := [], laidByText := true, laidKinds := [.data, .data, .data, .data, .pinned], laidTests := true, laidLooks := .later }
def FnExactElementTextUptoCardSaid : Prop := Claim7.holds Tryz.pinned (.plain (OpenSpec.upto fnExactElementTextSpec)) fnExactElementTextUptoCard

/-- THE SECOND FORM's CARD OF 'laws.FnExactGather'. -/
def fnExactGatherUptoCard : Claim7 := { stood := { row := fnExactGatherUptoRow, standIns := [], harness := (true, "6dd4bb12b71498a1734e97556b771094c2e43f52464da07c91d53feaac490c23"), looks := false }, kinds := [], alts := [], laidByText := true, laidKinds := [.data, .pinned], laidTests := true, laidLooks := .later }
def FnExactGatherUptoCardSaid : Prop := Claim7.holds Tryz.pinned (.plain (OpenSpec.upto fnExactGatherSpec)) fnExactGatherUptoCard

/-- THE SECOND FORM's CARD OF 'laws.FnExactValidVirtual'. -/
def fnExactValidVirtualUptoCard : Claim7 := { stood := { row := fnExactValidVirtualUptoRow, standIns := [], harness := (true, "6dd4bb12b71498a1734e97556b771094c2e43f52464da07c91d53feaac490c23"), looks := false }, kinds := [], alts := [], laidByText := true, laidKinds := [.data, .pinned], laidTests := true, laidLooks := .later }
def FnExactValidVirtualUptoCardSaid : Prop := Claim7.holds Tryz.pinned (.plain (OpenSpec.upto fnExactValidVirtualSpec)) fnExactValidVirtualUptoCard
end Rows
end Go.Proofs.YtaijkhkgjedkaaaGreatDoor
