/-
  DERIVED. GIVEN WITH THE SEED: THE CARDS: each row of YtdoepleadccncaaDoorRows.lean that lists a variable, with what it lists TIED to the program's text (the seventh form; the later family's looks); each row that meets fmt, with fmt's text TOLD by the authors' own Lean function (tested against real Go, not proved from fmt's source: count such statements apart). THE CARD IS WHAT COUNTS. Prove the row's statement (the work); the ties are given (YtdoepleadccncaaDoorTie.lean); close each card by the builder's one call (the guide's Derived/Test/ToyasCard.lean, 'card_holds'). Laid BY PROGRAM, IN A SANDBOX (cutbox-door.mjs). By AI agents, Wed Nov 11 2026. No macro, syntax, notation, axiom, sorry.
-/
import Derived.Test.YtdoepleadccncaaDoorRows
import GoSem.ClaimSeven
namespace Go.Proofs.YtdoepleadccncaaDoor
namespace Rows

/-- THE TIED CARD OF 'laws.FnExactNumberOf'. -/
def fnExactNumberOfCard : Claim7 := { stood := { row := fnExactNumberOfRow, standIns := [], harness := (true, "0b520408b8f758f68ef8dceb59ac8d28fe96f8b59e10faa2f3dab514d64c28fe"), looks := false }, kinds := [], alts := [], laidByText := true, laidKinds := [.data, .pinned], laidTests := true, laidLooks := .later }
def FnExactNumberOfCardSaid : Prop := Claim7.holds Tryd.pinned (.plain (OpenSpec.ofChange fnExactNumberOfSpec)) fnExactNumberOfCard

/-- THE SECOND FORM's CARD OF 'laws.FnExactNumberOf'. -/
def fnExactNumberOfUptoCard : Claim7 := { stood := { row := fnExactNumberOfUptoRow, standIns := [], harness := (true, "0b520408b8f758f68ef8dceb59ac8d28fe96f8b59e10faa2f3dab514d64c28fe"), looks := false }, kinds := [], alts := [], laidByText := true, laidKinds := [.data, .pinned], laidTests := true, laidLooks := .later }
def FnExactNumberOfUptoCardSaid : Prop := Claim7.holds Tryd.pinned (.plain (OpenSpec.upto fnExactNumberOfSpec)) fnExactNumberOfUptoCard
end Rows
end Go.Proofs.YtdoepleadccncaaDoor
