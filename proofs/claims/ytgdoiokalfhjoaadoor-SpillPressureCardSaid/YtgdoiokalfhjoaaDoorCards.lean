/-
  DERIVED. GIVEN WITH THE SEED: THE CARDS: each row of YtgdoiokalfhjoaaDoorRows.lean that lists a variable, with what it lists TIED to the program's text (the seventh form; the later family's looks); each row that meets fmt, with fmt's text TOLD by the authors' own Lean function (tested against real Go, not proved from fmt's source: count such statements apart). THE CARD IS WHAT COUNTS. Prove the row's statement (the work); the ties are given (YtgdoiokalfhjoaaDoorTie.lean); close each card by the builder's one call (the guide's Derived/Test/ToyasCard.lean, 'card_holds'). Laid BY PROGRAM, IN A SANDBOX (cutbox-door.mjs). By AI agents, Wed Nov 11 2026. No macro, syntax, notation, axiom, sorry.
-/
import Derived.Test.YtgdoiokalfhjoaaDoorRows
import GoSem.ClaimSeven
namespace Go.Proofs.YtgdoiokalfhjoaaDoor
namespace Rows

/-- THE TIED CARD OF 'warpwrightlaw16.SpillPressure'. -/
def spillPressureCard : Claim7 := { stood := { row := spillPressureRow, standIns := [], harness := (true, "d3afeec862f710a69c4e6dc5a2b8d8f5c051790c633d0e4acb776fd3f81ab4c8"), looks := false }, kinds := [], alts := [], laidByText := true, laidKinds := [.data], laidTests := true, laidLooks := .later }
def SpillPressureCardSaid : Prop := Claim7.holds Tryd.pinned (.plain (OpenSpec.ofChange spillPressureSpec)) spillPressureCard

/-- THE SECOND FORM's CARD OF 'warpwrightlaw16.SpillPressure'. -/
def spillPressureUptoCard : Claim7 := { stood := { row := spillPressureUptoRow, standIns := [], harness := (true, "d3afeec862f710a69c4e6dc5a2b8d8f5c051790c633d0e4acb776fd3f81ab4c8"), looks := false }, kinds := [], alts := [], laidByText := true, laidKinds := [.data], laidTests := true, laidLooks := .later }
def SpillPressureUptoCardSaid : Prop := Claim7.holds Tryd.pinned (.plain (OpenSpec.upto spillPressureSpec)) spillPressureUptoCard
end Rows
end Go.Proofs.YtgdoiokalfhjoaaDoor
