/-
  DERIVED. GIVEN WITH THE SEED: THE CARDS: each row of YtgdoiokalfhjoaaGreatDoorRows.lean that lists a variable, with what it lists TIED to the program's text (the seventh form; the later family's looks); each row that meets fmt, with fmt's text TOLD by the authors' own Lean function (tested against real Go, not proved from fmt's source: count such statements apart). THE CARD IS WHAT COUNTS. Prove the row's statement (the work); the ties are given (YtgdoiokalfhjoaaGreatDoorTie.lean); close each card by the builder's one call (the guide's Derived/Test/ToyasCard.lean, 'card_holds'). Laid BY PROGRAM, IN A SANDBOX (cutbox-door.mjs). By AI agents, Wed Nov 11 2026. No macro, syntax, notation, axiom, sorry.
-/
import Derived.Test.YtgdoiokalfhjoaaGreatDoorRows
import GoSem.ClaimSeven
namespace Go.Proofs.YtgdoiokalfhjoaaGreatDoor
namespace Rows

/-- THE TIED CARD OF 'warpwrightlaw17.AllocMatchesReference'. -/
def allocMatchesReferenceCard : Claim7 := { stood := { row := allocMatchesReferenceRow, standIns := [], harness := (true, "c25135a6f820431f41c2a5ae4e21b5fc1ee2253b536ac7b1a7750af648d5e6d1"), looks := true }, kinds := [], alts := [], laidByText := true, laidKinds := [.data], laidTests := true, laidLooks := .later }
def AllocMatchesReferenceCardSaid : Prop := Claim7.holds Tryz.pinned (.plain (OpenSpec.ofChange allocMatchesReferenceSpec)) allocMatchesReferenceCard

/-- THE TIED CARD OF 'warpwrightlaw17.AllocAccepted'. -/
def allocAcceptedCard : Claim7 := { stood := { row := allocAcceptedRow, standIns := [], harness := (true, "c25135a6f820431f41c2a5ae4e21b5fc1ee2253b536ac7b1a7750af648d5e6d1"), looks := true }, kinds := [], alts := [], laidByText := true, laidKinds := [.data], laidTests := true, laidLooks := .later }
def AllocAcceptedCardSaid : Prop := Claim7.holds Tryz.pinned (.plain (OpenSpec.ofChange allocAcceptedSpec)) allocAcceptedCard

/-- THE TIED CARD OF 'warpwrightlaw17.AllocExchanges'. -/
def allocExchangesCard : Claim7 := { stood := { row := allocExchangesRow, standIns := [], harness := (true, "c25135a6f820431f41c2a5ae4e21b5fc1ee2253b536ac7b1a7750af648d5e6d1"), looks := true }, kinds := [], alts := [], laidByText := true, laidKinds := [.data], laidTests := true, laidLooks := .later }
def AllocExchangesCardSaid : Prop := Claim7.holds Tryz.pinned (.plain (OpenSpec.ofChange allocExchangesSpec)) allocExchangesCard

/-- THE TIED CARD OF 'warpwrightlaw17.AllocConflicts'. -/
def allocConflictsCard : Claim7 := { stood := { row := allocConflictsRow, standIns := [], harness := (true, "c25135a6f820431f41c2a5ae4e21b5fc1ee2253b536ac7b1a7750af648d5e6d1"), looks := true }, kinds := [], alts := [], laidByText := true, laidKinds := [.data], laidTests := true, laidLooks := .later }
def AllocConflictsCardSaid : Prop := Claim7.holds Tryz.pinned (.plain (OpenSpec.ofChange allocConflictsSpec)) allocConflictsCard

/-- THE TIED CARD OF 'warpwrightlaw17.AllocRefuses'. -/
def allocRefusesCard : Claim7 := { stood := { row := allocRefusesRow, standIns := [], harness := (true, "c25135a6f820431f41c2a5ae4e21b5fc1ee2253b536ac7b1a7750af648d5e6d1"), looks := true }, kinds := [], alts := [], laidByText := true, laidKinds := [.data], laidTests := true, laidLooks := .later }
def AllocRefusesCardSaid : Prop := Claim7.holds Tryz.pinned (.plain (OpenSpec.ofChange allocRefusesSpec)) allocRefusesCard

/-- THE TIED CARD OF 'warpwrightlaw17.AllocPressure'. -/
def allocPressureCard : Claim7 := { stood := { row := allocPressureRow, standIns := [], harness := (true, "c25135a6f820431f41c2a5ae4e21b5fc1ee2253b536ac7b1a7750af648d5e6d1"), looks := true }, kinds := [], alts := [], laidByText := true, laidKinds := [.data], laidTests := true, laidLooks := .later }
def AllocPressureCardSaid : Prop := Claim7.holds Tryz.pinned (.plain (OpenSpec.ofChange allocPressureSpec)) allocPressureCard

/-- THE TIED CARD OF 'warpwrightlaw17.AllocKeeps'. -/
def allocKeepsCard : Claim7 := { stood := { row := allocKeepsRow, standIns := [], harness := (true, "c25135a6f820431f41c2a5ae4e21b5fc1ee2253b536ac7b1a7750af648d5e6d1"), looks := true }, kinds := [], alts := [], laidByText := true, laidKinds := [.data], laidTests := true, laidLooks := .later }
def AllocKeepsCardSaid : Prop := Claim7.holds Tryz.pinned (.plain (OpenSpec.ofChange allocKeepsSpec)) allocKeepsCard

/-- THE TIED CARD OF 'warpwrightlaw16.SpillMatchesReference'. -/
def spillMatchesReferenceCard : Claim7 := { stood := { row := spillMatchesReferenceRow, standIns := [], harness := (true, "c25135a6f820431f41c2a5ae4e21b5fc1ee2253b536ac7b1a7750af648d5e6d1"), looks := true }, kinds := [], alts := [], laidByText := true, laidKinds := [.data], laidTests := true, laidLooks := .later }
def SpillMatchesReferenceCardSaid : Prop := Claim7.holds Tryz.pinned (.plain (OpenSpec.ofChange spillMatchesReferenceSpec)) spillMatchesReferenceCard

/-- THE TIED CARD OF 'warpwrightlaw16.SpillLive'. -/
def spillLiveCard : Claim7 := { stood := { row := spillLiveRow, standIns := [], harness := (true, "c25135a6f820431f41c2a5ae4e21b5fc1ee2253b536ac7b1a7750af648d5e6d1"), looks := true }, kinds := [], alts := [], laidByText := true, laidKinds := [.data], laidTests := true, laidLooks := .later }
def SpillLiveCardSaid : Prop := Claim7.holds Tryz.pinned (.plain (OpenSpec.ofChange spillLiveSpec)) spillLiveCard

/-- THE TIED CARD OF 'warpwrightlaw16.SpillDamage'. -/
def spillDamageCard : Claim7 := { stood := { row := spillDamageRow, standIns := [], harness := (true, "c25135a6f820431f41c2a5ae4e21b5fc1ee2253b536ac7b1a7750af648d5e6d1"), looks := true }, kinds := [], alts := [], laidByText := true, laidKinds := [.data], laidTests := true, laidLooks := .later }
def SpillDamageCardSaid : Prop := Claim7.holds Tryz.pinned (.plain (OpenSpec.ofChange spillDamageSpec)) spillDamageCard

/-- THE TIED CARD OF 'warpwrightlaw15.LiveDead'. -/
def liveDeadCard : Claim7 := { stood := { row := liveDeadRow, standIns := [], harness := (true, "c25135a6f820431f41c2a5ae4e21b5fc1ee2253b536ac7b1a7750af648d5e6d1"), looks := true }, kinds := [], alts := [], laidByText := true, laidKinds := [.data], laidTests := true, laidLooks := .later }
def LiveDeadCardSaid : Prop := Claim7.holds Tryz.pinned (.plain (OpenSpec.ofChange liveDeadSpec)) liveDeadCard

/-- THE SECOND FORM's CARD OF 'warpwrightlaw17.AllocMatchesReference'. -/
def allocMatchesReferenceUptoCard : Claim7 := { stood := { row := allocMatchesReferenceUptoRow, standIns := [], harness := (true, "c25135a6f820431f41c2a5ae4e21b5fc1ee2253b536ac7b1a7750af648d5e6d1"), looks := true }, kinds := [], alts := [], laidByText := true, laidKinds := [.data], laidTests := true, laidLooks := .later }
def AllocMatchesReferenceUptoCardSaid : Prop := Claim7.holds Tryz.pinned (.plain (OpenSpec.upto allocMatchesReferenceSpec)) allocMatchesReferenceUptoCard

/-- THE SECOND FORM's CARD OF 'warpwrightlaw17.AllocAccepted'. -/
def allocAcceptedUptoCard : Claim7 := { stood := { row := allocAcceptedUptoRow, standIns := [], harness := (true, "c25135a6f820431f41c2a5ae4e21b5fc1ee2253b536ac7b1a7750af648d5e6d1"), looks := true }, kinds := [], alts := [], laidByText := true, laidKinds := [.data], laidTests := true, laidLooks := .later }
def AllocAcceptedUptoCardSaid : Prop := Claim7.holds Tryz.pinned (.plain (OpenSpec.upto allocAcceptedSpec)) allocAcceptedUptoCard

/-- THE SECOND FORM's CARD OF 'warpwrightlaw17.AllocExchanges'. -/
def allocExchangesUptoCard : Claim7 := { stood := { row := allocExchangesUptoRow, standIns := [], harness := (true, "c25135a6f820431f41c2a5ae4e21b5fc1ee2253b536ac7b1a7750af648d5e6d1"), looks := true }, kinds := [], alts := [], laidByText := true, laidKinds := [.data], laidTests := true, laidLooks := .later }
def AllocExchangesUptoCardSaid : Prop := Claim7.holds Tryz.pinned (.plain (OpenSpec.upto allocExchangesSpec)) allocExchangesUptoCard

/-- THE SECOND FORM's CARD OF 'warpwrightlaw17.AllocConflicts'. -/
def allocConflictsUptoCard : Claim7 := { stood := { row := allocConflictsUptoRow, standIns := [], harness := (true, "c25135a6f820431f41c2a5ae4e21b5fc1ee2253b536ac7b1a7750af648d5e6d1"), looks := true }, kinds := [], alts := [], laidByText := true, laidKinds := [.data], laidTests := true, laidLooks := .later }
def AllocConflictsUptoCardSaid : Prop := Claim7.holds Tryz.pinned (.plain (OpenSpec.upto allocConflictsSpec)) allocConflictsUptoCard

/-- THE SECOND FORM's CARD OF 'warpwrightlaw17.AllocRefuses'. -/
def allocRefusesUptoCard : Claim7 := { stood := { row := allocRefusesUptoRow, standIns := [], harness := (true, "c25135a6f820431f41c2a5ae4e21b5fc1ee2253b536ac7b1a7750af648d5e6d1"), looks := true }, kinds := [], alts := [], laidByText := true, laidKinds := [.data], laidTests := true, laidLooks := .later }
def AllocRefusesUptoCardSaid : Prop := Claim7.holds Tryz.pinned (.plain (OpenSpec.upto allocRefusesSpec)) allocRefusesUptoCard

/-- THE SECOND FORM's CARD OF 'warpwrightlaw17.AllocPressure'. -/
def allocPressureUptoCard : Claim7 := { stood := { row := allocPressureUptoRow, standIns := [], harness := (true, "c25135a6f820431f41c2a5ae4e21b5fc1ee2253b536ac7b1a7750af648d5e6d1"), looks := true }, kinds := [], alts := [], laidByText := true, laidKinds := [.data], laidTests := true, laidLooks := .later }
def AllocPressureUptoCardSaid : Prop := Claim7.holds Tryz.pinned (.plain (OpenSpec.upto allocPressureSpec)) allocPressureUptoCard

/-- THE SECOND FORM's CARD OF 'warpwrightlaw17.AllocKeeps'. -/
def allocKeepsUptoCard : Claim7 := { stood := { row := allocKeepsUptoRow, standIns := [], harness := (true, "c25135a6f820431f41c2a5ae4e21b5fc1ee2253b536ac7b1a7750af648d5e6d1"), looks := true }, kinds := [], alts := [], laidByText := true, laidKinds := [.data], laidTests := true, laidLooks := .later }
def AllocKeepsUptoCardSaid : Prop := Claim7.holds Tryz.pinned (.plain (OpenSpec.upto allocKeepsSpec)) allocKeepsUptoCard

/-- THE SECOND FORM's CARD OF 'warpwrightlaw16.SpillMatchesReference'. -/
def spillMatchesReferenceUptoCard : Claim7 := { stood := { row := spillMatchesReferenceUptoRow, standIns := [], harness := (true, "c25135a6f820431f41c2a5ae4e21b5fc1ee2253b536ac7b1a7750af648d5e6d1"), looks := true }, kinds := [], alts := [], laidByText := true, laidKinds := [.data], laidTests := true, laidLooks := .later }
def SpillMatchesReferenceUptoCardSaid : Prop := Claim7.holds Tryz.pinned (.plain (OpenSpec.upto spillMatchesReferenceSpec)) spillMatchesReferenceUptoCard

/-- THE SECOND FORM's CARD OF 'warpwrightlaw16.SpillLive'. -/
def spillLiveUptoCard : Claim7 := { stood := { row := spillLiveUptoRow, standIns := [], harness := (true, "c25135a6f820431f41c2a5ae4e21b5fc1ee2253b536ac7b1a7750af648d5e6d1"), looks := true }, kinds := [], alts := [], laidByText := true, laidKinds := [.data], laidTests := true, laidLooks := .later }
def SpillLiveUptoCardSaid : Prop := Claim7.holds Tryz.pinned (.plain (OpenSpec.upto spillLiveSpec)) spillLiveUptoCard

/-- THE SECOND FORM's CARD OF 'warpwrightlaw16.SpillDamage'. -/
def spillDamageUptoCard : Claim7 := { stood := { row := spillDamageUptoRow, standIns := [], harness := (true, "c25135a6f820431f41c2a5ae4e21b5fc1ee2253b536ac7b1a7750af648d5e6d1"), looks := true }, kinds := [], alts := [], laidByText := true, laidKinds := [.data], laidTests := true, laidLooks := .later }
def SpillDamageUptoCardSaid : Prop := Claim7.holds Tryz.pinned (.plain (OpenSpec.upto spillDamageSpec)) spillDamageUptoCard

/-- THE SECOND FORM's CARD OF 'warpwrightlaw15.LiveDead'. -/
def liveDeadUptoCard : Claim7 := { stood := { row := liveDeadUptoRow, standIns := [], harness := (true, "c25135a6f820431f41c2a5ae4e21b5fc1ee2253b536ac7b1a7750af648d5e6d1"), looks := true }, kinds := [], alts := [], laidByText := true, laidKinds := [.data], laidTests := true, laidLooks := .later }
def LiveDeadUptoCardSaid : Prop := Claim7.holds Tryz.pinned (.plain (OpenSpec.upto liveDeadSpec)) liveDeadUptoCard
end Rows
end Go.Proofs.YtgdoiokalfhjoaaGreatDoor
