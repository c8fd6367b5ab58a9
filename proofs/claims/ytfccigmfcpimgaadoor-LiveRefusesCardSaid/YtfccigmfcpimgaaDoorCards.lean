/-
  DERIVED. GIVEN WITH THE SEED: THE CARDS: each row of YtfccigmfcpimgaaDoorRows.lean that lists a variable, with what it lists TIED to the program's text (the seventh form; the later family's looks); each row that meets fmt, with fmt's text TOLD by the authors' own Lean function (tested against real Go, not proved from fmt's source: count such statements apart). THE CARD IS WHAT COUNTS. Prove the row's statement (the work); the ties are given (YtfccigmfcpimgaaDoorTie.lean); close each card by the builder's one call (the guide's Derived/Test/ToyasCard.lean, 'card_holds'). Laid BY PROGRAM, IN A SANDBOX (cutbox-door.mjs). By AI agents, Wed Nov 11 2026. No macro, syntax, notation, axiom, sorry.
-/
import Derived.Test.YtfccigmfcpimgaaDoorRows
import GoSem.ClaimSeven
namespace Go.Proofs.YtfccigmfcpimgaaDoor
namespace Rows

/-- THE TIED CARD OF 'warpwrightlaw15.LiveMatchesReference'. -/
def liveMatchesReferenceCard : Claim7 := { stood := { row := liveMatchesReferenceRow, standIns := [], harness := (true, "c21d2f97811701c09bb2e7598dc3d8935e3e97e38578ea0d8cb0012023013f6d"), looks := false }, kinds := [], alts := [], laidByText := true, laidKinds := [.data], laidTests := true, laidLooks := .later }
def LiveMatchesReferenceCardSaid : Prop := Claim7.holds Tryd.pinned (.plain (OpenSpec.ofChange liveMatchesReferenceSpec)) liveMatchesReferenceCard

/-- THE TIED CARD OF 'warpwrightlaw15.LiveLeast'. -/
def liveLeastCard : Claim7 := { stood := { row := liveLeastRow, standIns := [], harness := (true, "c21d2f97811701c09bb2e7598dc3d8935e3e97e38578ea0d8cb0012023013f6d"), looks := false }, kinds := [], alts := [], laidByText := true, laidKinds := [.data], laidTests := true, laidLooks := .later }
def LiveLeastCardSaid : Prop := Claim7.holds Tryd.pinned (.plain (OpenSpec.ofChange liveLeastSpec)) liveLeastCard

/-- THE TIED CARD OF 'warpwrightlaw15.LiveNeeds'. -/
def liveNeedsCard : Claim7 := { stood := { row := liveNeedsRow, standIns := [], harness := (true, "c21d2f97811701c09bb2e7598dc3d8935e3e97e38578ea0d8cb0012023013f6d"), looks := false }, kinds := [], alts := [], laidByText := true, laidKinds := [.data], laidTests := true, laidLooks := .later }
def LiveNeedsCardSaid : Prop := Claim7.holds Tryd.pinned (.plain (OpenSpec.ofChange liveNeedsSpec)) liveNeedsCard

/-- THE TIED CARD OF 'warpwrightlaw15.LivePressure'. -/
def livePressureCard : Claim7 := { stood := { row := livePressureRow, standIns := [], harness := (true, "c21d2f97811701c09bb2e7598dc3d8935e3e97e38578ea0d8cb0012023013f6d"), looks := false }, kinds := [], alts := [], laidByText := true, laidKinds := [.data], laidTests := true, laidLooks := .later }
def LivePressureCardSaid : Prop := Claim7.holds Tryd.pinned (.plain (OpenSpec.ofChange livePressureSpec)) livePressureCard

/-- THE TIED CARD OF 'warpwrightlaw15.LiveDefined'. -/
def liveDefinedCard : Claim7 := { stood := { row := liveDefinedRow, standIns := [], harness := (true, "c21d2f97811701c09bb2e7598dc3d8935e3e97e38578ea0d8cb0012023013f6d"), looks := false }, kinds := [], alts := [], laidByText := true, laidKinds := [.data], laidTests := true, laidLooks := .later }
def LiveDefinedCardSaid : Prop := Claim7.holds Tryd.pinned (.plain (OpenSpec.ofChange liveDefinedSpec)) liveDefinedCard

/-- THE TIED CARD OF 'warpwrightlaw15.LiveRefuses'. -/
def liveRefusesCard : Claim7 := { stood := { row := liveRefusesRow, standIns := [], harness := (true, "c21d2f97811701c09bb2e7598dc3d8935e3e97e38578ea0d8cb0012023013f6d"), looks := false }, kinds := [], alts := [], laidByText := true, laidKinds := [.data], laidTests := true, laidLooks := .later }
def LiveRefusesCardSaid : Prop := Claim7.holds Tryd.pinned (.plain (OpenSpec.ofChange liveRefusesSpec)) liveRefusesCard

/-- THE SECOND FORM's CARD OF 'warpwrightlaw15.LiveMatchesReference'. -/
def liveMatchesReferenceUptoCard : Claim7 := { stood := { row := liveMatchesReferenceUptoRow, standIns := [], harness := (true, "c21d2f97811701c09bb2e7598dc3d8935e3e97e38578ea0d8cb0012023013f6d"), looks := false }, kinds := [], alts := [], laidByText := true, laidKinds := [.data], laidTests := true, laidLooks := .later }
def LiveMatchesReferenceUptoCardSaid : Prop := Claim7.holds Tryd.pinned (.plain (OpenSpec.upto liveMatchesReferenceSpec)) liveMatchesReferenceUptoCard

/-- THE SECOND FORM's CARD OF 'warpwrightlaw15.LiveLeast'. -/
def liveLeastUptoCard : Claim7 := { stood := { row := liveLeastUptoRow, standIns := [], harness := (true, "c21d2f97811701c09bb2e7598dc3d8935e3e97e38578ea0d8cb0012023013f6d"), looks := false }, kinds := [], alts := [], laidByText := true, laidKinds := [.data], laidTests := true, laidLooks := .later }
def LiveLeastUptoCardSaid : Prop := Claim7.holds Tryd.pinned (.plain (OpenSpec.upto liveLeastSpec)) liveLeastUptoCard

/-- THE SECOND FORM's CARD OF 'warpwrightlaw15.LiveNeeds'. -/
def liveNeedsUptoCard : Claim7 := { stood := { row := liveNeedsUptoRow, standIns := [], harness := (true, "c21d2f97811701c09bb2e7598dc3d8935e3e97e38578ea0d8cb0012023013f6d"), looks := false }, kinds := [], alts := [], laidByText := true, laidKinds := [.data], laidTests := true, laidLooks := .later }
def LiveNeedsUptoCardSaid : Prop := Claim7.holds Tryd.pinned (.plain (OpenSpec.upto liveNeedsSpec)) liveNeedsUptoCard

/-- THE SECOND FORM's CARD OF 'warpwrightlaw15.LivePressure'. -/
def livePressureUptoCard : Claim7 := { stood := { row := livePressureUptoRow, standIns := [], harness := (true, "c21d2f97811701c09bb2e7598dc3d8935e3e97e38578ea0d8cb0012023013f6d"), looks := false }, kinds := [], alts := [], laidByText := true, laidKinds := [.data], laidTests := true, laidLooks := .later }
def LivePressureUptoCardSaid : Prop := Claim7.holds Tryd.pinned (.plain (OpenSpec.upto livePressureSpec)) livePressureUptoCard

/-- THE SECOND FORM's CARD OF 'warpwrightlaw15.LiveDefined'. -/
def liveDefinedUptoCard : Claim7 := { stood := { row := liveDefinedUptoRow, standIns := [], harness := (true, "c21d2f97811701c09bb2e7598dc3d8935e3e97e38578ea0d8cb0012023013f6d"), looks := false }, kinds := [], alts := [], laidByText := true, laidKinds := [.data], laidTests := true, laidLooks := .later }
def LiveDefinedUptoCardSaid : Prop := Claim7.holds Tryd.pinned (.plain (OpenSpec.upto liveDefinedSpec)) liveDefinedUptoCard

/-- THE SECOND FORM's CARD OF 'warpwrightlaw15.LiveRefuses'. -/
def liveRefusesUptoCard : Claim7 := { stood := { row := liveRefusesUptoRow, standIns := [], harness := (true, "c21d2f97811701c09bb2e7598dc3d8935e3e97e38578ea0d8cb0012023013f6d"), looks := false }, kinds := [], alts := [], laidByText := true, laidKinds := [.data], laidTests := true, laidLooks := .later }
def LiveRefusesUptoCardSaid : Prop := Claim7.holds Tryd.pinned (.plain (OpenSpec.upto liveRefusesSpec)) liveRefusesUptoCard
end Rows
end Go.Proofs.YtfccigmfcpimgaaDoor
