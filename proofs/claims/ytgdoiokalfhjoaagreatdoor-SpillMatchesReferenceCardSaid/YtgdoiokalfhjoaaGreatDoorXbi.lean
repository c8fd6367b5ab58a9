/- Own work (by an AI agent; no person has read it): part of a proof of the seat YtgdoiokalfhjoaaGreatDoor. -/
import Derived.Test.YtgdoiokalfhjoaaGreatDoorXbh
set_option maxRecDepth 100000
section
namespace Go.Proofs.YtgdoiokalfhjoaaGreatDoor
open Go.Ab
open Go.ChangeShapes Go.WideShapes Go.ChangeAt Go.RowKit
theorem iF:(mapsRowed Tryz.prog)=true:=by kernel_rfl
theorem fZ:(Rows.spillMatchesReferenceRow.inPlace==Tryz.prog.inPlace 10)=true:=by kernel_rfl
theorem gB:(Rows.spillMatchesReferenceRow.unfollowed==Tryz.prog.unfollowed 10)=true:=by kernel_rfl
theorem gC:(Rows.spillMatchesReferenceRow.recurses==Tryz.prog.recurses 10)=true:=by kernel_rfl
theorem gD:(Rows.spillMatchesReferenceRow.named==Tryz.prog.varsNamed 10)=true:=by kernel_rfl
theorem gE:(Rows.spillMatchesReferenceRow.plainKeys==Tryz.prog.plainKeys)=true:=by kernel_rfl
theorem gF:(Tryz.prog.stopsHeard)=true:=by kernel_rfl
theorem gG:(Tryz.prog.mayEnter)=true:=by kernel_rfl
theorem gH:(Rows.spillMatchesReferenceRow.lifted==Tryz.prog.liftsFinal)=true:=by kernel_rfl
theorem gI:(Tryz.prog.make==some Rows.spillMatchesReferenceRow.make)=true:=by kernel_rfl
theorem eA:joinedFacts Tryz.checked.prog 10 Tryz.f10 (OpenSpec.ofChange Rows.spillMatchesReferenceSpec).bare Rows.spillMatchesReferenceRow=true:=by
 unfold joinedFacts
 exact an (an (an (an (an (an (an (an (an (an (an (an (an (an (an (an (an (an (an (an (an (an (an (an (an (an (an (an (an (an (an ((by kernel_rfl)) (by kernel_rfl)) (iF)) (by kernel_rfl)) (by kernel_rfl)) (by kernel_rfl)) (by kernel_rfl)) (by kernel_rfl)) (by kernel_rfl)) (fZ)) (gB)) (gC)) (gD)) (by kernel_rfl)) (by kernel_rfl)) (by kernel_rfl)) (by kernel_rfl)) (by kernel_rfl)) (by kernel_rfl)) (by kernel_rfl)) (by kernel_rfl)) (by kernel_rfl)) (gE)) (by kernel_rfl)) (gF)) (gG)) (gH)) (gI)) (by kernel_rfl)) (by kernel_rfl)) (by kernel_rfl)) (by kernel_rfl)
end Go.Proofs.YtgdoiokalfhjoaaGreatDoor
end
