/- Own work (by an AI agent; no person has read it): part of a proof of the seat YtgdoiokalfhjoaaGreatDoor. -/
import Derived.Test.YtgdoiokalfhjoaaGreatDoorXc
set_option maxRecDepth 100000
section
namespace Go.Proofs.YtgdoiokalfhjoaaGreatDoor
open Go.Ab
open Go.ChangeShapes Go.WideShapes Go.ChangeAt Go.RowKit
theorem fR:false=Rows.spillMatchesReferenceRow.goesBy Tryz.pinned.checked.prog:=by kernel_rfl
theorem iG:Rows.spillMatchesReferenceRow.wfByText (OpenSpec.ofChange Rows.spillMatchesReferenceSpec)=true:=by kernel_rfl
theorem fT:Tryz.pinned.checked.prog.mainIs=some (true,Rows.spillMatchesReferenceCard.stood.harness.2.toList):=by kernel_rfl
theorem iE:Tryz.pinned.checked.prog.funcNamed Rows.spillMatchesReferenceRow.func=some 10:=by kernel_rfl
theorem fY:([24,3,110].all fun u=> !Tryz.prog.wantsStandIn u)=true:=by kernel_rfl
theorem eV(t:TypeId)(hm:t∈[24,3,110]):Tryz.pinned.checked.prog.wantsStandIn t=false:=
 (show Tryz.prog.wantsStandIn t=false by simpa using List.all_eq_true.1 fY t hm)
end Go.Proofs.YtgdoiokalfhjoaaGreatDoor
end
