/- Own work (by an AI agent; no person has read it): part of a proof of the seat YtgdoiokalfhjoaaGreatDoor. -/
import Derived.Test.YtgdoiokalfhjoaaGreatDoorYbg
set_option maxRecDepth 100000
section
namespace Go.Proofs.YtgdoiokalfhjoaaGreatDoor
open Go.Ab
open Go.ChangeShapes Go.WideShapes Go.ChangeAt Go.RowKit
theorem yT:(mapsRowed Tryz.prog)=true:=by kernel_rfl
theorem rW:(Rows.spillDamageRow.inPlace==Tryz.prog.inPlace 12)=true:=by kernel_rfl
theorem rX:(Rows.spillDamageRow.unfollowed==Tryz.prog.unfollowed 12)=true:=by kernel_rfl
theorem rY:(Rows.spillDamageRow.recurses==Tryz.prog.recurses 12)=true:=by kernel_rfl
theorem rZ:(Rows.spillDamageRow.named==Tryz.prog.varsNamed 12)=true:=by kernel_rfl
theorem sB:(Rows.spillDamageRow.plainKeys==Tryz.prog.plainKeys)=true:=by kernel_rfl
theorem sD:(Tryz.prog.stopsHeard)=true:=by kernel_rfl
theorem sE:(Tryz.prog.mayEnter)=true:=by kernel_rfl
theorem sG:(Rows.spillDamageRow.lifted==Tryz.prog.liftsFinal)=true:=by kernel_rfl
theorem sH:(Tryz.prog.make==some Rows.spillDamageRow.make)=true:=by kernel_rfl
theorem mH:joinedFacts Tryz.checked.prog 12 Tryz.f12 (OpenSpec.ofChange Rows.spillDamageSpec).bare Rows.spillDamageRow=true:=by
 unfold joinedFacts
 exact an (an (an (an (an (an (an (an (an (an (an (an (an (an (an (an (an (an (an (an (an (an (an (an (an (an (an (an (an (an (an ((by kernel_rfl)) (by kernel_rfl)) (yT)) (by kernel_rfl)) (by kernel_rfl)) (by kernel_rfl)) (by kernel_rfl)) (by kernel_rfl)) (by kernel_rfl)) (rW)) (rX)) (rY)) (rZ)) (by kernel_rfl)) (by kernel_rfl)) (by kernel_rfl)) (by kernel_rfl)) (by kernel_rfl)) (by kernel_rfl)) (by kernel_rfl)) (by kernel_rfl)) (by kernel_rfl)) (sB)) (by kernel_rfl)) (sD)) (sE)) (sG)) (sH)) (by kernel_rfl)) (by kernel_rfl)) (by kernel_rfl)) (by kernel_rfl)
end Go.Proofs.YtgdoiokalfhjoaaGreatDoor
end
