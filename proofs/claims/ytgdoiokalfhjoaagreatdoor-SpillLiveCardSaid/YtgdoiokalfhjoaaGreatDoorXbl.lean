/- Own work (by an AI agent; no person has read it): part of a proof of the seat YtgdoiokalfhjoaaGreatDoor. -/
import Derived.Test.YtgdoiokalfhjoaaGreatDoorXt
import Derived.Test.YtgdoiokalfhjoaaGreatDoorXbh
set_option maxRecDepth 100000
section
namespace Go.Proofs.YtgdoiokalfhjoaaGreatDoor
open Go.Ab
open Go.ChangeShapes Go.WideShapes Go.ChangeAt Go.RowKit
theorem a5I:(mapsRowed Tryz.prog)=true:=by kernel_rfl
theorem a0Z:(Rows.spillLiveRow.inPlace==Tryz.prog.inPlace 11)=true:=by kernel_rfl
theorem a01:(Rows.spillLiveRow.unfollowed==Tryz.prog.unfollowed 11)=true:=by kernel_rfl
theorem a02:(Rows.spillLiveRow.recurses==Tryz.prog.recurses 11)=true:=by kernel_rfl
theorem a03:(Rows.spillLiveRow.named==Tryz.prog.varsNamed 11)=true:=by kernel_rfl
theorem a04:(Rows.spillLiveRow.plainKeys==Tryz.prog.plainKeys)=true:=by kernel_rfl
theorem a05:(Tryz.prog.stopsHeard)=true:=by kernel_rfl
theorem a06:(Tryz.prog.mayEnter)=true:=by kernel_rfl
theorem a07:(Rows.spillLiveRow.lifted==Tryz.prog.liftsFinal)=true:=by kernel_rfl
theorem a08:(Tryz.prog.make==some Rows.spillLiveRow.make)=true:=by kernel_rfl
theorem sJ:joinedFacts Tryz.checked.prog 11 Tryz.f11 (OpenSpec.ofChange Rows.spillLiveSpec).bare Rows.spillLiveRow=true:=by
 unfold joinedFacts
 exact an (an (an (an (an (an (an (an (an (an (an (an (an (an (an (an (an (an (an (an (an (an (an (an (an (an (an (an (an (an (an ((by kernel_rfl)) (by kernel_rfl)) (a5I)) (by kernel_rfl)) (by kernel_rfl)) (by kernel_rfl)) (by kernel_rfl)) (by kernel_rfl)) (by kernel_rfl)) (a0Z)) (a01)) (a02)) (a03)) (by kernel_rfl)) (by kernel_rfl)) (by kernel_rfl)) (by kernel_rfl)) (by kernel_rfl)) (by kernel_rfl)) (by kernel_rfl)) (by kernel_rfl)) (by kernel_rfl)) (a04)) (by kernel_rfl)) (a05)) (a06)) (a07)) (a08)) (by kernel_rfl)) (by kernel_rfl)) (by kernel_rfl)) (by kernel_rfl)
end Go.Proofs.YtgdoiokalfhjoaaGreatDoor
end
