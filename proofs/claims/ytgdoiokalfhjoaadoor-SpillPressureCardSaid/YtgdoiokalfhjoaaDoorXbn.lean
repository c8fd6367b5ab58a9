/- Own work (by an AI agent; no person has read it): part of a proof of the seat YtgdoiokalfhjoaaDoor. -/
import Derived.Test.YtgdoiokalfhjoaaDoorXbm
set_option maxRecDepth 100000
section
namespace Go.Proofs.YtgdoiokalfhjoaaDoor
open Go.Ab
open Go.ChangeShapes Go.WideShapes Go.ChangeAt Go.RowKit
theorem pN:(mapsRowed Tryd.prog)=true:=by kernel_rfl
theorem nR:(Rows.spillPressureRow.inPlace==Tryd.prog.inPlace 3)=true:=by kernel_rfl
theorem nS:(Rows.spillPressureRow.unfollowed==Tryd.prog.unfollowed 3)=true:=by kernel_rfl
theorem nT:(Rows.spillPressureRow.recurses==Tryd.prog.recurses 3)=true:=by kernel_rfl
theorem nU:(Rows.spillPressureRow.named==Tryd.prog.varsNamed 3)=true:=by kernel_rfl
theorem nV:(Rows.spillPressureRow.plainKeys==Tryd.prog.plainKeys)=true:=by kernel_rfl
theorem nW:(Tryd.prog.stopsHeard)=true:=by kernel_rfl
theorem nX:(Tryd.prog.mayEnter)=true:=by kernel_rfl
theorem nY:(Rows.spillPressureRow.lifted==Tryd.prog.liftsFinal)=true:=by kernel_rfl
theorem nZ:(Tryd.prog.make==some Rows.spillPressureRow.make)=true:=by kernel_rfl
theorem jL:joinedFacts Tryd.checked.prog 3 Tryd.f3 (OpenSpec.ofChange Rows.spillPressureSpec).bare Rows.spillPressureRow=true:=by
 unfold joinedFacts
 exact an (an (an (an (an (an (an (an (an (an (an (an (an (an (an (an (an (an (an (an (an (an (an (an (an (an (an (an (an (an (an ((by kernel_rfl)) (by kernel_rfl)) (pN)) (by kernel_rfl)) (by kernel_rfl)) (by kernel_rfl)) (by kernel_rfl)) (by kernel_rfl)) (by kernel_rfl)) (nR)) (nS)) (nT)) (nU)) (by kernel_rfl)) (by kernel_rfl)) (by kernel_rfl)) (by kernel_rfl)) (by kernel_rfl)) (by kernel_rfl)) (by kernel_rfl)) (by kernel_rfl)) (by kernel_rfl)) (nV)) (by kernel_rfl)) (nW)) (nX)) (nY)) (nZ)) (by kernel_rfl)) (by kernel_rfl)) (by kernel_rfl)) (by kernel_rfl)
end Go.Proofs.YtgdoiokalfhjoaaDoor
end
