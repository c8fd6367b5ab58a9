/- Own work (by an AI agent; no person has read it): part of a proof of the seat YtngpbbpnnpfocaaDoor. -/
import Derived.Test.YtngpbbpnnpfocaaDoorXS8
import Derived.Test.YtngpbbpnnpfocaaDoorXS4
import Derived.Test.YtngpbbpnnpfocaaDoorTie
import Derived.Test.YtngpbbpnnpfocaaDoorCards
import Derived.ProofKit
import Derived.OpenShut
import Derived.LaidMore
import Derived.Lay
import Derived.SevenTiedAt
import Derived.Stop.Joined
import Derived.Shelf.Vars
import Derived.Deep.DeepHandedRow
namespace Go.Proofs.YtngpbbpnnpfocaaDoor
open Go.Ab
open Go.ChangeShapes Go.WideShapes Go.ChangeAt Go.RowKit
set_option maxRecDepth 100000
set_option linter.unusedVariables false

theorem own : ownKnob Tryd.prog.godebug = none := by kernel_rfl

/-- the five listed variables, as every row lists them -/
noncomputable def laidL : List (String × DataW Unit) := Rows.scalarRingRow.laid
theorem pow_is : Rows.laid_internal_strconv_uint64pow10 (H := Unit) = Lib.tabData .u64 Lib.pow10Tab := by kernel_rfl
theorem okW_of {W : World} (hL : laidMetH Tryd.prog laidL W) (hs : W.ShapedOpen Tryd.prog) : okW W := by
  have h : laidMet Tryd.prog laidL W := by rw [MakeChecks.laidMetH_plain _ _ _ (by kernel_rfl)] at hL; exact hL
  obtain ⟨ps, ⟨g1, t1, cs1, f1, p1, q1, hg1, ht1, hv1, hd1, ⟨g2, t2, cs2, f2, p2, q2, hg2, ht2, hv2, hd2, ⟨g3, t3, cs3, f3, p3, q3, hg3, ht3, hv3, hd3, ⟨g4, t4, cs4, f4, p4, q4, hg4, ht4, hv4, hd4, ⟨g5, t5, cs5, f5, p5, q5, hg5, ht5, hv5, hd5, _⟩, _⟩, _⟩, _⟩, _⟩, _⟩ := h
  refine ⟨cell_of_shapedOpen_int (g := 3) (t := 3) (k := .i64) (zero := #[.int .i64 0]) hs (of_decide_eq_true (by kernel_rfl)) (by kernel_rfl) (by kernel_rfl) (by kernel_rfl) (by kernel_rfl) (by kernel_rfl), ?_, ?_, ?_⟩
  · obtain rfl := Option.some.inj ((show (Tryd.prog.globalNamed powName) = some 2 by kernel_rfl).symm.trans hg3)
    obtain rfl := Option.some.inj ((show (Tryd.prog.globals[2]?).map (·.type) = some 120 by kernel_rfl).symm.trans ht3)
    rw [pow_is] at hd3
    have e := Lib.cells_of_tab (n := 20) (e := 68) (k := .u64) Tryd.underlying120 Tryd.underlying68 (by kernel_rfl) (by kernel_rfl) hd3
    unfold Lib.TabIs
    refine (show W.var? Tryd.prog powName = some cs3 from hv3).trans ?_
    rw [← e]
  · obtain rfl := Option.some.inj ((show (Tryd.prog.globalNamed "strconv.ErrSyntax") = some 0 by kernel_rfl).symm.trans hg5)
    obtain rfl := Option.some.inj ((show (Tryd.prog.globals[0]?).map (·.type) = some 75 by kernel_rfl).symm.trans ht5)
    obtain ⟨_, u, v, e, _⟩ := iface_of_trod Tryd.underlying75 hd5
    exact ⟨u, v, by rw [World.var?_cell hg5 hv5 0, ← Array.getElem?_toList, e]; rfl⟩
  · obtain rfl := Option.some.inj ((show (Tryd.prog.globalNamed "strconv.ErrRange") = some 1 by kernel_rfl).symm.trans hg4)
    obtain rfl := Option.some.inj ((show (Tryd.prog.globals[1]?).map (·.type) = some 75 by kernel_rfl).symm.trans ht4)
    obtain ⟨_, u, v, e, _⟩ := iface_of_trod Tryd.underlying75 hd4
    exact ⟨u, v, by rw [World.var?_cell hg4 hv4 0, ← Array.getElem?_toList, e]; rfl⟩
theorem laid_met (os : Os) (args : Array Value) : laidMetH Tryd.prog laidL ((World.laidAll Tryd.prog os laidL).forCall (fun _ _ => 0) ⟨#[], args, []⟩).memory := by
  rw [MakeChecks.laidMetH_plain _ _ _ (by kernel_rfl)]; exact laidMet_laidAll _ (by kernel_rfl) (by kernel_rfl)
theorem i32_of {a : Int} (w : (Lit.int .i32 a).wf = true) : I32 a := by
  have : -2147483648 ≤ a ∧ a ≤ 2147483647 := by simpa [Lit.wf, IntKind.min, IntKind.max, IntKind.signed, IntKind.bits] using w
  unfold I32; omega
/-- what a contract says of a call in a world of the row -/
theorem calls_true {f : FuncId} {xs : List Value} (C : CallOK Tryd.prog f (xs.map AV.v) (fun _ => .v (.bool true)) (fun _ => [])) (W : World) (hw : okW W) :
    Calls Tryd.prog f xs.toArray W fun e w' => e = .returned (.bool true) ∧ Below W.heap.size W w' := by
  refine (C.2 0 (fun _ _ => False) W xs.toArray hw (fun _ _ h => h.elim) ⟨by simp, fun i x u h1 h2 => ?_⟩).mono fun e w' ⟨v, ρ, he, H, hv⟩ => ?_
  · simp only [List.getElem?_map, Option.map_eq_some_iff, List.getElem?_toArray] at h1 h2
    obtain ⟨a, h3, rfl⟩ := h1
    rw [h3] at h2; cases h2
    exact .v _
  · cases hv
    exact ⟨he, H.bel⟩
end Go.Proofs.YtngpbbpnnpfocaaDoor
