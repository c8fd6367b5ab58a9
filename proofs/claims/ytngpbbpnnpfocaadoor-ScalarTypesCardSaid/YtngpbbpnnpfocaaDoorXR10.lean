/- PROVED: for every input the Go function warpwrightlaw01.ScalarTypes of the given program returns true, and each argument reads afterwards as it read before (the tied card of its row). CONDITIONS: the package-level variables that the row lists (two tables of math/bits, the powers of ten of strconv, the two errors of strconv) hold what the text of the program lays in them, which the card ties to that text; of each variable that is not listed it speaks for every value. By an AI agent; no person has read it. -/
import Derived.Test.YtngpbbpnnpfocaaDoorXR2
import Derived.Test.YtngpbbpnnpfocaaDoorXS20
namespace Go.Proofs.YtngpbbpnnpfocaaDoor
open Go.Ab
open Go.ChangeShapes Go.WideShapes Go.ChangeAt Go.RowKit
set_option maxRecDepth 100000
set_option linter.unusedVariables false

theorem c3_1 : Tryd.prog.cellsOf 3 = 1 := by kernel_rfl
theorem c21_1 : Tryd.prog.cellsOf 21 = 1 := by kernel_rfl
theorem c41_2 : Tryd.prog.cellsOf 41 = 2 := by kernel_rfl
theorem c42_2 : Tryd.prog.cellsOf 42 = 2 := by kernel_rfl
theorem rep_pair {M : Nat → Nat → Prop} {ρ : Nat → Option (Nat × Nat × Nat)} {w : World} (x y : Value) : Rep M ρ w (.agg [.v x, .v y]) (.agg #[x, y]) := by
  refine .agg _ _ rfl fun i c u h1 h2 => ?_
  match i, h1, h2 with
  | 0, h1, h2 => cases h1; cases h2; exact .v _
  | 1, h1, h2 => cases h1; cases h2; exact .v _
theorem scalarTypes_walk (a0 a1 b1 a2 b2 : Int) (w2 : (Lit.int .i32 a2).wf = true) (x2 : (Lit.int .i32 b2).wf = true) (W : World) (hw : okW W) :
    Calls Tryd.prog 10 #[.int .i64 a0, .agg #[.int .i64 a1, .int .i64 b1], .agg #[.int .i32 a2, .int .i32 b2]] W fun e w' => e = .returned (.bool true) ∧ Below W.heap.size W w' := by
  refine ((types_ok examples_ok a0 a1 b1 a2 b2 (i32_of w2) (i32_of x2)).2 0 (fun _ _ => False) W _ hw (fun _ _ h => h.elim) ⟨rfl, fun i x u h1 h2 => ?_⟩).mono fun e w' ⟨v, ρ, he, H, hv⟩ => ?_
  · match i, h1, h2 with
    | 0, h1, h2 => cases h1; cases h2; exact .v _
    | 1, h1, h2 => cases h1; cases h2; exact rep_pair _ _
    | 2, h1, h2 => cases h1; cases h2; exact rep_pair _ _
  · cases hv
    exact ⟨he, H.bel⟩
theorem scalarTypes_lifted (os : Os) (started : os.Started) (H : Type) (enc : TypeId × Value → H) (F : Stop.Interp) :
    ReturnsInHanded {} Tryd.checked os 10 .any ((OpenSpec.ofChange Rows.scalarTypesSpec).preRow enc Tryd.prog Tryd.f10 Rows.scalarTypesRow.domain false Rows.scalarTypesRow.laid) (((OpenSpec.ofChange Rows.scalarTypesSpec).at F).post enc Tryd.prog Tryd.f10 false true false false) := by
  refine returnsInHanded_of_row (C := Tryd.checked) own started (by kernel_rfl) Tryd.func10
    ⟨World.laidAll Tryd.prog os laidL, fun _ _ => 0, ⟨#[], #[.int .i64 0, .agg #[.int .i64 0, .int .i64 0], .agg #[.int .i32 0, .int .i32 0]], []⟩, World.laidAll_os _ _ _, World.shaped_of_ZipB (by kernel_rfl) (by kernel_rfl), rfl, (Input.okWide_of_okWideB (by kernel_rfl)).2,
      OpenSpec.preRow_of_B rfl 8 (by kernel_rfl) (by kernel_rfl) (laid_met os _), by simp only [Assume.holds]; exact ⟨by simp, by simp, fun _ => Modest.zero, by simp, by simp⟩⟩ ?_
  intro W base args ds gs before hval0 hW _ _ _ hL hS _
  have hw : okW W := okW_of hL hS
  have hval : ∀ (j : Nat) t v, Tryd.f10.params[j]? = some t → args[j]? = some v → Value.okWide Tryd.prog W .any base t v := hval0
  have hW' := hW
  obtain ⟨p, q, hA0, hV, rfl, hfz, hnd⟩ := hW
  have hA : DataW.TrodAll enc Tryd.prog W 0 (fun _ => true) true Tryd.f10.params.toList args.toList ds p := hA0
  rw [Tryd.params10] at hA hval
  obtain ⟨v0, vs0, d0, ds0, p0, q0, hargs, rfl, rfl, h0, r0⟩ := trodAll_cons hA
  obtain ⟨v1, vs1, d1, ds1, p1, q1, rfl, rfl, rfl, h1, r1⟩ := trodAll_cons r0
  obtain ⟨v2, vs2, d2, ds2, p2, q2, rfl, rfl, rfl, h2, r2⟩ := trodAll_cons r1
  obtain ⟨rfl, rfl, rfl⟩ := trodAll_nil r2
  obtain rfl : args = #[v0, v1, v2] := by cases args; simp_all
  obtain ⟨rfl, rfl⟩ := trodVars_none hV
  obtain ⟨a0, rfl, rfl, rfl, w0⟩ := open_int Tryd.underlying3 (hval 0 3 v0 rfl rfl) h0
  obtain ⟨a1, b1, rfl, rfl, rfl, w1, x1⟩ := open_pair Tryd.underlying41 Tryd.underlying3 c3_1 c41_2 (hval 1 41 v1 rfl rfl) h1
  obtain ⟨a2, b2, rfl, rfl, rfl, w2, x2⟩ := open_pair Tryd.underlying42 Tryd.underlying21 c21_1 c42_2 (hval 2 42 v2 rfl rfl) h2
  clear hA0 hval0
  simp only [List.append_nil] at hW'
  refine (scalarTypes_walk a0 a1 b1 a2 b2 w2 x2 W hw).mono fun e W' ⟨he, hg⟩ => ?_
  subst he
  exact ⟨_, rfl, _, _, _, [], [], [], hW', trodAll_cons_mk (shut_bool Tryd.underlying4 _) trodAll_mk0, (trodAll_cons_mk (shut_int Tryd.underlying3 w0) (trodAll_cons_mk (shut_pair Tryd.underlying41 Tryd.underlying3 c3_1 c41_2 w1 x1) (trodAll_cons_mk (shut_pair Tryd.underlying42 Tryd.underlying21 c21_1 c42_2 w2 x2) trodAll_mk0))), rfl, hg.frame _, fun h => by cases h⟩

theorem scalarTypes_over : Rows.scalarTypesRow.holds Tryd.pinned (OpenSpec.ofChange Rows.scalarTypesSpec) :=
  OpenClaim.holds_of_cond 10 Tryd.f10 rfl rfl rfl rfl rfl rfl rfl ⟨rfl, rfl, rfl, rfl, rfl⟩ rfl rfl rfl rfl rfl (by kernel_rfl) Tryd.func10 (by kernel_rfl)
    (of_decide_eq_true (by kernel_rfl)) (by unfold Func.isWrapper; first | (rw [if_pos (by decide +kernel)]; kernel_rfl) | (rw [if_neg (by decide +kernel)]; exact ⟨rfl, rfl⟩))
    (fun os started H enc _ F => by rw [OpenClaim.pre_eq_preRow]; exact scalarTypes_lifted os started H enc F)

/-- the card -/
theorem scalarTypes_card : Rows.ScalarTypesCardSaid :=
  Claim7.holds_tied_plain_at .later [] [.data, .data, .data, .sentinel, .sentinel] true (true, Rows.scalarTypesCard.stood.harness.2) true
    scalarTypes_over (fun _ h => by cases h) (by kernel_rfl) (fun _ h => by cases h) scalarTypes_row_tie rfl ⟨rfl, rfl⟩ (by kernel_rfl) rfl
    (fun f fn hf hfn => by
      obtain rfl : f = 10 := Option.some.inj ((show Tryd.prog.funcNamed Rows.scalarTypesRow.func = some 10 by kernel_rfl).symm.trans hf) |>.symm
      obtain rfl : fn = Tryd.f10 := (Option.some.inj (Tryd.func10.symm.trans hfn)).symm
      exact ⟨by kernel_rfl, fun j t ht => by
        rw [Tryd.params10] at ht
        have hm : t ∈ [3, 41, 42] := by simpa using Array.mem_of_getElem? ht
        have hall : ([3, 41, 42].all fun u => !Tryd.prog.wantsStandIn u) = true := by kernel_rfl
        exact (show Tryd.prog.wantsStandIn t = false by simpa using List.all_eq_true.1 hall t hm)⟩)
    (by kernel_rfl)

end Go.Proofs.YtngpbbpnnpfocaaDoor
