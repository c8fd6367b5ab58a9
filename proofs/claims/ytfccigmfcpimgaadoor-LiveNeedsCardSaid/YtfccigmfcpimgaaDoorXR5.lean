/- PROVED: for every input the Go function LiveNeeds of the given program returns true, and each argument reads afterwards as it read before. NO CONDITION, no narrowing: the whole row. By an AI agent; no person has read it. -/
import Derived.Test.YtfccigmfcpimgaaDoorXbb
import Derived.Test.YtfccigmfcpimgaaDoorXbe
set_option maxRecDepth 100000
set_option linter.unusedVariables false
section
namespace Go.Proofs.YtfccigmfcpimgaaDoor
open Go.Ab
open Go.ChangeShapes Go.WideShapes Go.ChangeAt Go.RowKit
instance : j5 Tryd.checked.prog := inferInstanceAs (j5 Tryd.prog)
theorem uP (xs : List AV) (h : jU [S24, S52, S4] xs) : e8 Tryd.prog 5 xs (fun _ => .v (.bool true)) (fun _ => []) := by
 obtain ⟨_, _, rfl, h0, _, _, rfl, h1, _, _, rfl, h2, rfl⟩ := h
 obtain ⟨L, rfl, hL⟩ := pZ h0
 obtain ⟨z0, z1, rfl, hz0, hz1⟩ := b5r h1
 obtain ⟨b, rfl⟩ := b6I h2
 exact b1n L hL z0 z1 b ⟨hz0, hz1⟩
theorem pQ (os : Os) (started : os.Started) (H : Type) (enc : TypeId × Value → H) (F : Stop.Interp) :
   ReturnsInHanded {} Tryd.checked os 5 .any ((OpenSpec.ofChange Rows.liveNeedsSpec).preRow enc Tryd.prog Tryd.f5 Rows.liveNeedsRow.domain false Rows.liveNeedsRow.laid) (((OpenSpec.ofChange Rows.liveNeedsSpec).at F).post enc Tryd.prog Tryd.f5 false true false false) := by
 refine returnsInHanded_of_row (C := Tryd.checked) own started (by kernel_rfl) Tryd.func5
   ⟨World.laidAll Tryd.prog os laidL, fun _ _ => 0, ⟨#[], #[.agg #[.slice none 0 0], .agg #[.int .u8 0, .int .u8 0], .bool false], []⟩, World.laidAll_os _ _ _, World.shaped_of_ZipB (by kernel_rfl) (by kernel_rfl), rfl, (Input.okWide_of_okWideB (by kernel_rfl)).2,
     OpenSpec.preRow_of_B rfl 8 (by kernel_rfl) (by kernel_rfl) (gW os _), by simp only [Assume.holds]; exact ⟨by simp, by simp, fun _ => Modest.zero, by simp, by simp⟩⟩ ?_
 intro W base args ds gs before hval0 hW _ _ _ hL hS _
 have hw : okW W := pY hL hS
 have hval : ∀ (j : Nat) t v, Tryd.f5.params[j]? = some t → args[j]? = some v → Value.okWide Tryd.prog W .any base t v := hval0
 have hW' := hW
 obtain ⟨p, q, hA0, hV, rfl, hfz, hnd⟩ := hW
 have hA : DataW.TrodAll enc Tryd.prog W 0 (fun _ => true) true Tryd.f5.params.toList args.toList ds p := hA0
 obtain ⟨rfl, rfl⟩ := trodVars_none hV
 obtain ⟨xs, h1, h2, h3⟩ := eK (w := W) Tryd.f5.params.toList [S24, S52, S4] _ _ _ (n := 20) (by kernel_rfl) (fun j t v e1 e2 => hval j t v (by simpa using e1) (by simpa using e2)) hA
 have hlen := gK hA
 refine ((uP xs h1).2 0 (fun _ _ => False) W args hw (fun _ _ h => h.elim) ⟨by simpa using h2.symm, fun i x u e1 e2 => h3 i x u e1 (by simpa using e2)⟩).mono fun e w' ⟨v, ρ, he, hH, hv⟩ => ?_
 cases hv
 subst he
 have hspec : ∀ ds : List (DataW H), ds.length = Tryd.f5.params.toList.length → Rows.liveNeedsSpec.fn H (ds ++ []) = { results := [.lit (.bool true)], args := ds } := fun ds hd => by
   have hd : ds.length = 3 := hd
   match ds, hd with
   | [_, _, _], _ => rfl
 have e : ((OpenSpec.ofChange Rows.liveNeedsSpec).at F).fn H (ds ++ []) = { results := [.lit (.bool true)], args := ds } := hspec ds hlen
 refine ⟨_, rfl, ds, [], p ++ [], [], p, [], hW', ?_, ?_, ?_, hH.V4.frame _, fun h => by cases h⟩
 · rw [e]
   exact trodAll_cons_mk (shut_bool Tryd.underlying4 _) trodAll_mk0
 · rw [e]
   exact cQ kR hH.V4 _ _ _ _ (by kernel_rfl) hA fun x hx => hW'.lt x (by simpa using hx)
 · rw [e]; rfl
theorem uQ : Rows.liveNeedsRow.holds Tryd.pinned (OpenSpec.ofChange Rows.liveNeedsSpec) :=
 OpenClaim.holds_of_cond 5 Tryd.f5 rfl rfl rfl rfl rfl rfl rfl ⟨rfl, rfl, rfl, rfl, rfl⟩ rfl rfl rfl rfl rfl (by kernel_rfl) Tryd.func5 (by kernel_rfl)
   (of_decide_eq_true (by kernel_rfl)) (by unfold Func.isWrapper; first | (rw [if_pos (by decide +kernel)]; kernel_rfl) | (rw [if_neg (by decide +kernel)]; exact ⟨rfl, rfl⟩))
   (fun os started H enc _ F => by rw [OpenClaim.pre_eq_preRow]; exact pQ os started H enc F)
theorem liveNeeds_card : Rows.LiveNeedsCardSaid :=
 Claim7.holds_tied_plain_at .later [] [.data] true (true, Rows.liveNeedsCard.stood.harness.2) false
   uQ (fun _ h => by cases h) (by kernel_rfl) (fun _ h => by cases h) liveNeeds_row_tie rfl ⟨rfl, rfl⟩ (by kernel_rfl) rfl
   (fun f fn hf hfn => by
     obtain rfl : f = 5 := Option.some.inj ((show Tryd.prog.funcNamed Rows.liveNeedsRow.func = some 5 by kernel_rfl).symm.trans hf) |>.symm
     obtain rfl : fn = Tryd.f5 := (Option.some.inj (Tryd.func5.symm.trans hfn)).symm
     exact ⟨by kernel_rfl, fun j t ht => by
       have hp : Tryd.f5.params = #[24, 52, 4] := by kernel_rfl
       rw [hp] at ht
       have hm : t ∈ [24, 52, 4] := by simpa using Array.mem_of_getElem? ht
       have hall : ([24, 52, 4].all fun u => !Tryd.prog.wantsStandIn u) = true := by kernel_rfl
       exact (show Tryd.prog.wantsStandIn t = false by simpa using List.all_eq_true.1 hall t hm)⟩)
   (by kernel_rfl)
#print axioms liveNeeds_card
end Go.Proofs.YtfccigmfcpimgaaDoor
end
