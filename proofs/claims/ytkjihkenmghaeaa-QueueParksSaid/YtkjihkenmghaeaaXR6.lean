/- PROVED: for every input the Go function warpwrightlaw41.QueueParks of the given program returns true, and each argument reads afterwards as it read before. NO CONDITION, no narrowing: the whole row. By an AI agent; no person has read it. -/
import Derived.Test.YtkjihkenmghaeaaXR1
import Derived.Test.YtkjihkenmghaeaaXL16
namespace Go.Proofs.Ytkjihkenmghaeaa
open Go.Ab
set_option maxRecDepth 100000
set_option linter.unusedVariables false
theorem queueParks_args (xs : List AV) (h : okArgs [S22, S23, S53] xs) : CallOK Try.prog 6 xs (fun _ => .v (.bool true)) (fun _ => []) := by
  obtain ⟨_, _, rfl, h0, _, _, rfl, h1, _, _, rfl, h2, rfl⟩ := h
  obtain ⟨a, b, c, rfl, ha, hb, hc⟩ := open22 h0
  obtain ⟨l, rfl, hl⟩ := open23 h1
  obtain ⟨u, v, rfl, hu, hv⟩ := open53 h2
  exact parks_ok a b c l u v ha hb hc hl hu hv
theorem queueParks_lifted (os : Os) (started : os.Started) (H : Type) (enc : TypeId × Value → H) :
    ReturnsInHanded {} Try.checked os 6 .any (Rows.queueParksSpec.pre6 enc Try.prog Try.f6 [] false) (Rows.queueParksSpec.post enc Try.prog Try.f6 false true false false) :=
  row_lifted (C := Try.checked) own started (by kernel_rfl) Try.func6
    #[.agg #[.int .u8 0, .int .u8 0, .int .u8 0], .slice none 0 0, .agg #[.int .u8 0, .int .u8 0]]
    (by kernel_rfl) (by kernel_rfl) (by kernel_rfl) (by kernel_rfl) (by kernel_rfl) (fun _ => trivial) rfl
    (fun ds hd => by
      match ds, hd with
      | [_, _, _], _ => rfl)
    (tb := 4) (by kernel_rfl) (by kernel_rfl) (ss := [S22, S23, S53]) (by kernel_rfl) laidOut (by kernel_rfl) queueParks_args
/-- the row -/
theorem queueParks_holds : Rows.QueueParksSaid :=
  OpenClaim.holds_of_wide 6 Try.f6 rfl rfl rfl rfl rfl rfl rfl ⟨rfl, rfl, rfl, rfl, rfl⟩ rfl rfl rfl rfl rfl (by kernel_rfl) Try.func6 (by kernel_rfl)
    (of_decide_eq_true (by kernel_rfl)) (by unfold Func.isWrapper; first | (rw [if_pos (by decide +kernel)]; kernel_rfl) | (rw [if_neg (by decide +kernel)]; exact ⟨rfl, rfl⟩))
    (fun os started H enc _ => queueParks_lifted os started H enc)
#print axioms queueParks_holds
end Go.Proofs.Ytkjihkenmghaeaa
