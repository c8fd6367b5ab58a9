/- PROVED: for every input the Go function QueueEnds of the given program returns true, and each argument reads afterwards as it read before. NO CONDITION, no narrowing: the whole row. By an AI agent; no person has read it. -/
import Derived.Test.YtkjihkenmghaeaaXR1
import Derived.Test.YtkjihkenmghaeaaXL17
namespace Go.Proofs.Ytkjihkenmghaeaa
open Go.Ab
set_option maxRecDepth 100000
set_option linter.unusedVariables false
theorem queueEnds_args (xs : List AV) (h : okArgs [S22, S23] xs) : CallOK Try.prog 5 xs (fun _ => .v (.bool true)) (fun _ => []) := by
  obtain ⟨_, _, rfl, h0, _, _, rfl, h1, rfl⟩ := h
  obtain ⟨a, b, c, rfl, ha, hb, hc⟩ := open22 h0
  obtain ⟨l, rfl, hl⟩ := open23 h1
  exact ends_ok a b c l ha hb hc hl
theorem queueEnds_lifted (os : Os) (started : os.Started) (H : Type) (enc : TypeId × Value → H) :
    ReturnsInHanded {} Try.checked os 5 .any (Rows.queueEndsSpec.pre6 enc Try.prog Try.f5 [] false) (Rows.queueEndsSpec.post enc Try.prog Try.f5 false true false false) :=
  row_lifted (C := Try.checked) own started (by kernel_rfl) Try.func5
    #[.agg #[.int .u8 0, .int .u8 0, .int .u8 0], .slice none 0 0]
    (by kernel_rfl) (by kernel_rfl) (by kernel_rfl) (by kernel_rfl) (by kernel_rfl) (fun _ => trivial) rfl
    (fun ds hd => by
      match ds, hd with
      | [_, _], _ => rfl)
    (tb := 4) (by kernel_rfl) (by kernel_rfl) (ss := [S22, S23]) (by kernel_rfl) laidOut (by kernel_rfl) queueEnds_args
/-- the row -/
theorem queueEnds_holds : Rows.QueueEndsSaid :=
  OpenClaim.holds_of_wide 5 Try.f5 rfl rfl rfl rfl rfl rfl rfl ⟨rfl, rfl, rfl, rfl, rfl⟩ rfl rfl rfl rfl rfl (by kernel_rfl) Try.func5 (by kernel_rfl)
    (of_decide_eq_true (by kernel_rfl)) (by unfold Func.isWrapper; first | (rw [if_pos (by decide +kernel)]; kernel_rfl) | (rw [if_neg (by decide +kernel)]; exact ⟨rfl, rfl⟩))
    (fun os started H enc _ => queueEnds_lifted os started H enc)
#print axioms queueEnds_holds
end Go.Proofs.Ytkjihkenmghaeaa
