/- Own work (by an AI agent; no person has read it): part of a proof of the seat YtngpbbpnnpfocaaDoor. -/
import Derived.Test.YtngpbbpnnpfocaaDoorXR0
namespace Go.Proofs.YtngpbbpnnpfocaaDoor
theorem i16_of {a : Int} (w : (Lit.int .i16 a).wf = true) : -32768 ≤ a ∧ a < 32768 := by
  have : -32768 ≤ a ∧ a ≤ 32767 := by simpa [Lit.wf, IntKind.min, IntKind.max, IntKind.signed, IntKind.bits] using w
  omega
theorem u8_of {a : Int} (w : (Lit.int .u8 a).wf = true) : 0 ≤ a ∧ a < 256 := by
  have : 0 ≤ a ∧ a ≤ 255 := by simpa [Lit.wf, IntKind.min, IntKind.max, IntKind.signed, IntKind.bits] using w
  omega
end Go.Proofs.YtngpbbpnnpfocaaDoor
