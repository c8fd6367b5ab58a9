/-
  No cell of these rows narrows 'for every input' (looked for: loops, veiled, ifaces, maps, wideKeys, modest, calm, conditions, laid).
  DERIVED. THE GIVEN ROWS OF THIS SEAT. 6 by the template 'for every input the law returns true; each argument reads behind the call as it read before'; 0 by the template 'total and deterministic' (their statements: YtkjihkenmghaeaaTotals.lean).
  GIVEN WITH THE SEED: the statements are not yours to turn. If you find one false, say at which input.
  Laid BY PROGRAM, IN A SANDBOX (cutbox-rows.mjs): the forced cells as the released guide's own fill.sh prints them over the translation 4f269a9a9a1dd7eb… (all of the seat's roots in one cut). By AI agents, Wed Nov 11 2026. No macro, syntax, notation, axiom, sorry.
-/
import Derived.Test.YtkjihkenmghaeaaChecked
import GoSem.Claim
import GoSem.ClaimJoined
import GoSem.ClaimMapViews
import Derived.JoinedTies
import Derived.KernelRfl
namespace Go.Proofs.Ytkjihkenmghaeaa
/- THE CELL 'sum', in the pinned program and in every row, IS THE sha256 OF THE DUMP (.gsa) THAT YtkjihkenmghaeaaProg.lean LOADS. Nothing in Lean hashes anything: it is a label: what it is worth is what the hold of that sum in a sandbox is worth. -/
noncomputable def Try.pinned : Pinned := { name := "ytkjihkenmghaeaa", sum := "4f269a9a9a1dd7eb2bf723d7d573f121e3a29c3c2ffb90d43e611d5ea9bdeade", checked := Try.checked }
namespace Rows
def none {H : Type} : Left H := { results := [], args := [] }

/-- 'warpwrightlaw41.QueueRight': WHATEVER THE INPUT: true; the input reads as it did. -/
def queueRightSpec : ChangeSpec := { name := "queueRight", fn := fun _ => fun
  | [d1, d2, d3] => { results := [.lit (.bool true)], args := [d1, d2, d3] }
  | _ => none }
def queueRightRow : OpenClaim := { program := "ytkjihkenmghaeaa", sum := "4f269a9a9a1dd7eb2bf723d7d573f121e3a29c3c2ffb90d43e611d5ea9bdeade", func := "warpwright/warpwrightlaw41.QueueRight", spec := "queueRight", unfollowed := true, recurses := true, apart := false }
def QueueRightSaid : Prop := queueRightRow.holds Try.pinned (OpenSpec.ofChange queueRightSpec)

/-- ITS FALSE NEIGHBOUR: 'it returns false'. Refute it at one input. -/
def queueRightWrong : ChangeSpec := { name := "queueRight", fn := fun _ => fun
  | [d1, d2, d3] => { results := [.lit (.bool false)], args := [d1, d2, d3] }
  | _ => none }
def QueueRightWrongFalsely : Prop := queueRightRow.holds Try.pinned (OpenSpec.ofChange queueRightWrong)

/-- 'warpwrightlaw41.QueueOrder': WHATEVER THE INPUT: true; the input reads as it did. -/
def queueOrderSpec : ChangeSpec := { name := "queueOrder", fn := fun _ => fun
  | [d1, d2] => { results := [.lit (.bool true)], args := [d1, d2] }
  | _ => none }
def queueOrderRow : OpenClaim := { program := "ytkjihkenmghaeaa", sum := "4f269a9a9a1dd7eb2bf723d7d573f121e3a29c3c2ffb90d43e611d5ea9bdeade", func := "warpwright/warpwrightlaw41.QueueOrder", spec := "queueOrder", unfollowed := true, recurses := true, apart := false }
def QueueOrderSaid : Prop := queueOrderRow.holds Try.pinned (OpenSpec.ofChange queueOrderSpec)

/-- ITS FALSE NEIGHBOUR: 'it returns false'. Refute it at one input. -/
def queueOrderWrong : ChangeSpec := { name := "queueOrder", fn := fun _ => fun
  | [d1, d2] => { results := [.lit (.bool false)], args := [d1, d2] }
  | _ => none }
def QueueOrderWrongFalsely : Prop := queueOrderRow.holds Try.pinned (OpenSpec.ofChange queueOrderWrong)

/-- 'warpwrightlaw41.QueueEnds': WHATEVER THE INPUT: true; the input reads as it did. -/
def queueEndsSpec : ChangeSpec := { name := "queueEnds", fn := fun _ => fun
  | [d1, d2] => { results := [.lit (.bool true)], args := [d1, d2] }
  | _ => none }
def queueEndsRow : OpenClaim := { program := "ytkjihkenmghaeaa", sum := "4f269a9a9a1dd7eb2bf723d7d573f121e3a29c3c2ffb90d43e611d5ea9bdeade", func := "warpwright/warpwrightlaw41.QueueEnds", spec := "queueEnds", unfollowed := true, recurses := true, apart := false }
def QueueEndsSaid : Prop := queueEndsRow.holds Try.pinned (OpenSpec.ofChange queueEndsSpec)

/-- ITS FALSE NEIGHBOUR: 'it returns false'. Refute it at one input. -/
def queueEndsWrong : ChangeSpec := { name := "queueEnds", fn := fun _ => fun
  | [d1, d2] => { results := [.lit (.bool false)], args := [d1, d2] }
  | _ => none }
def QueueEndsWrongFalsely : Prop := queueEndsRow.holds Try.pinned (OpenSpec.ofChange queueEndsWrong)

/-- 'warpwrightlaw41.QueueParks': WHATEVER THE INPUT: true; the input reads as it did. -/
def queueParksSpec : ChangeSpec := { name := "queueParks", fn := fun _ => fun
  | [d1, d2, d3] => { results := [.lit (.bool true)], args := [d1, d2, d3] }
  | _ => none }
def queueParksRow : OpenClaim := { program := "ytkjihkenmghaeaa", sum := "4f269a9a9a1dd7eb2bf723d7d573f121e3a29c3c2ffb90d43e611d5ea9bdeade", func := "warpwright/warpwrightlaw41.QueueParks", spec := "queueParks", unfollowed := true, recurses := true, apart := false }
def QueueParksSaid : Prop := queueParksRow.holds Try.pinned (OpenSpec.ofChange queueParksSpec)

/-- ITS FALSE NEIGHBOUR: 'it returns false'. Refute it at one input. -/
def queueParksWrong : ChangeSpec := { name := "queueParks", fn := fun _ => fun
  | [d1, d2, d3] => { results := [.lit (.bool false)], args := [d1, d2, d3] }
  | _ => none }
def QueueParksWrongFalsely : Prop := queueParksRow.holds Try.pinned (OpenSpec.ofChange queueParksWrong)

/-- 'warpwrightlaw41.QueueMatchesReference': WHATEVER THE INPUT: true; the input reads as it did. -/
def queueMatchesReferenceSpec : ChangeSpec := { name := "queueMatchesReference", fn := fun _ => fun
  | [d1, d2, d3] => { results := [.lit (.bool true)], args := [d1, d2, d3] }
  | _ => none }
def queueMatchesReferenceRow : OpenClaim := { program := "ytkjihkenmghaeaa", sum := "4f269a9a9a1dd7eb2bf723d7d573f121e3a29c3c2ffb90d43e611d5ea9bdeade", func := "warpwright/warpwrightlaw41.QueueMatchesReference", spec := "queueMatchesReference", unfollowed := true, recurses := true, apart := false }
def QueueMatchesReferenceSaid : Prop := queueMatchesReferenceRow.holds Try.pinned (OpenSpec.ofChange queueMatchesReferenceSpec)

/-- ITS FALSE NEIGHBOUR: 'it returns false'. Refute it at one input. -/
def queueMatchesReferenceWrong : ChangeSpec := { name := "queueMatchesReference", fn := fun _ => fun
  | [d1, d2, d3] => { results := [.lit (.bool false)], args := [d1, d2, d3] }
  | _ => none }
def QueueMatchesReferenceWrongFalsely : Prop := queueMatchesReferenceRow.holds Try.pinned (OpenSpec.ofChange queueMatchesReferenceWrong)

/-- 'warpwrightlaw41.QueueQuotas': WHATEVER THE INPUT: true; the input reads as it did. -/
def queueQuotasSpec : ChangeSpec := { name := "queueQuotas", fn := fun _ => fun
  | [d1, d2, d3] => { results := [.lit (.bool true)], args := [d1, d2, d3] }
  | _ => none }
def queueQuotasRow : OpenClaim := { program := "ytkjihkenmghaeaa", sum := "4f269a9a9a1dd7eb2bf723d7d573f121e3a29c3c2ffb90d43e611d5ea9bdeade", func := "warpwright/warpwrightlaw41.QueueQuotas", spec := "queueQuotas", unfollowed := true, recurses := true, apart := false }
def QueueQuotasSaid : Prop := queueQuotasRow.holds Try.pinned (OpenSpec.ofChange queueQuotasSpec)

/-- ITS FALSE NEIGHBOUR: 'it returns false'. Refute it at one input. -/
def queueQuotasWrong : ChangeSpec := { name := "queueQuotas", fn := fun _ => fun
  | [d1, d2, d3] => { results := [.lit (.bool false)], args := [d1, d2, d3] }
  | _ => none }
def QueueQuotasWrongFalsely : Prop := queueQuotasRow.holds Try.pinned (OpenSpec.ofChange queueQuotasWrong)

/- THE SECOND FORM. 'bulk': how many values and letters a reading holds, each counted each time it is reached (what is shared counts as often as it is met; a slice's spare places count too). A statement '..UptoSaid' is the law's where the arguments, and the package variables that the reading takes, are together of bulk at most 1048576: NARROWER than '..Said'. Prove '..Said' where nothing that the law and all that it calls make is longer than what came in: it says more and counts as full. Else prove '..UptoSaid'. A law counts once. -/
mutual
def uptoBulk {H : Type} : DataW H → Nat
  | .lit (.string bytes) => bytes.length + 1
  | .lit _ => 1
  | .nil => 1
  | .ptr d => uptoBulk d + 1
  | .slice elems spare => uptoBulkAll elems + uptoBulkAll spare + 1
  | .agg parts => uptoBulkAll parts + 1
  | .iface _ d => uptoBulk d + 1
  | .map entries => uptoBulkEntries entries + 1
  | .held _ => 1
def uptoBulkAll {H : Type} : List (DataW H) → Nat
  | [] => 0
  | d :: r => uptoBulk d + uptoBulkAll r
def uptoBulkEntries {H : Type} : List (Lit × DataW H) → Nat
  | [] => 0
  | x :: r => uptoBulkEntry x + uptoBulkEntries r
def uptoBulkEntry {H : Type} : Lit × DataW H → Nat
  | (.string bytes, d) => bytes.length + uptoBulk d + 1
  | (_, d) => uptoBulk d + 1
 end
def uptoSmall : (H : Type) → List (DataW H) → Bool := fun _ ds => decide (uptoBulkAll ds ≤ 1048576)
def OpenSpec.upto (s : _root_.Go.ChangeSpec) : _root_.Go.OpenSpec := { _root_.Go.OpenSpec.ofChange s with cond := some uptoSmall }

/-- 'warpwrightlaw41.QueueRight', WHERE WHAT IT READS IS OF BULK AT MOST 1048576: true; the input reads as it did. -/
def queueRightUptoRow : OpenClaim := { program := "ytkjihkenmghaeaa", sum := "4f269a9a9a1dd7eb2bf723d7d573f121e3a29c3c2ffb90d43e611d5ea9bdeade", func := "warpwright/warpwrightlaw41.QueueRight", spec := "queueRight", unfollowed := true, recurses := true, apart := false, narrowed := true }
def QueueRightUptoSaid : Prop := queueRightUptoRow.holds Try.pinned (OpenSpec.upto queueRightSpec)

/-- 'warpwrightlaw41.QueueOrder', WHERE WHAT IT READS IS OF BULK AT MOST 1048576: true; the input reads as it did. -/
def queueOrderUptoRow : OpenClaim := { program := "ytkjihkenmghaeaa", sum := "4f269a9a9a1dd7eb2bf723d7d573f121e3a29c3c2ffb90d43e611d5ea9bdeade", func := "warpwright/warpwrightlaw41.QueueOrder", spec := "queueOrder", unfollowed := true, recurses := true, apart := false, narrowed := true }
def QueueOrderUptoSaid : Prop := queueOrderUptoRow.holds Try.pinned (OpenSpec.upto queueOrderSpec)

/-- 'warpwrightlaw41.QueueEnds', WHERE WHAT IT READS IS OF BULK AT MOST 1048576: true; the input reads as it did. -/
def queueEndsUptoRow : OpenClaim := { program := "ytkjihkenmghaeaa", sum := "4f269a9a9a1dd7eb2bf723d7d573f121e3a29c3c2ffb90d43e611d5ea9bdeade", func := "warpwright/warpwrightlaw41.QueueEnds", spec := "queueEnds", unfollowed := true, recurses := true, apart := false, narrowed := true }
def QueueEndsUptoSaid : Prop := queueEndsUptoRow.holds Try.pinned (OpenSpec.upto queueEndsSpec)

/-- 'warpwrightlaw41.QueueParks', WHERE WHAT IT READS IS OF BULK AT MOST 1048576: true; the input reads as it did. -/
def queueParksUptoRow : OpenClaim := { program := "ytkjihkenmghaeaa", sum := "4f269a9a9a1dd7eb2bf723d7d573f121e3a29c3c2ffb90d43e611d5ea9bdeade", func := "warpwright/warpwrightlaw41.QueueParks", spec := "queueParks", unfollowed := true, recurses := true, apart := false, narrowed := true }
def QueueParksUptoSaid : Prop := queueParksUptoRow.holds Try.pinned (OpenSpec.upto queueParksSpec)

/-- 'warpwrightlaw41.QueueMatchesReference', WHERE WHAT IT READS IS OF BULK AT MOST 1048576: true; the input reads as it did. -/
def queueMatchesReferenceUptoRow : OpenClaim := { program := "ytkjihkenmghaeaa", sum := "4f269a9a9a1dd7eb2bf723d7d573f121e3a29c3c2ffb90d43e611d5ea9bdeade", func := "warpwright/warpwrightlaw41.QueueMatchesReference", spec := "queueMatchesReference", unfollowed := true, recurses := true, apart := false, narrowed := true }
def QueueMatchesReferenceUptoSaid : Prop := queueMatchesReferenceUptoRow.holds Try.pinned (OpenSpec.upto queueMatchesReferenceSpec)

/-- 'warpwrightlaw41.QueueQuotas', WHERE WHAT IT READS IS OF BULK AT MOST 1048576: true; the input reads as it did. -/
def queueQuotasUptoRow : OpenClaim := { program := "ytkjihkenmghaeaa", sum := "4f269a9a9a1dd7eb2bf723d7d573f121e3a29c3c2ffb90d43e611d5ea9bdeade", func := "warpwright/warpwrightlaw41.QueueQuotas", spec := "queueQuotas", unfollowed := true, recurses := true, apart := false, narrowed := true }
def QueueQuotasUptoSaid : Prop := queueQuotasUptoRow.holds Try.pinned (OpenSpec.upto queueQuotasSpec)

end Rows
end Go.Proofs.Ytkjihkenmghaeaa
