/-
  NARROWER THAN 'FOR EVERY INPUT', by the rows' own cells (each row's printed sentence says how): AllocMatchesReference: laid · AllocAccepted: laid · AllocExchanges: laid · AllocConflicts: laid · AllocRefuses: laid · AllocPressure: laid · AllocKeeps: laid · SpillMatchesReference: laid · SpillLive: laid · SpillDamage: laid · LiveDead: laid.
  DERIVED. THE GIVEN ROWS OF THIS SEAT. 11 by the template 'for every input the law returns true; each argument reads behind the call as it read before'; 0 by the template 'total and deterministic' (their statements: YtgdoiokalfhjoaaGreatDoorTotals.lean).
  GIVEN WITH THE SEED: the statements are not yours to turn. If you find one false, say at which input.
  Laid BY PROGRAM, IN A SANDBOX (cutbox-rows.mjs): the forced cells as the released guide's own fill.sh prints them over the translation 9ea5ac7cca7dac0b… (all of the seat's roots in one cut). By AI agents, Wed Nov 11 2026. No macro, syntax, notation, axiom, sorry.
-/
import Derived.Test.YtgdoiokalfhjoaaGreatDoorChecked
import GoSem.Claim
import GoSem.ClaimJoined
import GoSem.ClaimMapViews
import Derived.JoinedTies
import Derived.KernelRfl
namespace Go.Proofs.YtgdoiokalfhjoaaGreatDoor
/- THE CELL 'sum', in the pinned program and in every row, IS THE sha256 OF THE DUMP (.gsa) THAT YtgdoiokalfhjoaaGreatDoorProg.lean LOADS. Nothing in Lean hashes anything: it is a label: what it is worth is what the hold of that sum in a sandbox is worth. -/
noncomputable def Tryz.pinned : Pinned := { name := "ytgdoiokalfhjoaagreatdoor", sum := "9ea5ac7cca7dac0be7c44555fcc3304fb439268bd973713530dc867f849b35be", checked := Tryz.checked }
namespace Rows
def none {H : Type} : Left H := { results := [], args := [] }

/- WHAT THE LISTED PACKAGE-LEVEL VARIABLES READ AS WHEN THE CALL BEGINS. Each datum BY PROGRAM (the guide's laid-datum.mjs) off the statement by which the dump's own 'gosem.cut.vars' lays the variable. In a bare row this is a premise. The card (YtgdoiokalfhjoaaGreatDoorCards.lean) ties it to the program's text. -/
def laid_math_bits_deBruijn64tab {H : Type} : DataW H := .agg [.lit (.int .u8 0), .lit (.int .u8 1), .lit (.int .u8 56), .lit (.int .u8 2), .lit (.int .u8 57), .lit (.int .u8 49), .lit (.int .u8 28), .lit (.int .u8 3), .lit (.int .u8 61), .lit (.int .u8 58), .lit (.int .u8 42), .lit (.int .u8 50), .lit (.int .u8 38), .lit (.int .u8 29), .lit (.int .u8 17), .lit (.int .u8 4), .lit (.int .u8 62), .lit (.int .u8 47), .lit (.int .u8 59), .lit (.int .u8 36), .lit (.int .u8 45), .lit (.int .u8 43), .lit (.int .u8 51), .lit (.int .u8 22), .lit (.int .u8 53), .lit (.int .u8 39), .lit (.int .u8 33), .lit (.int .u8 30), .lit (.int .u8 24), .lit (.int .u8 18), .lit (.int .u8 12), .lit (.int .u8 5), .lit (.int .u8 63), .lit (.int .u8 55), .lit (.int .u8 48), .lit (.int .u8 27), .lit (.int .u8 60), .lit (.int .u8 41), .lit (.int .u8 37), .lit (.int .u8 16), .lit (.int .u8 46), .lit (.int .u8 35), .lit (.int .u8 44), .lit (.int .u8 21), .lit (.int .u8 52), .lit (.int .u8 32), .lit (.int .u8 23), .lit (.int .u8 11), .lit (.int .u8 54), .lit (.int .u8 26), .lit (.int .u8 40), .lit (.int .u8 15), .lit (.int .u8 34), .lit (.int .u8 20), .lit (.int .u8 31), .lit (.int .u8 10), .lit (.int .u8 25), .lit (.int .u8 14), .lit (.int .u8 19), .lit (.int .u8 9), .lit (.int .u8 13), .lit (.int .u8 8), .lit (.int .u8 7), .lit (.int .u8 6)]

/-- 'warpwrightlaw17.AllocMatchesReference': WHATEVER THE INPUT: true; the input reads as it did. -/
def allocMatchesReferenceSpec : ChangeSpec := { name := "allocMatchesReference", fn := fun _ => fun
  | [d1, d2, d3] => { results := [.lit (.bool true)], args := [d1, d2, d3] }
  | _ => none }
def allocMatchesReferenceRow : OpenClaim := { program := "ytgdoiokalfhjoaagreatdoor", sum := "9ea5ac7cca7dac0be7c44555fcc3304fb439268bd973713530dc867f849b35be", func := "warpwright/warpwrightlaw17.AllocMatchesReference", spec := "allocMatchesReference", unfollowed := true, recurses := true, named := ["math/bits.deBruijn64tab"], plainKeys := false, apart := false, laid := [("math/bits.deBruijn64tab", laid_math_bits_deBruijn64tab)] }
def AllocMatchesReferenceSaid : Prop := allocMatchesReferenceRow.holds Tryz.pinned (OpenSpec.ofChange allocMatchesReferenceSpec)

/-- ITS FALSE NEIGHBOUR: 'it returns false'. Refute it at one input. -/
def allocMatchesReferenceWrong : ChangeSpec := { name := "allocMatchesReference", fn := fun _ => fun
  | [d1, d2, d3] => { results := [.lit (.bool false)], args := [d1, d2, d3] }
  | _ => none }
def AllocMatchesReferenceWrongFalsely : Prop := allocMatchesReferenceRow.holds Tryz.pinned (OpenSpec.ofChange allocMatchesReferenceWrong)

/-- 'warpwrightlaw17.AllocAccepted': WHATEVER THE INPUT: true; the input reads as it did. -/
def allocAcceptedSpec : ChangeSpec := { name := "allocAccepted", fn := fun _ => fun
  | [d1, d2] => { results := [.lit (.bool true)], args := [d1, d2] }
  | _ => none }
def allocAcceptedRow : OpenClaim := { program := "ytgdoiokalfhjoaagreatdoor", sum := "9ea5ac7cca7dac0be7c44555fcc3304fb439268bd973713530dc867f849b35be", func := "warpwright/warpwrightlaw17.AllocAccepted", spec := "allocAccepted", unfollowed := true, recurses := true, named := ["math/bits.deBruijn64tab"], plainKeys := false, apart := false, laid := [("math/bits.deBruijn64tab", laid_math_bits_deBruijn64tab)] }
def AllocAcceptedSaid : Prop := allocAcceptedRow.holds Tryz.pinned (OpenSpec.ofChange allocAcceptedSpec)

/-- ITS FALSE NEIGHBOUR: 'it returns false'. Refute it at one input. -/
def allocAcceptedWrong : ChangeSpec := { name := "allocAccepted", fn := fun _ => fun
  | [d1, d2] => { results := [.lit (.bool false)], args := [d1, d2] }
  | _ => none }
def AllocAcceptedWrongFalsely : Prop := allocAcceptedRow.holds Tryz.pinned (OpenSpec.ofChange allocAcceptedWrong)

/-- 'warpwrightlaw17.AllocExchanges': WHATEVER THE INPUT: true; the input reads as it did. -/
def allocExchangesSpec : ChangeSpec := { name := "allocExchanges", fn := fun _ => fun
  | [d1, d2, d3] => { results := [.lit (.bool true)], args := [d1, d2, d3] }
  | _ => none }
def allocExchangesRow : OpenClaim := { program := "ytgdoiokalfhjoaagreatdoor", sum := "9ea5ac7cca7dac0be7c44555fcc3304fb439268bd973713530dc867f849b35be", func := "warpwright/warpwrightlaw17.AllocExchanges", spec := "allocExchanges", unfollowed := true, recurses := true, named := ["math/bits.deBruijn64tab"], plainKeys := false, apart := false, laid := [("math/bits.deBruijn64tab", laid_math_bits_deBruijn64tab)] }
def AllocExchangesSaid : Prop := allocExchangesRow.holds Tryz.pinned (OpenSpec.ofChange allocExchangesSpec)

/-- ITS FALSE NEIGHBOUR: 'it returns false'. Refute it at one input. -/
def allocExchangesWrong : ChangeSpec := { name := "allocExchanges", fn := fun _ => fun
  | [d1, d2, d3] => { results := [.lit (.bool false)], args := [d1, d2, d3] }
  | _ => none }
def AllocExchangesWrongFalsely : Prop := allocExchangesRow.holds Tryz.pinned (OpenSpec.ofChange allocExchangesWrong)

/-- 'warpwrightlaw17.AllocConflicts': WHATEVER THE INPUT: true; the input reads as it did. -/
def allocConflictsSpec : ChangeSpec := { name := "allocConflicts", fn := fun _ => fun
  | [d1, d2] => { results := [.lit (.bool true)], args := [d1, d2] }
  | _ => none }
def allocConflictsRow : OpenClaim := { program := "ytgdoiokalfhjoaagreatdoor", sum := "9ea5ac7cca7dac0be7c44555fcc3304fb439268bd973713530dc867f849b35be", func := "warpwright/warpwrightlaw17.AllocConflicts", spec := "allocConflicts", unfollowed := true, recurses := true, named := ["math/bits.deBruijn64tab"], plainKeys := false, apart := false, laid := [("math/bits.deBruijn64tab", laid_math_bits_deBruijn64tab)] }
def AllocConflictsSaid : Prop := allocConflictsRow.holds Tryz.pinned (OpenSpec.ofChange allocConflictsSpec)

/-- ITS FALSE NEIGHBOUR: 'it returns false'. Refute it at one input. -/
def allocConflictsWrong : ChangeSpec := { name := "allocConflicts", fn := fun _ => fun
  | [d1, d2] => { results := [.lit (.bool false)], args := [d1, d2] }
  | _ => none }
def AllocConflictsWrongFalsely : Prop := allocConflictsRow.holds Tryz.pinned (OpenSpec.ofChange allocConflictsWrong)

/-- 'warpwrightlaw17.AllocRefuses': WHATEVER THE INPUT: true; the input reads as it did. -/
def allocRefusesSpec : ChangeSpec := { name := "allocRefuses", fn := fun _ => fun
  | [d1, d2] => { results := [.lit (.bool true)], args := [d1, d2] }
  | _ => none }
def allocRefusesRow : OpenClaim := { program := "ytgdoiokalfhjoaagreatdoor", sum := "9ea5ac7cca7dac0be7c44555fcc3304fb439268bd973713530dc867f849b35be", func := "warpwright/warpwrightlaw17.AllocRefuses", spec := "allocRefuses", unfollowed := true, recurses := true, named := ["math/bits.deBruijn64tab"], plainKeys := false, apart := false, laid := [("math/bits.deBruijn64tab", laid_math_bits_deBruijn64tab)] }
def AllocRefusesSaid : Prop := allocRefusesRow.holds Tryz.pinned (OpenSpec.ofChange allocRefusesSpec)

/-- ITS FALSE NEIGHBOUR: 'it returns false'. Refute it at one input. -/
def allocRefusesWrong : ChangeSpec := { name := "allocRefuses", fn := fun _ => fun
  | [d1, d2] => { results := [.lit (.bool false)], args := [d1, d2] }
  | _ => none }
def AllocRefusesWrongFalsely : Prop := allocRefusesRow.holds Tryz.pinned (OpenSpec.ofChange allocRefusesWrong)

/-- 'warpwrightlaw17.AllocPressure': WHATEVER THE INPUT: true; the input reads as it did. -/
def allocPressureSpec : ChangeSpec := { name := "allocPressure", fn := fun _ => fun
  | [d1, d2] => { results := [.lit (.bool true)], args := [d1, d2] }
  | _ => none }
def allocPressureRow : OpenClaim := { program := "ytgdoiokalfhjoaagreatdoor", sum := "9ea5ac7cca7dac0be7c44555fcc3304fb439268bd973713530dc867f849b35be", func := "warpwright/warpwrightlaw17.AllocPressure", spec := "allocPressure", unfollowed := true, recurses := true, named := ["math/bits.deBruijn64tab"], plainKeys := false, apart := false, laid := [("math/bits.deBruijn64tab", laid_math_bits_deBruijn64tab)] }
def AllocPressureSaid : Prop := allocPressureRow.holds Tryz.pinned (OpenSpec.ofChange allocPressureSpec)

/-- ITS FALSE NEIGHBOUR: 'it returns false'. Refute it at one input. -/
def allocPressureWrong : ChangeSpec := { name := "allocPressure", fn := fun _ => fun
  | [d1, d2] => { results := [.lit (.bool false)], args := [d1, d2] }
  | _ => none }
def AllocPressureWrongFalsely : Prop := allocPressureRow.holds Tryz.pinned (OpenSpec.ofChange allocPressureWrong)

/-- 'warpwrightlaw17.AllocKeeps': WHATEVER THE INPUT: true; the input reads as it did. -/
def allocKeepsSpec : ChangeSpec := { name := "allocKeeps", fn := fun _ => fun
  | [d1, d2, d3] => { results := [.lit (.bool true)], args := [d1, d2, d3] }
  | _ => none }
def allocKeepsRow : OpenClaim := { program := "ytgdoiokalfhjoaagreatdoor", sum := "9ea5ac7cca7dac0be7c44555fcc3304fb439268bd973713530dc867f849b35be", func := "warpwright/warpwrightlaw17.AllocKeeps", spec := "allocKeeps", unfollowed := true, recurses := true, named := ["math/bits.deBruijn64tab"], plainKeys := false, apart := false, laid := [("math/bits.deBruijn64tab", laid_math_bits_deBruijn64tab)] }
def AllocKeepsSaid : Prop := allocKeepsRow.holds Tryz.pinned (OpenSpec.ofChange allocKeepsSpec)

/-- ITS FALSE NEIGHBOUR: 'it returns false'. Refute it at one input. -/
def allocKeepsWrong : ChangeSpec := { name := "allocKeeps", fn := fun _ => fun
  | [d1, d2, d3] => { results := [.lit (.bool false)], args := [d1, d2, d3] }
  | _ => none }
def AllocKeepsWrongFalsely : Prop := allocKeepsRow.holds Tryz.pinned (OpenSpec.ofChange allocKeepsWrong)

/-- 'warpwrightlaw16.SpillMatchesReference': WHATEVER THE INPUT: true; the input reads as it did. -/
def spillMatchesReferenceSpec : ChangeSpec := { name := "spillMatchesReference", fn := fun _ => fun
  | [d1, d2, d3] => { results := [.lit (.bool true)], args := [d1, d2, d3] }
  | _ => none }
def spillMatchesReferenceRow : OpenClaim := { program := "ytgdoiokalfhjoaagreatdoor", sum := "9ea5ac7cca7dac0be7c44555fcc3304fb439268bd973713530dc867f849b35be", func := "warpwright/warpwrightlaw16.SpillMatchesReference", spec := "spillMatchesReference", unfollowed := true, recurses := true, named := ["math/bits.deBruijn64tab"], plainKeys := false, apart := false, laid := [("math/bits.deBruijn64tab", laid_math_bits_deBruijn64tab)] }
def SpillMatchesReferenceSaid : Prop := spillMatchesReferenceRow.holds Tryz.pinned (OpenSpec.ofChange spillMatchesReferenceSpec)

/-- ITS FALSE NEIGHBOUR: 'it returns false'. Refute it at one input. -/
def spillMatchesReferenceWrong : ChangeSpec := { name := "spillMatchesReference", fn := fun _ => fun
  | [d1, d2, d3] => { results := [.lit (.bool false)], args := [d1, d2, d3] }
  | _ => none }
def SpillMatchesReferenceWrongFalsely : Prop := spillMatchesReferenceRow.holds Tryz.pinned (OpenSpec.ofChange spillMatchesReferenceWrong)

/-- 'warpwrightlaw16.SpillLive': WHATEVER THE INPUT: true; the input reads as it did. -/
def spillLiveSpec : ChangeSpec := { name := "spillLive", fn := fun _ => fun
  | [d1, d2] => { results := [.lit (.bool true)], args := [d1, d2] }
  | _ => none }
def spillLiveRow : OpenClaim := { program := "ytgdoiokalfhjoaagreatdoor", sum := "9ea5ac7cca7dac0be7c44555fcc3304fb439268bd973713530dc867f849b35be", func := "warpwright/warpwrightlaw16.SpillLive", spec := "spillLive", unfollowed := true, recurses := true, named := ["math/bits.deBruijn64tab"], plainKeys := false, apart := false, laid := [("math/bits.deBruijn64tab", laid_math_bits_deBruijn64tab)] }
def SpillLiveSaid : Prop := spillLiveRow.holds Tryz.pinned (OpenSpec.ofChange spillLiveSpec)

/-- ITS FALSE NEIGHBOUR: 'it returns false'. Refute it at one input. -/
def spillLiveWrong : ChangeSpec := { name := "spillLive", fn := fun _ => fun
  | [d1, d2] => { results := [.lit (.bool false)], args := [d1, d2] }
  | _ => none }
def SpillLiveWrongFalsely : Prop := spillLiveRow.holds Tryz.pinned (OpenSpec.ofChange spillLiveWrong)

/-- 'warpwrightlaw16.SpillDamage': WHATEVER THE INPUT: true; the input reads as it did. -/
def spillDamageSpec : ChangeSpec := { name := "spillDamage", fn := fun _ => fun
  | [d1, d2, d3] => { results := [.lit (.bool true)], args := [d1, d2, d3] }
  | _ => none }
def spillDamageRow : OpenClaim := { program := "ytgdoiokalfhjoaagreatdoor", sum := "9ea5ac7cca7dac0be7c44555fcc3304fb439268bd973713530dc867f849b35be", func := "warpwright/warpwrightlaw16.SpillDamage", spec := "spillDamage", unfollowed := true, recurses := true, named := ["math/bits.deBruijn64tab"], plainKeys := false, apart := false, laid := [("math/bits.deBruijn64tab", laid_math_bits_deBruijn64tab)] }
def SpillDamageSaid : Prop := spillDamageRow.holds Tryz.pinned (OpenSpec.ofChange spillDamageSpec)

/-- ITS FALSE NEIGHBOUR: 'it returns false'. Refute it at one input. -/
def spillDamageWrong : ChangeSpec := { name := "spillDamage", fn := fun _ => fun
  | [d1, d2, d3] => { results := [.lit (.bool false)], args := [d1, d2, d3] }
  | _ => none }
def SpillDamageWrongFalsely : Prop := spillDamageRow.holds Tryz.pinned (OpenSpec.ofChange spillDamageWrong)

/-- 'warpwrightlaw15.LiveDead': WHATEVER THE INPUT: true; the input reads as it did. -/
def liveDeadSpec : ChangeSpec := { name := "liveDead", fn := fun _ => fun
  | [d] => { results := [.lit (.bool true)], args := [d] }
  | _ => none }
def liveDeadRow : OpenClaim := { program := "ytgdoiokalfhjoaagreatdoor", sum := "9ea5ac7cca7dac0be7c44555fcc3304fb439268bd973713530dc867f849b35be", func := "warpwright/warpwrightlaw15.LiveDead", spec := "liveDead", unfollowed := true, recurses := true, named := ["math/bits.deBruijn64tab"], plainKeys := false, apart := false, laid := [("math/bits.deBruijn64tab", laid_math_bits_deBruijn64tab)] }
def LiveDeadSaid : Prop := liveDeadRow.holds Tryz.pinned (OpenSpec.ofChange liveDeadSpec)

/-- ITS FALSE NEIGHBOUR: 'it returns false'. Refute it at one input. -/
def liveDeadWrong : ChangeSpec := { name := "liveDead", fn := fun _ => fun
  | [d] => { results := [.lit (.bool false)], args := [d] }
  | _ => none }
def LiveDeadWrongFalsely : Prop := liveDeadRow.holds Tryz.pinned (OpenSpec.ofChange liveDeadWrong)

/- THE SECOND FORM. 'bulk': how many values and letters a reading holds, each counted each time it is reached (what is shared counts as often as it is met; a slice's spare places count too). A statement '..UptoSaid' is the law's where the arguments, and the package variables that the reading takes, are together of bulk at most 1048576: NARROWER than '..Said'. Prove '..Said' where nothing that the law and all that it calls make is longer than what came in: it says more and counts as full. Else prove '..UptoSaid'. A law counts once. -/
mutual
def uptoBulk {H : Type} : DataW H → Nat
  | .lit (.string bytes) => bytes.length + 1
  | .lit _ => 1
  | .nil => 1
  | .ptr d => uptoBulk d + 1
  | .slice elems spare => uptoBulkAll elems + uptoBulkAll spare + 1
  | .agg parts => uptoBulkAll parts + 1
  | .iface _ d => uptoBulk d + 1
  | .map entries => uptoBulkEntries entries + 1
  | .held _ => 1
def uptoBulkAll {H : Type} : List (DataW H) → Nat
  | [] => 0
  | d :: r => uptoBulk d + uptoBulkAll r
def uptoBulkEntries {H : Type} : List (Lit × DataW H) → Nat
  | [] => 0
  | x :: r => uptoBulkEntry x + uptoBulkEntries r
def uptoBulkEntry {H : Type} : Lit × DataW H → Nat
  | (.string bytes, d) => bytes.length + uptoBulk d + 1
  | (_, d) => uptoBulk d + 1
 end
def uptoSmall : (H : Type) → List (DataW H) → Bool := fun _ ds => decide (uptoBulkAll ds ≤ 1048576)
def OpenSpec.upto (s : _root_.Go.ChangeSpec) : _root_.Go.OpenSpec := { _root_.Go.OpenSpec.ofChange s with cond := some uptoSmall }

/-- 'warpwrightlaw17.AllocMatchesReference', WHERE WHAT IT READS IS OF BULK AT MOST 1048576: true; the input reads as it did. -/
def allocMatchesReferenceUptoRow : OpenClaim := { program := "ytgdoiokalfhjoaagreatdoor", sum := "9ea5ac7cca7dac0be7c44555fcc3304fb439268bd973713530dc867f849b35be", func := "warpwright/warpwrightlaw17.AllocMatchesReference", spec := "allocMatchesReference", unfollowed := true, recurses := true, named := ["math/bits.deBruijn64tab"], plainKeys := false, apart := false, laid := [("math/bits.deBruijn64tab", laid_math_bits_deBruijn64tab)], narrowed := true }
def AllocMatchesReferenceUptoSaid : Prop := allocMatchesReferenceUptoRow.holds Tryz.pinned (OpenSpec.upto allocMatchesReferenceSpec)

/-- 'warpwrightlaw17.AllocAccepted', WHERE WHAT IT READS IS OF BULK AT MOST 1048576: true; the input reads as it did. -/
def allocAcceptedUptoRow : OpenClaim := { program := "ytgdoiokalfhjoaagreatdoor", sum := "9ea5ac7cca7dac0be7c44555fcc3304fb439268bd973713530dc867f849b35be", func := "warpwright/warpwrightlaw17.AllocAccepted", spec := "allocAccepted", unfollowed := true, recurses := true, named := ["math/bits.deBruijn64tab"], plainKeys := false, apart := false, laid := [("math/bits.deBruijn64tab", laid_math_bits_deBruijn64tab)], narrowed := true }
def AllocAcceptedUptoSaid : Prop := allocAcceptedUptoRow.holds Tryz.pinned (OpenSpec.upto allocAcceptedSpec)

/-- 'warpwrightlaw17.AllocExchanges', WHERE WHAT IT READS IS OF BULK AT MOST 1048576: true; the input reads as it did. -/
def allocExchangesUptoRow : OpenClaim := { program := "ytgdoiokalfhjoaagreatdoor", sum := "9ea5ac7cca7dac0be7c44555fcc3304fb439268bd973713530dc867f849b35be", func := "warpwright/warpwrightlaw17.AllocExchanges", spec := "allocExchanges", unfollowed := true, recurses := true, named := ["math/bits.deBruijn64tab"], plainKeys := false, apart := false, laid := [("math/bits.deBruijn64tab", laid_math_bits_deBruijn64tab)], narrowed := true }
def AllocExchangesUptoSaid : Prop := allocExchangesUptoRow.holds Tryz.pinned (OpenSpec.upto allocExchangesSpec)

/-- 'warpwrightlaw17.AllocConflicts', WHERE WHAT IT READS IS OF BULK AT MOST 1048576: true; the input reads as it did. -/
def allocConflictsUptoRow : OpenClaim := { program := "ytgdoiokalfhjoaagreatdoor", sum := "9ea5ac7cca7dac0be7c44555fcc3304fb439268bd973713530dc867f849b35be", func := "warpwright/warpwrightlaw17.AllocConflicts", spec := "allocConflicts", unfollowed := true, recurses := true, named := ["math/bits.deBruijn64tab"], plainKeys := false, apart := false, laid := [("math/bits.deBruijn64tab", laid_math_bits_deBruijn64tab)], narrowed := true }
def AllocConflictsUptoSaid : Prop := allocConflictsUptoRow.holds Tryz.pinned (OpenSpec.upto allocConflictsSpec)

/-- 'warpwrightlaw17.AllocRefuses', WHERE WHAT IT READS IS OF BULK AT MOST 1048576: true; the input reads as it did. -/
def allocRefusesUptoRow : OpenClaim := { program := "ytgdoiokalfhjoaagreatdoor", sum := "9ea5ac7cca7dac0be7c44555fcc3304fb439268bd973713530dc867f849b35be", func := "warpwright/warpwrightlaw17.AllocRefuses", spec := "allocRefuses", unfollowed := true, recurses := true, named := ["math/bits.deBruijn64tab"], plainKeys := false, apart := false, laid := [("math/bits.deBruijn64tab", laid_math_bits_deBruijn64tab)], narrowed := true }
def AllocRefusesUptoSaid : Prop := allocRefusesUptoRow.holds Tryz.pinned (OpenSpec.upto allocRefusesSpec)

/-- 'warpwrightlaw17.AllocPressure', WHERE WHAT IT READS IS OF BULK AT MOST 1048576: true; the input reads as it did. -/
def allocPressureUptoRow : OpenClaim := { program := "ytgdoiokalfhjoaagreatdoor", sum := "9ea5ac7cca7dac0be7c44555fcc3304fb439268bd973713530dc867f849b35be", func := "warpwright/warpwrightlaw17.AllocPressure", spec := "allocPressure", unfollowed := true, recurses := true, named := ["math/bits.deBruijn64tab"], plainKeys := false, apart := false, laid := [("math/bits.deBruijn64tab", laid_math_bits_deBruijn64tab)], narrowed := true }
def AllocPressureUptoSaid : Prop := allocPressureUptoRow.holds Tryz.pinned (OpenSpec.upto allocPressureSpec)

/-- 'warpwrightlaw17.AllocKeeps', WHERE WHAT IT READS IS OF BULK AT MOST 1048576: true; the input reads as it did. -/
def allocKeepsUptoRow : OpenClaim := { program := "ytgdoiokalfhjoaagreatdoor", sum := "9ea5ac7cca7dac0be7c44555fcc3304fb439268bd973713530dc867f849b35be", func := "warpwright/warpwrightlaw17.AllocKeeps", spec := "allocKeeps", unfollowed := true, recurses := true, named := ["math/bits.deBruijn64tab"], plainKeys := false, apart := false, laid := [("math/bits.deBruijn64tab", laid_math_bits_deBruijn64tab)], narrowed := true }
def AllocKeepsUptoSaid : Prop := allocKeepsUptoRow.holds Tryz.pinned (OpenSpec.upto allocKeepsSpec)

/-- 'warpwrightlaw16.SpillMatchesReference', WHERE WHAT IT READS IS OF BULK AT MOST 1048576: true; the input reads as it did. -/
def spillMatchesReferenceUptoRow : OpenClaim := { program := "ytgdoiokalfhjoaagreatdoor", sum := "9ea5ac7cca7dac0be7c44555fcc3304fb439268bd973713530dc867f849b35be", func := "warpwright/warpwrightlaw16.SpillMatchesReference", spec := "spillMatchesReference", unfollowed := true, recurses := true, named := ["math/bits.deBruijn64tab"], plainKeys := false, apart := false, laid := [("math/bits.deBruijn64tab", laid_math_bits_deBruijn64tab)], narrowed := true }
def SpillMatchesReferenceUptoSaid : Prop := spillMatchesReferenceUptoRow.holds Tryz.pinned (OpenSpec.upto spillMatchesReferenceSpec)

/-- 'warpwrightlaw16.SpillLive', WHERE WHAT IT READS IS OF BULK AT MOST 1048576: true; the input reads as it did. -/
def spillLiveUptoRow : OpenClaim := { program := "ytgdoiokalfhjoaagreatdoor", sum := "9ea5ac7cca7dac0be7c44555fcc3304fb439268bd973713530dc867f849b35be", func := "warpwright/warpwrightlaw16.SpillLive", spec := "spillLive", unfollowed := true, recurses := true, named := ["math/bits.deBruijn64tab"], plainKeys := false, apart := false, laid := [("math/bits.deBruijn64tab", laid_math_bits_deBruijn64tab)], narrowed := true }
def SpillLiveUptoSaid : Prop := spillLiveUptoRow.holds Tryz.pinned (OpenSpec.upto spillLiveSpec)

/-- 'warpwrightlaw16.SpillDamage', WHERE WHAT IT READS IS OF BULK AT MOST 1048576: true; the input reads as it did. -/
def spillDamageUptoRow : OpenClaim := { program := "ytgdoiokalfhjoaagreatdoor", sum := "9ea5ac7cca7dac0be7c44555fcc3304fb439268bd973713530dc867f849b35be", func := "warpwright/warpwrightlaw16.SpillDamage", spec := "spillDamage", unfollowed := true, recurses := true, named := ["math/bits.deBruijn64tab"], plainKeys := false, apart := false, laid := [("math/bits.deBruijn64tab", laid_math_bits_deBruijn64tab)], narrowed := true }
def SpillDamageUptoSaid : Prop := spillDamageUptoRow.holds Tryz.pinned (OpenSpec.upto spillDamageSpec)

/-- 'warpwrightlaw15.LiveDead', WHERE WHAT IT READS IS OF BULK AT MOST 1048576: true; the input reads as it did. -/
def liveDeadUptoRow : OpenClaim := { program := "ytgdoiokalfhjoaagreatdoor", sum := "9ea5ac7cca7dac0be7c44555fcc3304fb439268bd973713530dc867f849b35be", func := "warpwright/warpwrightlaw15.LiveDead", spec := "liveDead", unfollowed := true, recurses := true, named := ["math/bits.deBruijn64tab"], plainKeys := false, apart := false, laid := [("math/bits.deBruijn64tab", laid_math_bits_deBruijn64tab)], narrowed := true }
def LiveDeadUptoSaid : Prop := liveDeadUptoRow.holds Tryz.pinned (OpenSpec.upto liveDeadSpec)

end Rows
end Go.Proofs.YtgdoiokalfhjoaaGreatDoor
