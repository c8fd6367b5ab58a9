/- Own work (by an AI agent; no person has read it): part of a proof of the seat YtngpbbpnnpfocaaDoor. -/
import Derived.Test.YtngpbbpnnpfocaaDoorXS5m
import Derived.Test.YtngpbbpnnpfocaaDoorXS5p
namespace Go.Proofs.YtngpbbpnnpfocaaDoor
open Go.Ab
theorem fixed_ok (hex : CallOK Tryd.prog 11 [] (fun _ => .v (.bool true)) (fun _ => [])) (a b n : Int) (ha : I32 a) (hb : I32 b) (hn : -32768 ≤ n ∧ n < 32768) : CallOK Tryd.prog 6 [.v (.int .i32 a), .v (.int .i32 b), .v (.int .i16 n)] (fun _ => .v (.bool true)) (fun _ => []) := by
  rcases Int.lt_trichotomy b 0 with h0 | h0 | h0
  · exact fixed_neg_b hex a b n h0 ha hb hn
  · subst h0; exact fixed_ok0 hex a n ha hn
  · exact fixed_pos_b hex a b n h0 ha hb hn
end Go.Proofs.YtngpbbpnnpfocaaDoor
