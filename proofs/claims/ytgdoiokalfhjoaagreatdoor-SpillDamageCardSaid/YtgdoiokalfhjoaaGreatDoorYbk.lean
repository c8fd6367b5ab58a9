/- Own work (by an AI agent; no person has read it): part of a proof of the seat YtgdoiokalfhjoaaGreatDoor. -/
import Derived.Test.YtgdoiokalfhjoaaGreatDoorYbg
import Derived.Test.YtgdoiokalfhjoaaGreatDoorYbj
set_option linter.unusedVariables false
section
namespace Go.Proofs.YtgdoiokalfhjoaaGreatDoor
open Go.Ab
theorem b0v(L:List Int)(hL:y9 L)(n:Int)(hn:0≤n∧n<65536)(w0 w1 w2:Int)(h0:0≤w0∧w0<256)(h1:0≤w1∧w1<256)(h2:0≤w2∧w2<256):
  e8 Tryz.prog 12 [.agg [.a8 false (eR L)],.v (.int .u16 n),.agg [.v (.int .u8 w0),.v (.int .u8 w1),.v (.int .u8 w2)]] (fun _=> .v (.bool true)) (fun _=>[]):=
 b4u L (lL L) (c3U L hL) (c0V L hL) a4C (c0U L hL) n hn w0 w1 w2 h0 h1 h2
end Go.Proofs.YtgdoiokalfhjoaaGreatDoor
end
