/- Own work (by an AI agent; no person has read it): part of a proof of the seat YtgdoiokalfhjoaaGreatDoor. -/
import Derived.Test.YtgdoiokalfhjoaaGreatDoorYm
set_option linter.unusedSimpArgs false
set_option linter.unusedVariables false
set_option maxRecDepth 100000
set_option maxHeartbeats 10000000
section
namespace Go.Proofs.YtgdoiokalfhjoaaGreatDoor
open Go.Ab
theorem yI(S:MS)(pr:Bool)(h:gD S 900000):y6 Tryz.prog 234 [.ptr 0 0 0,.v (.bool pr)] S.rows 1 (fun _:Unit=>True) (fun _=> .O2 [.v (.int .i64 (pn S pr)),.agg (E7 S.L (S.at_+1)).av]) (fun _=>(S.place pr).rows):=by
 obtain⟨L,at_,g,su,re,sl,pa,ar,lo,bs,ii,t⟩:=S
 exact c1l L at_ g su re sl pa ar lo ii bs t pr h
def qS:List Int:=[10,22,23,17,18,19]
theorem b5R:([[.v (.int .i64 10)],[.v (.int .i64 22)],[.v (.int .i64 23)],[.v (.int .i64 17)],[.v (.int .i64 18)],[.v (.int .i64 19)]]:List (List AV))=c7 qS:=rfl
theorem b21:qS.length=6:=rfl
def W9(L:List Int)(a:Int):e7:=
 let k:=a7 L a%16
 if k<3 then⟨5,1+a7 L (a+1)%7,0,E7 L (a+1+1),O0,O0,O0⟩
 else if k<7 then⟨3,10+a7 L (a+1)%20,0,E7 L (a+1+1),V5 L (a+1+1+1),V5 L (a+1+1+1+1),O0⟩
 else if k=7 then⟨2,1+a7 L (a+1)%5,0,E7 L (a+1+1),V5 L (a+1+1+1),O0,O0⟩
 else if k=8 then⟨4,0,0,E7 L (a+1),V5 L (a+1+1),V5 L (a+1+1+1),V5 L (a+1+1+1+1)⟩
 else if k=9 then⟨1,0,0,E7 L (a+1),V5 L (a+1+1),O0,O0⟩
 else if k=10 then⟨6,0,a7 L (a+1)%3,E7 L (a+1+1),O0,O0,O0⟩
 else⟨10,1+a7 L (a+1)%2,0,O0,O0,O0,O0⟩
def gQ(L:List Int)(a:Int):Int:=
 let k:=a7 L a%16
 if k<3 then a+1+1+1
 else if k<7 then a+1+1+1+1+1
 else if k=7 then a+1+1+1+1
 else if k=8 then a+1+1+1+1+1
 else if k=9 then a+1+1+1
 else if k=10 then a+1+1+1
 else a+1+1
def gR(L:List Int)(k a n:Int)(d:E3):e7:=
 if k=12 then⟨9,qS.getD (a7 L a%6).toNat 0,n,O0,d,V5 L (a+1),O0⟩
 else if k=13 then⟨7,0,n,E7 L a,d,O0,O0⟩
 else⟨8,0,n,O0,d,V5 L a,O0⟩
def MS.inst(S:MS):MS:=
 let k:=a7 S.L S.at_%16
 if k<12 then{S with at_:=gQ S.L S.at_}.put (W9 S.L S.at_)
 else
  let S1:={S with at_:=S.at_+1}
  let S2:=S1.place (decide (¬k=12))
  {S2 with at_:=if k=12 then S2.at_+1+1 else S2.at_+1}.put (gR S.L k S2.at_ (pn S1 (decide (¬k=12))) (E7 S.L (S1.at_+1)))
end Go.Proofs.YtgdoiokalfhjoaaGreatDoor
end
