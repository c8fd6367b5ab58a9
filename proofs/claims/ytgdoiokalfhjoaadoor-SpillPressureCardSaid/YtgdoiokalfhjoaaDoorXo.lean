/- Own work (by an AI agent; no person has read it): part of a proof of the seat YtgdoiokalfhjoaaDoor. -/
import Derived.Test.YtgdoiokalfhjoaaDoorXn
set_option linter.unusedSimpArgs false
set_option linter.unusedVariables false
set_option maxRecDepth 100000
set_option maxHeartbeats 10000000
section
namespace Go.Proofs.YtgdoiokalfhjoaaDoor
open Go.Ab
theorem uY(S:MS)(pr:Bool)(h:fL S 900000):y9 Tryd.prog 64 [.ptr 0 0 0,.v (.bool pr)] S.rows 1 (fun _:Unit=>True) (fun _=> .Q0 [.v (.int .i64 (pn S pr)),.agg (G9 S.L (S.at_+1)).av]) (fun _=>(S.place pr).rows):=by
 obtain⟨L,at_,g,su,re,sl,pa,ar,lo,bs,ii,t⟩:=S
 exact b3M L at_ g su re sl pa ar lo ii bs t pr h
def pY:List Int:=[10,22,23,17,18,19]
theorem b0c:([[.v (.int .i64 10)],[.v (.int .i64 22)],[.v (.int .i64 23)],[.v (.int .i64 17)],[.v (.int .i64 18)],[.v (.int .i64 19)]]:List (List AV))=m8 pY:=rfl
theorem a7U:pY.length=6:=rfl
def X4(L:List Int)(a:Int):l0:=
 let k:=a8 L a%16
 if k<3 then⟨5,1+a8 L (a+1)%7,0,G9 L (a+1+1),O0,O0,O0⟩
 else if k<7 then⟨3,10+a8 L (a+1)%20,0,G9 L (a+1+1),V6 L (a+1+1+1),V6 L (a+1+1+1+1),O0⟩
 else if k=7 then⟨2,1+a8 L (a+1)%5,0,G9 L (a+1+1),V6 L (a+1+1+1),O0,O0⟩
 else if k=8 then⟨4,0,0,G9 L (a+1),V6 L (a+1+1),V6 L (a+1+1+1),V6 L (a+1+1+1+1)⟩
 else if k=9 then⟨1,0,0,G9 L (a+1),V6 L (a+1+1),O0,O0⟩
 else if k=10 then⟨6,0,a8 L (a+1)%3,G9 L (a+1+1),O0,O0,O0⟩
 else⟨10,1+a8 L (a+1)%2,0,O0,O0,O0,O0⟩
def fU(L:List Int)(a:Int):Int:=
 let k:=a8 L a%16
 if k<3 then a+1+1+1
 else if k<7 then a+1+1+1+1+1
 else if k=7 then a+1+1+1+1
 else if k=8 then a+1+1+1+1+1
 else if k=9 then a+1+1+1
 else if k=10 then a+1+1+1
 else a+1+1
def fV(L:List Int)(k a n:Int)(d:H8):l0:=
 if k=12 then⟨9,pY.getD (a8 L a%6).toNat 0,n,O0,d,V6 L (a+1),O0⟩
 else if k=13 then⟨7,0,n,G9 L a,d,O0,O0⟩
 else⟨8,0,n,O0,d,V6 L a,O0⟩
def MS.inst(S:MS):MS:=
 let k:=a8 S.L S.at_%16
 if k<12 then{S with at_:=fU S.L S.at_}.put (X4 S.L S.at_)
 else
  let S1:={S with at_:=S.at_+1}
  let S2:=S1.place (decide (¬k=12))
  {S2 with at_:=if k=12 then S2.at_+1+1 else S2.at_+1}.put (fV S.L k S2.at_ (pn S1 (decide (¬k=12))) (G9 S.L (S1.at_+1)))
end Go.Proofs.YtgdoiokalfhjoaaDoor
end
