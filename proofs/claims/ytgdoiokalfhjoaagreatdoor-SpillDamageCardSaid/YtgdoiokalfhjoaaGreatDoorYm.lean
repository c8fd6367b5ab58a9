/- Own work (by an AI agent; no person has read it): part of a proof of the seat YtgdoiokalfhjoaaGreatDoor. -/
import Derived.Test.YtgdoiokalfhjoaaGreatDoorYl
set_option linter.unusedSimpArgs false
set_option linter.unusedVariables false
set_option maxRecDepth 100000
set_option maxHeartbeats 10000000
section
namespace Go.Proofs.YtgdoiokalfhjoaaGreatDoor
open Go.Ab
def Y0:=ZZ.mk (Zq a3E.d (Zq @eQ (Zq @oX (Zq @a2E (Zq @oY (Zq @qM (Zq @cH (Zq @E3.av.eq_1 (Zq @A3.eq_1 (Zq @cN.av.eq_1 @O0.eq_1))))))))))
theorem c1l(L:List Int)(at_ g su re sl pa:Int)(ar:List cN)(lo:r9)(ii:j4)(bs:List b6)(t:q9)(pr:Bool)(h:gD ⟨L,at_,g,su,re,sl,pa,ar,lo,bs,ii,t⟩ 900000):y6 Tryz.prog 234 [.ptr 0 0 0,.v (.bool pr)] (MS.rows ⟨L,at_,g,su,re,sl,pa,ar,lo,bs,ii,t⟩) 1 (fun _:Unit=>True) (fun _=> .O2 [.v (.int .i64 (pn ⟨L,at_,g,su,re,sl,pa,ar,lo,bs,ii,t⟩ pr)),.agg (E7 L (at_+1)).av]) (fun _=>(MS.place ⟨L,at_,g,su,re,sl,pa,ar,lo,bs,ii,t⟩ pr).rows):=by
 obtain⟨hL,h0,hb,hi,ha,hal⟩:=h
 dsimp only at hL h0 hb hi ha hal
 have hx:=j0 hL h0.1
 have C1:=p0 L at_ (by omega) hL
 have C2:=X9 L (at_+1) (by omega) hL
 have C3:=dU L (at_+1+1) (by omega) hL
 unfold MS.place MS.yH pn
 generalize a7 L at_=x at*
 generalize E7 L (at_+1)=d at*
 generalize V5 L (at_+1+1)=v at*
 have CC:=fun n:Int=>M8 (w32 ((ar.getD n.toNat A0).len-1))
 have CP:=fun n:Int=>O8 ⟨L,at_+1+1+1,g,su,re,sl,pa,ar,lo,bs,ii,t⟩ ⟨3,17,0,d,v,A3 (w32 ((ar.getD n.toNat A0).len-1)),O0⟩ (by show bs.length≤_;omega) (by first|omega|(dsimp only;omega))
 obtain⟨dk,dn,dv⟩:=d
 obtain⟨vk,vn,vv⟩:=v
 rcases lo with _|ll<;>rcases ii with _|li
 all_goals
  try simp only[j4.l,List.length_nil]at hi
  simp only[MS.rows,MS.put,j4.cell,j4.rows,j4.l,j4.k,r9.cell,r9.rows,r9.l,e7.av,E3.av,A3,L7,O0,List.cons_append,List.nil_append,List.append_nil]at CP hi
  simp only
  by_cases h3:x%5=3∧pr=false
  ·rw[if_pos h3]
   obtain⟨h3,rfl⟩:=h3
   have hal2:=hal 0 (by omega)
   have CC:=CC 0
   have CP:=CP 0
   simp only[show Int.toNat 0=0 from rfl]at CC CP⊢
   simp only[MS.rows,MS.put,j4.cell,j4.rows,j4.l,j4.k,r9.cell,r9.rows,r9.l,e7.av,E3.av,A3,L7,O0,List.cons_append,List.nil_append,List.append_nil];refine Zf Tryz.func234 Tryz.ntmps234 ?_
   repeat' (first|refine Zl ?_|(with_reducible constructor<;>first|intro N hN mk hmk|intro N hN|intro h)|refine Ze C1 ?_|refine Ze C2 ?_|refine Ze C3 ?_|refine Zc CC ?_|(refine Zp CP [0,1,2,3] (Zq Y0.d (Zq h3 ha)) ?_;with_reducible intro _ _)|(refine Zp CP [0,1,2] (Zq Y0.d (Zq h3 ha)) ?_;with_reducible intro _ _)|(refine Zp CP [0,1] (Zq Y0.d (Zq h3 ha)) ?_;with_reducible intro _ _)|refine Zt (Zq Y0.d (Zq h3 ha)) ?_|fail)
   (first|(refine Zr (()) [0,280,281,282] (Zq Y0.d (Zq h3 ha)) ?_)|(refine Zr (()) [0,280,281] (Zq Y0.d (Zq h3 ha)) ?_))
   trivial
  ·rw[if_neg h3]
   obtain⟨n,hn⟩:∃n,x%5=n:=⟨_,rfl⟩
   rw[hn]at h3⊢
   have hn5:0≤n∧n<5:=by omega
   have hal2:=hal n.toNat (by omega)
   have CC:=CC n
   have CP:=CP n
   cases pr with
   |false=>
    have h4:(n=3)=False:=by simpa using h3
    clear h3
    simp only[MS.rows,MS.put,j4.cell,j4.rows,j4.l,j4.k,r9.cell,r9.rows,r9.l,e7.av,E3.av,A3,L7,O0,List.cons_append,List.nil_append,List.append_nil];refine Zf Tryz.func234 Tryz.ntmps234 ?_
    repeat' (first|refine Zl ?_|(with_reducible constructor<;>first|intro N hN mk hmk|intro N hN|intro h)|refine Ze C1 ?_|refine Ze C2 ?_|refine Ze C3 ?_|refine Zc CC ?_|(refine Zp CP [0,1,2,3] (Zq Y0.d (Zq hn (Zq h4 ha))) ?_;with_reducible intro _ _)|(refine Zp CP [0,1,2] (Zq Y0.d (Zq hn (Zq h4 ha))) ?_;with_reducible intro _ _)|(refine Zp CP [0,1] (Zq Y0.d (Zq hn (Zq h4 ha))) ?_;with_reducible intro _ _)|refine Zt (Zq Y0.d (Zq hn (Zq h4 ha))) ?_|fail)
    (first|(refine Zr (()) [0,256,257,258] (Zq Y0.d (Zq hn (Zq h4 ha))) ?_)|(refine Zr (()) [0,256,257] (Zq Y0.d (Zq hn (Zq h4 ha))) ?_))
    trivial
   |true=>
    clear h3
    by_cases h4:n=3
    ·have h4:(n=3)=True:=by simpa using h4
     simp only[MS.rows,MS.put,j4.cell,j4.rows,j4.l,j4.k,r9.cell,r9.rows,r9.l,e7.av,E3.av,A3,L7,O0,List.cons_append,List.nil_append,List.append_nil];refine Zf Tryz.func234 Tryz.ntmps234 ?_
     repeat' (first|refine Zl ?_|(with_reducible constructor<;>first|intro N hN mk hmk|intro N hN|intro h)|refine Ze C1 ?_|refine Ze C2 ?_|refine Ze C3 ?_|refine Zc CC ?_|(refine Zp CP [0,1,2,3] (Zq Y0.d (Zq hn (Zq h4 ha))) ?_;with_reducible intro _ _)|(refine Zp CP [0,1,2] (Zq Y0.d (Zq hn (Zq h4 ha))) ?_;with_reducible intro _ _)|(refine Zp CP [0,1] (Zq Y0.d (Zq hn (Zq h4 ha))) ?_;with_reducible intro _ _)|refine Zt (Zq Y0.d (Zq hn (Zq h4 ha))) ?_|fail)
     (first|(refine Zr (()) [0,272,273,274] (Zq Y0.d (Zq hn (Zq h4 ha))) ?_)|(refine Zr (()) [0,272,273] (Zq Y0.d (Zq hn (Zq h4 ha))) ?_))
     trivial
    ·have h4:(n=3)=False:=by simpa using h4
     simp only[MS.rows,MS.put,j4.cell,j4.rows,j4.l,j4.k,r9.cell,r9.rows,r9.l,e7.av,E3.av,A3,L7,O0,List.cons_append,List.nil_append,List.append_nil];refine Zf Tryz.func234 Tryz.ntmps234 ?_
     repeat' (first|refine Zl ?_|(with_reducible constructor<;>first|intro N hN mk hmk|intro N hN|intro h)|refine Ze C1 ?_|refine Ze C2 ?_|refine Ze C3 ?_|refine Zc CC ?_|(refine Zp CP [0,1,2,3] (Zq Y0.d (Zq hn (Zq h4 ha))) ?_;with_reducible intro _ _)|(refine Zp CP [0,1,2] (Zq Y0.d (Zq hn (Zq h4 ha))) ?_;with_reducible intro _ _)|(refine Zp CP [0,1] (Zq Y0.d (Zq hn (Zq h4 ha))) ?_;with_reducible intro _ _)|refine Zt (Zq Y0.d (Zq hn (Zq h4 ha))) ?_|fail)
     (first|(refine Zr (()) [0,256,257,258] (Zq Y0.d (Zq hn (Zq h4 ha))) ?_)|(refine Zr (()) [0,256,257] (Zq Y0.d (Zq hn (Zq h4 ha))) ?_))
     trivial
end Go.Proofs.YtgdoiokalfhjoaaGreatDoor
end
