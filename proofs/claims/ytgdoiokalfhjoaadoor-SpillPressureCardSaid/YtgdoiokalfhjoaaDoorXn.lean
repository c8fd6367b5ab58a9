/- Own work (by an AI agent; no person has read it): part of a proof of the seat YtgdoiokalfhjoaaDoor. -/
import Derived.Test.YtgdoiokalfhjoaaDoorXm
set_option linter.unusedSimpArgs false
set_option linter.unusedVariables false
set_option maxRecDepth 100000
set_option maxHeartbeats 10000000
section
namespace Go.Proofs.YtgdoiokalfhjoaaDoor
open Go.Ab
def Y5:=ZZ.mk (Zq @I1 (Zq @x8 (Zq @y7 (Zq @n3 (Zq @p0 (Zq @w8 (Zq @m7 (Zq @l8 (Zq @n9 (Zq @y8 (Zq @s6 (Zq @r8 (Zq @z8 (Zq @q9 (Zq @A2 (Zq @A1 (Zq @z7 (Zq @z6 (Zq @s5 (Zq @j0 (Zq @j3 (Zq @A6 (Zq @J8 (Zq @y4 (Zq @y0 (Zq @pT (Zq @x6 (Zq @H8.av.eq_1 (Zq @B3.eq_1 (Zq @dG.av.eq_1 @O0.eq_1))))))))))))))))))))))))))))))
theorem b3M(L:List Int)(at_ g su re sl pa:Int)(ar:List dG)(lo:r6)(ii:j8)(bs:List e8)(t:w4)(pr:Bool)(h:fL ⟨L,at_,g,su,re,sl,pa,ar,lo,bs,ii,t⟩ 900000):y9 Tryd.prog 64 [.ptr 0 0 0,.v (.bool pr)] (MS.rows ⟨L,at_,g,su,re,sl,pa,ar,lo,bs,ii,t⟩) 1 (fun _:Unit=>True) (fun _=> .Q0 [.v (.int .i64 (pn ⟨L,at_,g,su,re,sl,pa,ar,lo,bs,ii,t⟩ pr)),.agg (G9 L (at_+1)).av]) (fun _=>(MS.place ⟨L,at_,g,su,re,sl,pa,ar,lo,bs,ii,t⟩ pr).rows):=by
 obtain⟨hL,h0,hb,hi,ha,hal⟩:=h
 dsimp only at hL h0 hb hi ha hal
 have hx:=j6 hL h0.1
 have C1:=o9 L at_ (by omega) hL
 have C2:=Y4 L (at_+1) (by omega) hL
 have C3:=dM L (at_+1+1) (by omega) hL
 unfold MS.place MS.uX pn
 generalize a8 L at_=x at*
 generalize G9 L (at_+1)=d at*
 generalize V6 L (at_+1+1)=v at*
 have CC:=fun n:Int=>O5 (w32 ((ar.getD n.toNat A0).len-1))
 have CP:=fun n:Int=>S3 ⟨L,at_+1+1+1,g,su,re,sl,pa,ar,lo,bs,ii,t⟩ ⟨3,17,0,d,v,B3 (w32 ((ar.getD n.toNat A0).len-1)),O0⟩ (by show bs.length≤_;omega) (by first|omega|(dsimp only;omega))
 obtain⟨dk,dn,dv⟩:=d
 obtain⟨vk,vn,vv⟩:=v
 rcases lo with _|ll<;>rcases ii with _|li
 all_goals
  try simp only[j8.l,List.length_nil]at hi
  simp only[MS.rows,MS.put,j8.cell,j8.rows,j8.l,j8.k,r6.cell,r6.rows,r6.l,l0.av,H8.av,B3,N7,O0,List.cons_append,List.nil_append,List.append_nil]at CP hi
  simp only
  by_cases h3:x%5=3∧pr=false
  ·rw[if_pos h3]
   obtain⟨h3,rfl⟩:=h3
   have hal2:=hal 0 (by omega)
   have CC:=CC 0
   have CP:=CP 0
   simp only[show Int.toNat 0=0 from rfl]at CC CP⊢
   simp only[MS.rows,MS.put,j8.cell,j8.rows,j8.l,j8.k,r6.cell,r6.rows,r6.l,l0.av,H8.av,B3,N7,O0,List.cons_append,List.nil_append,List.append_nil];refine Zf Tryd.func64 Tryd.ntmps64 ?_
   repeat' (first|refine Zl ?_|(with_reducible constructor<;>first|intro N hN mk hmk|intro N hN|intro h)|refine Ze C1 ?_|refine Ze C2 ?_|refine Ze C3 ?_|refine Zc CC ?_|(refine Zp CP [0,1,2,3] (Zq Y5.d (Zq h3 ha)) ?_;with_reducible intro _ _)|(refine Zp CP [0,1,2] (Zq Y5.d (Zq h3 ha)) ?_;with_reducible intro _ _)|(refine Zp CP [0,1] (Zq Y5.d (Zq h3 ha)) ?_;with_reducible intro _ _)|refine Zt (Zq Y5.d (Zq h3 ha)) ?_|fail)
   (first|(refine Zr (()) [0,280,281,282] (Zq Y5.d (Zq h3 ha)) ?_)|(refine Zr (()) [0,280,281] (Zq Y5.d (Zq h3 ha)) ?_))
   trivial
  ·rw[if_neg h3]
   obtain⟨n,hn⟩:∃n,x%5=n:=⟨_,rfl⟩
   rw[hn]at h3⊢
   have hn5:0≤n∧n<5:=by omega
   have hal2:=hal n.toNat (by omega)
   have CC:=CC n
   have CP:=CP n
   cases pr with
   |false=>
    have h4:(n=3)=False:=by simpa using h3
    clear h3
    simp only[MS.rows,MS.put,j8.cell,j8.rows,j8.l,j8.k,r6.cell,r6.rows,r6.l,l0.av,H8.av,B3,N7,O0,List.cons_append,List.nil_append,List.append_nil];refine Zf Tryd.func64 Tryd.ntmps64 ?_
    repeat' (first|refine Zl ?_|(with_reducible constructor<;>first|intro N hN mk hmk|intro N hN|intro h)|refine Ze C1 ?_|refine Ze C2 ?_|refine Ze C3 ?_|refine Zc CC ?_|(refine Zp CP [0,1,2,3] (Zq Y5.d (Zq hn (Zq h4 ha))) ?_;with_reducible intro _ _)|(refine Zp CP [0,1,2] (Zq Y5.d (Zq hn (Zq h4 ha))) ?_;with_reducible intro _ _)|(refine Zp CP [0,1] (Zq Y5.d (Zq hn (Zq h4 ha))) ?_;with_reducible intro _ _)|refine Zt (Zq Y5.d (Zq hn (Zq h4 ha))) ?_|fail)
    (first|(refine Zr (()) [0,256,257,258] (Zq Y5.d (Zq hn (Zq h4 ha))) ?_)|(refine Zr (()) [0,256,257] (Zq Y5.d (Zq hn (Zq h4 ha))) ?_))
    trivial
   |true=>
    clear h3
    by_cases h4:n=3
    ·have h4:(n=3)=True:=by simpa using h4
     simp only[MS.rows,MS.put,j8.cell,j8.rows,j8.l,j8.k,r6.cell,r6.rows,r6.l,l0.av,H8.av,B3,N7,O0,List.cons_append,List.nil_append,List.append_nil];refine Zf Tryd.func64 Tryd.ntmps64 ?_
     repeat' (first|refine Zl ?_|(with_reducible constructor<;>first|intro N hN mk hmk|intro N hN|intro h)|refine Ze C1 ?_|refine Ze C2 ?_|refine Ze C3 ?_|refine Zc CC ?_|(refine Zp CP [0,1,2,3] (Zq Y5.d (Zq hn (Zq h4 ha))) ?_;with_reducible intro _ _)|(refine Zp CP [0,1,2] (Zq Y5.d (Zq hn (Zq h4 ha))) ?_;with_reducible intro _ _)|(refine Zp CP [0,1] (Zq Y5.d (Zq hn (Zq h4 ha))) ?_;with_reducible intro _ _)|refine Zt (Zq Y5.d (Zq hn (Zq h4 ha))) ?_|fail)
     (first|(refine Zr (()) [0,272,273,274] (Zq Y5.d (Zq hn (Zq h4 ha))) ?_)|(refine Zr (()) [0,272,273] (Zq Y5.d (Zq hn (Zq h4 ha))) ?_))
     trivial
    ·have h4:(n=3)=False:=by simpa using h4
     simp only[MS.rows,MS.put,j8.cell,j8.rows,j8.l,j8.k,r6.cell,r6.rows,r6.l,l0.av,H8.av,B3,N7,O0,List.cons_append,List.nil_append,List.append_nil];refine Zf Tryd.func64 Tryd.ntmps64 ?_
     repeat' (first|refine Zl ?_|(with_reducible constructor<;>first|intro N hN mk hmk|intro N hN|intro h)|refine Ze C1 ?_|refine Ze C2 ?_|refine Ze C3 ?_|refine Zc CC ?_|(refine Zp CP [0,1,2,3] (Zq Y5.d (Zq hn (Zq h4 ha))) ?_;with_reducible intro _ _)|(refine Zp CP [0,1,2] (Zq Y5.d (Zq hn (Zq h4 ha))) ?_;with_reducible intro _ _)|(refine Zp CP [0,1] (Zq Y5.d (Zq hn (Zq h4 ha))) ?_;with_reducible intro _ _)|refine Zt (Zq Y5.d (Zq hn (Zq h4 ha))) ?_|fail)
     (first|(refine Zr (()) [0,256,257,258] (Zq Y5.d (Zq hn (Zq h4 ha))) ?_)|(refine Zr (()) [0,256,257] (Zq Y5.d (Zq hn (Zq h4 ha))) ?_))
     trivial
end Go.Proofs.YtgdoiokalfhjoaaDoor
end
