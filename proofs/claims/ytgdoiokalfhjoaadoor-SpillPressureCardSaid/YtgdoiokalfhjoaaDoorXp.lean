/- Own work (by an AI agent; no person has read it): part of a proof of the seat YtgdoiokalfhjoaaDoor. -/
import Derived.Test.YtgdoiokalfhjoaaDoorXo
set_option linter.unusedSimpArgs false
set_option linter.unusedVariables false
set_option maxRecDepth 100000
set_option maxHeartbeats 10000000
section
namespace Go.Proofs.YtgdoiokalfhjoaaDoor
open Go.Ab
def H9:=ZZ.mk (Zq @I1 (Zq @x8 (Zq @y7 (Zq @n3 (Zq @p0 (Zq @w8 (Zq @m7 (Zq @l8 (Zq @n9 (Zq @y8 (Zq @s6 (Zq @r8 (Zq @z8 (Zq @q9 (Zq @A2 (Zq @A1 (Zq @z7 (Zq @z6 (Zq @s5 (Zq @j0 (Zq @j3 (Zq @x6 (Zq @H8.av.eq_1 (Zq @B3.eq_1 (Zq @N7.eq_1 @O0.eq_1)))))))))))))))))))))))))
theorem b1e(L:List Int)(at_ g su re sl pa:Int)(ar:List dG)(lo:r6)(ii:j8)(bs:List e8)(t:w4)(h:fL ⟨L,at_,g,su,re,sl,pa,ar,lo,bs,ii,t⟩ 900000)(hc:a8 L at_%16<3):y9 Tryd.prog 42 [.ptr 0 0 0] (MS.rows ⟨L,at_,g,su,re,sl,pa,ar,lo,bs,ii,t⟩) 1 (fun _:Unit=>True) (fun _=> .Q0 []) (fun _=>(MS.inst ⟨L,at_,g,su,re,sl,pa,ar,lo,bs,ii,t⟩).rows):=by
 obtain⟨hL,h0,hb,hi,ha,hal⟩:=h
 dsimp only at hL h0 hb hi ha hal
 have C0:=o9 L at_ (by omega) hL
 have hx:=j6 hL h0.1
 have C1:=o9 L (at_+1) (by omega) hL
 have hy:=j6 hL (show(0:Int)≤at_+1 by omega)
 have C2:=Y4 L (at_+1+1) (by omega) hL
 obtain⟨x,hxx⟩:∃x,a8 L at_%16=x:=⟨_,rfl⟩
 rw[hxx]at hc
 have f0:(x<3)=True:=by simp only[eq_iff_iff,iff_true,iff_false];omega
 have e:MS.inst ⟨L,at_,g,su,re,sl,pa,ar,lo,bs,ii,t⟩=(⟨L,at_+1+1+1,g,su,re,sl,pa,ar,lo,bs,ii,t⟩:MS).put (X4 L at_):=by
  unfold MS.inst fU
  simp only[hxx]
  rw[if_pos (by omega)]
  simp only[f0,if_true,if_false]
 rw[e]
 have e2:X4 L at_=⟨5,1+a8 L (at_+1)%7,0,G9 L (at_+1+1),O0,O0,O0⟩:=by
  unfold X4
  simp only[hxx,f0,if_true,if_false]
 rw[e2]
 clear e e2
 generalize a8 L (at_+1)=y at*
 generalize G9 L (at_+1+1)=d at*
 obtain⟨dk,dn,dv⟩:=d
 generalize a8 L at_=z at*
 have CP:=S3 ⟨L,at_+1+1+1,g,su,re,sl,pa,ar,lo,bs,ii,t⟩ ⟨5,1+y%7,0,⟨dk,dn,dv⟩,O0,O0,O0⟩ (by show bs.length≤_;omega) (by first|omega|(dsimp only;omega))
 rcases lo with _|ll<;>rcases ii with _|li
 all_goals
  try simp only[j8.l,List.length_nil]at hi
  simp only[MS.rows,MS.put,j8.cell,j8.rows,j8.l,j8.k,r6.cell,r6.rows,r6.l,l0.av,H8.av,B3,N7,O0,List.cons_append,List.nil_append,List.append_nil]at CP
  simp only[MS.rows,MS.put,j8.cell,j8.rows,j8.l,j8.k,r6.cell,r6.rows,r6.l,l0.av,H8.av,B3,N7,O0,List.cons_append,List.nil_append,List.append_nil];refine Zf Tryd.func42 Tryd.ntmps42 ?_
  repeat' (first|refine Za ?_|(with_reducible constructor<;>first|intro N hN mk hmk|intro N hN|intro h)|refine Ze C0 ?_|refine Ze C1 ?_|refine Ze C2 ?_|(refine Zp CP [0,1,2,3] (Zq H9.d (Zq hxx f0)) ?_;with_reducible intro _ _)|(refine Zp CP [0,1,2] (Zq H9.d (Zq hxx f0)) ?_;with_reducible intro _ _)|(refine Zp CP [0,1] (Zq H9.d (Zq hxx f0)) ?_;with_reducible intro _ _)|refine Zt (Zq H9.d (Zq hxx f0)) ?_|fail)
  (first|(refine Zr (()) [0,120,121,122] (Zq H9.d (Zq hxx f0)) ?_)|(refine Zr (()) [0,120,121] (Zq H9.d (Zq hxx f0)) ?_))
  trivial
theorem b1f(L:List Int)(at_ g su re sl pa:Int)(ar:List dG)(lo:r6)(ii:j8)(bs:List e8)(t:w4)(h:fL ⟨L,at_,g,su,re,sl,pa,ar,lo,bs,ii,t⟩ 900000)(hc:¬a8 L at_%16<3∧a8 L at_%16<7):y9 Tryd.prog 42 [.ptr 0 0 0] (MS.rows ⟨L,at_,g,su,re,sl,pa,ar,lo,bs,ii,t⟩) 1 (fun _:Unit=>True) (fun _=> .Q0 []) (fun _=>(MS.inst ⟨L,at_,g,su,re,sl,pa,ar,lo,bs,ii,t⟩).rows):=by
 obtain⟨hL,h0,hb,hi,ha,hal⟩:=h
 dsimp only at hL h0 hb hi ha hal
 have C0:=o9 L at_ (by omega) hL
 have hx:=j6 hL h0.1
 have C1:=o9 L (at_+1) (by omega) hL
 have hy:=j6 hL (show(0:Int)≤at_+1 by omega)
 have C2:=Y4 L (at_+1+1) (by omega) hL
 have C3:=dM L (at_+1+1+1) (by omega) hL
 have C4:=dM L (at_+1+1+1+1) (by omega) hL
 obtain⟨x,hxx⟩:∃x,a8 L at_%16=x:=⟨_,rfl⟩
 rw[hxx]at hc
 have f0:(x<3)=False:=by simp only[eq_iff_iff,iff_true,iff_false];omega
 have f1:(x<7)=True:=by simp only[eq_iff_iff,iff_true,iff_false];omega
 have e:MS.inst ⟨L,at_,g,su,re,sl,pa,ar,lo,bs,ii,t⟩=(⟨L,at_+1+1+1+1+1,g,su,re,sl,pa,ar,lo,bs,ii,t⟩:MS).put (X4 L at_):=by
  unfold MS.inst fU
  simp only[hxx]
  rw[if_pos (by omega)]
  simp only[f0,f1,if_true,if_false]
 rw[e]
 have e2:X4 L at_=⟨3,10+a8 L (at_+1)%20,0,G9 L (at_+1+1),V6 L (at_+1+1+1),V6 L (at_+1+1+1+1),O0⟩:=by
  unfold X4
  simp only[hxx,f0,f1,if_true,if_false]
 rw[e2]
 clear e e2
 generalize a8 L (at_+1)=y at*
 generalize G9 L (at_+1+1)=d at*
 obtain⟨dk,dn,dv⟩:=d
 generalize V6 L (at_+1+1+1)=v at*
 obtain⟨vk,vn,vv⟩:=v
 generalize V6 L (at_+1+1+1+1)=v2 at*
 obtain⟨v2k,v2n,v2v⟩:=v2
 generalize a8 L at_=z at*
 have CP:=S3 ⟨L,at_+1+1+1+1+1,g,su,re,sl,pa,ar,lo,bs,ii,t⟩ ⟨3,10+y%20,0,⟨dk,dn,dv⟩,⟨vk,vn,vv⟩,⟨v2k,v2n,v2v⟩,O0⟩ (by show bs.length≤_;omega) (by first|omega|(dsimp only;omega))
 rcases lo with _|ll<;>rcases ii with _|li
 all_goals
  try simp only[j8.l,List.length_nil]at hi
  simp only[MS.rows,MS.put,j8.cell,j8.rows,j8.l,j8.k,r6.cell,r6.rows,r6.l,l0.av,H8.av,B3,N7,O0,List.cons_append,List.nil_append,List.append_nil]at CP
  simp only[MS.rows,MS.put,j8.cell,j8.rows,j8.l,j8.k,r6.cell,r6.rows,r6.l,l0.av,H8.av,B3,N7,O0,List.cons_append,List.nil_append,List.append_nil];refine Zf Tryd.func42 Tryd.ntmps42 ?_
  repeat' (first|refine Za ?_|(with_reducible constructor<;>first|intro N hN mk hmk|intro N hN|intro h)|refine Ze C0 ?_|refine Ze C1 ?_|refine Ze C2 ?_|refine Ze C3 ?_|refine Ze C4 ?_|(refine Zp CP [0,1,2,3] (Zq H9.d (Zq hxx (Zq f0 f1))) ?_;with_reducible intro _ _)|(refine Zp CP [0,1,2] (Zq H9.d (Zq hxx (Zq f0 f1))) ?_;with_reducible intro _ _)|(refine Zp CP [0,1] (Zq H9.d (Zq hxx (Zq f0 f1))) ?_;with_reducible intro _ _)|refine Zt (Zq H9.d (Zq hxx (Zq f0 f1))) ?_|fail)
  (first|(refine Zr (()) [0,184,185,186] (Zq H9.d (Zq hxx (Zq f0 f1))) ?_)|(refine Zr (()) [0,184,185] (Zq H9.d (Zq hxx (Zq f0 f1))) ?_))
  trivial
theorem b1g(L:List Int)(at_ g su re sl pa:Int)(ar:List dG)(lo:r6)(ii:j8)(bs:List e8)(t:w4)(h:fL ⟨L,at_,g,su,re,sl,pa,ar,lo,bs,ii,t⟩ 900000)(hc:a8 L at_%16=7):y9 Tryd.prog 42 [.ptr 0 0 0] (MS.rows ⟨L,at_,g,su,re,sl,pa,ar,lo,bs,ii,t⟩) 1 (fun _:Unit=>True) (fun _=> .Q0 []) (fun _=>(MS.inst ⟨L,at_,g,su,re,sl,pa,ar,lo,bs,ii,t⟩).rows):=by
 obtain⟨hL,h0,hb,hi,ha,hal⟩:=h
 dsimp only at hL h0 hb hi ha hal
 have C0:=o9 L at_ (by omega) hL
 have hx:=j6 hL h0.1
 have C1:=o9 L (at_+1) (by omega) hL
 have hy:=j6 hL (show(0:Int)≤at_+1 by omega)
 have C2:=Y4 L (at_+1+1) (by omega) hL
 have C3:=dM L (at_+1+1+1) (by omega) hL
 obtain⟨x,hxx⟩:∃x,a8 L at_%16=x:=⟨_,rfl⟩
 rw[hxx]at hc
 have f0:(x<3)=False:=by simp only[eq_iff_iff,iff_true,iff_false];omega
 have f1:(x<7)=False:=by simp only[eq_iff_iff,iff_true,iff_false];omega
 have f2:(x=7)=True:=by simp only[eq_iff_iff,iff_true,iff_false];omega
 have e:MS.inst ⟨L,at_,g,su,re,sl,pa,ar,lo,bs,ii,t⟩=(⟨L,at_+1+1+1+1,g,su,re,sl,pa,ar,lo,bs,ii,t⟩:MS).put (X4 L at_):=by
  unfold MS.inst fU
  simp only[hxx]
  rw[if_pos (by omega)]
  simp only[f0,f1,f2,if_true,if_false]
 rw[e]
 have e2:X4 L at_=⟨2,1+a8 L (at_+1)%5,0,G9 L (at_+1+1),V6 L (at_+1+1+1),O0,O0⟩:=by
  unfold X4
  simp only[hxx,f0,f1,f2,if_true,if_false]
 rw[e2]
 clear e e2
 generalize a8 L (at_+1)=y at*
 generalize G9 L (at_+1+1)=d at*
 obtain⟨dk,dn,dv⟩:=d
 generalize V6 L (at_+1+1+1)=v at*
 obtain⟨vk,vn,vv⟩:=v
 generalize a8 L at_=z at*
 have CP:=S3 ⟨L,at_+1+1+1+1,g,su,re,sl,pa,ar,lo,bs,ii,t⟩ ⟨2,1+y%5,0,⟨dk,dn,dv⟩,⟨vk,vn,vv⟩,O0,O0⟩ (by show bs.length≤_;omega) (by first|omega|(dsimp only;omega))
 rcases lo with _|ll<;>rcases ii with _|li
 all_goals
  try simp only[j8.l,List.length_nil]at hi
  simp only[MS.rows,MS.put,j8.cell,j8.rows,j8.l,j8.k,r6.cell,r6.rows,r6.l,l0.av,H8.av,B3,N7,O0,List.cons_append,List.nil_append,List.append_nil]at CP
  simp only[MS.rows,MS.put,j8.cell,j8.rows,j8.l,j8.k,r6.cell,r6.rows,r6.l,l0.av,H8.av,B3,N7,O0,List.cons_append,List.nil_append,List.append_nil];refine Zf Tryd.func42 Tryd.ntmps42 ?_
  repeat' (first|refine Za ?_|(with_reducible constructor<;>first|intro N hN mk hmk|intro N hN|intro h)|refine Ze C0 ?_|refine Ze C1 ?_|refine Ze C2 ?_|refine Ze C3 ?_|(refine Zp CP [0,1,2,3] (Zq H9.d (Zq hxx (Zq f0 (Zq f1 f2)))) ?_;with_reducible intro _ _)|(refine Zp CP [0,1,2] (Zq H9.d (Zq hxx (Zq f0 (Zq f1 f2)))) ?_;with_reducible intro _ _)|(refine Zp CP [0,1] (Zq H9.d (Zq hxx (Zq f0 (Zq f1 f2)))) ?_;with_reducible intro _ _)|refine Zt (Zq H9.d (Zq hxx (Zq f0 (Zq f1 f2)))) ?_|fail)
  (first|(refine Zr (()) [0,168,169,170] (Zq H9.d (Zq hxx (Zq f0 (Zq f1 f2)))) ?_)|(refine Zr (()) [0,168,169] (Zq H9.d (Zq hxx (Zq f0 (Zq f1 f2)))) ?_))
  trivial
theorem b1h(L:List Int)(at_ g su re sl pa:Int)(ar:List dG)(lo:r6)(ii:j8)(bs:List e8)(t:w4)(h:fL ⟨L,at_,g,su,re,sl,pa,ar,lo,bs,ii,t⟩ 900000)(hc:a8 L at_%16=8):y9 Tryd.prog 42 [.ptr 0 0 0] (MS.rows ⟨L,at_,g,su,re,sl,pa,ar,lo,bs,ii,t⟩) 1 (fun _:Unit=>True) (fun _=> .Q0 []) (fun _=>(MS.inst ⟨L,at_,g,su,re,sl,pa,ar,lo,bs,ii,t⟩).rows):=by
 obtain⟨hL,h0,hb,hi,ha,hal⟩:=h
 dsimp only at hL h0 hb hi ha hal
 have C0:=o9 L at_ (by omega) hL
 have hx:=j6 hL h0.1
 have C1:=Y4 L (at_+1) (by omega) hL
 have C2:=dM L (at_+1+1) (by omega) hL
 have C3:=dM L (at_+1+1+1) (by omega) hL
 have C4:=dM L (at_+1+1+1+1) (by omega) hL
 obtain⟨x,hxx⟩:∃x,a8 L at_%16=x:=⟨_,rfl⟩
 rw[hxx]at hc
 have f0:(x<3)=False:=by simp only[eq_iff_iff,iff_true,iff_false];omega
 have f1:(x<7)=False:=by simp only[eq_iff_iff,iff_true,iff_false];omega
 have f2:(x=7)=False:=by simp only[eq_iff_iff,iff_true,iff_false];omega
 have f3:(x=8)=True:=by simp only[eq_iff_iff,iff_true,iff_false];omega
 have e:MS.inst ⟨L,at_,g,su,re,sl,pa,ar,lo,bs,ii,t⟩=(⟨L,at_+1+1+1+1+1,g,su,re,sl,pa,ar,lo,bs,ii,t⟩:MS).put (X4 L at_):=by
  unfold MS.inst fU
  simp only[hxx]
  rw[if_pos (by omega)]
  simp only[f0,f1,f2,f3,if_true,if_false]
 rw[e]
 have e2:X4 L at_=⟨4,0,0,G9 L (at_+1),V6 L (at_+1+1),V6 L (at_+1+1+1),V6 L (at_+1+1+1+1)⟩:=by
  unfold X4
  simp only[hxx,f0,f1,f2,f3,if_true,if_false]
 rw[e2]
 clear e e2
 generalize G9 L (at_+1)=d at*
 obtain⟨dk,dn,dv⟩:=d
 generalize V6 L (at_+1+1)=v at*
 obtain⟨vk,vn,vv⟩:=v
 generalize V6 L (at_+1+1+1)=v2 at*
 obtain⟨v2k,v2n,v2v⟩:=v2
 generalize V6 L (at_+1+1+1+1)=v3 at*
 obtain⟨v3k,v3n,v3v⟩:=v3
 generalize a8 L at_=z at*
 have CP:=S3 ⟨L,at_+1+1+1+1+1,g,su,re,sl,pa,ar,lo,bs,ii,t⟩ ⟨4,0,0,⟨dk,dn,dv⟩,⟨vk,vn,vv⟩,⟨v2k,v2n,v2v⟩,⟨v3k,v3n,v3v⟩⟩ (by show bs.length≤_;omega) (by first|omega|(dsimp only;omega))
 rcases lo with _|ll<;>rcases ii with _|li
 all_goals
  try simp only[j8.l,List.length_nil]at hi
  simp only[MS.rows,MS.put,j8.cell,j8.rows,j8.l,j8.k,r6.cell,r6.rows,r6.l,l0.av,H8.av,B3,N7,O0,List.cons_append,List.nil_append,List.append_nil]at CP
  simp only[MS.rows,MS.put,j8.cell,j8.rows,j8.l,j8.k,r6.cell,r6.rows,r6.l,l0.av,H8.av,B3,N7,O0,List.cons_append,List.nil_append,List.append_nil];refine Zf Tryd.func42 Tryd.ntmps42 ?_
  repeat' (first|refine Za ?_|(with_reducible constructor<;>first|intro N hN mk hmk|intro N hN|intro h)|refine Ze C0 ?_|refine Ze C1 ?_|refine Ze C2 ?_|refine Ze C3 ?_|refine Ze C4 ?_|(refine Zp CP [0,1,2,3] (Zq H9.d (Zq hxx (Zq f0 (Zq f1 (Zq f2 f3))))) ?_;with_reducible intro _ _)|(refine Zp CP [0,1,2] (Zq H9.d (Zq hxx (Zq f0 (Zq f1 (Zq f2 f3))))) ?_;with_reducible intro _ _)|(refine Zp CP [0,1] (Zq H9.d (Zq hxx (Zq f0 (Zq f1 (Zq f2 f3))))) ?_;with_reducible intro _ _)|refine Zt (Zq H9.d (Zq hxx (Zq f0 (Zq f1 (Zq f2 f3))))) ?_|fail)
  (first|(refine Zr (()) [0,184,185,186] (Zq H9.d (Zq hxx (Zq f0 (Zq f1 (Zq f2 f3))))) ?_)|(refine Zr (()) [0,184,185] (Zq H9.d (Zq hxx (Zq f0 (Zq f1 (Zq f2 f3))))) ?_))
  trivial
theorem b1i(L:List Int)(at_ g su re sl pa:Int)(ar:List dG)(lo:r6)(ii:j8)(bs:List e8)(t:w4)(h:fL ⟨L,at_,g,su,re,sl,pa,ar,lo,bs,ii,t⟩ 900000)(hc:a8 L at_%16=9):y9 Tryd.prog 42 [.ptr 0 0 0] (MS.rows ⟨L,at_,g,su,re,sl,pa,ar,lo,bs,ii,t⟩) 1 (fun _:Unit=>True) (fun _=> .Q0 []) (fun _=>(MS.inst ⟨L,at_,g,su,re,sl,pa,ar,lo,bs,ii,t⟩).rows):=by
 obtain⟨hL,h0,hb,hi,ha,hal⟩:=h
 dsimp only at hL h0 hb hi ha hal
 have C0:=o9 L at_ (by omega) hL
 have hx:=j6 hL h0.1
 have C1:=Y4 L (at_+1) (by omega) hL
 have C2:=dM L (at_+1+1) (by omega) hL
 obtain⟨x,hxx⟩:∃x,a8 L at_%16=x:=⟨_,rfl⟩
 rw[hxx]at hc
 have f0:(x<3)=False:=by simp only[eq_iff_iff,iff_true,iff_false];omega
 have f1:(x<7)=False:=by simp only[eq_iff_iff,iff_true,iff_false];omega
 have f2:(x=7)=False:=by simp only[eq_iff_iff,iff_true,iff_false];omega
 have f3:(x=8)=False:=by simp only[eq_iff_iff,iff_true,iff_false];omega
 have f4:(x=9)=True:=by simp only[eq_iff_iff,iff_true,iff_false];omega
 have e:MS.inst ⟨L,at_,g,su,re,sl,pa,ar,lo,bs,ii,t⟩=(⟨L,at_+1+1+1,g,su,re,sl,pa,ar,lo,bs,ii,t⟩:MS).put (X4 L at_):=by
  unfold MS.inst fU
  simp only[hxx]
  rw[if_pos (by omega)]
  simp only[f0,f1,f2,f3,f4,if_true,if_false]
 rw[e]
 have e2:X4 L at_=⟨1,0,0,G9 L (at_+1),V6 L (at_+1+1),O0,O0⟩:=by
  unfold X4
  simp only[hxx,f0,f1,f2,f3,f4,if_true,if_false]
 rw[e2]
 clear e e2
 generalize G9 L (at_+1)=d at*
 obtain⟨dk,dn,dv⟩:=d
 generalize V6 L (at_+1+1)=v at*
 obtain⟨vk,vn,vv⟩:=v
 generalize a8 L at_=z at*
 have CP:=S3 ⟨L,at_+1+1+1,g,su,re,sl,pa,ar,lo,bs,ii,t⟩ ⟨1,0,0,⟨dk,dn,dv⟩,⟨vk,vn,vv⟩,O0,O0⟩ (by show bs.length≤_;omega) (by first|omega|(dsimp only;omega))
 rcases lo with _|ll<;>rcases ii with _|li
 all_goals
  try simp only[j8.l,List.length_nil]at hi
  simp only[MS.rows,MS.put,j8.cell,j8.rows,j8.l,j8.k,r6.cell,r6.rows,r6.l,l0.av,H8.av,B3,N7,O0,List.cons_append,List.nil_append,List.append_nil]at CP
  simp only[MS.rows,MS.put,j8.cell,j8.rows,j8.l,j8.k,r6.cell,r6.rows,r6.l,l0.av,H8.av,B3,N7,O0,List.cons_append,List.nil_append,List.append_nil];refine Zf Tryd.func42 Tryd.ntmps42 ?_
  repeat' (first|refine Za ?_|(with_reducible constructor<;>first|intro N hN mk hmk|intro N hN|intro h)|refine Ze C0 ?_|refine Ze C1 ?_|refine Ze C2 ?_|(refine Zp CP [0,1,2,3] (Zq H9.d (Zq hxx (Zq f0 (Zq f1 (Zq f2 (Zq f3 f4)))))) ?_;with_reducible intro _ _)|(refine Zp CP [0,1,2] (Zq H9.d (Zq hxx (Zq f0 (Zq f1 (Zq f2 (Zq f3 f4)))))) ?_;with_reducible intro _ _)|(refine Zp CP [0,1] (Zq H9.d (Zq hxx (Zq f0 (Zq f1 (Zq f2 (Zq f3 f4)))))) ?_;with_reducible intro _ _)|refine Zt (Zq H9.d (Zq hxx (Zq f0 (Zq f1 (Zq f2 (Zq f3 f4)))))) ?_|fail)
  (first|(refine Zr (()) [0,168,169,170] (Zq H9.d (Zq hxx (Zq f0 (Zq f1 (Zq f2 (Zq f3 f4)))))) ?_)|(refine Zr (()) [0,168,169] (Zq H9.d (Zq hxx (Zq f0 (Zq f1 (Zq f2 (Zq f3 f4)))))) ?_))
  trivial
theorem b1j(L:List Int)(at_ g su re sl pa:Int)(ar:List dG)(lo:r6)(ii:j8)(bs:List e8)(t:w4)(h:fL ⟨L,at_,g,su,re,sl,pa,ar,lo,bs,ii,t⟩ 900000)(hc:a8 L at_%16=10):y9 Tryd.prog 42 [.ptr 0 0 0] (MS.rows ⟨L,at_,g,su,re,sl,pa,ar,lo,bs,ii,t⟩) 1 (fun _:Unit=>True) (fun _=> .Q0 []) (fun _=>(MS.inst ⟨L,at_,g,su,re,sl,pa,ar,lo,bs,ii,t⟩).rows):=by
 obtain⟨hL,h0,hb,hi,ha,hal⟩:=h
 dsimp only at hL h0 hb hi ha hal
 have C0:=o9 L at_ (by omega) hL
 have hx:=j6 hL h0.1
 have C1:=o9 L (at_+1) (by omega) hL
 have hy:=j6 hL (show(0:Int)≤at_+1 by omega)
 have C2:=Y4 L (at_+1+1) (by omega) hL
 obtain⟨x,hxx⟩:∃x,a8 L at_%16=x:=⟨_,rfl⟩
 rw[hxx]at hc
 have f0:(x<3)=False:=by simp only[eq_iff_iff,iff_true,iff_false];omega
 have f1:(x<7)=False:=by simp only[eq_iff_iff,iff_true,iff_false];omega
 have f2:(x=7)=False:=by simp only[eq_iff_iff,iff_true,iff_false];omega
 have f3:(x=8)=False:=by simp only[eq_iff_iff,iff_true,iff_false];omega
 have f4:(x=9)=False:=by simp only[eq_iff_iff,iff_true,iff_false];omega
 have f5:(x=10)=True:=by simp only[eq_iff_iff,iff_true,iff_false];omega
 have e:MS.inst ⟨L,at_,g,su,re,sl,pa,ar,lo,bs,ii,t⟩=(⟨L,at_+1+1+1,g,su,re,sl,pa,ar,lo,bs,ii,t⟩:MS).put (X4 L at_):=by
  unfold MS.inst fU
  simp only[hxx]
  rw[if_pos (by omega)]
  simp only[f0,f1,f2,f3,f4,f5,if_true,if_false]
 rw[e]
 have e2:X4 L at_=⟨6,0,a8 L (at_+1)%3,G9 L (at_+1+1),O0,O0,O0⟩:=by
  unfold X4
  simp only[hxx,f0,f1,f2,f3,f4,f5,if_true,if_false]
 rw[e2]
 clear e e2
 generalize a8 L (at_+1)=y at*
 generalize G9 L (at_+1+1)=d at*
 obtain⟨dk,dn,dv⟩:=d
 generalize a8 L at_=z at*
 have CP:=S3 ⟨L,at_+1+1+1,g,su,re,sl,pa,ar,lo,bs,ii,t⟩ ⟨6,0,y%3,⟨dk,dn,dv⟩,O0,O0,O0⟩ (by show bs.length≤_;omega) (by first|omega|(dsimp only;omega))
 rcases lo with _|ll<;>rcases ii with _|li
 all_goals
  try simp only[j8.l,List.length_nil]at hi
  simp only[MS.rows,MS.put,j8.cell,j8.rows,j8.l,j8.k,r6.cell,r6.rows,r6.l,l0.av,H8.av,B3,N7,O0,List.cons_append,List.nil_append,List.append_nil]at CP
  simp only[MS.rows,MS.put,j8.cell,j8.rows,j8.l,j8.k,r6.cell,r6.rows,r6.l,l0.av,H8.av,B3,N7,O0,List.cons_append,List.nil_append,List.append_nil];refine Zf Tryd.func42 Tryd.ntmps42 ?_
  repeat' (first|refine Za ?_|(with_reducible constructor<;>first|intro N hN mk hmk|intro N hN|intro h)|refine Ze C0 ?_|refine Ze C1 ?_|refine Ze C2 ?_|(refine Zp CP [0,1,2,3] (Zq H9.d (Zq hxx (Zq f0 (Zq f1 (Zq f2 (Zq f3 (Zq f4 f5))))))) ?_;with_reducible intro _ _)|(refine Zp CP [0,1,2] (Zq H9.d (Zq hxx (Zq f0 (Zq f1 (Zq f2 (Zq f3 (Zq f4 f5))))))) ?_;with_reducible intro _ _)|(refine Zp CP [0,1] (Zq H9.d (Zq hxx (Zq f0 (Zq f1 (Zq f2 (Zq f3 (Zq f4 f5))))))) ?_;with_reducible intro _ _)|refine Zt (Zq H9.d (Zq hxx (Zq f0 (Zq f1 (Zq f2 (Zq f3 (Zq f4 f5))))))) ?_|fail)
  (first|(refine Zr (()) [0,192,193,194] (Zq H9.d (Zq hxx (Zq f0 (Zq f1 (Zq f2 (Zq f3 (Zq f4 f5))))))) ?_)|(refine Zr (()) [0,192,193] (Zq H9.d (Zq hxx (Zq f0 (Zq f1 (Zq f2 (Zq f3 (Zq f4 f5))))))) ?_))
  trivial
theorem b1k(L:List Int)(at_ g su re sl pa:Int)(ar:List dG)(lo:r6)(ii:j8)(bs:List e8)(t:w4)(h:fL ⟨L,at_,g,su,re,sl,pa,ar,lo,bs,ii,t⟩ 900000)(hc:a8 L at_%16=11):y9 Tryd.prog 42 [.ptr 0 0 0] (MS.rows ⟨L,at_,g,su,re,sl,pa,ar,lo,bs,ii,t⟩) 1 (fun _:Unit=>True) (fun _=> .Q0 []) (fun _=>(MS.inst ⟨L,at_,g,su,re,sl,pa,ar,lo,bs,ii,t⟩).rows):=by
 obtain⟨hL,h0,hb,hi,ha,hal⟩:=h
 dsimp only at hL h0 hb hi ha hal
 have C0:=o9 L at_ (by omega) hL
 have hx:=j6 hL h0.1
 have C1:=o9 L (at_+1) (by omega) hL
 have hy:=j6 hL (show(0:Int)≤at_+1 by omega)
 obtain⟨x,hxx⟩:∃x,a8 L at_%16=x:=⟨_,rfl⟩
 rw[hxx]at hc
 have f0:(x<3)=False:=by simp only[eq_iff_iff,iff_true,iff_false];omega
 have f1:(x<7)=False:=by simp only[eq_iff_iff,iff_true,iff_false];omega
 have f2:(x=7)=False:=by simp only[eq_iff_iff,iff_true,iff_false];omega
 have f3:(x=8)=False:=by simp only[eq_iff_iff,iff_true,iff_false];omega
 have f4:(x=9)=False:=by simp only[eq_iff_iff,iff_true,iff_false];omega
 have f5:(x=10)=False:=by simp only[eq_iff_iff,iff_true,iff_false];omega
 have f6:(x=11)=True:=by simp only[eq_iff_iff,iff_true,iff_false];omega
 have e:MS.inst ⟨L,at_,g,su,re,sl,pa,ar,lo,bs,ii,t⟩=(⟨L,at_+1+1,g,su,re,sl,pa,ar,lo,bs,ii,t⟩:MS).put (X4 L at_):=by
  unfold MS.inst fU
  simp only[hxx]
  rw[if_pos (by omega)]
  simp only[f0,f1,f2,f3,f4,f5,f6,if_true,if_false]
 rw[e]
 have e2:X4 L at_=⟨10,1+a8 L (at_+1)%2,0,O0,O0,O0,O0⟩:=by
  unfold X4
  simp only[hxx,f0,f1,f2,f3,f4,f5,f6,if_true,if_false]
 rw[e2]
 clear e e2
 generalize a8 L (at_+1)=y at*
 generalize a8 L at_=z at*
 have CP:=S3 ⟨L,at_+1+1,g,su,re,sl,pa,ar,lo,bs,ii,t⟩ ⟨10,1+y%2,0,O0,O0,O0,O0⟩ (by show bs.length≤_;omega) (by first|omega|(dsimp only;omega))
 rcases lo with _|ll<;>rcases ii with _|li
 all_goals
  try simp only[j8.l,List.length_nil]at hi
  simp only[MS.rows,MS.put,j8.cell,j8.rows,j8.l,j8.k,r6.cell,r6.rows,r6.l,l0.av,H8.av,B3,N7,O0,List.cons_append,List.nil_append,List.append_nil]at CP
  simp only[MS.rows,MS.put,j8.cell,j8.rows,j8.l,j8.k,r6.cell,r6.rows,r6.l,l0.av,H8.av,B3,N7,O0,List.cons_append,List.nil_append,List.append_nil];refine Zf Tryd.func42 Tryd.ntmps42 ?_
  repeat' (first|refine Za ?_|(with_reducible constructor<;>first|intro N hN mk hmk|intro N hN|intro h)|refine Ze C0 ?_|refine Ze C1 ?_|(refine Zp CP [0,1,2,3] (Zq H9.d (Zq hxx (Zq f0 (Zq f1 (Zq f2 (Zq f3 (Zq f4 (Zq f5 f6)))))))) ?_;with_reducible intro _ _)|(refine Zp CP [0,1,2] (Zq H9.d (Zq hxx (Zq f0 (Zq f1 (Zq f2 (Zq f3 (Zq f4 (Zq f5 f6)))))))) ?_;with_reducible intro _ _)|(refine Zp CP [0,1] (Zq H9.d (Zq hxx (Zq f0 (Zq f1 (Zq f2 (Zq f3 (Zq f4 (Zq f5 f6)))))))) ?_;with_reducible intro _ _)|refine Zt (Zq H9.d (Zq hxx (Zq f0 (Zq f1 (Zq f2 (Zq f3 (Zq f4 (Zq f5 f6)))))))) ?_|fail)
  (first|(refine Zr (()) [0,200,201,202] (Zq H9.d (Zq hxx (Zq f0 (Zq f1 (Zq f2 (Zq f3 (Zq f4 (Zq f5 f6)))))))) ?_)|(refine Zr (()) [0,200,201] (Zq H9.d (Zq hxx (Zq f0 (Zq f1 (Zq f2 (Zq f3 (Zq f4 (Zq f5 f6)))))))) ?_))
  trivial
end Go.Proofs.YtgdoiokalfhjoaaDoor
end
