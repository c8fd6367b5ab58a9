/- Own work (by an AI agent; no person has read it): part of a proof of the seat YtgdoiokalfhjoaaGreatDoor. -/
import Derived.Test.YtgdoiokalfhjoaaGreatDoorYn
set_option linter.unusedSimpArgs false
set_option linter.unusedVariables false
set_option maxRecDepth 100000
set_option maxHeartbeats 10000000
section
namespace Go.Proofs.YtgdoiokalfhjoaaGreatDoor
open Go.Ab
def G7:=ZZ.mk (Zq a3E.d (Zq @cH (Zq @E3.av.eq_1 (Zq @A3.eq_1 (Zq @L7.eq_1 @O0.eq_1)))))
theorem b6Z(L:List Int)(at_ g su re sl pa:Int)(ar:List cN)(lo:r9)(ii:j4)(bs:List b6)(t:q9)(h:gD ⟨L,at_,g,su,re,sl,pa,ar,lo,bs,ii,t⟩ 900000)(hc:a7 L at_%16<3):y6 Tryz.prog 185 [.ptr 0 0 0] (MS.rows ⟨L,at_,g,su,re,sl,pa,ar,lo,bs,ii,t⟩) 1 (fun _:Unit=>True) (fun _=> .O2 []) (fun _=>(MS.inst ⟨L,at_,g,su,re,sl,pa,ar,lo,bs,ii,t⟩).rows):=by
 obtain⟨hL,h0,hb,hi,ha,hal⟩:=h
 dsimp only at hL h0 hb hi ha hal
 have C0:=p0 L at_ (by omega) hL
 have hx:=j0 hL h0.1
 have C1:=p0 L (at_+1) (by omega) hL
 have hy:=j0 hL (show(0:Int)≤at_+1 by omega)
 have C2:=X9 L (at_+1+1) (by omega) hL
 obtain⟨x,hxx⟩:∃x,a7 L at_%16=x:=⟨_,rfl⟩
 rw[hxx]at hc
 have f0:(x<3)=True:=by simp only[eq_iff_iff,iff_true,iff_false];omega
 have e:MS.inst ⟨L,at_,g,su,re,sl,pa,ar,lo,bs,ii,t⟩=(⟨L,at_+1+1+1,g,su,re,sl,pa,ar,lo,bs,ii,t⟩:MS).put (W9 L at_):=by
  unfold MS.inst gQ
  simp only[hxx]
  rw[if_pos (by omega)]
  simp only[f0,if_true,if_false]
 rw[e]
 have e2:W9 L at_=⟨5,1+a7 L (at_+1)%7,0,E7 L (at_+1+1),O0,O0,O0⟩:=by
  unfold W9
  simp only[hxx,f0,if_true,if_false]
 rw[e2]
 clear e e2
 generalize a7 L (at_+1)=y at*
 generalize E7 L (at_+1+1)=d at*
 obtain⟨dk,dn,dv⟩:=d
 generalize a7 L at_=z at*
 have CP:=O8 ⟨L,at_+1+1+1,g,su,re,sl,pa,ar,lo,bs,ii,t⟩ ⟨5,1+y%7,0,⟨dk,dn,dv⟩,O0,O0,O0⟩ (by show bs.length≤_;omega) (by first|omega|(dsimp only;omega))
 rcases lo with _|ll<;>rcases ii with _|li
 all_goals
  try simp only[j4.l,List.length_nil]at hi
  simp only[MS.rows,MS.put,j4.cell,j4.rows,j4.l,j4.k,r9.cell,r9.rows,r9.l,e7.av,E3.av,A3,L7,O0,List.cons_append,List.nil_append,List.append_nil]at CP
  simp only[MS.rows,MS.put,j4.cell,j4.rows,j4.l,j4.k,r9.cell,r9.rows,r9.l,e7.av,E3.av,A3,L7,O0,List.cons_append,List.nil_append,List.append_nil];refine Zf Tryz.func185 Tryz.ntmps185 ?_
  repeat' (first|refine Za ?_|(with_reducible constructor<;>first|intro N hN mk hmk|intro N hN|intro h)|refine Ze C0 ?_|refine Ze C1 ?_|refine Ze C2 ?_|(refine Zp CP [0,1,2,3] (Zq G7.d (Zq hxx f0)) ?_;with_reducible intro _ _)|(refine Zp CP [0,1,2] (Zq G7.d (Zq hxx f0)) ?_;with_reducible intro _ _)|(refine Zp CP [0,1] (Zq G7.d (Zq hxx f0)) ?_;with_reducible intro _ _)|refine Zt (Zq G7.d (Zq hxx f0)) ?_|fail)
  (first|(refine Zr (()) [0,120,121,122] (Zq G7.d (Zq hxx f0)) ?_)|(refine Zr (()) [0,120,121] (Zq G7.d (Zq hxx f0)) ?_))
  trivial
theorem b60(L:List Int)(at_ g su re sl pa:Int)(ar:List cN)(lo:r9)(ii:j4)(bs:List b6)(t:q9)(h:gD ⟨L,at_,g,su,re,sl,pa,ar,lo,bs,ii,t⟩ 900000)(hc:¬a7 L at_%16<3∧a7 L at_%16<7):y6 Tryz.prog 185 [.ptr 0 0 0] (MS.rows ⟨L,at_,g,su,re,sl,pa,ar,lo,bs,ii,t⟩) 1 (fun _:Unit=>True) (fun _=> .O2 []) (fun _=>(MS.inst ⟨L,at_,g,su,re,sl,pa,ar,lo,bs,ii,t⟩).rows):=by
 obtain⟨hL,h0,hb,hi,ha,hal⟩:=h
 dsimp only at hL h0 hb hi ha hal
 have C0:=p0 L at_ (by omega) hL
 have hx:=j0 hL h0.1
 have C1:=p0 L (at_+1) (by omega) hL
 have hy:=j0 hL (show(0:Int)≤at_+1 by omega)
 have C2:=X9 L (at_+1+1) (by omega) hL
 have C3:=dU L (at_+1+1+1) (by omega) hL
 have C4:=dU L (at_+1+1+1+1) (by omega) hL
 obtain⟨x,hxx⟩:∃x,a7 L at_%16=x:=⟨_,rfl⟩
 rw[hxx]at hc
 have f0:(x<3)=False:=by simp only[eq_iff_iff,iff_true,iff_false];omega
 have f1:(x<7)=True:=by simp only[eq_iff_iff,iff_true,iff_false];omega
 have e:MS.inst ⟨L,at_,g,su,re,sl,pa,ar,lo,bs,ii,t⟩=(⟨L,at_+1+1+1+1+1,g,su,re,sl,pa,ar,lo,bs,ii,t⟩:MS).put (W9 L at_):=by
  unfold MS.inst gQ
  simp only[hxx]
  rw[if_pos (by omega)]
  simp only[f0,f1,if_true,if_false]
 rw[e]
 have e2:W9 L at_=⟨3,10+a7 L (at_+1)%20,0,E7 L (at_+1+1),V5 L (at_+1+1+1),V5 L (at_+1+1+1+1),O0⟩:=by
  unfold W9
  simp only[hxx,f0,f1,if_true,if_false]
 rw[e2]
 clear e e2
 generalize a7 L (at_+1)=y at*
 generalize E7 L (at_+1+1)=d at*
 obtain⟨dk,dn,dv⟩:=d
 generalize V5 L (at_+1+1+1)=v at*
 obtain⟨vk,vn,vv⟩:=v
 generalize V5 L (at_+1+1+1+1)=v2 at*
 obtain⟨v2k,v2n,v2v⟩:=v2
 generalize a7 L at_=z at*
 have CP:=O8 ⟨L,at_+1+1+1+1+1,g,su,re,sl,pa,ar,lo,bs,ii,t⟩ ⟨3,10+y%20,0,⟨dk,dn,dv⟩,⟨vk,vn,vv⟩,⟨v2k,v2n,v2v⟩,O0⟩ (by show bs.length≤_;omega) (by first|omega|(dsimp only;omega))
 rcases lo with _|ll<;>rcases ii with _|li
 all_goals
  try simp only[j4.l,List.length_nil]at hi
  simp only[MS.rows,MS.put,j4.cell,j4.rows,j4.l,j4.k,r9.cell,r9.rows,r9.l,e7.av,E3.av,A3,L7,O0,List.cons_append,List.nil_append,List.append_nil]at CP
  simp only[MS.rows,MS.put,j4.cell,j4.rows,j4.l,j4.k,r9.cell,r9.rows,r9.l,e7.av,E3.av,A3,L7,O0,List.cons_append,List.nil_append,List.append_nil];refine Zf Tryz.func185 Tryz.ntmps185 ?_
  repeat' (first|refine Za ?_|(with_reducible constructor<;>first|intro N hN mk hmk|intro N hN|intro h)|refine Ze C0 ?_|refine Ze C1 ?_|refine Ze C2 ?_|refine Ze C3 ?_|refine Ze C4 ?_|(refine Zp CP [0,1,2,3] (Zq G7.d (Zq hxx (Zq f0 f1))) ?_;with_reducible intro _ _)|(refine Zp CP [0,1,2] (Zq G7.d (Zq hxx (Zq f0 f1))) ?_;with_reducible intro _ _)|(refine Zp CP [0,1] (Zq G7.d (Zq hxx (Zq f0 f1))) ?_;with_reducible intro _ _)|refine Zt (Zq G7.d (Zq hxx (Zq f0 f1))) ?_|fail)
  (first|(refine Zr (()) [0,184,185,186] (Zq G7.d (Zq hxx (Zq f0 f1))) ?_)|(refine Zr (()) [0,184,185] (Zq G7.d (Zq hxx (Zq f0 f1))) ?_))
  trivial
theorem b61(L:List Int)(at_ g su re sl pa:Int)(ar:List cN)(lo:r9)(ii:j4)(bs:List b6)(t:q9)(h:gD ⟨L,at_,g,su,re,sl,pa,ar,lo,bs,ii,t⟩ 900000)(hc:a7 L at_%16=7):y6 Tryz.prog 185 [.ptr 0 0 0] (MS.rows ⟨L,at_,g,su,re,sl,pa,ar,lo,bs,ii,t⟩) 1 (fun _:Unit=>True) (fun _=> .O2 []) (fun _=>(MS.inst ⟨L,at_,g,su,re,sl,pa,ar,lo,bs,ii,t⟩).rows):=by
 obtain⟨hL,h0,hb,hi,ha,hal⟩:=h
 dsimp only at hL h0 hb hi ha hal
 have C0:=p0 L at_ (by omega) hL
 have hx:=j0 hL h0.1
 have C1:=p0 L (at_+1) (by omega) hL
 have hy:=j0 hL (show(0:Int)≤at_+1 by omega)
 have C2:=X9 L (at_+1+1) (by omega) hL
 have C3:=dU L (at_+1+1+1) (by omega) hL
 obtain⟨x,hxx⟩:∃x,a7 L at_%16=x:=⟨_,rfl⟩
 rw[hxx]at hc
 have f0:(x<3)=False:=by simp only[eq_iff_iff,iff_true,iff_false];omega
 have f1:(x<7)=False:=by simp only[eq_iff_iff,iff_true,iff_false];omega
 have f2:(x=7)=True:=by simp only[eq_iff_iff,iff_true,iff_false];omega
 have e:MS.inst ⟨L,at_,g,su,re,sl,pa,ar,lo,bs,ii,t⟩=(⟨L,at_+1+1+1+1,g,su,re,sl,pa,ar,lo,bs,ii,t⟩:MS).put (W9 L at_):=by
  unfold MS.inst gQ
  simp only[hxx]
  rw[if_pos (by omega)]
  simp only[f0,f1,f2,if_true,if_false]
 rw[e]
 have e2:W9 L at_=⟨2,1+a7 L (at_+1)%5,0,E7 L (at_+1+1),V5 L (at_+1+1+1),O0,O0⟩:=by
  unfold W9
  simp only[hxx,f0,f1,f2,if_true,if_false]
 rw[e2]
 clear e e2
 generalize a7 L (at_+1)=y at*
 generalize E7 L (at_+1+1)=d at*
 obtain⟨dk,dn,dv⟩:=d
 generalize V5 L (at_+1+1+1)=v at*
 obtain⟨vk,vn,vv⟩:=v
 generalize a7 L at_=z at*
 have CP:=O8 ⟨L,at_+1+1+1+1,g,su,re,sl,pa,ar,lo,bs,ii,t⟩ ⟨2,1+y%5,0,⟨dk,dn,dv⟩,⟨vk,vn,vv⟩,O0,O0⟩ (by show bs.length≤_;omega) (by first|omega|(dsimp only;omega))
 rcases lo with _|ll<;>rcases ii with _|li
 all_goals
  try simp only[j4.l,List.length_nil]at hi
  simp only[MS.rows,MS.put,j4.cell,j4.rows,j4.l,j4.k,r9.cell,r9.rows,r9.l,e7.av,E3.av,A3,L7,O0,List.cons_append,List.nil_append,List.append_nil]at CP
  simp only[MS.rows,MS.put,j4.cell,j4.rows,j4.l,j4.k,r9.cell,r9.rows,r9.l,e7.av,E3.av,A3,L7,O0,List.cons_append,List.nil_append,List.append_nil];refine Zf Tryz.func185 Tryz.ntmps185 ?_
  repeat' (first|refine Za ?_|(with_reducible constructor<;>first|intro N hN mk hmk|intro N hN|intro h)|refine Ze C0 ?_|refine Ze C1 ?_|refine Ze C2 ?_|refine Ze C3 ?_|(refine Zp CP [0,1,2,3] (Zq G7.d (Zq hxx (Zq f0 (Zq f1 f2)))) ?_;with_reducible intro _ _)|(refine Zp CP [0,1,2] (Zq G7.d (Zq hxx (Zq f0 (Zq f1 f2)))) ?_;with_reducible intro _ _)|(refine Zp CP [0,1] (Zq G7.d (Zq hxx (Zq f0 (Zq f1 f2)))) ?_;with_reducible intro _ _)|refine Zt (Zq G7.d (Zq hxx (Zq f0 (Zq f1 f2)))) ?_|fail)
  (first|(refine Zr (()) [0,168,169,170] (Zq G7.d (Zq hxx (Zq f0 (Zq f1 f2)))) ?_)|(refine Zr (()) [0,168,169] (Zq G7.d (Zq hxx (Zq f0 (Zq f1 f2)))) ?_))
  trivial
theorem b62(L:List Int)(at_ g su re sl pa:Int)(ar:List cN)(lo:r9)(ii:j4)(bs:List b6)(t:q9)(h:gD ⟨L,at_,g,su,re,sl,pa,ar,lo,bs,ii,t⟩ 900000)(hc:a7 L at_%16=8):y6 Tryz.prog 185 [.ptr 0 0 0] (MS.rows ⟨L,at_,g,su,re,sl,pa,ar,lo,bs,ii,t⟩) 1 (fun _:Unit=>True) (fun _=> .O2 []) (fun _=>(MS.inst ⟨L,at_,g,su,re,sl,pa,ar,lo,bs,ii,t⟩).rows):=by
 obtain⟨hL,h0,hb,hi,ha,hal⟩:=h
 dsimp only at hL h0 hb hi ha hal
 have C0:=p0 L at_ (by omega) hL
 have hx:=j0 hL h0.1
 have C1:=X9 L (at_+1) (by omega) hL
 have C2:=dU L (at_+1+1) (by omega) hL
 have C3:=dU L (at_+1+1+1) (by omega) hL
 have C4:=dU L (at_+1+1+1+1) (by omega) hL
 obtain⟨x,hxx⟩:∃x,a7 L at_%16=x:=⟨_,rfl⟩
 rw[hxx]at hc
 have f0:(x<3)=False:=by simp only[eq_iff_iff,iff_true,iff_false];omega
 have f1:(x<7)=False:=by simp only[eq_iff_iff,iff_true,iff_false];omega
 have f2:(x=7)=False:=by simp only[eq_iff_iff,iff_true,iff_false];omega
 have f3:(x=8)=True:=by simp only[eq_iff_iff,iff_true,iff_false];omega
 have e:MS.inst ⟨L,at_,g,su,re,sl,pa,ar,lo,bs,ii,t⟩=(⟨L,at_+1+1+1+1+1,g,su,re,sl,pa,ar,lo,bs,ii,t⟩:MS).put (W9 L at_):=by
  unfold MS.inst gQ
  simp only[hxx]
  rw[if_pos (by omega)]
  simp only[f0,f1,f2,f3,if_true,if_false]
 rw[e]
 have e2:W9 L at_=⟨4,0,0,E7 L (at_+1),V5 L (at_+1+1),V5 L (at_+1+1+1),V5 L (at_+1+1+1+1)⟩:=by
  unfold W9
  simp only[hxx,f0,f1,f2,f3,if_true,if_false]
 rw[e2]
 clear e e2
 generalize E7 L (at_+1)=d at*
 obtain⟨dk,dn,dv⟩:=d
 generalize V5 L (at_+1+1)=v at*
 obtain⟨vk,vn,vv⟩:=v
 generalize V5 L (at_+1+1+1)=v2 at*
 obtain⟨v2k,v2n,v2v⟩:=v2
 generalize V5 L (at_+1+1+1+1)=v3 at*
 obtain⟨v3k,v3n,v3v⟩:=v3
 generalize a7 L at_=z at*
 have CP:=O8 ⟨L,at_+1+1+1+1+1,g,su,re,sl,pa,ar,lo,bs,ii,t⟩ ⟨4,0,0,⟨dk,dn,dv⟩,⟨vk,vn,vv⟩,⟨v2k,v2n,v2v⟩,⟨v3k,v3n,v3v⟩⟩ (by show bs.length≤_;omega) (by first|omega|(dsimp only;omega))
 rcases lo with _|ll<;>rcases ii with _|li
 all_goals
  try simp only[j4.l,List.length_nil]at hi
  simp only[MS.rows,MS.put,j4.cell,j4.rows,j4.l,j4.k,r9.cell,r9.rows,r9.l,e7.av,E3.av,A3,L7,O0,List.cons_append,List.nil_append,List.append_nil]at CP
  simp only[MS.rows,MS.put,j4.cell,j4.rows,j4.l,j4.k,r9.cell,r9.rows,r9.l,e7.av,E3.av,A3,L7,O0,List.cons_append,List.nil_append,List.append_nil];refine Zf Tryz.func185 Tryz.ntmps185 ?_
  repeat' (first|refine Za ?_|(with_reducible constructor<;>first|intro N hN mk hmk|intro N hN|intro h)|refine Ze C0 ?_|refine Ze C1 ?_|refine Ze C2 ?_|refine Ze C3 ?_|refine Ze C4 ?_|(refine Zp CP [0,1,2,3] (Zq G7.d (Zq hxx (Zq f0 (Zq f1 (Zq f2 f3))))) ?_;with_reducible intro _ _)|(refine Zp CP [0,1,2] (Zq G7.d (Zq hxx (Zq f0 (Zq f1 (Zq f2 f3))))) ?_;with_reducible intro _ _)|(refine Zp CP [0,1] (Zq G7.d (Zq hxx (Zq f0 (Zq f1 (Zq f2 f3))))) ?_;with_reducible intro _ _)|refine Zt (Zq G7.d (Zq hxx (Zq f0 (Zq f1 (Zq f2 f3))))) ?_|fail)
  (first|(refine Zr (()) [0,184,185,186] (Zq G7.d (Zq hxx (Zq f0 (Zq f1 (Zq f2 f3))))) ?_)|(refine Zr (()) [0,184,185] (Zq G7.d (Zq hxx (Zq f0 (Zq f1 (Zq f2 f3))))) ?_))
  trivial
theorem b63(L:List Int)(at_ g su re sl pa:Int)(ar:List cN)(lo:r9)(ii:j4)(bs:List b6)(t:q9)(h:gD ⟨L,at_,g,su,re,sl,pa,ar,lo,bs,ii,t⟩ 900000)(hc:a7 L at_%16=9):y6 Tryz.prog 185 [.ptr 0 0 0] (MS.rows ⟨L,at_,g,su,re,sl,pa,ar,lo,bs,ii,t⟩) 1 (fun _:Unit=>True) (fun _=> .O2 []) (fun _=>(MS.inst ⟨L,at_,g,su,re,sl,pa,ar,lo,bs,ii,t⟩).rows):=by
 obtain⟨hL,h0,hb,hi,ha,hal⟩:=h
 dsimp only at hL h0 hb hi ha hal
 have C0:=p0 L at_ (by omega) hL
 have hx:=j0 hL h0.1
 have C1:=X9 L (at_+1) (by omega) hL
 have C2:=dU L (at_+1+1) (by omega) hL
 obtain⟨x,hxx⟩:∃x,a7 L at_%16=x:=⟨_,rfl⟩
 rw[hxx]at hc
 have f0:(x<3)=False:=by simp only[eq_iff_iff,iff_true,iff_false];omega
 have f1:(x<7)=False:=by simp only[eq_iff_iff,iff_true,iff_false];omega
 have f2:(x=7)=False:=by simp only[eq_iff_iff,iff_true,iff_false];omega
 have f3:(x=8)=False:=by simp only[eq_iff_iff,iff_true,iff_false];omega
 have f4:(x=9)=True:=by simp only[eq_iff_iff,iff_true,iff_false];omega
 have e:MS.inst ⟨L,at_,g,su,re,sl,pa,ar,lo,bs,ii,t⟩=(⟨L,at_+1+1+1,g,su,re,sl,pa,ar,lo,bs,ii,t⟩:MS).put (W9 L at_):=by
  unfold MS.inst gQ
  simp only[hxx]
  rw[if_pos (by omega)]
  simp only[f0,f1,f2,f3,f4,if_true,if_false]
 rw[e]
 have e2:W9 L at_=⟨1,0,0,E7 L (at_+1),V5 L (at_+1+1),O0,O0⟩:=by
  unfold W9
  simp only[hxx,f0,f1,f2,f3,f4,if_true,if_false]
 rw[e2]
 clear e e2
 generalize E7 L (at_+1)=d at*
 obtain⟨dk,dn,dv⟩:=d
 generalize V5 L (at_+1+1)=v at*
 obtain⟨vk,vn,vv⟩:=v
 generalize a7 L at_=z at*
 have CP:=O8 ⟨L,at_+1+1+1,g,su,re,sl,pa,ar,lo,bs,ii,t⟩ ⟨1,0,0,⟨dk,dn,dv⟩,⟨vk,vn,vv⟩,O0,O0⟩ (by show bs.length≤_;omega) (by first|omega|(dsimp only;omega))
 rcases lo with _|ll<;>rcases ii with _|li
 all_goals
  try simp only[j4.l,List.length_nil]at hi
  simp only[MS.rows,MS.put,j4.cell,j4.rows,j4.l,j4.k,r9.cell,r9.rows,r9.l,e7.av,E3.av,A3,L7,O0,List.cons_append,List.nil_append,List.append_nil]at CP
  simp only[MS.rows,MS.put,j4.cell,j4.rows,j4.l,j4.k,r9.cell,r9.rows,r9.l,e7.av,E3.av,A3,L7,O0,List.cons_append,List.nil_append,List.append_nil];refine Zf Tryz.func185 Tryz.ntmps185 ?_
  repeat' (first|refine Za ?_|(with_reducible constructor<;>first|intro N hN mk hmk|intro N hN|intro h)|refine Ze C0 ?_|refine Ze C1 ?_|refine Ze C2 ?_|(refine Zp CP [0,1,2,3] (Zq G7.d (Zq hxx (Zq f0 (Zq f1 (Zq f2 (Zq f3 f4)))))) ?_;with_reducible intro _ _)|(refine Zp CP [0,1,2] (Zq G7.d (Zq hxx (Zq f0 (Zq f1 (Zq f2 (Zq f3 f4)))))) ?_;with_reducible intro _ _)|(refine Zp CP [0,1] (Zq G7.d (Zq hxx (Zq f0 (Zq f1 (Zq f2 (Zq f3 f4)))))) ?_;with_reducible intro _ _)|refine Zt (Zq G7.d (Zq hxx (Zq f0 (Zq f1 (Zq f2 (Zq f3 f4)))))) ?_|fail)
  (first|(refine Zr (()) [0,168,169,170] (Zq G7.d (Zq hxx (Zq f0 (Zq f1 (Zq f2 (Zq f3 f4)))))) ?_)|(refine Zr (()) [0,168,169] (Zq G7.d (Zq hxx (Zq f0 (Zq f1 (Zq f2 (Zq f3 f4)))))) ?_))
  trivial
theorem b64(L:List Int)(at_ g su re sl pa:Int)(ar:List cN)(lo:r9)(ii:j4)(bs:List b6)(t:q9)(h:gD ⟨L,at_,g,su,re,sl,pa,ar,lo,bs,ii,t⟩ 900000)(hc:a7 L at_%16=10):y6 Tryz.prog 185 [.ptr 0 0 0] (MS.rows ⟨L,at_,g,su,re,sl,pa,ar,lo,bs,ii,t⟩) 1 (fun _:Unit=>True) (fun _=> .O2 []) (fun _=>(MS.inst ⟨L,at_,g,su,re,sl,pa,ar,lo,bs,ii,t⟩).rows):=by
 obtain⟨hL,h0,hb,hi,ha,hal⟩:=h
 dsimp only at hL h0 hb hi ha hal
 have C0:=p0 L at_ (by omega) hL
 have hx:=j0 hL h0.1
 have C1:=p0 L (at_+1) (by omega) hL
 have hy:=j0 hL (show(0:Int)≤at_+1 by omega)
 have C2:=X9 L (at_+1+1) (by omega) hL
 obtain⟨x,hxx⟩:∃x,a7 L at_%16=x:=⟨_,rfl⟩
 rw[hxx]at hc
 have f0:(x<3)=False:=by simp only[eq_iff_iff,iff_true,iff_false];omega
 have f1:(x<7)=False:=by simp only[eq_iff_iff,iff_true,iff_false];omega
 have f2:(x=7)=False:=by simp only[eq_iff_iff,iff_true,iff_false];omega
 have f3:(x=8)=False:=by simp only[eq_iff_iff,iff_true,iff_false];omega
 have f4:(x=9)=False:=by simp only[eq_iff_iff,iff_true,iff_false];omega
 have f5:(x=10)=True:=by simp only[eq_iff_iff,iff_true,iff_false];omega
 have e:MS.inst ⟨L,at_,g,su,re,sl,pa,ar,lo,bs,ii,t⟩=(⟨L,at_+1+1+1,g,su,re,sl,pa,ar,lo,bs,ii,t⟩:MS).put (W9 L at_):=by
  unfold MS.inst gQ
  simp only[hxx]
  rw[if_pos (by omega)]
  simp only[f0,f1,f2,f3,f4,f5,if_true,if_false]
 rw[e]
 have e2:W9 L at_=⟨6,0,a7 L (at_+1)%3,E7 L (at_+1+1),O0,O0,O0⟩:=by
  unfold W9
  simp only[hxx,f0,f1,f2,f3,f4,f5,if_true,if_false]
 rw[e2]
 clear e e2
 generalize a7 L (at_+1)=y at*
 generalize E7 L (at_+1+1)=d at*
 obtain⟨dk,dn,dv⟩:=d
 generalize a7 L at_=z at*
 have CP:=O8 ⟨L,at_+1+1+1,g,su,re,sl,pa,ar,lo,bs,ii,t⟩ ⟨6,0,y%3,⟨dk,dn,dv⟩,O0,O0,O0⟩ (by show bs.length≤_;omega) (by first|omega|(dsimp only;omega))
 rcases lo with _|ll<;>rcases ii with _|li
 all_goals
  try simp only[j4.l,List.length_nil]at hi
  simp only[MS.rows,MS.put,j4.cell,j4.rows,j4.l,j4.k,r9.cell,r9.rows,r9.l,e7.av,E3.av,A3,L7,O0,List.cons_append,List.nil_append,List.append_nil]at CP
  simp only[MS.rows,MS.put,j4.cell,j4.rows,j4.l,j4.k,r9.cell,r9.rows,r9.l,e7.av,E3.av,A3,L7,O0,List.cons_append,List.nil_append,List.append_nil];refine Zf Tryz.func185 Tryz.ntmps185 ?_
  repeat' (first|refine Za ?_|(with_reducible constructor<;>first|intro N hN mk hmk|intro N hN|intro h)|refine Ze C0 ?_|refine Ze C1 ?_|refine Ze C2 ?_|(refine Zp CP [0,1,2,3] (Zq G7.d (Zq hxx (Zq f0 (Zq f1 (Zq f2 (Zq f3 (Zq f4 f5))))))) ?_;with_reducible intro _ _)|(refine Zp CP [0,1,2] (Zq G7.d (Zq hxx (Zq f0 (Zq f1 (Zq f2 (Zq f3 (Zq f4 f5))))))) ?_;with_reducible intro _ _)|(refine Zp CP [0,1] (Zq G7.d (Zq hxx (Zq f0 (Zq f1 (Zq f2 (Zq f3 (Zq f4 f5))))))) ?_;with_reducible intro _ _)|refine Zt (Zq G7.d (Zq hxx (Zq f0 (Zq f1 (Zq f2 (Zq f3 (Zq f4 f5))))))) ?_|fail)
  (first|(refine Zr (()) [0,192,193,194] (Zq G7.d (Zq hxx (Zq f0 (Zq f1 (Zq f2 (Zq f3 (Zq f4 f5))))))) ?_)|(refine Zr (()) [0,192,193] (Zq G7.d (Zq hxx (Zq f0 (Zq f1 (Zq f2 (Zq f3 (Zq f4 f5))))))) ?_))
  trivial
theorem b65(L:List Int)(at_ g su re sl pa:Int)(ar:List cN)(lo:r9)(ii:j4)(bs:List b6)(t:q9)(h:gD ⟨L,at_,g,su,re,sl,pa,ar,lo,bs,ii,t⟩ 900000)(hc:a7 L at_%16=11):y6 Tryz.prog 185 [.ptr 0 0 0] (MS.rows ⟨L,at_,g,su,re,sl,pa,ar,lo,bs,ii,t⟩) 1 (fun _:Unit=>True) (fun _=> .O2 []) (fun _=>(MS.inst ⟨L,at_,g,su,re,sl,pa,ar,lo,bs,ii,t⟩).rows):=by
 obtain⟨hL,h0,hb,hi,ha,hal⟩:=h
 dsimp only at hL h0 hb hi ha hal
 have C0:=p0 L at_ (by omega) hL
 have hx:=j0 hL h0.1
 have C1:=p0 L (at_+1) (by omega) hL
 have hy:=j0 hL (show(0:Int)≤at_+1 by omega)
 obtain⟨x,hxx⟩:∃x,a7 L at_%16=x:=⟨_,rfl⟩
 rw[hxx]at hc
 have f0:(x<3)=False:=by simp only[eq_iff_iff,iff_true,iff_false];omega
 have f1:(x<7)=False:=by simp only[eq_iff_iff,iff_true,iff_false];omega
 have f2:(x=7)=False:=by simp only[eq_iff_iff,iff_true,iff_false];omega
 have f3:(x=8)=False:=by simp only[eq_iff_iff,iff_true,iff_false];omega
 have f4:(x=9)=False:=by simp only[eq_iff_iff,iff_true,iff_false];omega
 have f5:(x=10)=False:=by simp only[eq_iff_iff,iff_true,iff_false];omega
 have f6:(x=11)=True:=by simp only[eq_iff_iff,iff_true,iff_false];omega
 have e:MS.inst ⟨L,at_,g,su,re,sl,pa,ar,lo,bs,ii,t⟩=(⟨L,at_+1+1,g,su,re,sl,pa,ar,lo,bs,ii,t⟩:MS).put (W9 L at_):=by
  unfold MS.inst gQ
  simp only[hxx]
  rw[if_pos (by omega)]
  simp only[f0,f1,f2,f3,f4,f5,f6,if_true,if_false]
 rw[e]
 have e2:W9 L at_=⟨10,1+a7 L (at_+1)%2,0,O0,O0,O0,O0⟩:=by
  unfold W9
  simp only[hxx,f0,f1,f2,f3,f4,f5,f6,if_true,if_false]
 rw[e2]
 clear e e2
 generalize a7 L (at_+1)=y at*
 generalize a7 L at_=z at*
 have CP:=O8 ⟨L,at_+1+1,g,su,re,sl,pa,ar,lo,bs,ii,t⟩ ⟨10,1+y%2,0,O0,O0,O0,O0⟩ (by show bs.length≤_;omega) (by first|omega|(dsimp only;omega))
 rcases lo with _|ll<;>rcases ii with _|li
 all_goals
  try simp only[j4.l,List.length_nil]at hi
  simp only[MS.rows,MS.put,j4.cell,j4.rows,j4.l,j4.k,r9.cell,r9.rows,r9.l,e7.av,E3.av,A3,L7,O0,List.cons_append,List.nil_append,List.append_nil]at CP
  simp only[MS.rows,MS.put,j4.cell,j4.rows,j4.l,j4.k,r9.cell,r9.rows,r9.l,e7.av,E3.av,A3,L7,O0,List.cons_append,List.nil_append,List.append_nil];refine Zf Tryz.func185 Tryz.ntmps185 ?_
  repeat' (first|refine Za ?_|(with_reducible constructor<;>first|intro N hN mk hmk|intro N hN|intro h)|refine Ze C0 ?_|refine Ze C1 ?_|(refine Zp CP [0,1,2,3] (Zq G7.d (Zq hxx (Zq f0 (Zq f1 (Zq f2 (Zq f3 (Zq f4 (Zq f5 f6)))))))) ?_;with_reducible intro _ _)|(refine Zp CP [0,1,2] (Zq G7.d (Zq hxx (Zq f0 (Zq f1 (Zq f2 (Zq f3 (Zq f4 (Zq f5 f6)))))))) ?_;with_reducible intro _ _)|(refine Zp CP [0,1] (Zq G7.d (Zq hxx (Zq f0 (Zq f1 (Zq f2 (Zq f3 (Zq f4 (Zq f5 f6)))))))) ?_;with_reducible intro _ _)|refine Zt (Zq G7.d (Zq hxx (Zq f0 (Zq f1 (Zq f2 (Zq f3 (Zq f4 (Zq f5 f6)))))))) ?_|fail)
  (first|(refine Zr (()) [0,200,201,202] (Zq G7.d (Zq hxx (Zq f0 (Zq f1 (Zq f2 (Zq f3 (Zq f4 (Zq f5 f6)))))))) ?_)|(refine Zr (()) [0,200,201] (Zq G7.d (Zq hxx (Zq f0 (Zq f1 (Zq f2 (Zq f3 (Zq f4 (Zq f5 f6)))))))) ?_))
  trivial
end Go.Proofs.YtgdoiokalfhjoaaGreatDoor
end
