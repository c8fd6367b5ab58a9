/- Own work (by an AI agent; no person has read it): part of a proof of the seat YtgdoiokalfhjoaaGreatDoor. -/
import Derived.Test.YtgdoiokalfhjoaaGreatDoorXn
set_option linter.unusedSimpArgs false
set_option linter.unusedVariables false
set_option maxRecDepth 100000
set_option maxHeartbeats 10000000
section
namespace Go.Proofs.YtgdoiokalfhjoaaGreatDoor
open Go.Ab
def G9:=ZZ.mk (Zq a4G.d (Zq @qM (Zq @E3.av.eq_1 (Zq @A1.eq_1 (Zq @M3.eq_1 @O0.eq_1)))))
theorem b7Z(L:List Int)(at_ g su re sl pa:Int)(ar:List cQ)(lo:r7)(ii:j7)(bs:List b6)(t:o6)(h:iI ⟨L,at_,g,su,re,sl,pa,ar,lo,bs,ii,t⟩ 900000)(hc:a7 L at_%16<3):y0 Tryz.prog 185 [.ptr 0 0 0] (MS.rows ⟨L,at_,g,su,re,sl,pa,ar,lo,bs,ii,t⟩) 1 (fun _:Unit=>True) (fun _=> .O4 []) (fun _=>(MS.inst ⟨L,at_,g,su,re,sl,pa,ar,lo,bs,ii,t⟩).rows):=by
 obtain⟨hL,h0,hb,hi,ha,hal⟩:=h
 dsimp only at hL h0 hb hi ha hal
 have C0:=p0 L at_ (by omega) hL
 have hx:=j4 hL h0.1
 have C1:=p0 L (at_+1) (by omega) hL
 have hy:=j4 hL (show(0:Int)≤at_+1 by omega)
 have C2:=Y0 L (at_+1+1) (by omega) hL
 obtain⟨x,hxx⟩:∃x,a7 L at_%16=x:=⟨_,rfl⟩
 rw[hxx]at hc
 have f0:(x<3)=True:=by simp only[eq_iff_iff,iff_true,iff_false];omega
 have e:MS.inst ⟨L,at_,g,su,re,sl,pa,ar,lo,bs,ii,t⟩=(⟨L,at_+1+1+1,g,su,re,sl,pa,ar,lo,bs,ii,t⟩:MS).put (W9 L at_):=by
  unfold MS.inst iS
  simp only[hxx]
  rw[if_pos (by omega)]
  simp only[f0,if_true,if_false]
 rw[e]
 have e2:W9 L at_=⟨5,1+a7 L (at_+1)%7,0,E8 L (at_+1+1),O0,O0,O0⟩:=by
  unfold W9
  simp only[hxx,f0,if_true,if_false]
 rw[e2]
 clear e e2
 generalize a7 L (at_+1)=y at*
 generalize E8 L (at_+1+1)=d at*
 obtain⟨dk,dn,dv⟩:=d
 generalize a7 L at_=z at*
 have CP:=P4 ⟨L,at_+1+1+1,g,su,re,sl,pa,ar,lo,bs,ii,t⟩ ⟨5,1+y%7,0,⟨dk,dn,dv⟩,O0,O0,O0⟩ (by show bs.length≤_;omega) (by first|omega|(dsimp only;omega))
 rcases lo with _|ll<;>rcases ii with _|li
 all_goals
  try simp only[j7.l,List.length_nil]at hi
  simp only[MS.rows,MS.put,j7.cell,j7.rows,j7.l,j7.k,r7.cell,r7.rows,r7.l,e8.av,E3.av,A1,M3,O0,List.cons_append,List.nil_append,List.append_nil]at CP
  simp only[MS.rows,MS.put,j7.cell,j7.rows,j7.l,j7.k,r7.cell,r7.rows,r7.l,e8.av,E3.av,A1,M3,O0,List.cons_append,List.nil_append,List.append_nil];refine Zf Tryz.func185 Tryz.ntmps185 ?_
  repeat' (first|refine Za ?_|(with_reducible constructor<;>first|intro N hN mk hmk|intro N hN|intro h)|refine Ze C0 ?_|refine Ze C1 ?_|refine Ze C2 ?_|(refine Zp CP [0,1,2,3] (Zq G9.d (Zq hxx f0)) ?_;with_reducible intro _ _)|(refine Zp CP [0,1,2] (Zq G9.d (Zq hxx f0)) ?_;with_reducible intro _ _)|(refine Zp CP [0,1] (Zq G9.d (Zq hxx f0)) ?_;with_reducible intro _ _)|refine Zt (Zq G9.d (Zq hxx f0)) ?_|fail)
  (first|(refine Zr (()) [0,120,121,122] (Zq G9.d (Zq hxx f0)) ?_)|(refine Zr (()) [0,120,121] (Zq G9.d (Zq hxx f0)) ?_))
  trivial
theorem b70(L:List Int)(at_ g su re sl pa:Int)(ar:List cQ)(lo:r7)(ii:j7)(bs:List b6)(t:o6)(h:iI ⟨L,at_,g,su,re,sl,pa,ar,lo,bs,ii,t⟩ 900000)(hc:¬a7 L at_%16<3∧a7 L at_%16<7):y0 Tryz.prog 185 [.ptr 0 0 0] (MS.rows ⟨L,at_,g,su,re,sl,pa,ar,lo,bs,ii,t⟩) 1 (fun _:Unit=>True) (fun _=> .O4 []) (fun _=>(MS.inst ⟨L,at_,g,su,re,sl,pa,ar,lo,bs,ii,t⟩).rows):=by
 obtain⟨hL,h0,hb,hi,ha,hal⟩:=h
 dsimp only at hL h0 hb hi ha hal
 have C0:=p0 L at_ (by omega) hL
 have hx:=j4 hL h0.1
 have C1:=p0 L (at_+1) (by omega) hL
 have hy:=j4 hL (show(0:Int)≤at_+1 by omega)
 have C2:=Y0 L (at_+1+1) (by omega) hL
 have C3:=eE L (at_+1+1+1) (by omega) hL
 have C4:=eE L (at_+1+1+1+1) (by omega) hL
 obtain⟨x,hxx⟩:∃x,a7 L at_%16=x:=⟨_,rfl⟩
 rw[hxx]at hc
 have f0:(x<3)=False:=by simp only[eq_iff_iff,iff_true,iff_false];omega
 have f1:(x<7)=True:=by simp only[eq_iff_iff,iff_true,iff_false];omega
 have e:MS.inst ⟨L,at_,g,su,re,sl,pa,ar,lo,bs,ii,t⟩=(⟨L,at_+1+1+1+1+1,g,su,re,sl,pa,ar,lo,bs,ii,t⟩:MS).put (W9 L at_):=by
  unfold MS.inst iS
  simp only[hxx]
  rw[if_pos (by omega)]
  simp only[f0,f1,if_true,if_false]
 rw[e]
 have e2:W9 L at_=⟨3,10+a7 L (at_+1)%20,0,E8 L (at_+1+1),V0 L (at_+1+1+1),V0 L (at_+1+1+1+1),O0⟩:=by
  unfold W9
  simp only[hxx,f0,f1,if_true,if_false]
 rw[e2]
 clear e e2
 generalize a7 L (at_+1)=y at*
 generalize E8 L (at_+1+1)=d at*
 obtain⟨dk,dn,dv⟩:=d
 generalize V0 L (at_+1+1+1)=v at*
 obtain⟨vk,vn,vv⟩:=v
 generalize V0 L (at_+1+1+1+1)=v2 at*
 obtain⟨v2k,v2n,v2v⟩:=v2
 generalize a7 L at_=z at*
 have CP:=P4 ⟨L,at_+1+1+1+1+1,g,su,re,sl,pa,ar,lo,bs,ii,t⟩ ⟨3,10+y%20,0,⟨dk,dn,dv⟩,⟨vk,vn,vv⟩,⟨v2k,v2n,v2v⟩,O0⟩ (by show bs.length≤_;omega) (by first|omega|(dsimp only;omega))
 rcases lo with _|ll<;>rcases ii with _|li
 all_goals
  try simp only[j7.l,List.length_nil]at hi
  simp only[MS.rows,MS.put,j7.cell,j7.rows,j7.l,j7.k,r7.cell,r7.rows,r7.l,e8.av,E3.av,A1,M3,O0,List.cons_append,List.nil_append,List.append_nil]at CP
  simp only[MS.rows,MS.put,j7.cell,j7.rows,j7.l,j7.k,r7.cell,r7.rows,r7.l,e8.av,E3.av,A1,M3,O0,List.cons_append,List.nil_append,List.append_nil];refine Zf Tryz.func185 Tryz.ntmps185 ?_
  repeat' (first|refine Za ?_|(with_reducible constructor<;>first|intro N hN mk hmk|intro N hN|intro h)|refine Ze C0 ?_|refine Ze C1 ?_|refine Ze C2 ?_|refine Ze C3 ?_|refine Ze C4 ?_|(refine Zp CP [0,1,2,3] (Zq G9.d (Zq hxx (Zq f0 f1))) ?_;with_reducible intro _ _)|(refine Zp CP [0,1,2] (Zq G9.d (Zq hxx (Zq f0 f1))) ?_;with_reducible intro _ _)|(refine Zp CP [0,1] (Zq G9.d (Zq hxx (Zq f0 f1))) ?_;with_reducible intro _ _)|refine Zt (Zq G9.d (Zq hxx (Zq f0 f1))) ?_|fail)
  (first|(refine Zr (()) [0,184,185,186] (Zq G9.d (Zq hxx (Zq f0 f1))) ?_)|(refine Zr (()) [0,184,185] (Zq G9.d (Zq hxx (Zq f0 f1))) ?_))
  trivial
theorem b71(L:List Int)(at_ g su re sl pa:Int)(ar:List cQ)(lo:r7)(ii:j7)(bs:List b6)(t:o6)(h:iI ⟨L,at_,g,su,re,sl,pa,ar,lo,bs,ii,t⟩ 900000)(hc:a7 L at_%16=7):y0 Tryz.prog 185 [.ptr 0 0 0] (MS.rows ⟨L,at_,g,su,re,sl,pa,ar,lo,bs,ii,t⟩) 1 (fun _:Unit=>True) (fun _=> .O4 []) (fun _=>(MS.inst ⟨L,at_,g,su,re,sl,pa,ar,lo,bs,ii,t⟩).rows):=by
 obtain⟨hL,h0,hb,hi,ha,hal⟩:=h
 dsimp only at hL h0 hb hi ha hal
 have C0:=p0 L at_ (by omega) hL
 have hx:=j4 hL h0.1
 have C1:=p0 L (at_+1) (by omega) hL
 have hy:=j4 hL (show(0:Int)≤at_+1 by omega)
 have C2:=Y0 L (at_+1+1) (by omega) hL
 have C3:=eE L (at_+1+1+1) (by omega) hL
 obtain⟨x,hxx⟩:∃x,a7 L at_%16=x:=⟨_,rfl⟩
 rw[hxx]at hc
 have f0:(x<3)=False:=by simp only[eq_iff_iff,iff_true,iff_false];omega
 have f1:(x<7)=False:=by simp only[eq_iff_iff,iff_true,iff_false];omega
 have f2:(x=7)=True:=by simp only[eq_iff_iff,iff_true,iff_false];omega
 have e:MS.inst ⟨L,at_,g,su,re,sl,pa,ar,lo,bs,ii,t⟩=(⟨L,at_+1+1+1+1,g,su,re,sl,pa,ar,lo,bs,ii,t⟩:MS).put (W9 L at_):=by
  unfold MS.inst iS
  simp only[hxx]
  rw[if_pos (by omega)]
  simp only[f0,f1,f2,if_true,if_false]
 rw[e]
 have e2:W9 L at_=⟨2,1+a7 L (at_+1)%5,0,E8 L (at_+1+1),V0 L (at_+1+1+1),O0,O0⟩:=by
  unfold W9
  simp only[hxx,f0,f1,f2,if_true,if_false]
 rw[e2]
 clear e e2
 generalize a7 L (at_+1)=y at*
 generalize E8 L (at_+1+1)=d at*
 obtain⟨dk,dn,dv⟩:=d
 generalize V0 L (at_+1+1+1)=v at*
 obtain⟨vk,vn,vv⟩:=v
 generalize a7 L at_=z at*
 have CP:=P4 ⟨L,at_+1+1+1+1,g,su,re,sl,pa,ar,lo,bs,ii,t⟩ ⟨2,1+y%5,0,⟨dk,dn,dv⟩,⟨vk,vn,vv⟩,O0,O0⟩ (by show bs.length≤_;omega) (by first|omega|(dsimp only;omega))
 rcases lo with _|ll<;>rcases ii with _|li
 all_goals
  try simp only[j7.l,List.length_nil]at hi
  simp only[MS.rows,MS.put,j7.cell,j7.rows,j7.l,j7.k,r7.cell,r7.rows,r7.l,e8.av,E3.av,A1,M3,O0,List.cons_append,List.nil_append,List.append_nil]at CP
  simp only[MS.rows,MS.put,j7.cell,j7.rows,j7.l,j7.k,r7.cell,r7.rows,r7.l,e8.av,E3.av,A1,M3,O0,List.cons_append,List.nil_append,List.append_nil];refine Zf Tryz.func185 Tryz.ntmps185 ?_
  repeat' (first|refine Za ?_|(with_reducible constructor<;>first|intro N hN mk hmk|intro N hN|intro h)|refine Ze C0 ?_|refine Ze C1 ?_|refine Ze C2 ?_|refine Ze C3 ?_|(refine Zp CP [0,1,2,3] (Zq G9.d (Zq hxx (Zq f0 (Zq f1 f2)))) ?_;with_reducible intro _ _)|(refine Zp CP [0,1,2] (Zq G9.d (Zq hxx (Zq f0 (Zq f1 f2)))) ?_;with_reducible intro _ _)|(refine Zp CP [0,1] (Zq G9.d (Zq hxx (Zq f0 (Zq f1 f2)))) ?_;with_reducible intro _ _)|refine Zt (Zq G9.d (Zq hxx (Zq f0 (Zq f1 f2)))) ?_|fail)
  (first|(refine Zr (()) [0,168,169,170] (Zq G9.d (Zq hxx (Zq f0 (Zq f1 f2)))) ?_)|(refine Zr (()) [0,168,169] (Zq G9.d (Zq hxx (Zq f0 (Zq f1 f2)))) ?_))
  trivial
theorem b72(L:List Int)(at_ g su re sl pa:Int)(ar:List cQ)(lo:r7)(ii:j7)(bs:List b6)(t:o6)(h:iI ⟨L,at_,g,su,re,sl,pa,ar,lo,bs,ii,t⟩ 900000)(hc:a7 L at_%16=8):y0 Tryz.prog 185 [.ptr 0 0 0] (MS.rows ⟨L,at_,g,su,re,sl,pa,ar,lo,bs,ii,t⟩) 1 (fun _:Unit=>True) (fun _=> .O4 []) (fun _=>(MS.inst ⟨L,at_,g,su,re,sl,pa,ar,lo,bs,ii,t⟩).rows):=by
 obtain⟨hL,h0,hb,hi,ha,hal⟩:=h
 dsimp only at hL h0 hb hi ha hal
 have C0:=p0 L at_ (by omega) hL
 have hx:=j4 hL h0.1
 have C1:=Y0 L (at_+1) (by omega) hL
 have C2:=eE L (at_+1+1) (by omega) hL
 have C3:=eE L (at_+1+1+1) (by omega) hL
 have C4:=eE L (at_+1+1+1+1) (by omega) hL
 obtain⟨x,hxx⟩:∃x,a7 L at_%16=x:=⟨_,rfl⟩
 rw[hxx]at hc
 have f0:(x<3)=False:=by simp only[eq_iff_iff,iff_true,iff_false];omega
 have f1:(x<7)=False:=by simp only[eq_iff_iff,iff_true,iff_false];omega
 have f2:(x=7)=False:=by simp only[eq_iff_iff,iff_true,iff_false];omega
 have f3:(x=8)=True:=by simp only[eq_iff_iff,iff_true,iff_false];omega
 have e:MS.inst ⟨L,at_,g,su,re,sl,pa,ar,lo,bs,ii,t⟩=(⟨L,at_+1+1+1+1+1,g,su,re,sl,pa,ar,lo,bs,ii,t⟩:MS).put (W9 L at_):=by
  unfold MS.inst iS
  simp only[hxx]
  rw[if_pos (by omega)]
  simp only[f0,f1,f2,f3,if_true,if_false]
 rw[e]
 have e2:W9 L at_=⟨4,0,0,E8 L (at_+1),V0 L (at_+1+1),V0 L (at_+1+1+1),V0 L (at_+1+1+1+1)⟩:=by
  unfold W9
  simp only[hxx,f0,f1,f2,f3,if_true,if_false]
 rw[e2]
 clear e e2
 generalize E8 L (at_+1)=d at*
 obtain⟨dk,dn,dv⟩:=d
 generalize V0 L (at_+1+1)=v at*
 obtain⟨vk,vn,vv⟩:=v
 generalize V0 L (at_+1+1+1)=v2 at*
 obtain⟨v2k,v2n,v2v⟩:=v2
 generalize V0 L (at_+1+1+1+1)=v3 at*
 obtain⟨v3k,v3n,v3v⟩:=v3
 generalize a7 L at_=z at*
 have CP:=P4 ⟨L,at_+1+1+1+1+1,g,su,re,sl,pa,ar,lo,bs,ii,t⟩ ⟨4,0,0,⟨dk,dn,dv⟩,⟨vk,vn,vv⟩,⟨v2k,v2n,v2v⟩,⟨v3k,v3n,v3v⟩⟩ (by show bs.length≤_;omega) (by first|omega|(dsimp only;omega))
 rcases lo with _|ll<;>rcases ii with _|li
 all_goals
  try simp only[j7.l,List.length_nil]at hi
  simp only[MS.rows,MS.put,j7.cell,j7.rows,j7.l,j7.k,r7.cell,r7.rows,r7.l,e8.av,E3.av,A1,M3,O0,List.cons_append,List.nil_append,List.append_nil]at CP
  simp only[MS.rows,MS.put,j7.cell,j7.rows,j7.l,j7.k,r7.cell,r7.rows,r7.l,e8.av,E3.av,A1,M3,O0,List.cons_append,List.nil_append,List.append_nil];refine Zf Tryz.func185 Tryz.ntmps185 ?_
  repeat' (first|refine Za ?_|(with_reducible constructor<;>first|intro N hN mk hmk|intro N hN|intro h)|refine Ze C0 ?_|refine Ze C1 ?_|refine Ze C2 ?_|refine Ze C3 ?_|refine Ze C4 ?_|(refine Zp CP [0,1,2,3] (Zq G9.d (Zq hxx (Zq f0 (Zq f1 (Zq f2 f3))))) ?_;with_reducible intro _ _)|(refine Zp CP [0,1,2] (Zq G9.d (Zq hxx (Zq f0 (Zq f1 (Zq f2 f3))))) ?_;with_reducible intro _ _)|(refine Zp CP [0,1] (Zq G9.d (Zq hxx (Zq f0 (Zq f1 (Zq f2 f3))))) ?_;with_reducible intro _ _)|refine Zt (Zq G9.d (Zq hxx (Zq f0 (Zq f1 (Zq f2 f3))))) ?_|fail)
  (first|(refine Zr (()) [0,184,185,186] (Zq G9.d (Zq hxx (Zq f0 (Zq f1 (Zq f2 f3))))) ?_)|(refine Zr (()) [0,184,185] (Zq G9.d (Zq hxx (Zq f0 (Zq f1 (Zq f2 f3))))) ?_))
  trivial
theorem b73(L:List Int)(at_ g su re sl pa:Int)(ar:List cQ)(lo:r7)(ii:j7)(bs:List b6)(t:o6)(h:iI ⟨L,at_,g,su,re,sl,pa,ar,lo,bs,ii,t⟩ 900000)(hc:a7 L at_%16=9):y0 Tryz.prog 185 [.ptr 0 0 0] (MS.rows ⟨L,at_,g,su,re,sl,pa,ar,lo,bs,ii,t⟩) 1 (fun _:Unit=>True) (fun _=> .O4 []) (fun _=>(MS.inst ⟨L,at_,g,su,re,sl,pa,ar,lo,bs,ii,t⟩).rows):=by
 obtain⟨hL,h0,hb,hi,ha,hal⟩:=h
 dsimp only at hL h0 hb hi ha hal
 have C0:=p0 L at_ (by omega) hL
 have hx:=j4 hL h0.1
 have C1:=Y0 L (at_+1) (by omega) hL
 have C2:=eE L (at_+1+1) (by omega) hL
 obtain⟨x,hxx⟩:∃x,a7 L at_%16=x:=⟨_,rfl⟩
 rw[hxx]at hc
 have f0:(x<3)=False:=by simp only[eq_iff_iff,iff_true,iff_false];omega
 have f1:(x<7)=False:=by simp only[eq_iff_iff,iff_true,iff_false];omega
 have f2:(x=7)=False:=by simp only[eq_iff_iff,iff_true,iff_false];omega
 have f3:(x=8)=False:=by simp only[eq_iff_iff,iff_true,iff_false];omega
 have f4:(x=9)=True:=by simp only[eq_iff_iff,iff_true,iff_false];omega
 have e:MS.inst ⟨L,at_,g,su,re,sl,pa,ar,lo,bs,ii,t⟩=(⟨L,at_+1+1+1,g,su,re,sl,pa,ar,lo,bs,ii,t⟩:MS).put (W9 L at_):=by
  unfold MS.inst iS
  simp only[hxx]
  rw[if_pos (by omega)]
  simp only[f0,f1,f2,f3,f4,if_true,if_false]
 rw[e]
 have e2:W9 L at_=⟨1,0,0,E8 L (at_+1),V0 L (at_+1+1),O0,O0⟩:=by
  unfold W9
  simp only[hxx,f0,f1,f2,f3,f4,if_true,if_false]
 rw[e2]
 clear e e2
 generalize E8 L (at_+1)=d at*
 obtain⟨dk,dn,dv⟩:=d
 generalize V0 L (at_+1+1)=v at*
 obtain⟨vk,vn,vv⟩:=v
 generalize a7 L at_=z at*
 have CP:=P4 ⟨L,at_+1+1+1,g,su,re,sl,pa,ar,lo,bs,ii,t⟩ ⟨1,0,0,⟨dk,dn,dv⟩,⟨vk,vn,vv⟩,O0,O0⟩ (by show bs.length≤_;omega) (by first|omega|(dsimp only;omega))
 rcases lo with _|ll<;>rcases ii with _|li
 all_goals
  try simp only[j7.l,List.length_nil]at hi
  simp only[MS.rows,MS.put,j7.cell,j7.rows,j7.l,j7.k,r7.cell,r7.rows,r7.l,e8.av,E3.av,A1,M3,O0,List.cons_append,List.nil_append,List.append_nil]at CP
  simp only[MS.rows,MS.put,j7.cell,j7.rows,j7.l,j7.k,r7.cell,r7.rows,r7.l,e8.av,E3.av,A1,M3,O0,List.cons_append,List.nil_append,List.append_nil];refine Zf Tryz.func185 Tryz.ntmps185 ?_
  repeat' (first|refine Za ?_|(with_reducible constructor<;>first|intro N hN mk hmk|intro N hN|intro h)|refine Ze C0 ?_|refine Ze C1 ?_|refine Ze C2 ?_|(refine Zp CP [0,1,2,3] (Zq G9.d (Zq hxx (Zq f0 (Zq f1 (Zq f2 (Zq f3 f4)))))) ?_;with_reducible intro _ _)|(refine Zp CP [0,1,2] (Zq G9.d (Zq hxx (Zq f0 (Zq f1 (Zq f2 (Zq f3 f4)))))) ?_;with_reducible intro _ _)|(refine Zp CP [0,1] (Zq G9.d (Zq hxx (Zq f0 (Zq f1 (Zq f2 (Zq f3 f4)))))) ?_;with_reducible intro _ _)|refine Zt (Zq G9.d (Zq hxx (Zq f0 (Zq f1 (Zq f2 (Zq f3 f4)))))) ?_|fail)
  (first|(refine Zr (()) [0,168,169,170] (Zq G9.d (Zq hxx (Zq f0 (Zq f1 (Zq f2 (Zq f3 f4)))))) ?_)|(refine Zr (()) [0,168,169] (Zq G9.d (Zq hxx (Zq f0 (Zq f1 (Zq f2 (Zq f3 f4)))))) ?_))
  trivial
theorem b74(L:List Int)(at_ g su re sl pa:Int)(ar:List cQ)(lo:r7)(ii:j7)(bs:List b6)(t:o6)(h:iI ⟨L,at_,g,su,re,sl,pa,ar,lo,bs,ii,t⟩ 900000)(hc:a7 L at_%16=10):y0 Tryz.prog 185 [.ptr 0 0 0] (MS.rows ⟨L,at_,g,su,re,sl,pa,ar,lo,bs,ii,t⟩) 1 (fun _:Unit=>True) (fun _=> .O4 []) (fun _=>(MS.inst ⟨L,at_,g,su,re,sl,pa,ar,lo,bs,ii,t⟩).rows):=by
 obtain⟨hL,h0,hb,hi,ha,hal⟩:=h
 dsimp only at hL h0 hb hi ha hal
 have C0:=p0 L at_ (by omega) hL
 have hx:=j4 hL h0.1
 have C1:=p0 L (at_+1) (by omega) hL
 have hy:=j4 hL (show(0:Int)≤at_+1 by omega)
 have C2:=Y0 L (at_+1+1) (by omega) hL
 obtain⟨x,hxx⟩:∃x,a7 L at_%16=x:=⟨_,rfl⟩
 rw[hxx]at hc
 have f0:(x<3)=False:=by simp only[eq_iff_iff,iff_true,iff_false];omega
 have f1:(x<7)=False:=by simp only[eq_iff_iff,iff_true,iff_false];omega
 have f2:(x=7)=False:=by simp only[eq_iff_iff,iff_true,iff_false];omega
 have f3:(x=8)=False:=by simp only[eq_iff_iff,iff_true,iff_false];omega
 have f4:(x=9)=False:=by simp only[eq_iff_iff,iff_true,iff_false];omega
 have f5:(x=10)=True:=by simp only[eq_iff_iff,iff_true,iff_false];omega
 have e:MS.inst ⟨L,at_,g,su,re,sl,pa,ar,lo,bs,ii,t⟩=(⟨L,at_+1+1+1,g,su,re,sl,pa,ar,lo,bs,ii,t⟩:MS).put (W9 L at_):=by
  unfold MS.inst iS
  simp only[hxx]
  rw[if_pos (by omega)]
  simp only[f0,f1,f2,f3,f4,f5,if_true,if_false]
 rw[e]
 have e2:W9 L at_=⟨6,0,a7 L (at_+1)%3,E8 L (at_+1+1),O0,O0,O0⟩:=by
  unfold W9
  simp only[hxx,f0,f1,f2,f3,f4,f5,if_true,if_false]
 rw[e2]
 clear e e2
 generalize a7 L (at_+1)=y at*
 generalize E8 L (at_+1+1)=d at*
 obtain⟨dk,dn,dv⟩:=d
 generalize a7 L at_=z at*
 have CP:=P4 ⟨L,at_+1+1+1,g,su,re,sl,pa,ar,lo,bs,ii,t⟩ ⟨6,0,y%3,⟨dk,dn,dv⟩,O0,O0,O0⟩ (by show bs.length≤_;omega) (by first|omega|(dsimp only;omega))
 rcases lo with _|ll<;>rcases ii with _|li
 all_goals
  try simp only[j7.l,List.length_nil]at hi
  simp only[MS.rows,MS.put,j7.cell,j7.rows,j7.l,j7.k,r7.cell,r7.rows,r7.l,e8.av,E3.av,A1,M3,O0,List.cons_append,List.nil_append,List.append_nil]at CP
  simp only[MS.rows,MS.put,j7.cell,j7.rows,j7.l,j7.k,r7.cell,r7.rows,r7.l,e8.av,E3.av,A1,M3,O0,List.cons_append,List.nil_append,List.append_nil];refine Zf Tryz.func185 Tryz.ntmps185 ?_
  repeat' (first|refine Za ?_|(with_reducible constructor<;>first|intro N hN mk hmk|intro N hN|intro h)|refine Ze C0 ?_|refine Ze C1 ?_|refine Ze C2 ?_|(refine Zp CP [0,1,2,3] (Zq G9.d (Zq hxx (Zq f0 (Zq f1 (Zq f2 (Zq f3 (Zq f4 f5))))))) ?_;with_reducible intro _ _)|(refine Zp CP [0,1,2] (Zq G9.d (Zq hxx (Zq f0 (Zq f1 (Zq f2 (Zq f3 (Zq f4 f5))))))) ?_;with_reducible intro _ _)|(refine Zp CP [0,1] (Zq G9.d (Zq hxx (Zq f0 (Zq f1 (Zq f2 (Zq f3 (Zq f4 f5))))))) ?_;with_reducible intro _ _)|refine Zt (Zq G9.d (Zq hxx (Zq f0 (Zq f1 (Zq f2 (Zq f3 (Zq f4 f5))))))) ?_|fail)
  (first|(refine Zr (()) [0,192,193,194] (Zq G9.d (Zq hxx (Zq f0 (Zq f1 (Zq f2 (Zq f3 (Zq f4 f5))))))) ?_)|(refine Zr (()) [0,192,193] (Zq G9.d (Zq hxx (Zq f0 (Zq f1 (Zq f2 (Zq f3 (Zq f4 f5))))))) ?_))
  trivial
theorem b75(L:List Int)(at_ g su re sl pa:Int)(ar:List cQ)(lo:r7)(ii:j7)(bs:List b6)(t:o6)(h:iI ⟨L,at_,g,su,re,sl,pa,ar,lo,bs,ii,t⟩ 900000)(hc:a7 L at_%16=11):y0 Tryz.prog 185 [.ptr 0 0 0] (MS.rows ⟨L,at_,g,su,re,sl,pa,ar,lo,bs,ii,t⟩) 1 (fun _:Unit=>True) (fun _=> .O4 []) (fun _=>(MS.inst ⟨L,at_,g,su,re,sl,pa,ar,lo,bs,ii,t⟩).rows):=by
 obtain⟨hL,h0,hb,hi,ha,hal⟩:=h
 dsimp only at hL h0 hb hi ha hal
 have C0:=p0 L at_ (by omega) hL
 have hx:=j4 hL h0.1
 have C1:=p0 L (at_+1) (by omega) hL
 have hy:=j4 hL (show(0:Int)≤at_+1 by omega)
 obtain⟨x,hxx⟩:∃x,a7 L at_%16=x:=⟨_,rfl⟩
 rw[hxx]at hc
 have f0:(x<3)=False:=by simp only[eq_iff_iff,iff_true,iff_false];omega
 have f1:(x<7)=False:=by simp only[eq_iff_iff,iff_true,iff_false];omega
 have f2:(x=7)=False:=by simp only[eq_iff_iff,iff_true,iff_false];omega
 have f3:(x=8)=False:=by simp only[eq_iff_iff,iff_true,iff_false];omega
 have f4:(x=9)=False:=by simp only[eq_iff_iff,iff_true,iff_false];omega
 have f5:(x=10)=False:=by simp only[eq_iff_iff,iff_true,iff_false];omega
 have f6:(x=11)=True:=by simp only[eq_iff_iff,iff_true,iff_false];omega
 have e:MS.inst ⟨L,at_,g,su,re,sl,pa,ar,lo,bs,ii,t⟩=(⟨L,at_+1+1,g,su,re,sl,pa,ar,lo,bs,ii,t⟩:MS).put (W9 L at_):=by
  unfold MS.inst iS
  simp only[hxx]
  rw[if_pos (by omega)]
  simp only[f0,f1,f2,f3,f4,f5,f6,if_true,if_false]
 rw[e]
 have e2:W9 L at_=⟨10,1+a7 L (at_+1)%2,0,O0,O0,O0,O0⟩:=by
  unfold W9
  simp only[hxx,f0,f1,f2,f3,f4,f5,f6,if_true,if_false]
 rw[e2]
 clear e e2
 generalize a7 L (at_+1)=y at*
 generalize a7 L at_=z at*
 have CP:=P4 ⟨L,at_+1+1,g,su,re,sl,pa,ar,lo,bs,ii,t⟩ ⟨10,1+y%2,0,O0,O0,O0,O0⟩ (by show bs.length≤_;omega) (by first|omega|(dsimp only;omega))
 rcases lo with _|ll<;>rcases ii with _|li
 all_goals
  try simp only[j7.l,List.length_nil]at hi
  simp only[MS.rows,MS.put,j7.cell,j7.rows,j7.l,j7.k,r7.cell,r7.rows,r7.l,e8.av,E3.av,A1,M3,O0,List.cons_append,List.nil_append,List.append_nil]at CP
  simp only[MS.rows,MS.put,j7.cell,j7.rows,j7.l,j7.k,r7.cell,r7.rows,r7.l,e8.av,E3.av,A1,M3,O0,List.cons_append,List.nil_append,List.append_nil];refine Zf Tryz.func185 Tryz.ntmps185 ?_
  repeat' (first|refine Za ?_|(with_reducible constructor<;>first|intro N hN mk hmk|intro N hN|intro h)|refine Ze C0 ?_|refine Ze C1 ?_|(refine Zp CP [0,1,2,3] (Zq G9.d (Zq hxx (Zq f0 (Zq f1 (Zq f2 (Zq f3 (Zq f4 (Zq f5 f6)))))))) ?_;with_reducible intro _ _)|(refine Zp CP [0,1,2] (Zq G9.d (Zq hxx (Zq f0 (Zq f1 (Zq f2 (Zq f3 (Zq f4 (Zq f5 f6)))))))) ?_;with_reducible intro _ _)|(refine Zp CP [0,1] (Zq G9.d (Zq hxx (Zq f0 (Zq f1 (Zq f2 (Zq f3 (Zq f4 (Zq f5 f6)))))))) ?_;with_reducible intro _ _)|refine Zt (Zq G9.d (Zq hxx (Zq f0 (Zq f1 (Zq f2 (Zq f3 (Zq f4 (Zq f5 f6)))))))) ?_|fail)
  (first|(refine Zr (()) [0,200,201,202] (Zq G9.d (Zq hxx (Zq f0 (Zq f1 (Zq f2 (Zq f3 (Zq f4 (Zq f5 f6)))))))) ?_)|(refine Zr (()) [0,200,201] (Zq G9.d (Zq hxx (Zq f0 (Zq f1 (Zq f2 (Zq f3 (Zq f4 (Zq f5 f6)))))))) ?_))
  trivial
end Go.Proofs.YtgdoiokalfhjoaaGreatDoor
end
