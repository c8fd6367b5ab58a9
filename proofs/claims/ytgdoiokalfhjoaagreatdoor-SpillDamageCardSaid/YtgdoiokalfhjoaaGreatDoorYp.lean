/- Own work (by an AI agent; no person has read it): part of a proof of the seat YtgdoiokalfhjoaaGreatDoor. -/
import Derived.Test.YtgdoiokalfhjoaaGreatDoorYn
set_option linter.unusedSimpArgs false
set_option linter.unusedVariables false
set_option maxRecDepth 100000
set_option maxHeartbeats 10000000
section
namespace Go.Proofs.YtgdoiokalfhjoaaGreatDoor
open Go.Ab
def Y1:=ZZ.mk (Zq a3E.d (Zq @b5R (Zq @b21 (Zq @I2 (Zq @iM (Zq @eP (Zq @a23 (Zq @m9 (Zq @cH (Zq @E3.av.eq_1 (Zq @A3.eq_1 (Zq @L7.eq_1 @O0.eq_1))))))))))))
theorem b66(L:List Int)(at_ g su re sl pa:Int)(ar:List cN)(lo:r9)(ii:j4)(bs:List b6)(t:q9)(h:gD ⟨L,at_,g,su,re,sl,pa,ar,lo,bs,ii,t⟩ 800000)(hc:a7 L at_%16=12):y6 Tryz.prog 185 [.ptr 0 0 0] (MS.rows ⟨L,at_,g,su,re,sl,pa,ar,lo,bs,ii,t⟩) 1 (fun _:Unit=>True) (fun _=> .O2 []) (fun _=>(MS.inst ⟨L,at_,g,su,re,sl,pa,ar,lo,bs,ii,t⟩).rows):=by
 have ha6:qS.length=6:=rfl
 obtain⟨hL,h0,hb,hi,ha,hal⟩:=h
 dsimp only at hL h0 hb hi ha hal
 have C0:=p0 L at_ (by omega) hL
 have hx:=j0 hL h0.1
 have C1:=p0 L (at_+1+1+1+1) (by omega) hL
 have hy:=j0 hL (show(0:Int)≤at_+1+1+1+1 by omega)
 have C2:=dU L (at_+1+1+1+1+1) (by omega) hL
 have hI:(ii:j4).l.length≤900000:=by first|omega|(dsimp only;omega)
 have CPL:=yI ⟨L,at_+1,g,su,re,sl,pa,ar,lo,bs,ii,t⟩ false ⟨hL,by show 0≤at_+1∧at_+1≤900000;omega,hb,by show(ii:j4).l.length≤(900000:Int);omega,ha,hal⟩
 obtain⟨x,hxx⟩:∃x,a7 L at_%16=x:=⟨_,rfl⟩
 rw[hxx]at hc
 have f0:(x<3)=False:=by simp only[eq_iff_iff,iff_true,iff_false];omega
 have f1:(x<7)=False:=by simp only[eq_iff_iff,iff_true,iff_false];omega
 have f2:(x=7)=False:=by simp only[eq_iff_iff,iff_true,iff_false];omega
 have f3:(x=8)=False:=by simp only[eq_iff_iff,iff_true,iff_false];omega
 have f4:(x=9)=False:=by simp only[eq_iff_iff,iff_true,iff_false];omega
 have f5:(x=10)=False:=by simp only[eq_iff_iff,iff_true,iff_false];omega
 have f6:(x=11)=False:=by simp only[eq_iff_iff,iff_true,iff_false];omega
 have f7:(x=12)=True:=by simp only[eq_iff_iff,iff_true,iff_false];omega
 obtain⟨n,hn⟩:∃n,pn ⟨L,at_+1,g,su,re,sl,pa,ar,lo,bs,ii,t⟩ false=n:=⟨_,rfl⟩
 obtain⟨pi,hpi⟩:∃pi,MS.yH ⟨L,at_+1,g,su,re,sl,pa,ar,lo,bs,ii,t⟩ false=pi:=⟨_,rfl⟩
 have e:MS.inst ⟨L,at_,g,su,re,sl,pa,ar,lo,bs,ii,t⟩=(⟨L,at_+1+1+1+1+1+1,g,su,re,sl,pa,ar,lo,bs,.own (ii.l++[pi]),t⟩:MS).put (gR L x (at_+1+1+1+1) n (E7 L (at_+1+1))):=by
  unfold MS.inst
  simp only[hxx]
  rw[if_neg (by omega)]
  simp only[f7,not_true_eq_false,not_false_eq_true,decide_true,decide_false,if_true,if_false]
  rw[hn]
  unfold MS.place
  rw[hpi]
  rfl
 rw[e]
 have e2:gR L x (at_+1+1+1+1) n (E7 L (at_+1+1))=⟨9,qS.getD (a7 L (at_+1+1+1+1)%6).toNat 0,n,O0,E7 L (at_+1+1),V5 L (at_+1+1+1+1+1),O0⟩:=by
  unfold gR
  simp only[f0,f1,f2,f3,f4,f5,f6,f7,if_true,if_false]
 rw[e2]
 clear e e2
 simp only[hn,MS.place,hpi]at CPL
 generalize E7 L (at_+1+1)=d at*
 obtain⟨dk,dn,dv⟩:=d
 generalize a7 L (at_+1+1+1+1)=y at*
 generalize V5 L (at_+1+1+1+1+1)=v at*
 obtain⟨vk,vn,vv⟩:=v
 clear hn hpi
 generalize a7 L at_=z at*
 have CP:=O8 ⟨L,at_+1+1+1+1+1+1,g,su,re,sl,pa,ar,lo,bs,.own (ii.l++[pi]),t⟩ ⟨9,qS.getD (y%6).toNat 0,n,O0,⟨dk,dn,dv⟩,⟨vk,vn,vv⟩,O0⟩ (by show bs.length≤_;omega) (by show(ii.l++[pi]).length≤_;simp only[List.length_append,List.length_cons,List.length_nil];omega)
 rcases lo with _|ll<;>rcases ii with _|li
 all_goals
  try simp only[j4.l,List.length_nil]at hi
  simp only[MS.rows,MS.put,j4.cell,j4.rows,j4.l,j4.k,r9.cell,r9.rows,r9.l,e7.av,E3.av,A3,L7,O0,List.cons_append,List.nil_append,List.append_nil,List.length_append,List.length_cons,List.length_nil,Nat.zero_add]at CP CPL
  simp only[MS.rows,MS.put,j4.cell,j4.rows,j4.l,j4.k,r9.cell,r9.rows,r9.l,e7.av,E3.av,A3,L7,O0,List.cons_append,List.nil_append,List.append_nil];refine Zf Tryz.func185 Tryz.ntmps185 ?_
  repeat' (first|refine Zl ?_|(with_reducible constructor<;>first|intro N hN mk hmk|intro N hN|intro h)|refine Ze C0 ?_|refine Ze C1 ?_|refine Ze C2 ?_|(refine Zp CPL [0,1,2,3] (Zq Y1.d (Zq hxx (Zq f0 (Zq f1 (Zq f2 (Zq f3 (Zq f4 (Zq f5 (Zq f6 f7))))))))) ?_;with_reducible intro _ _)|(refine Zp CPL [0,1,2] (Zq Y1.d (Zq hxx (Zq f0 (Zq f1 (Zq f2 (Zq f3 (Zq f4 (Zq f5 (Zq f6 f7))))))))) ?_;with_reducible intro _ _)|(refine Zp CPL [0,1] (Zq Y1.d (Zq hxx (Zq f0 (Zq f1 (Zq f2 (Zq f3 (Zq f4 (Zq f5 (Zq f6 f7))))))))) ?_;with_reducible intro _ _)|(refine Zp CP [0,176,177,178] (Zq Y1.d (Zq hxx (Zq f0 (Zq f1 (Zq f2 (Zq f3 (Zq f4 (Zq f5 (Zq f6 f7))))))))) ?_;with_reducible intro _ _)|(refine Zp CP [0,176,177] (Zq Y1.d (Zq hxx (Zq f0 (Zq f1 (Zq f2 (Zq f3 (Zq f4 (Zq f5 (Zq f6 f7))))))))) ?_;with_reducible intro _ _)|refine Zt (Zq Y1.d (Zq hxx (Zq f0 (Zq f1 (Zq f2 (Zq f3 (Zq f4 (Zq f5 (Zq f6 f7))))))))) ?_|fail)
  (first|(refine Zr (()) [0,328,329,330] (Zq Y1.d (Zq hxx (Zq f0 (Zq f1 (Zq f2 (Zq f3 (Zq f4 (Zq f5 (Zq f6 f7))))))))) ?_)|(refine Zr (()) [0,328,329] (Zq Y1.d (Zq hxx (Zq f0 (Zq f1 (Zq f2 (Zq f3 (Zq f4 (Zq f5 (Zq f6 f7))))))))) ?_))
  trivial
theorem b67(L:List Int)(at_ g su re sl pa:Int)(ar:List cN)(lo:r9)(ii:j4)(bs:List b6)(t:q9)(h:gD ⟨L,at_,g,su,re,sl,pa,ar,lo,bs,ii,t⟩ 800000)(hc:a7 L at_%16=13):y6 Tryz.prog 185 [.ptr 0 0 0] (MS.rows ⟨L,at_,g,su,re,sl,pa,ar,lo,bs,ii,t⟩) 1 (fun _:Unit=>True) (fun _=> .O2 []) (fun _=>(MS.inst ⟨L,at_,g,su,re,sl,pa,ar,lo,bs,ii,t⟩).rows):=by
 have ha6:qS.length=6:=rfl
 obtain⟨hL,h0,hb,hi,ha,hal⟩:=h
 dsimp only at hL h0 hb hi ha hal
 have C0:=p0 L at_ (by omega) hL
 have hx:=j0 hL h0.1
 have C2:=X9 L (at_+1+1+1+1) (by omega) hL
 have hI:(ii:j4).l.length≤900000:=by first|omega|(dsimp only;omega)
 have CPL:=yI ⟨L,at_+1,g,su,re,sl,pa,ar,lo,bs,ii,t⟩ true ⟨hL,by show 0≤at_+1∧at_+1≤900000;omega,hb,by show(ii:j4).l.length≤(900000:Int);omega,ha,hal⟩
 obtain⟨x,hxx⟩:∃x,a7 L at_%16=x:=⟨_,rfl⟩
 rw[hxx]at hc
 have f0:(x<3)=False:=by simp only[eq_iff_iff,iff_true,iff_false];omega
 have f1:(x<7)=False:=by simp only[eq_iff_iff,iff_true,iff_false];omega
 have f2:(x=7)=False:=by simp only[eq_iff_iff,iff_true,iff_false];omega
 have f3:(x=8)=False:=by simp only[eq_iff_iff,iff_true,iff_false];omega
 have f4:(x=9)=False:=by simp only[eq_iff_iff,iff_true,iff_false];omega
 have f5:(x=10)=False:=by simp only[eq_iff_iff,iff_true,iff_false];omega
 have f6:(x=11)=False:=by simp only[eq_iff_iff,iff_true,iff_false];omega
 have f7:(x=12)=False:=by simp only[eq_iff_iff,iff_true,iff_false];omega
 have f8:(x=13)=True:=by simp only[eq_iff_iff,iff_true,iff_false];omega
 obtain⟨n,hn⟩:∃n,pn ⟨L,at_+1,g,su,re,sl,pa,ar,lo,bs,ii,t⟩ true=n:=⟨_,rfl⟩
 obtain⟨pi,hpi⟩:∃pi,MS.yH ⟨L,at_+1,g,su,re,sl,pa,ar,lo,bs,ii,t⟩ true=pi:=⟨_,rfl⟩
 have e:MS.inst ⟨L,at_,g,su,re,sl,pa,ar,lo,bs,ii,t⟩=(⟨L,at_+1+1+1+1+1,g,su,re,sl,pa,ar,lo,bs,.own (ii.l++[pi]),t⟩:MS).put (gR L x (at_+1+1+1+1) n (E7 L (at_+1+1))):=by
  unfold MS.inst
  simp only[hxx]
  rw[if_neg (by omega)]
  simp only[f7,not_true_eq_false,not_false_eq_true,decide_true,decide_false,if_true,if_false]
  rw[hn]
  unfold MS.place
  rw[hpi]
  rfl
 rw[e]
 have e2:gR L x (at_+1+1+1+1) n (E7 L (at_+1+1))=⟨7,0,n,E7 L (at_+1+1+1+1),E7 L (at_+1+1),O0,O0⟩:=by
  unfold gR
  simp only[f0,f1,f2,f3,f4,f5,f6,f7,f8,if_true,if_false]
 rw[e2]
 clear e e2
 simp only[hn,MS.place,hpi]at CPL
 generalize E7 L (at_+1+1)=d at*
 obtain⟨dk,dn,dv⟩:=d
 generalize E7 L (at_+1+1+1+1)=d2 at*
 obtain⟨d2k,d2n,d2v⟩:=d2
 clear hn hpi
 generalize a7 L at_=z at*
 have CP:=O8 ⟨L,at_+1+1+1+1+1,g,su,re,sl,pa,ar,lo,bs,.own (ii.l++[pi]),t⟩ ⟨7,0,n,⟨d2k,d2n,d2v⟩,⟨dk,dn,dv⟩,O0,O0⟩ (by show bs.length≤_;omega) (by show(ii.l++[pi]).length≤_;simp only[List.length_append,List.length_cons,List.length_nil];omega)
 rcases lo with _|ll<;>rcases ii with _|li
 all_goals
  try simp only[j4.l,List.length_nil]at hi
  simp only[MS.rows,MS.put,j4.cell,j4.rows,j4.l,j4.k,r9.cell,r9.rows,r9.l,e7.av,E3.av,A3,L7,O0,List.cons_append,List.nil_append,List.append_nil,List.length_append,List.length_cons,List.length_nil,Nat.zero_add]at CP CPL
  simp only[MS.rows,MS.put,j4.cell,j4.rows,j4.l,j4.k,r9.cell,r9.rows,r9.l,e7.av,E3.av,A3,L7,O0,List.cons_append,List.nil_append,List.append_nil];refine Zf Tryz.func185 Tryz.ntmps185 ?_
  repeat' (first|refine Zl ?_|(with_reducible constructor<;>first|intro N hN mk hmk|intro N hN|intro h)|refine Ze C0 ?_|refine Ze C2 ?_|(refine Zp CPL [0,1,2,3] (Zq Y1.d (Zq hxx (Zq f0 (Zq f1 (Zq f2 (Zq f3 (Zq f4 (Zq f5 (Zq f6 (Zq f7 f8)))))))))) ?_;with_reducible intro _ _)|(refine Zp CPL [0,1,2] (Zq Y1.d (Zq hxx (Zq f0 (Zq f1 (Zq f2 (Zq f3 (Zq f4 (Zq f5 (Zq f6 (Zq f7 f8)))))))))) ?_;with_reducible intro _ _)|(refine Zp CPL [0,1] (Zq Y1.d (Zq hxx (Zq f0 (Zq f1 (Zq f2 (Zq f3 (Zq f4 (Zq f5 (Zq f6 (Zq f7 f8)))))))))) ?_;with_reducible intro _ _)|(refine Zp CP [0,176,177,178] (Zq Y1.d (Zq hxx (Zq f0 (Zq f1 (Zq f2 (Zq f3 (Zq f4 (Zq f5 (Zq f6 (Zq f7 f8)))))))))) ?_;with_reducible intro _ _)|(refine Zp CP [0,176,177] (Zq Y1.d (Zq hxx (Zq f0 (Zq f1 (Zq f2 (Zq f3 (Zq f4 (Zq f5 (Zq f6 (Zq f7 f8)))))))))) ?_;with_reducible intro _ _)|refine Zt (Zq Y1.d (Zq hxx (Zq f0 (Zq f1 (Zq f2 (Zq f3 (Zq f4 (Zq f5 (Zq f6 (Zq f7 f8)))))))))) ?_|fail)
  (first|(refine Zr (()) [0,296,297,298] (Zq Y1.d (Zq hxx (Zq f0 (Zq f1 (Zq f2 (Zq f3 (Zq f4 (Zq f5 (Zq f6 (Zq f7 f8)))))))))) ?_)|(refine Zr (()) [0,296,297] (Zq Y1.d (Zq hxx (Zq f0 (Zq f1 (Zq f2 (Zq f3 (Zq f4 (Zq f5 (Zq f6 (Zq f7 f8)))))))))) ?_))
  trivial
theorem b68(L:List Int)(at_ g su re sl pa:Int)(ar:List cN)(lo:r9)(ii:j4)(bs:List b6)(t:q9)(h:gD ⟨L,at_,g,su,re,sl,pa,ar,lo,bs,ii,t⟩ 800000)(hc:14≤a7 L at_%16):y6 Tryz.prog 185 [.ptr 0 0 0] (MS.rows ⟨L,at_,g,su,re,sl,pa,ar,lo,bs,ii,t⟩) 1 (fun _:Unit=>True) (fun _=> .O2 []) (fun _=>(MS.inst ⟨L,at_,g,su,re,sl,pa,ar,lo,bs,ii,t⟩).rows):=by
 have ha6:qS.length=6:=rfl
 obtain⟨hL,h0,hb,hi,ha,hal⟩:=h
 dsimp only at hL h0 hb hi ha hal
 have C0:=p0 L at_ (by omega) hL
 have hx:=j0 hL h0.1
 have C2:=dU L (at_+1+1+1+1) (by omega) hL
 have hI:(ii:j4).l.length≤900000:=by first|omega|(dsimp only;omega)
 have CPL:=yI ⟨L,at_+1,g,su,re,sl,pa,ar,lo,bs,ii,t⟩ true ⟨hL,by show 0≤at_+1∧at_+1≤900000;omega,hb,by show(ii:j4).l.length≤(900000:Int);omega,ha,hal⟩
 obtain⟨x,hxx⟩:∃x,a7 L at_%16=x:=⟨_,rfl⟩
 rw[hxx]at hc
 have f0:(x<3)=False:=by simp only[eq_iff_iff,iff_true,iff_false];omega
 have f1:(x<7)=False:=by simp only[eq_iff_iff,iff_true,iff_false];omega
 have f2:(x=7)=False:=by simp only[eq_iff_iff,iff_true,iff_false];omega
 have f3:(x=8)=False:=by simp only[eq_iff_iff,iff_true,iff_false];omega
 have f4:(x=9)=False:=by simp only[eq_iff_iff,iff_true,iff_false];omega
 have f5:(x=10)=False:=by simp only[eq_iff_iff,iff_true,iff_false];omega
 have f6:(x=11)=False:=by simp only[eq_iff_iff,iff_true,iff_false];omega
 have f7:(x=12)=False:=by simp only[eq_iff_iff,iff_true,iff_false];omega
 have f8:(x=13)=False:=by simp only[eq_iff_iff,iff_true,iff_false];omega
 obtain⟨n,hn⟩:∃n,pn ⟨L,at_+1,g,su,re,sl,pa,ar,lo,bs,ii,t⟩ true=n:=⟨_,rfl⟩
 obtain⟨pi,hpi⟩:∃pi,MS.yH ⟨L,at_+1,g,su,re,sl,pa,ar,lo,bs,ii,t⟩ true=pi:=⟨_,rfl⟩
 have e:MS.inst ⟨L,at_,g,su,re,sl,pa,ar,lo,bs,ii,t⟩=(⟨L,at_+1+1+1+1+1,g,su,re,sl,pa,ar,lo,bs,.own (ii.l++[pi]),t⟩:MS).put (gR L x (at_+1+1+1+1) n (E7 L (at_+1+1))):=by
  unfold MS.inst
  simp only[hxx]
  rw[if_neg (by omega)]
  simp only[f7,not_true_eq_false,not_false_eq_true,decide_true,decide_false,if_true,if_false]
  rw[hn]
  unfold MS.place
  rw[hpi]
  rfl
 rw[e]
 have e2:gR L x (at_+1+1+1+1) n (E7 L (at_+1+1))=⟨8,0,n,O0,E7 L (at_+1+1),V5 L (at_+1+1+1+1),O0⟩:=by
  unfold gR
  simp only[f0,f1,f2,f3,f4,f5,f6,f7,f8,if_true,if_false]
 rw[e2]
 clear e e2
 simp only[hn,MS.place,hpi]at CPL
 generalize E7 L (at_+1+1)=d at*
 obtain⟨dk,dn,dv⟩:=d
 generalize V5 L (at_+1+1+1+1)=v at*
 obtain⟨vk,vn,vv⟩:=v
 clear hn hpi
 generalize a7 L at_=z at*
 have CP:=O8 ⟨L,at_+1+1+1+1+1,g,su,re,sl,pa,ar,lo,bs,.own (ii.l++[pi]),t⟩ ⟨8,0,n,O0,⟨dk,dn,dv⟩,⟨vk,vn,vv⟩,O0⟩ (by show bs.length≤_;omega) (by show(ii.l++[pi]).length≤_;simp only[List.length_append,List.length_cons,List.length_nil];omega)
 rcases lo with _|ll<;>rcases ii with _|li
 all_goals
  try simp only[j4.l,List.length_nil]at hi
  simp only[MS.rows,MS.put,j4.cell,j4.rows,j4.l,j4.k,r9.cell,r9.rows,r9.l,e7.av,E3.av,A3,L7,O0,List.cons_append,List.nil_append,List.append_nil,List.length_append,List.length_cons,List.length_nil,Nat.zero_add]at CP CPL
  simp only[MS.rows,MS.put,j4.cell,j4.rows,j4.l,j4.k,r9.cell,r9.rows,r9.l,e7.av,E3.av,A3,L7,O0,List.cons_append,List.nil_append,List.append_nil];refine Zf Tryz.func185 Tryz.ntmps185 ?_
  repeat' (first|refine Zl ?_|(with_reducible constructor<;>first|intro N hN mk hmk|intro N hN|intro h)|refine Ze C0 ?_|refine Ze C2 ?_|(refine Zp CPL [0,1,2,3] (Zq Y1.d (Zq hxx (Zq f0 (Zq f1 (Zq f2 (Zq f3 (Zq f4 (Zq f5 (Zq f6 (Zq f7 f8)))))))))) ?_;with_reducible intro _ _)|(refine Zp CPL [0,1,2] (Zq Y1.d (Zq hxx (Zq f0 (Zq f1 (Zq f2 (Zq f3 (Zq f4 (Zq f5 (Zq f6 (Zq f7 f8)))))))))) ?_;with_reducible intro _ _)|(refine Zp CPL [0,1] (Zq Y1.d (Zq hxx (Zq f0 (Zq f1 (Zq f2 (Zq f3 (Zq f4 (Zq f5 (Zq f6 (Zq f7 f8)))))))))) ?_;with_reducible intro _ _)|(refine Zp CP [0,176,177,178] (Zq Y1.d (Zq hxx (Zq f0 (Zq f1 (Zq f2 (Zq f3 (Zq f4 (Zq f5 (Zq f6 (Zq f7 f8)))))))))) ?_;with_reducible intro _ _)|(refine Zp CP [0,176,177] (Zq Y1.d (Zq hxx (Zq f0 (Zq f1 (Zq f2 (Zq f3 (Zq f4 (Zq f5 (Zq f6 (Zq f7 f8)))))))))) ?_;with_reducible intro _ _)|refine Zt (Zq Y1.d (Zq hxx (Zq f0 (Zq f1 (Zq f2 (Zq f3 (Zq f4 (Zq f5 (Zq f6 (Zq f7 f8)))))))))) ?_|fail)
  (first|(refine Zr (()) [0,296,297,298] (Zq Y1.d (Zq hxx (Zq f0 (Zq f1 (Zq f2 (Zq f3 (Zq f4 (Zq f5 (Zq f6 (Zq f7 f8)))))))))) ?_)|(refine Zr (()) [0,296,297] (Zq Y1.d (Zq hxx (Zq f0 (Zq f1 (Zq f2 (Zq f3 (Zq f4 (Zq f5 (Zq f6 (Zq f7 f8)))))))))) ?_))
  trivial
end Go.Proofs.YtgdoiokalfhjoaaGreatDoor
end
