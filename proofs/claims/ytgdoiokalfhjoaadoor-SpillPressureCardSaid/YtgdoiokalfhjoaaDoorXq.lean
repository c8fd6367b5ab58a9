/- Own work (by an AI agent; no person has read it): part of a proof of the seat YtgdoiokalfhjoaaDoor. -/
import Derived.Test.YtgdoiokalfhjoaaDoorXo
set_option linter.unusedSimpArgs false
set_option linter.unusedVariables false
set_option maxRecDepth 100000
set_option maxHeartbeats 10000000
section
namespace Go.Proofs.YtgdoiokalfhjoaaDoor
open Go.Ab
def Y6:=ZZ.mk (Zq @b0c (Zq @a7U (Zq @F9 (Zq @bF (Zq @O4 (Zq @V1 (Zq @j4 (Zq @I1 (Zq @x8 (Zq @y7 (Zq @n3 (Zq @p0 (Zq @w8 (Zq @m7 (Zq @l8 (Zq @n9 (Zq @y8 (Zq @s6 (Zq @r8 (Zq @z8 (Zq @q9 (Zq @A2 (Zq @A1 (Zq @z7 (Zq @z6 (Zq @s5 (Zq @j0 (Zq @j3 (Zq @x6 (Zq @H8.av.eq_1 (Zq @B3.eq_1 (Zq @N7.eq_1 @O0.eq_1))))))))))))))))))))))))))))))))
theorem b1l(L:List Int)(at_ g su re sl pa:Int)(ar:List dG)(lo:r6)(ii:j8)(bs:List e8)(t:w4)(h:fL ⟨L,at_,g,su,re,sl,pa,ar,lo,bs,ii,t⟩ 800000)(hc:a8 L at_%16=12):y9 Tryd.prog 42 [.ptr 0 0 0] (MS.rows ⟨L,at_,g,su,re,sl,pa,ar,lo,bs,ii,t⟩) 1 (fun _:Unit=>True) (fun _=> .Q0 []) (fun _=>(MS.inst ⟨L,at_,g,su,re,sl,pa,ar,lo,bs,ii,t⟩).rows):=by
 have ha6:pY.length=6:=rfl
 obtain⟨hL,h0,hb,hi,ha,hal⟩:=h
 dsimp only at hL h0 hb hi ha hal
 have C0:=o9 L at_ (by omega) hL
 have hx:=j6 hL h0.1
 have C1:=o9 L (at_+1+1+1+1) (by omega) hL
 have hy:=j6 hL (show(0:Int)≤at_+1+1+1+1 by omega)
 have C2:=dM L (at_+1+1+1+1+1) (by omega) hL
 have hI:(ii:j8).l.length≤900000:=by first|omega|(dsimp only;omega)
 have CPL:=uY ⟨L,at_+1,g,su,re,sl,pa,ar,lo,bs,ii,t⟩ false ⟨hL,by show 0≤at_+1∧at_+1≤900000;omega,hb,by show(ii:j8).l.length≤(900000:Int);omega,ha,hal⟩
 obtain⟨x,hxx⟩:∃x,a8 L at_%16=x:=⟨_,rfl⟩
 rw[hxx]at hc
 have f0:(x<3)=False:=by simp only[eq_iff_iff,iff_true,iff_false];omega
 have f1:(x<7)=False:=by simp only[eq_iff_iff,iff_true,iff_false];omega
 have f2:(x=7)=False:=by simp only[eq_iff_iff,iff_true,iff_false];omega
 have f3:(x=8)=False:=by simp only[eq_iff_iff,iff_true,iff_false];omega
 have f4:(x=9)=False:=by simp only[eq_iff_iff,iff_true,iff_false];omega
 have f5:(x=10)=False:=by simp only[eq_iff_iff,iff_true,iff_false];omega
 have f6:(x=11)=False:=by simp only[eq_iff_iff,iff_true,iff_false];omega
 have f7:(x=12)=True:=by simp only[eq_iff_iff,iff_true,iff_false];omega
 obtain⟨n,hn⟩:∃n,pn ⟨L,at_+1,g,su,re,sl,pa,ar,lo,bs,ii,t⟩ false=n:=⟨_,rfl⟩
 obtain⟨pi,hpi⟩:∃pi,MS.uX ⟨L,at_+1,g,su,re,sl,pa,ar,lo,bs,ii,t⟩ false=pi:=⟨_,rfl⟩
 have e:MS.inst ⟨L,at_,g,su,re,sl,pa,ar,lo,bs,ii,t⟩=(⟨L,at_+1+1+1+1+1+1,g,su,re,sl,pa,ar,lo,bs,.own (ii.l++[pi]),t⟩:MS).put (fV L x (at_+1+1+1+1) n (G9 L (at_+1+1))):=by
  unfold MS.inst
  simp only[hxx]
  rw[if_neg (by omega)]
  simp only[f7,not_true_eq_false,not_false_eq_true,decide_true,decide_false,if_true,if_false]
  rw[hn]
  unfold MS.place
  rw[hpi]
  rfl
 rw[e]
 have e2:fV L x (at_+1+1+1+1) n (G9 L (at_+1+1))=⟨9,pY.getD (a8 L (at_+1+1+1+1)%6).toNat 0,n,O0,G9 L (at_+1+1),V6 L (at_+1+1+1+1+1),O0⟩:=by
  unfold fV
  simp only[f0,f1,f2,f3,f4,f5,f6,f7,if_true,if_false]
 rw[e2]
 clear e e2
 simp only[hn,MS.place,hpi]at CPL
 generalize G9 L (at_+1+1)=d at*
 obtain⟨dk,dn,dv⟩:=d
 generalize a8 L (at_+1+1+1+1)=y at*
 generalize V6 L (at_+1+1+1+1+1)=v at*
 obtain⟨vk,vn,vv⟩:=v
 clear hn hpi
 generalize a8 L at_=z at*
 have CP:=S3 ⟨L,at_+1+1+1+1+1+1,g,su,re,sl,pa,ar,lo,bs,.own (ii.l++[pi]),t⟩ ⟨9,pY.getD (y%6).toNat 0,n,O0,⟨dk,dn,dv⟩,⟨vk,vn,vv⟩,O0⟩ (by show bs.length≤_;omega) (by show(ii.l++[pi]).length≤_;simp only[List.length_append,List.length_cons,List.length_nil];omega)
 rcases lo with _|ll<;>rcases ii with _|li
 all_goals
  try simp only[j8.l,List.length_nil]at hi
  simp only[MS.rows,MS.put,j8.cell,j8.rows,j8.l,j8.k,r6.cell,r6.rows,r6.l,l0.av,H8.av,B3,N7,O0,List.cons_append,List.nil_append,List.append_nil,List.length_append,List.length_cons,List.length_nil,Nat.zero_add]at CP CPL
  simp only[MS.rows,MS.put,j8.cell,j8.rows,j8.l,j8.k,r6.cell,r6.rows,r6.l,l0.av,H8.av,B3,N7,O0,List.cons_append,List.nil_append,List.append_nil];refine Zf Tryd.func42 Tryd.ntmps42 ?_
  repeat' (first|refine Zl ?_|(with_reducible constructor<;>first|intro N hN mk hmk|intro N hN|intro h)|refine Ze C0 ?_|refine Ze C1 ?_|refine Ze C2 ?_|(refine Zp CPL [0,1,2,3] (Zq Y6.d (Zq hxx (Zq f0 (Zq f1 (Zq f2 (Zq f3 (Zq f4 (Zq f5 (Zq f6 f7))))))))) ?_;with_reducible intro _ _)|(refine Zp CPL [0,1,2] (Zq Y6.d (Zq hxx (Zq f0 (Zq f1 (Zq f2 (Zq f3 (Zq f4 (Zq f5 (Zq f6 f7))))))))) ?_;with_reducible intro _ _)|(refine Zp CPL [0,1] (Zq Y6.d (Zq hxx (Zq f0 (Zq f1 (Zq f2 (Zq f3 (Zq f4 (Zq f5 (Zq f6 f7))))))))) ?_;with_reducible intro _ _)|(refine Zp CP [0,176,177,178] (Zq Y6.d (Zq hxx (Zq f0 (Zq f1 (Zq f2 (Zq f3 (Zq f4 (Zq f5 (Zq f6 f7))))))))) ?_;with_reducible intro _ _)|(refine Zp CP [0,176,177] (Zq Y6.d (Zq hxx (Zq f0 (Zq f1 (Zq f2 (Zq f3 (Zq f4 (Zq f5 (Zq f6 f7))))))))) ?_;with_reducible intro _ _)|refine Zt (Zq Y6.d (Zq hxx (Zq f0 (Zq f1 (Zq f2 (Zq f3 (Zq f4 (Zq f5 (Zq f6 f7))))))))) ?_|fail)
  (first|(refine Zr (()) [0,328,329,330] (Zq Y6.d (Zq hxx (Zq f0 (Zq f1 (Zq f2 (Zq f3 (Zq f4 (Zq f5 (Zq f6 f7))))))))) ?_)|(refine Zr (()) [0,328,329] (Zq Y6.d (Zq hxx (Zq f0 (Zq f1 (Zq f2 (Zq f3 (Zq f4 (Zq f5 (Zq f6 f7))))))))) ?_))
  trivial
theorem b1m(L:List Int)(at_ g su re sl pa:Int)(ar:List dG)(lo:r6)(ii:j8)(bs:List e8)(t:w4)(h:fL ⟨L,at_,g,su,re,sl,pa,ar,lo,bs,ii,t⟩ 800000)(hc:a8 L at_%16=13):y9 Tryd.prog 42 [.ptr 0 0 0] (MS.rows ⟨L,at_,g,su,re,sl,pa,ar,lo,bs,ii,t⟩) 1 (fun _:Unit=>True) (fun _=> .Q0 []) (fun _=>(MS.inst ⟨L,at_,g,su,re,sl,pa,ar,lo,bs,ii,t⟩).rows):=by
 have ha6:pY.length=6:=rfl
 obtain⟨hL,h0,hb,hi,ha,hal⟩:=h
 dsimp only at hL h0 hb hi ha hal
 have C0:=o9 L at_ (by omega) hL
 have hx:=j6 hL h0.1
 have C2:=Y4 L (at_+1+1+1+1) (by omega) hL
 have hI:(ii:j8).l.length≤900000:=by first|omega|(dsimp only;omega)
 have CPL:=uY ⟨L,at_+1,g,su,re,sl,pa,ar,lo,bs,ii,t⟩ true ⟨hL,by show 0≤at_+1∧at_+1≤900000;omega,hb,by show(ii:j8).l.length≤(900000:Int);omega,ha,hal⟩
 obtain⟨x,hxx⟩:∃x,a8 L at_%16=x:=⟨_,rfl⟩
 rw[hxx]at hc
 have f0:(x<3)=False:=by simp only[eq_iff_iff,iff_true,iff_false];omega
 have f1:(x<7)=False:=by simp only[eq_iff_iff,iff_true,iff_false];omega
 have f2:(x=7)=False:=by simp only[eq_iff_iff,iff_true,iff_false];omega
 have f3:(x=8)=False:=by simp only[eq_iff_iff,iff_true,iff_false];omega
 have f4:(x=9)=False:=by simp only[eq_iff_iff,iff_true,iff_false];omega
 have f5:(x=10)=False:=by simp only[eq_iff_iff,iff_true,iff_false];omega
 have f6:(x=11)=False:=by simp only[eq_iff_iff,iff_true,iff_false];omega
 have f7:(x=12)=False:=by simp only[eq_iff_iff,iff_true,iff_false];omega
 have f8:(x=13)=True:=by simp only[eq_iff_iff,iff_true,iff_false];omega
 obtain⟨n,hn⟩:∃n,pn ⟨L,at_+1,g,su,re,sl,pa,ar,lo,bs,ii,t⟩ true=n:=⟨_,rfl⟩
 obtain⟨pi,hpi⟩:∃pi,MS.uX ⟨L,at_+1,g,su,re,sl,pa,ar,lo,bs,ii,t⟩ true=pi:=⟨_,rfl⟩
 have e:MS.inst ⟨L,at_,g,su,re,sl,pa,ar,lo,bs,ii,t⟩=(⟨L,at_+1+1+1+1+1,g,su,re,sl,pa,ar,lo,bs,.own (ii.l++[pi]),t⟩:MS).put (fV L x (at_+1+1+1+1) n (G9 L (at_+1+1))):=by
  unfold MS.inst
  simp only[hxx]
  rw[if_neg (by omega)]
  simp only[f7,not_true_eq_false,not_false_eq_true,decide_true,decide_false,if_true,if_false]
  rw[hn]
  unfold MS.place
  rw[hpi]
  rfl
 rw[e]
 have e2:fV L x (at_+1+1+1+1) n (G9 L (at_+1+1))=⟨7,0,n,G9 L (at_+1+1+1+1),G9 L (at_+1+1),O0,O0⟩:=by
  unfold fV
  simp only[f0,f1,f2,f3,f4,f5,f6,f7,f8,if_true,if_false]
 rw[e2]
 clear e e2
 simp only[hn,MS.place,hpi]at CPL
 generalize G9 L (at_+1+1)=d at*
 obtain⟨dk,dn,dv⟩:=d
 generalize G9 L (at_+1+1+1+1)=d2 at*
 obtain⟨d2k,d2n,d2v⟩:=d2
 clear hn hpi
 generalize a8 L at_=z at*
 have CP:=S3 ⟨L,at_+1+1+1+1+1,g,su,re,sl,pa,ar,lo,bs,.own (ii.l++[pi]),t⟩ ⟨7,0,n,⟨d2k,d2n,d2v⟩,⟨dk,dn,dv⟩,O0,O0⟩ (by show bs.length≤_;omega) (by show(ii.l++[pi]).length≤_;simp only[List.length_append,List.length_cons,List.length_nil];omega)
 rcases lo with _|ll<;>rcases ii with _|li
 all_goals
  try simp only[j8.l,List.length_nil]at hi
  simp only[MS.rows,MS.put,j8.cell,j8.rows,j8.l,j8.k,r6.cell,r6.rows,r6.l,l0.av,H8.av,B3,N7,O0,List.cons_append,List.nil_append,List.append_nil,List.length_append,List.length_cons,List.length_nil,Nat.zero_add]at CP CPL
  simp only[MS.rows,MS.put,j8.cell,j8.rows,j8.l,j8.k,r6.cell,r6.rows,r6.l,l0.av,H8.av,B3,N7,O0,List.cons_append,List.nil_append,List.append_nil];refine Zf Tryd.func42 Tryd.ntmps42 ?_
  repeat' (first|refine Zl ?_|(with_reducible constructor<;>first|intro N hN mk hmk|intro N hN|intro h)|refine Ze C0 ?_|refine Ze C2 ?_|(refine Zp CPL [0,1,2,3] (Zq Y6.d (Zq hxx (Zq f0 (Zq f1 (Zq f2 (Zq f3 (Zq f4 (Zq f5 (Zq f6 (Zq f7 f8)))))))))) ?_;with_reducible intro _ _)|(refine Zp CPL [0,1,2] (Zq Y6.d (Zq hxx (Zq f0 (Zq f1 (Zq f2 (Zq f3 (Zq f4 (Zq f5 (Zq f6 (Zq f7 f8)))))))))) ?_;with_reducible intro _ _)|(refine Zp CPL [0,1] (Zq Y6.d (Zq hxx (Zq f0 (Zq f1 (Zq f2 (Zq f3 (Zq f4 (Zq f5 (Zq f6 (Zq f7 f8)))))))))) ?_;with_reducible intro _ _)|(refine Zp CP [0,176,177,178] (Zq Y6.d (Zq hxx (Zq f0 (Zq f1 (Zq f2 (Zq f3 (Zq f4 (Zq f5 (Zq f6 (Zq f7 f8)))))))))) ?_;with_reducible intro _ _)|(refine Zp CP [0,176,177] (Zq Y6.d (Zq hxx (Zq f0 (Zq f1 (Zq f2 (Zq f3 (Zq f4 (Zq f5 (Zq f6 (Zq f7 f8)))))))))) ?_;with_reducible intro _ _)|refine Zt (Zq Y6.d (Zq hxx (Zq f0 (Zq f1 (Zq f2 (Zq f3 (Zq f4 (Zq f5 (Zq f6 (Zq f7 f8)))))))))) ?_|fail)
  (first|(refine Zr (()) [0,296,297,298] (Zq Y6.d (Zq hxx (Zq f0 (Zq f1 (Zq f2 (Zq f3 (Zq f4 (Zq f5 (Zq f6 (Zq f7 f8)))))))))) ?_)|(refine Zr (()) [0,296,297] (Zq Y6.d (Zq hxx (Zq f0 (Zq f1 (Zq f2 (Zq f3 (Zq f4 (Zq f5 (Zq f6 (Zq f7 f8)))))))))) ?_))
  trivial
theorem b1n(L:List Int)(at_ g su re sl pa:Int)(ar:List dG)(lo:r6)(ii:j8)(bs:List e8)(t:w4)(h:fL ⟨L,at_,g,su,re,sl,pa,ar,lo,bs,ii,t⟩ 800000)(hc:14≤a8 L at_%16):y9 Tryd.prog 42 [.ptr 0 0 0] (MS.rows ⟨L,at_,g,su,re,sl,pa,ar,lo,bs,ii,t⟩) 1 (fun _:Unit=>True) (fun _=> .Q0 []) (fun _=>(MS.inst ⟨L,at_,g,su,re,sl,pa,ar,lo,bs,ii,t⟩).rows):=by
 have ha6:pY.length=6:=rfl
 obtain⟨hL,h0,hb,hi,ha,hal⟩:=h
 dsimp only at hL h0 hb hi ha hal
 have C0:=o9 L at_ (by omega) hL
 have hx:=j6 hL h0.1
 have C2:=dM L (at_+1+1+1+1) (by omega) hL
 have hI:(ii:j8).l.length≤900000:=by first|omega|(dsimp only;omega)
 have CPL:=uY ⟨L,at_+1,g,su,re,sl,pa,ar,lo,bs,ii,t⟩ true ⟨hL,by show 0≤at_+1∧at_+1≤900000;omega,hb,by show(ii:j8).l.length≤(900000:Int);omega,ha,hal⟩
 obtain⟨x,hxx⟩:∃x,a8 L at_%16=x:=⟨_,rfl⟩
 rw[hxx]at hc
 have f0:(x<3)=False:=by simp only[eq_iff_iff,iff_true,iff_false];omega
 have f1:(x<7)=False:=by simp only[eq_iff_iff,iff_true,iff_false];omega
 have f2:(x=7)=False:=by simp only[eq_iff_iff,iff_true,iff_false];omega
 have f3:(x=8)=False:=by simp only[eq_iff_iff,iff_true,iff_false];omega
 have f4:(x=9)=False:=by simp only[eq_iff_iff,iff_true,iff_false];omega
 have f5:(x=10)=False:=by simp only[eq_iff_iff,iff_true,iff_false];omega
 have f6:(x=11)=False:=by simp only[eq_iff_iff,iff_true,iff_false];omega
 have f7:(x=12)=False:=by simp only[eq_iff_iff,iff_true,iff_false];omega
 have f8:(x=13)=False:=by simp only[eq_iff_iff,iff_true,iff_false];omega
 obtain⟨n,hn⟩:∃n,pn ⟨L,at_+1,g,su,re,sl,pa,ar,lo,bs,ii,t⟩ true=n:=⟨_,rfl⟩
 obtain⟨pi,hpi⟩:∃pi,MS.uX ⟨L,at_+1,g,su,re,sl,pa,ar,lo,bs,ii,t⟩ true=pi:=⟨_,rfl⟩
 have e:MS.inst ⟨L,at_,g,su,re,sl,pa,ar,lo,bs,ii,t⟩=(⟨L,at_+1+1+1+1+1,g,su,re,sl,pa,ar,lo,bs,.own (ii.l++[pi]),t⟩:MS).put (fV L x (at_+1+1+1+1) n (G9 L (at_+1+1))):=by
  unfold MS.inst
  simp only[hxx]
  rw[if_neg (by omega)]
  simp only[f7,not_true_eq_false,not_false_eq_true,decide_true,decide_false,if_true,if_false]
  rw[hn]
  unfold MS.place
  rw[hpi]
  rfl
 rw[e]
 have e2:fV L x (at_+1+1+1+1) n (G9 L (at_+1+1))=⟨8,0,n,O0,G9 L (at_+1+1),V6 L (at_+1+1+1+1),O0⟩:=by
  unfold fV
  simp only[f0,f1,f2,f3,f4,f5,f6,f7,f8,if_true,if_false]
 rw[e2]
 clear e e2
 simp only[hn,MS.place,hpi]at CPL
 generalize G9 L (at_+1+1)=d at*
 obtain⟨dk,dn,dv⟩:=d
 generalize V6 L (at_+1+1+1+1)=v at*
 obtain⟨vk,vn,vv⟩:=v
 clear hn hpi
 generalize a8 L at_=z at*
 have CP:=S3 ⟨L,at_+1+1+1+1+1,g,su,re,sl,pa,ar,lo,bs,.own (ii.l++[pi]),t⟩ ⟨8,0,n,O0,⟨dk,dn,dv⟩,⟨vk,vn,vv⟩,O0⟩ (by show bs.length≤_;omega) (by show(ii.l++[pi]).length≤_;simp only[List.length_append,List.length_cons,List.length_nil];omega)
 rcases lo with _|ll<;>rcases ii with _|li
 all_goals
  try simp only[j8.l,List.length_nil]at hi
  simp only[MS.rows,MS.put,j8.cell,j8.rows,j8.l,j8.k,r6.cell,r6.rows,r6.l,l0.av,H8.av,B3,N7,O0,List.cons_append,List.nil_append,List.append_nil,List.length_append,List.length_cons,List.length_nil,Nat.zero_add]at CP CPL
  simp only[MS.rows,MS.put,j8.cell,j8.rows,j8.l,j8.k,r6.cell,r6.rows,r6.l,l0.av,H8.av,B3,N7,O0,List.cons_append,List.nil_append,List.append_nil];refine Zf Tryd.func42 Tryd.ntmps42 ?_
  repeat' (first|refine Zl ?_|(with_reducible constructor<;>first|intro N hN mk hmk|intro N hN|intro h)|refine Ze C0 ?_|refine Ze C2 ?_|(refine Zp CPL [0,1,2,3] (Zq Y6.d (Zq hxx (Zq f0 (Zq f1 (Zq f2 (Zq f3 (Zq f4 (Zq f5 (Zq f6 (Zq f7 f8)))))))))) ?_;with_reducible intro _ _)|(refine Zp CPL [0,1,2] (Zq Y6.d (Zq hxx (Zq f0 (Zq f1 (Zq f2 (Zq f3 (Zq f4 (Zq f5 (Zq f6 (Zq f7 f8)))))))))) ?_;with_reducible intro _ _)|(refine Zp CPL [0,1] (Zq Y6.d (Zq hxx (Zq f0 (Zq f1 (Zq f2 (Zq f3 (Zq f4 (Zq f5 (Zq f6 (Zq f7 f8)))))))))) ?_;with_reducible intro _ _)|(refine Zp CP [0,176,177,178] (Zq Y6.d (Zq hxx (Zq f0 (Zq f1 (Zq f2 (Zq f3 (Zq f4 (Zq f5 (Zq f6 (Zq f7 f8)))))))))) ?_;with_reducible intro _ _)|(refine Zp CP [0,176,177] (Zq Y6.d (Zq hxx (Zq f0 (Zq f1 (Zq f2 (Zq f3 (Zq f4 (Zq f5 (Zq f6 (Zq f7 f8)))))))))) ?_;with_reducible intro _ _)|refine Zt (Zq Y6.d (Zq hxx (Zq f0 (Zq f1 (Zq f2 (Zq f3 (Zq f4 (Zq f5 (Zq f6 (Zq f7 f8)))))))))) ?_|fail)
  (first|(refine Zr (()) [0,296,297,298] (Zq Y6.d (Zq hxx (Zq f0 (Zq f1 (Zq f2 (Zq f3 (Zq f4 (Zq f5 (Zq f6 (Zq f7 f8)))))))))) ?_)|(refine Zr (()) [0,296,297] (Zq Y6.d (Zq hxx (Zq f0 (Zq f1 (Zq f2 (Zq f3 (Zq f4 (Zq f5 (Zq f6 (Zq f7 f8)))))))))) ?_))
  trivial
end Go.Proofs.YtgdoiokalfhjoaaDoor
end
