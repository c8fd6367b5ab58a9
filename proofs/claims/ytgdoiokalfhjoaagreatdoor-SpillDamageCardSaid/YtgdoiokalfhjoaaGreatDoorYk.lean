/- Own work (by an AI agent; no person has read it): part of a proof of the seat YtgdoiokalfhjoaaGreatDoor. -/
import Derived.Test.YtgdoiokalfhjoaaGreatDoorYj
set_option linter.unusedSimpArgs false
set_option linter.unusedVariables false
set_option maxRecDepth 100000
set_option maxHeartbeats 10000000
section
namespace Go.Proofs.YtgdoiokalfhjoaaGreatDoor
open Go.Ab
def cJ(l:List Int)(regs:Int)(L:List e7)(i:Nat):List e7:=(L.take i).flatMap (cL l regs)
theorem kW(l:List Int)(regs:Int)(L:List e7)(i:Nat)(h:i<L.length):cJ l regs L (i+1)=cJ l regs L i++cL l regs (L.getD i I0):=by
 unfold cJ;rw[w9 L i I0 h,List.flatMap_append];simp
theorem xB(l:List Int)(regs:Int)(x:e7):cL l regs x≠[]:=by unfold cL;simp
theorem Y9(l inn:List Int)(regs:Int):(I7 l inn regs).length=inn.length:=by simp [I7]
theorem b3I(l:List Int)(regs:Int)(x:e7):(cL l regs x).length≤5:=by
 have h1:=X0 l (o5 x)
 have h2:=cC x
 unfold cL
 rw[List.length_append,Y9,List.length_cons]
 split<;>simp<;>omega
theorem oE(l:List Int)(regs:Int)(L:List e7):∀i,(cJ l regs L i).length≤5*i
 |0=>by simp [cJ]
 |i+1=>by
  by_cases h:i<L.length
  ·have:=oE l regs L i
   have:=b3I l regs (L.getD i I0)
   rw[kW l regs L i h,List.length_append];omega
  ·have:=oE l regs L i
   unfold cJ at*
   rw[List.take_of_length_le (by omega)]at this⊢
   omega
theorem b7G{l:List Int}{regs:Int}{L:List e7}{i:Nat}(hi:i≤L.length)(h:cJ l regs L i=[]):i=0:=by
 cases i with
 |zero=>rfl
 |succ i=>
  rw[kW l regs L i (by omega)]at h
  exact absurd (List.append_eq_nil_iff.1 h).2 (xB _ _ _)
def qW(L:List e7):AV:=if L=[]then .a8 true []else .own 3 0 L.length
def a4y(L:List e7):List Row:=if L=[]then[]else[⟨15,c6 L,0⟩]
theorem c13(G:List e7)(x:e7):(c6 (G++[x])).take (G.length+1)=c6 (G++[x]):=List.take_of_length_le (by simp [c6])
theorem c14(O G:List e7):(c6 (O++G)).take (O.length+G.length)=c6 (O++G):=List.take_of_length_le (by simp [c6])
theorem c5e(O G:List e7)(x:e7):(c6 (O++G++[x])).take (O.length+G.length+1)=c6 (O++G++[x]):=List.take_of_length_le (by simp [c6];omega)
theorem bW{L:List e7}(h:L≠[]):qW L= .own 3 0 L.length:=if_neg h
theorem eJ{L:List e7}(h:L≠[]):a4y L=[⟨15,c6 L,0⟩]:=if_neg h
theorem eN{l:List Int}{regs:Int}{x:e7}(h:E9 x∈l):cL l regs x=I7 l (r6 l (o5 x)) regs++[{x with a:=C8 x.a (r6 l (o5 x)) regs,b:=C8 x.b (r6 l (o5 x)) regs,c:=C8 x.c (r6 l (o5 x)) regs,d:=lN regs}]++[⟨12,0,jB l (E9 x),O0,lN regs,O0,O0⟩]:=by
 unfold cL b6Y c5o;rw[if_pos h,if_pos h,kZ h,List.append_assoc];rfl
theorem bZ{l:List Int}{regs:Int}{x:e7}(h:¬E9 x∈l):cL l regs x=I7 l (r6 l (o5 x)) regs++[{x with a:=C8 x.a (r6 l (o5 x)) regs,b:=C8 x.b (r6 l (o5 x)) regs,c:=C8 x.c (r6 l (o5 x)) regs}]:=by
 unfold cL b6Y;rw[if_neg h,if_neg h]
theorem a9Z(a b:List e7):c6 a++c6 b=c6 (a++b):=by simp [c6]
def b5B:=ZZ.mk (Zq c1M.d (Zq a9f.d (Zq @b6.av.eq_1 (Zq @E3.av.eq_1 @a9Z))))
def zN:=ZZ.mk (Zq b5B.d (Zq @c14 (Zq @c5e @pP)))
def b99:=ZZ.mk (Zq b5B.d (Zq @c13 @pP))
def c0a:=ZZ.mk (Zq b5B.d @pP)
def c5T:=ZZ.mk (Zq c0a.d @c14)
theorem b4f(b:b6)(l:List Int)(regs:Int)(hb:b.i.length≤1000)(hl:l.length≤1000)(hr:0≤regs∧regs≤500)(hl0:∀r∈l,0≤r):e8 Tryz.prog 122 [.agg b.av,.a8 false (c7 l),.v (.int .i64 regs)] (fun _=> .agg (I3 l regs b).av) (fun _=>[]):=by
 refine Zf Tryz.func122 Tryz.ntmps122 ?_;simp only[b6.av,q9.av]
 repeat' (first|refine Za ?_|(with_reducible constructor<;>first|intro N hN mk hmk|intro N hN|intro h)|refine Zt b5B.d ?_|fail)
 refine l8 (fun i=>⟨[.Z,.a8 false (c7 l),.v (.int .i64 regs),.ptr 0 0 0,.Z,.Z,.ptr 1 0 0,.ptr 2 0 0,.v (.int .i64 i),.Z,.Z,.Z,.Z,.Z,.Z,.Z,.Z,.Z,.Z,.Z,.Z,.Z,.Z,.Z,.Z,.Z,.Z,.Z,.Z,.Z,.Z,.Z,.Z,.Z,.Z,.Z,.Z,.Z,.Z,.Z,.Z,.Z,.Z,.Z,.Z,.Z,.Z,.Z,.Z,.Z,.Z,.Z,.Z,.Z,.Z,.Z,.Z,.Z,.Z,.Z,.Z,.Z,.Z,.Z,.Z,.Z,.Z,.Z,.Z,.Z,.Z,.Z,.Z,.Z,.Z,.Z,.Z,.Z,.Z,.Z,.Z,.Z,.Z,.Z,.Z,.Z,.Z,.Z,.Z,.Z,.Z,.Z,.Z,.Z,.Z,.Z,.Z,.Z,.Z,.Z,.Z,.Z,.Z,.Z,.Z,.Z,.Z,.Z,.Z,.Z,.Z,.Z,.Z,.Z,.Z,.Z,.Z],e9 0 ([(⟨14,[b.av],0⟩:Row),⟨14,[[.a8 true [],.v (.int .i64 0),.v (.int .i64 0),.v (.int .i64 0),.v (.int .i64 0),.v (.int .i32 0),.v (.int .i64 0),.v (.int .i64 0),.v (.int .i32 0),.v (.int .i64 0),.v (.int .i64 0),.v (.int .i32 0),.v (.int .i64 0),.v (.int .i64 0)]],0⟩,⟨14,[qW (cJ l regs b.i i)::b.t.av],0⟩]++a4y (cJ l regs b.i i)),(3+(a4y (cJ l regs b.i i)).length)⟩) b.i.length (Zw [1,2,3,6,7,8] [0,8,40] b5B.d ?_) ?_
 ·simp only[cJ,List.take_zero,List.flatMap_nil,qW,a4y,if_true,b6.av,q9.av,List.append_nil,e9,List.length_nil];rfl
 ·intro i hi
  have hlen:=oE l regs b.i i
  have hnil:=b7G (l:=l) (regs:=regs) hi
  simp only[b6.av,q9.av]
  by_cases hlt:i<b.i.length
  ·have hs:=kW l regs b.i i hlt
   obtain⟨x,hx⟩:∃x,b.i.getD i I0=x:=⟨_,rfl⟩
   have hne:cJ l regs b.i (i+1)≠[]:=by rw[hs];intro h;exact absurd (List.append_eq_nil_iff.1 h).2 (xB _ _ _)
   rw[hx]at hs
   have hu:=cC x
   have hk1:=X0 l (o5 x)
   have hg1:=Y9 l (r6 l (o5 x)) regs
   have J1:=a8C x
   have J2:=b11 l (o5 x) (by omega) (by omega)
   have J3:=b1Y l (r6 l (o5 x)) regs (by omega) (by omega) (by omega) (fun r hr=>of_decide_eq_true (List.mem_filter.1 hr).2)
   have J4:=jZ x.a (r6 l (o5 x)) regs (by omega) (by omega)
   have J5:=jZ x.b (r6 l (o5 x)) regs (by omega) (by omega)
   have J6:=jZ x.c (r6 l (o5 x)) regs (by omega) (by omega)
   have J7:=b2q {x with a:=C8 x.a (r6 l (o5 x)) regs,b:=C8 x.b (r6 l (o5 x)) regs,c:=C8 x.c (r6 l (o5 x)) regs}
   have hdf:E9 {x with a:=C8 x.a (r6 l (o5 x)) regs,b:=C8 x.b (r6 l (o5 x)) regs,c:=C8 x.c (r6 l (o5 x)) regs}=E9 x:=rfl
   rw[hdf]at J7
   have J8:=tH l (E9 x) (by omega)
   have J9:=fB regs
   simp only[e7.av,E3.av]at J1 J4 J5 J6 J7 J9
   obtain⟨A,hA⟩:∃A,A=C8 x.a (r6 l (o5 x)) regs:=⟨_,rfl⟩
   obtain⟨B,hB⟩:∃B,B=C8 x.b (r6 l (o5 x)) regs:=⟨_,rfl⟩
   obtain⟨C,hC⟩:∃C,C=C8 x.c (r6 l (o5 x)) regs:=⟨_,rfl⟩
   rw[←hA]at J4 J7
   rw[←hB]at J5 J7
   rw[←hC]at J6 J7
   obtain⟨K,hK⟩:∃K,K=r6 l (o5 x):=⟨_,rfl⟩
   rw[←hK]at J2 J3 J4 J5 J6 hg1 hk1
   obtain⟨Gt,hG⟩:∃Gt,Gt=I7 l K regs:=⟨_,rfl⟩
   rw[←hG]at J3 hg1
   obtain⟨S1,hS1⟩:∃s,s=qW (cJ l regs b.i (i+1)):=⟨_,rfl⟩
   obtain⟨S2,hS2⟩:∃s,s=a4y (cJ l regs b.i (i+1)):=⟨_,rfl⟩
   rw[←hS1,←hS2]
   by_cases hO:cJ l regs b.i i=[]
   ·simp only[hO,qW,a4y,if_true,List.append_nil,List.cons_append,List.nil_append,e9,List.length_nil]
    by_cases hk:Gt=[]
    ·rw[hk]at J3
     repeat' (first|refine Za ?_|(with_reducible constructor<;>first|intro N hN mk hmk|intro N hN|intro h)|refine Zc J1 ?_|refine Zc J2 ?_|refine Zc J3 ?_|refine Zc J4 ?_|refine Zc J5 ?_|refine Zc J6 ?_|refine Zc J7 ?_|refine Zc J8 ?_|refine Zc J9 ?_|refine Zt (Zq zN.d hx) ?_|fail)
     ·refine Zw [1,2,3,6,7,8] [0,1,2,627] (Zq zN.d hx) ?_
      have hm:E9 x∈l:=cG.1 (by assumption)
      subst hA;subst hB;subst hC;subst hK
      rw[hS1,hS2,bW hne,eJ hne,hs,hO,eN hm,←hG,hk]
      rfl
     ·refine Zw [1,2,3,6,7,8] [0,1,2,499] (Zq zN.d hx) ?_
      have hm:¬E9 x∈l:=fun h=>absurd (cG.2 h) (by assumption)
      subst hA;subst hB;subst hC;subst hK
      rw[hS1,hS2,bW hne,eJ hne,hs,hO,bZ hm,←hG,hk]
      rfl
     ·refine Zw [1,2,3,6,7,8] [0,1,2,459] (Zq zN.d hx) ?_
      have hm:¬E9 x∈l:=fun h=>absurd (hl0 _ h) (by assumption)
      subst hA;subst hB;subst hC;subst hK
      rw[hS1,hS2,bW hne,eJ hne,hs,hO,bZ hm,←hG,hk]
      rfl
    ·obtain⟨y,ys,hy⟩:∃y ys,c6 Gt=y::ys:=by
      cases Gt with
      |nil=>exact absurd rfl hk
      |cons g G=>exact⟨_,_,rfl⟩
     repeat' (first|refine Za ?_|(with_reducible constructor<;>first|intro N hN mk hmk|intro N hN|intro h)|refine Zc J1 ?_|refine Zc J2 ?_|refine Zc J3 ?_|refine Zc J4 ?_|refine Zc J5 ?_|refine Zc J6 ?_|refine Zc J7 ?_|refine Zc J8 ?_|refine Zc J9 ?_|refine Zt (Zq zN.d hx) ?_|fail)
     simp only[hy]
     simp only[←hy]
     have hgn:(c6 Gt=[])=False:=by rw[hy];simp
     repeat' (first|refine Za ?_|(with_reducible constructor<;>first|intro N hN mk hmk|intro N hN|intro h)|refine Zc J1 ?_|refine Zc J2 ?_|refine Zc J3 ?_|refine Zc J4 ?_|refine Zc J5 ?_|refine Zc J6 ?_|refine Zc J7 ?_|refine Zc J8 ?_|refine Zc J9 ?_|refine Zt (Zq b99.d (Zq hx hgn)) ?_|fail)
     ·refine Zw [1,2,3,6,7,8] [0,1,2,627] (Zq b99.d (Zq hx hgn)) ?_
      have hm:E9 x∈l:=cG.1 (by assumption)
      subst hA;subst hB;subst hC;subst hK
      rw[hS1,hS2,bW hne,eJ hne,hs,hO,eN hm,←hG]
      simp only[←List.append_assoc,List.nil_append,List.length_append,List.length_cons,List.length_nil,Nat.zero_add];rfl
     ·refine Zw [1,2,3,6,7,8] [0,1,2,499] (Zq b99.d (Zq hx hgn)) ?_
      have hm:¬E9 x∈l:=fun h=>absurd (cG.2 h) (by assumption)
      subst hA;subst hB;subst hC;subst hK
      rw[hS1,hS2,bW hne,eJ hne,hs,hO,bZ hm,←hG]
      simp only[←List.append_assoc,List.nil_append,List.length_append,List.length_cons,List.length_nil,Nat.zero_add];rfl
     ·refine Zw [1,2,3,6,7,8] [0,1,2,459] (Zq b99.d (Zq hx hgn)) ?_
      have hm:¬E9 x∈l:=fun h=>absurd (hl0 _ h) (by assumption)
      subst hA;subst hB;subst hC;subst hK
      rw[hS1,hS2,bW hne,eJ hne,hs,hO,bZ hm,←hG]
      simp only[←List.append_assoc,List.nil_append,List.length_append,List.length_cons,List.length_nil,Nat.zero_add];rfl
   ·obtain⟨O,hOO⟩:∃O,O=cJ l regs b.i i:=⟨_,rfl⟩
    rw[←hOO]at hO hlen hs
    simp only[←hOO,qW,a4y,if_neg hO,List.append_nil,List.cons_append,List.nil_append,e9,List.length_nil,List.length_cons,Nat.reduceAdd]
    repeat' (first|refine Za ?_|(with_reducible constructor<;>first|intro N hN mk hmk|intro N hN|intro h)|refine Zc J1 ?_|refine Zc J2 ?_|refine Zc J3 ?_|refine Zc J4 ?_|refine Zc J5 ?_|refine Zc J6 ?_|refine Zc J7 ?_|refine Zc J8 ?_|refine Zc J9 ?_|refine Zt (Zq zN.d hx) ?_|fail)
    ·refine Zw [1,2,3,6,7,8] [0,1,2,628] (Zq zN.d hx) ?_
     have hm:E9 x∈l:=cG.1 (by assumption)
     subst hA;subst hB;subst hC;subst hK
     rw[hS1,hS2,bW hne,eJ hne,hs,eN hm,←hG]
     simp only[←List.append_assoc,List.nil_append,List.length_append,List.length_cons,List.length_nil,Nat.zero_add];rfl
    ·refine Zw [1,2,3,6,7,8] [0,1,2,500] (Zq zN.d hx) ?_
     have hm:¬E9 x∈l:=fun h=>absurd (cG.2 h) (by assumption)
     subst hA;subst hB;subst hC;subst hK
     rw[hS1,hS2,bW hne,eJ hne,hs,bZ hm,←hG]
     simp only[←List.append_assoc,List.nil_append,List.length_append,List.length_cons,List.length_nil,Nat.zero_add];rfl
    ·refine Zw [1,2,3,6,7,8] [0,1,2,460] (Zq zN.d hx) ?_
     have hm:¬E9 x∈l:=fun h=>absurd (hl0 _ h) (by assumption)
     subst hA;subst hB;subst hC;subst hK
     rw[hS1,hS2,bW hne,eJ hne,hs,bZ hm,←hG]
     simp only[←List.append_assoc,List.nil_append,List.length_append,List.length_cons,List.length_nil,Nat.zero_add];rfl
  ·obtain rfl:i=b.i.length:=by omega
   have hu:=bN b.t
   have hk1:=X0 l (n6 b.t)
   have hg1:=Y9 l (r6 l (n6 b.t)) regs
   have J1:=a3n b.t
   have J2:=b11 l (n6 b.t) (by omega) (by omega)
   have J3:=b1Y l (r6 l (n6 b.t)) regs (by omega) (by omega) (by omega) (fun r hr=>of_decide_eq_true (List.mem_filter.1 hr).2)
   have J4:=jZ b.t.a (r6 l (n6 b.t)) regs (by omega) (by omega)
   have J5:=jZ b.t.b (r6 l (n6 b.t)) regs (by omega) (by omega)
   simp only[q9.av,E3.av]at J1 J4 J5
   obtain⟨O,hOO⟩:∃O,O=cJ l regs b.i b.i.length:=⟨_,rfl⟩
   obtain⟨Gt,hG⟩:∃Gt,Gt=I7 l (r6 l (n6 b.t)) regs:=⟨_,rfl⟩
   have hres:I3 l regs b=⟨O++Gt,{b.t with a:=C8 b.t.a (r6 l (n6 b.t)) regs,b:=C8 b.t.b (r6 l (n6 b.t)) regs}⟩:=by
    rw[hOO,hG];unfold I3 cJ;rw[List.take_length]
   rw[hres]
   rw[←hOO]at hlen
   rw[←hG]at J3 hg1
   simp only[←hOO]
   by_cases hO:O=[]
   ·simp only[hO,qW,a4y,if_true,List.append_nil,List.cons_append,List.nil_append,e9,List.length_nil]
    by_cases hk:Gt=[]
    ·rw[hk]at J3
     rw[hk]
     repeat' (first|refine Za ?_|(with_reducible constructor<;>first|intro N hN mk hmk|intro N hN|intro h)|refine Zc J1 ?_|refine Zc J2 ?_|refine Zc J3 ?_|refine Zc J4 ?_|refine Zc J5 ?_|refine Zt c0a.d ?_|fail)
     all_goals rfl
    ·obtain⟨y,ys,hy⟩:∃y ys,c6 Gt=y::ys:=by
      cases Gt with
      |nil=>exact absurd rfl hk
      |cons g G=>exact⟨_,_,rfl⟩
     repeat' (first|refine Za ?_|(with_reducible constructor<;>first|intro N hN mk hmk|intro N hN|intro h)|refine Zc J1 ?_|refine Zc J2 ?_|refine Zc J3 ?_|refine Zc J4 ?_|refine Zc J5 ?_|refine Zt c0a.d ?_|fail)
     simp only[hy]
     simp only[←hy]
     have hgn:(c6 Gt=[])=False:=by rw[hy];simp
     repeat' (first|refine Za ?_|(with_reducible constructor<;>first|intro N hN mk hmk|intro N hN|intro h)|refine Zc J1 ?_|refine Zc J2 ?_|refine Zc J3 ?_|refine Zc J4 ?_|refine Zc J5 ?_|refine Zt (Zq c0a.d hgn) ?_|fail)
     all_goals rfl
   ·simp only[qW,a4y,if_neg hO,List.append_nil,List.cons_append,List.nil_append,e9,List.length_nil,List.length_cons,Nat.reduceAdd]
    repeat' (first|refine Za ?_|(with_reducible constructor<;>first|intro N hN mk hmk|intro N hN|intro h)|refine Zc J1 ?_|refine Zc J2 ?_|refine Zc J3 ?_|refine Zc J4 ?_|refine Zc J5 ?_|refine Zt c5T.d ?_|fail)
    all_goals rfl
end Go.Proofs.YtgdoiokalfhjoaaGreatDoor
end
