/- Own work (by an AI agent; no person has read it): part of a proof of the seat YtgdoiokalfhjoaaGreatDoor. -/
import Derived.Test.YtgdoiokalfhjoaaGreatDoorXj
set_option linter.unusedSimpArgs false
set_option linter.unusedVariables false
set_option maxRecDepth 100000
set_option maxHeartbeats 10000000
section
namespace Go.Proofs.YtgdoiokalfhjoaaGreatDoor
open Go.Ab
def cM(l:List Int)(regs:Int)(L:List e8)(i:Nat):List e8:=(L.take i).flatMap (W8 l regs)
theorem mN(l:List Int)(regs:Int)(L:List e8)(i:Nat)(h:i<L.length):cM l regs L (i+1)=cM l regs L i++W8 l regs (L.getD i I0):=by
 unfold cM;rw[w4 L i I0 h,List.flatMap_append];simp
theorem yQ(l:List Int)(regs:Int)(x:e8):W8 l regs x≠[]:=by unfold W8;simp
theorem Z2(l inn:List Int)(regs:Int):(H6 l inn regs).length=inn.length:=by simp [H6]
theorem b4O(l:List Int)(regs:Int)(x:e8):(W8 l regs x).length≤5:=by
 have h1:=U4 l (m7 x)
 have h2:=Z4 x
 unfold W8
 rw[List.length_append,Z2,List.length_cons]
 split<;>simp<;>omega
theorem qA(l:List Int)(regs:Int)(L:List e8):∀i,(cM l regs L i).length≤5*i
 |0=>by simp [cM]
 |i+1=>by
  by_cases h:i<L.length
  ·have:=qA l regs L i
   have:=b4O l regs (L.getD i I0)
   rw[mN l regs L i h,List.length_append];omega
  ·have:=qA l regs L i
   unfold cM at*
   rw[List.take_of_length_le (by omega)]at this⊢
   omega
theorem b8G{l:List Int}{regs:Int}{L:List e8}{i:Nat}(hi:i≤L.length)(h:cM l regs L i=[]):i=0:=by
 cases i with
 |zero=>rfl
 |succ i=>
  rw[mN l regs L i (by omega)]at h
  exact absurd (List.append_eq_nil_iff.1 h).2 (yQ _ _ _)
def tF(L:List e8):AV:=if L=[]then .a6 true []else .own 3 0 L.length
def a5B(L:List e8):List Row:=if L=[]then[]else[⟨15,e7 L,0⟩]
theorem c20(G:List e8)(x:e8):(e7 (G++[x])).take (G.length+1)=e7 (G++[x]):=List.take_of_length_le (by simp [e7])
theorem c21(O G:List e8):(e7 (O++G)).take (O.length+G.length)=e7 (O++G):=List.take_of_length_le (by simp [e7])
theorem c6d(O G:List e8)(x:e8):(e7 (O++G++[x])).take (O.length+G.length+1)=e7 (O++G++[x]):=List.take_of_length_le (by simp [e7];omega)
theorem cF{L:List e8}(h:L≠[]):tF L= .own 3 0 L.length:=if_neg h
theorem eU{L:List e8}(h:L≠[]):a5B L=[⟨15,e7 L,0⟩]:=if_neg h
theorem eZ{l:List Int}{regs:Int}{x:e8}(h:z8 x∈l):W8 l regs x=H6 l (o4 l (m7 x)) regs++[{x with a:=w8 x.a (o4 l (m7 x)) regs,b:=w8 x.b (o4 l (m7 x)) regs,c:=w8 x.c (o4 l (m7 x)) regs,d:=mR regs}]++[⟨12,0,jB l (z8 x),O0,mR regs,O0,O0⟩]:=by
 unfold W8 a3Y c2n;rw[if_pos h,if_pos h,mT h,List.append_assoc];rfl
theorem cH{l:List Int}{regs:Int}{x:e8}(h:¬z8 x∈l):W8 l regs x=H6 l (o4 l (m7 x)) regs++[{x with a:=w8 x.a (o4 l (m7 x)) regs,b:=w8 x.b (o4 l (m7 x)) regs,c:=w8 x.c (o4 l (m7 x)) regs}]:=by
 unfold W8 a3Y;rw[if_neg h,if_neg h]
theorem b01(a b:List e8):e7 a++e7 b=e7 (a++b):=by simp [e7]
def b6D:=ZZ.mk (Zq xG.d (Zq b0f.d (Zq @b6.av.eq_1 (Zq @E3.av.eq_1 @b01))))
def a0J:=ZZ.mk (Zq b6D.d (Zq @c21 (Zq @c6d @rM)))
def c09:=ZZ.mk (Zq b6D.d (Zq @c20 @rM))
def c1a:=ZZ.mk (Zq b6D.d @rM)
def c6R:=ZZ.mk (Zq c1a.d @c21)
theorem b5f(b:b6)(l:List Int)(regs:Int)(hb:b.i.length≤1000)(hl:l.length≤1000)(hr:0≤regs∧regs≤500)(hl0:∀r∈l,0≤r):c9 Tryz.prog 122 [.agg b.av,.a6 false (b7 l),.v (.int .i64 regs)] (fun _=> .agg (E5 l regs b).av) (fun _=>[]):=by
 refine Zf Tryz.func122 Tryz.ntmps122 ?_;simp only[b6.av,o6.av]
 repeat' (first|refine Za ?_|(with_reducible constructor<;>first|intro N hN mk hmk|intro N hN|intro h)|refine Zt b6D.d ?_|fail)
 refine c8 (fun i=>⟨[.Z,.a6 false (b7 l),.v (.int .i64 regs),.ptr 0 0 0,.Z,.Z,.ptr 1 0 0,.ptr 2 0 0,.v (.int .i64 i),.Z,.Z,.Z,.Z,.Z,.Z,.Z,.Z,.Z,.Z,.Z,.Z,.Z,.Z,.Z,.Z,.Z,.Z,.Z,.Z,.Z,.Z,.Z,.Z,.Z,.Z,.Z,.Z,.Z,.Z,.Z,.Z,.Z,.Z,.Z,.Z,.Z,.Z,.Z,.Z,.Z,.Z,.Z,.Z,.Z,.Z,.Z,.Z,.Z,.Z,.Z,.Z,.Z,.Z,.Z,.Z,.Z,.Z,.Z,.Z,.Z,.Z,.Z,.Z,.Z,.Z,.Z,.Z,.Z,.Z,.Z,.Z,.Z,.Z,.Z,.Z,.Z,.Z,.Z,.Z,.Z,.Z,.Z,.Z,.Z,.Z,.Z,.Z,.Z,.Z,.Z,.Z,.Z,.Z,.Z,.Z,.Z,.Z,.Z,.Z,.Z,.Z,.Z,.Z,.Z,.Z,.Z,.Z],j0 0 ([(⟨14,[b.av],0⟩:Row),⟨14,[[.a6 true [],.v (.int .i64 0),.v (.int .i64 0),.v (.int .i64 0),.v (.int .i64 0),.v (.int .i32 0),.v (.int .i64 0),.v (.int .i64 0),.v (.int .i32 0),.v (.int .i64 0),.v (.int .i64 0),.v (.int .i32 0),.v (.int .i64 0),.v (.int .i64 0)]],0⟩,⟨14,[tF (cM l regs b.i i)::b.t.av],0⟩]++a5B (cM l regs b.i i)),(3+(a5B (cM l regs b.i i)).length)⟩) b.i.length (Zw [1,2,3,6,7,8] [0,8,40] b6D.d ?_) ?_
 ·simp only[cM,List.take_zero,List.flatMap_nil,tF,a5B,if_true,b6.av,o6.av,List.append_nil,j0,List.length_nil];rfl
 ·intro i hi
  have hlen:=qA l regs b.i i
  have hnil:=b8G (l:=l) (regs:=regs) hi
  simp only[b6.av,o6.av]
  by_cases hlt:i<b.i.length
  ·have hs:=mN l regs b.i i hlt
   obtain⟨x,hx⟩:∃x,b.i.getD i I0=x:=⟨_,rfl⟩
   have hne:cM l regs b.i (i+1)≠[]:=by rw[hs];intro h;exact absurd (List.append_eq_nil_iff.1 h).2 (yQ _ _ _)
   rw[hx]at hs
   have hu:=Z4 x
   have hk1:=U4 l (m7 x)
   have hg1:=Z2 l (o4 l (m7 x)) regs
   have J1:=a0e x
   have J2:=b2Z l (m7 x) (by omega) (by omega)
   have J3:=b2V l (o4 l (m7 x)) regs (by omega) (by omega) (by omega) (fun r hr=>of_decide_eq_true (List.mem_filter.1 hr).2)
   have J4:=lJ x.a (o4 l (m7 x)) regs (by omega) (by omega)
   have J5:=lJ x.b (o4 l (m7 x)) regs (by omega) (by omega)
   have J6:=lJ x.c (o4 l (m7 x)) regs (by omega) (by omega)
   have J7:=uZ {x with a:=w8 x.a (o4 l (m7 x)) regs,b:=w8 x.b (o4 l (m7 x)) regs,c:=w8 x.c (o4 l (m7 x)) regs}
   have hdf:z8 {x with a:=w8 x.a (o4 l (m7 x)) regs,b:=w8 x.b (o4 l (m7 x)) regs,c:=w8 x.c (o4 l (m7 x)) regs}=z8 x:=rfl
   rw[hdf]at J7
   have J8:=qG l (z8 x) (by omega)
   have J9:=fM regs
   simp only[e8.av,E3.av]at J1 J4 J5 J6 J7 J9
   obtain⟨A,hA⟩:∃A,A=w8 x.a (o4 l (m7 x)) regs:=⟨_,rfl⟩
   obtain⟨B,hB⟩:∃B,B=w8 x.b (o4 l (m7 x)) regs:=⟨_,rfl⟩
   obtain⟨C,hC⟩:∃C,C=w8 x.c (o4 l (m7 x)) regs:=⟨_,rfl⟩
   rw[←hA]at J4 J7
   rw[←hB]at J5 J7
   rw[←hC]at J6 J7
   obtain⟨K,hK⟩:∃K,K=o4 l (m7 x):=⟨_,rfl⟩
   rw[←hK]at J2 J3 J4 J5 J6 hg1 hk1
   obtain⟨Gt,hG⟩:∃Gt,Gt=H6 l K regs:=⟨_,rfl⟩
   rw[←hG]at J3 hg1
   obtain⟨S1,hS1⟩:∃s,s=tF (cM l regs b.i (i+1)):=⟨_,rfl⟩
   obtain⟨S2,hS2⟩:∃s,s=a5B (cM l regs b.i (i+1)):=⟨_,rfl⟩
   rw[←hS1,←hS2]
   by_cases hO:cM l regs b.i i=[]
   ·simp only[hO,tF,a5B,if_true,List.append_nil,List.cons_append,List.nil_append,j0,List.length_nil]
    by_cases hk:Gt=[]
    ·rw[hk]at J3
     repeat' (first|refine Za ?_|(with_reducible constructor<;>first|intro N hN mk hmk|intro N hN|intro h)|refine Zc J1 ?_|refine Zc J2 ?_|refine Zc J3 ?_|refine Zc J4 ?_|refine Zc J5 ?_|refine Zc J6 ?_|refine Zc J7 ?_|refine Zc J8 ?_|refine Zc J9 ?_|refine Zt (Zq a0J.d hx) ?_|fail)
     ·refine Zw [1,2,3,6,7,8] [0,1,2,627] (Zq a0J.d hx) ?_
      have hm:z8 x∈l:=bJ.1 (by assumption)
      subst hA;subst hB;subst hC;subst hK
      rw[hS1,hS2,cF hne,eU hne,hs,hO,eZ hm,←hG,hk]
      rfl
     ·refine Zw [1,2,3,6,7,8] [0,1,2,499] (Zq a0J.d hx) ?_
      have hm:¬z8 x∈l:=fun h=>absurd (bJ.2 h) (by assumption)
      subst hA;subst hB;subst hC;subst hK
      rw[hS1,hS2,cF hne,eU hne,hs,hO,cH hm,←hG,hk]
      rfl
     ·refine Zw [1,2,3,6,7,8] [0,1,2,459] (Zq a0J.d hx) ?_
      have hm:¬z8 x∈l:=fun h=>absurd (hl0 _ h) (by assumption)
      subst hA;subst hB;subst hC;subst hK
      rw[hS1,hS2,cF hne,eU hne,hs,hO,cH hm,←hG,hk]
      rfl
    ·obtain⟨y,ys,hy⟩:∃y ys,e7 Gt=y::ys:=by
      cases Gt with
      |nil=>exact absurd rfl hk
      |cons g G=>exact⟨_,_,rfl⟩
     repeat' (first|refine Za ?_|(with_reducible constructor<;>first|intro N hN mk hmk|intro N hN|intro h)|refine Zc J1 ?_|refine Zc J2 ?_|refine Zc J3 ?_|refine Zc J4 ?_|refine Zc J5 ?_|refine Zc J6 ?_|refine Zc J7 ?_|refine Zc J8 ?_|refine Zc J9 ?_|refine Zt (Zq a0J.d hx) ?_|fail)
     simp only[hy]
     simp only[←hy]
     have hgn:(e7 Gt=[])=False:=by rw[hy];simp
     repeat' (first|refine Za ?_|(with_reducible constructor<;>first|intro N hN mk hmk|intro N hN|intro h)|refine Zc J1 ?_|refine Zc J2 ?_|refine Zc J3 ?_|refine Zc J4 ?_|refine Zc J5 ?_|refine Zc J6 ?_|refine Zc J7 ?_|refine Zc J8 ?_|refine Zc J9 ?_|refine Zt (Zq c09.d (Zq hx hgn)) ?_|fail)
     ·refine Zw [1,2,3,6,7,8] [0,1,2,627] (Zq c09.d (Zq hx hgn)) ?_
      have hm:z8 x∈l:=bJ.1 (by assumption)
      subst hA;subst hB;subst hC;subst hK
      rw[hS1,hS2,cF hne,eU hne,hs,hO,eZ hm,←hG]
      simp only[←List.append_assoc,List.nil_append,List.length_append,List.length_cons,List.length_nil,Nat.zero_add];rfl
     ·refine Zw [1,2,3,6,7,8] [0,1,2,499] (Zq c09.d (Zq hx hgn)) ?_
      have hm:¬z8 x∈l:=fun h=>absurd (bJ.2 h) (by assumption)
      subst hA;subst hB;subst hC;subst hK
      rw[hS1,hS2,cF hne,eU hne,hs,hO,cH hm,←hG]
      simp only[←List.append_assoc,List.nil_append,List.length_append,List.length_cons,List.length_nil,Nat.zero_add];rfl
     ·refine Zw [1,2,3,6,7,8] [0,1,2,459] (Zq c09.d (Zq hx hgn)) ?_
      have hm:¬z8 x∈l:=fun h=>absurd (hl0 _ h) (by assumption)
      subst hA;subst hB;subst hC;subst hK
      rw[hS1,hS2,cF hne,eU hne,hs,hO,cH hm,←hG]
      simp only[←List.append_assoc,List.nil_append,List.length_append,List.length_cons,List.length_nil,Nat.zero_add];rfl
   ·obtain⟨O,hOO⟩:∃O,O=cM l regs b.i i:=⟨_,rfl⟩
    rw[←hOO]at hO hlen hs
    simp only[←hOO,tF,a5B,if_neg hO,List.append_nil,List.cons_append,List.nil_append,j0,List.length_nil,List.length_cons,Nat.reduceAdd]
    repeat' (first|refine Za ?_|(with_reducible constructor<;>first|intro N hN mk hmk|intro N hN|intro h)|refine Zc J1 ?_|refine Zc J2 ?_|refine Zc J3 ?_|refine Zc J4 ?_|refine Zc J5 ?_|refine Zc J6 ?_|refine Zc J7 ?_|refine Zc J8 ?_|refine Zc J9 ?_|refine Zt (Zq a0J.d hx) ?_|fail)
    ·refine Zw [1,2,3,6,7,8] [0,1,2,628] (Zq a0J.d hx) ?_
     have hm:z8 x∈l:=bJ.1 (by assumption)
     subst hA;subst hB;subst hC;subst hK
     rw[hS1,hS2,cF hne,eU hne,hs,eZ hm,←hG]
     simp only[←List.append_assoc,List.nil_append,List.length_append,List.length_cons,List.length_nil,Nat.zero_add];rfl
    ·refine Zw [1,2,3,6,7,8] [0,1,2,500] (Zq a0J.d hx) ?_
     have hm:¬z8 x∈l:=fun h=>absurd (bJ.2 h) (by assumption)
     subst hA;subst hB;subst hC;subst hK
     rw[hS1,hS2,cF hne,eU hne,hs,cH hm,←hG]
     simp only[←List.append_assoc,List.nil_append,List.length_append,List.length_cons,List.length_nil,Nat.zero_add];rfl
    ·refine Zw [1,2,3,6,7,8] [0,1,2,460] (Zq a0J.d hx) ?_
     have hm:¬z8 x∈l:=fun h=>absurd (hl0 _ h) (by assumption)
     subst hA;subst hB;subst hC;subst hK
     rw[hS1,hS2,cF hne,eU hne,hs,cH hm,←hG]
     simp only[←List.append_assoc,List.nil_append,List.length_append,List.length_cons,List.length_nil,Nat.zero_add];rfl
  ·obtain rfl:i=b.i.length:=by omega
   have hu:=X7 b.t
   have hk1:=U4 l (j6 b.t)
   have hg1:=Z2 l (o4 l (j6 b.t)) regs
   have J1:=rZ b.t
   have J2:=b2Z l (j6 b.t) (by omega) (by omega)
   have J3:=b2V l (o4 l (j6 b.t)) regs (by omega) (by omega) (by omega) (fun r hr=>of_decide_eq_true (List.mem_filter.1 hr).2)
   have J4:=lJ b.t.a (o4 l (j6 b.t)) regs (by omega) (by omega)
   have J5:=lJ b.t.b (o4 l (j6 b.t)) regs (by omega) (by omega)
   simp only[o6.av,E3.av]at J1 J4 J5
   obtain⟨O,hOO⟩:∃O,O=cM l regs b.i b.i.length:=⟨_,rfl⟩
   obtain⟨Gt,hG⟩:∃Gt,Gt=H6 l (o4 l (j6 b.t)) regs:=⟨_,rfl⟩
   have hres:E5 l regs b=⟨O++Gt,{b.t with a:=w8 b.t.a (o4 l (j6 b.t)) regs,b:=w8 b.t.b (o4 l (j6 b.t)) regs}⟩:=by
    rw[hOO,hG];unfold E5 cM;rw[List.take_length]
   rw[hres]
   rw[←hOO]at hlen
   rw[←hG]at J3 hg1
   simp only[←hOO]
   by_cases hO:O=[]
   ·simp only[hO,tF,a5B,if_true,List.append_nil,List.cons_append,List.nil_append,j0,List.length_nil]
    by_cases hk:Gt=[]
    ·rw[hk]at J3
     rw[hk]
     repeat' (first|refine Za ?_|(with_reducible constructor<;>first|intro N hN mk hmk|intro N hN|intro h)|refine Zc J1 ?_|refine Zc J2 ?_|refine Zc J3 ?_|refine Zc J4 ?_|refine Zc J5 ?_|refine Zt c1a.d ?_|fail)
     all_goals rfl
    ·obtain⟨y,ys,hy⟩:∃y ys,e7 Gt=y::ys:=by
      cases Gt with
      |nil=>exact absurd rfl hk
      |cons g G=>exact⟨_,_,rfl⟩
     repeat' (first|refine Za ?_|(with_reducible constructor<;>first|intro N hN mk hmk|intro N hN|intro h)|refine Zc J1 ?_|refine Zc J2 ?_|refine Zc J3 ?_|refine Zc J4 ?_|refine Zc J5 ?_|refine Zt c1a.d ?_|fail)
     simp only[hy]
     simp only[←hy]
     have hgn:(e7 Gt=[])=False:=by rw[hy];simp
     repeat' (first|refine Za ?_|(with_reducible constructor<;>first|intro N hN mk hmk|intro N hN|intro h)|refine Zc J1 ?_|refine Zc J2 ?_|refine Zc J3 ?_|refine Zc J4 ?_|refine Zc J5 ?_|refine Zt (Zq c1a.d hgn) ?_|fail)
     all_goals rfl
   ·simp only[tF,a5B,if_neg hO,List.append_nil,List.cons_append,List.nil_append,j0,List.length_nil,List.length_cons,Nat.reduceAdd]
    repeat' (first|refine Za ?_|(with_reducible constructor<;>first|intro N hN mk hmk|intro N hN|intro h)|refine Zc J1 ?_|refine Zc J2 ?_|refine Zc J3 ?_|refine Zc J4 ?_|refine Zc J5 ?_|refine Zt c6R.d ?_|fail)
    all_goals rfl
end Go.Proofs.YtgdoiokalfhjoaaGreatDoor
end
