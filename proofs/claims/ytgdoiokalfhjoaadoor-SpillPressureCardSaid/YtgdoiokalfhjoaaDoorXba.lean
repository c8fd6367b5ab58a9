/- Own work (by an AI agent; no person has read it): part of a proof of the seat YtgdoiokalfhjoaaDoor. -/
import Derived.Test.YtgdoiokalfhjoaaDoorXz
set_option linter.unusedSimpArgs false
set_option linter.unusedVariables false
set_option maxRecDepth 100000
set_option maxHeartbeats 10000000
section
namespace Go.Proofs.YtgdoiokalfhjoaaDoor
open Go.Ab
def exI:List l0:=[⟨5,1,0,kV 0,O0,O0,O0⟩,⟨3,10,0,kV 1,kV 0,kV 0,O0⟩,⟨8,0,0,O0,kV 0,kV 1,O0⟩]
def exT:w4:=⟨5,0,O0,O0,O0,0,0⟩
def bD:Code:={group:=4,sub:=2,regs:=2,I2:=0,params:=0,o0:=[⟨⟨#[97]⟩,1,1,8⟩],loops:=[],b:=[⟨exI,exT⟩]}
def exD:Code:={group:=4,sub:=2,regs:=5,I2:=1,params:=0,o0:=[⟨⟨#[97]⟩,1,1,8⟩],loops:=[],b:=[⟨[⟨5,1,0,kV 2,O0,O0,O0⟩,⟨12,0,0,O0,kV 2,O0,O0⟩,⟨11,0,0,kV 2,O0,O0,O0⟩,⟨3,10,0,kV 1,kV 2,kV 2,O0⟩,⟨11,0,0,kV 2,O0,O0,O0⟩,⟨8,0,0,O0,kV 2,kV 1,O0⟩],exT⟩]}
theorem lD:iR bD:=by
 refine⟨⟨⟨⟨by decide,by decide⟩,⟨by decide,by decide⟩,fun x hx=>?_⟩,by decide,fun b hb=>?_⟩,by decide,by decide⟩
 ·rcases List.mem_singleton.1 hx with rfl
  refine⟨fun y hy=>?_,⟨fun h=>absurd h (by decide),fun h=>absurd h (by decide),fun h=>absurd h (by decide),fun h=>absurd rfl h,fun h=>absurd h (by decide),fun h=>absurd h (by decide)⟩,by decide⟩
  have:∀y∈exI,(y.d.k=2→0≤y.d.n∧y.d.n<2)∧(y.a.k=2→0≤y.a.n∧y.a.n<2)∧(y.b.k=2→0≤y.b.n∧y.b.n<2)∧(y.c.k=2→0≤y.c.n∧y.c.n<2):=by decide
  obtain⟨h1,h2,h3,h4⟩:=this y hy
  exact⟨h1,h2,h3,h4⟩
 ·rcases List.mem_singleton.1 hb with rfl
  decide
theorem a0J(r:Int)(h:r=0∨r=1):a4u bD r∧¬b0E bD r:=by
 refine⟨⟨0,by decide,.zero,.inr ?_⟩,?_⟩
 ·rcases h with rfl|rfl
  ·exact⟨⟨5,1,0,kV 0,O0,O0,O0⟩,by decide,by decide⟩
  ·exact⟨⟨3,10,0,kV 1,kV 0,kV 0,O0⟩,by decide,by decide⟩
 ·rintro⟨b,hb,_,h2⟩
  have:b=0:=by have hb:b<1:=hb;omega
  subst this
  rcases h2 with h2|⟨h2,_⟩
  ·have e:O3 (I8 bD.b 0).t= -1:=by decide
   rw[e]at h2;omega
  ·exact absurd h2 (by decide)
theorem b0K:spF bD=[true,true]:=by
 have h0:(spF bD).getD 0 false=true:=(vJ bD (r:=0) (by decide)).2 (a0J 0 (.inl rfl))
 have h1:(spF bD).getD 1 false=true:=(vJ bD (r:=1) (by decide)).2 (a0J 1 (.inr rfl))
 have hl:(spF bD).length=2:=a1m bD
 generalize spF bD=l at*
 match l,hl with
 |[a,b],_=>
  simp at h0 h1
  rw[h0,h1]
theorem b0J(c:Code)(h1:c.b.length=1)(h2:(I8 c.b 0).t=exT)(h3:atF (I8 c.b 0) [] 0=[]):Lst c [[]] [[]]:=by
 have hz:∀z,([[]]:List (List Int)).getD z []=[]:=fun z=>by
  cases z with
  |zero=>rfl
  |succ z=>cases z<;>rfl
 refine⟨⟨h1.symm,h1.symm,fun z=>by rw[hz];exact⟨RB.nil,N1.nil⟩,fun z=>by rw[hz];exact⟨RB.nil,N1.nil⟩⟩,⟨fun b r h=>by rw[hz]at h;simp at h,fun b r h=>by rw[hz]at h;simp at h⟩,fun b hb _=>?_⟩
 have:b=0:=by omega
 subst this
 rw[h2,hz,h3]
 refine⟨fun r hr=>?_,fun r hr=>hr⟩
 have:cB exT [[]]=[]:=by decide
 rw[this]at hr;exact hr
theorem tK(c:Code)(h1:c.b.length=1)(h2:(I8 c.b 0).t=exT)(h3:atF (I8 c.b 0) [] 0=[]):pressF c=prB [[]] [[]] (I8 c.b 0) 0 0:=by
 have hr:(reachF c.b).getD 0 false=true:=(aF c.b (by omega)).2 .zero
 unfold pressF
 rw[a0Z (b0J c h1 h2 h3),h1]
 show(if(reachF c.b).getD 0 false=true then prB [[]] [[]] (I8 c.b 0) 0 0 else 0)=_
 rw[if_pos hr]
theorem a0I:(liveF bD).1=[[]]:=by rw[a0Z (b0J bD rfl rfl (by decide))]
theorem b0F:bestF bD []=0:=by
 unfold bestF;rw[b0K,a0I];decide
theorem b0G:bestF bD [0]=1:=by
 unfold bestF;rw[b0K,a0I];decide
theorem b0H:bestF bD [0,1]= -1:=by
 unfold bestF;rw[b0K,a0I];decide
theorem b4i:pressF bD=2:=by
 rw[tK bD rfl rfl (by decide)];decide
theorem b64:pressF (p9 bD [0])=2:=by
 rw[tK (p9 bD [0]) rfl rfl (by decide)];decide
theorem b65:pressF (p9 bD [0,1])=2:=by
 rw[tK (p9 bD [0,1]) rfl rfl (by decide)];decide
theorem b21:runF bD 2 3 []=some []:=a4f lD.s (by rw[b4i];decide)
theorem b20:runF bD 1 3 []=none:=by
 have e0:p9 bD []=bD:=rfl
 rw[kH,e0,b4i,b0F,if_pos (by decide),if_neg (by decide),if_neg (by decide)]
 rw[show F6 [] 0=[0] by decide,kH,b64,b0G,if_pos (by decide),if_neg (by decide),if_neg (by decide)]
 rw[show F6 [0] 1=[0,1] by decide,kH,b65,b0H,if_pos (by decide),if_neg (by decide),if_pos (by decide)]
theorem rJ(l:List Int)(h:∀q∈l,q=0∨q=1)(hs:N1 l):bU bD l:=⟨fun q hq=>by have:=h q hq;show 0≤q∧q<2;omega,hs,fun q hq=>a0J q (h q hq)⟩
theorem b6Y:checkF bD exD [0]=0:=by
 rw[fQ (rJ [0] (by decide) (by unfold N1;decide))];exact if_pos (by decide)
theorem b6Z:checkF bD exD [1]=100:=by
 rw[fQ (rJ [1] (by decide) (by unfold N1;decide))];exact if_neg (by decide)
theorem b60:checkF bD bD [0]=100:=by
 rw[fQ (rJ [0] (by decide) (by unfold N1;decide))];exact if_neg (by decide)
theorem b61:checkF bD bD []=0:=by
 rw[fQ (rJ [] (by decide) (by unfold N1;decide))];exact if_pos rfl
def mF:=ZZ.mk (Zq @j0 @j3)
theorem qO:n5 Tryd.prog 11 [] (fun _=> .agg bD.av) (fun _=>[]):=by
 have J0:=nK 0
 have J1:=nK 1
 simp only[H8.av]at J0 J1
 refine Zf Tryd.func11 Tryd.ntmps11 ?_
 repeat' (first|refine Za ?_|(with_reducible constructor<;>first|intro N hN mk hmk|intro N hN|intro h)|refine Zc J0 ?_|refine Zc J1 ?_|refine Zt mF.d ?_|fail)
 all_goals rfl
theorem a4m:n5 Tryd.prog 12 [] (fun _=> .agg exD.av) (fun _=>[]):=by
 have J0:=qO
 have J1:=nK 1
 have J2:=nK 2
 simp only[H8.av]at J1 J2
 have e:bD.av=[.v (.int .i64 4),.v (.int .i64 2),.v (.int .i64 2),.v (.int .i64 0),.v (.int .i64 0),.c5 false (H2 bD.o0),.c5 false [],.c5 false (y6 bD.b)]:=rfl
 rw[e]at J0
 refine Zf Tryd.func12 Tryd.ntmps12 ?_
 repeat' (first|refine Za ?_|(with_reducible constructor<;>first|intro N hN mk hmk|intro N hN|intro h)|refine Zc J0 ?_|refine Zc J1 ?_|refine Zc J2 ?_|refine Zt mF.d ?_|fail)
 all_goals rfl
theorem a1k:n5 Tryd.prog 4 [] (fun _=> .v (.bool true)) (fun _=>[]):=by
 have J0:=qO
 have J1:=a4m
 have J2:=rU bD 2 lD
 have J3:=rU bD 1 lD
 have hD:wN exD:=⟨by decide,by decide,by decide,fun x hx=>by rcases List.mem_singleton.1 hx with rfl;decide⟩
 have hS:wN bD:=⟨by decide,by decide,by decide,fun x hx=>by rcases List.mem_singleton.1 hx with rfl;decide⟩
 have K1:=cZ bD exD [0] lD hD (by decide)
 have K2:=cZ bD exD [1] lD hD (by decide)
 have K3:=cZ bD bD [0] lD hS (by decide)
 have K4:=cZ bD bD [] lD hS (by decide)
 have K5:=a0f bD bD hS.a hS.a hS.l hS.l hS.b hS.b hS.i hS.i
 have e2:doneAV bD (runF bD 2 (bD.regs.toNat+1) [])=bD.av++[.c5 false [],.v (.int .i64 0)]:=by
  rw[show bD.regs.toNat+1=3 from rfl,b21];rfl
 have e1:doneAV bD (runF bD 1 (bD.regs.toNat+1) [])=mN.av++[.c5 false [],.v (.int .i64 170)]:=by
  rw[show bD.regs.toNat+1=3 from rfl,b20];rfl
 rw[e2]at J2
 rw[e1]at J3
 rw[b6Y]at K1
 rw[b6Z]at K2
 rw[b60]at K3
 rw[b61]at K4
 rw[decide_eq_true (rfl:bD=bD)]at K5
 have eC:mN.av=[.v (.int .i64 0),.v (.int .i64 0),.v (.int .i64 0),.v (.int .i64 0),.v (.int .i64 0),.c5 false [],.c5 false [],.c5 false []]:=rfl
 obtain⟨A,hA⟩:∃A,A=H2 bD.o0:=⟨_,rfl⟩
 obtain⟨B,hB⟩:∃B,B=y6 bD.b:=⟨_,rfl⟩
 obtain⟨D,hDD⟩:∃D,D=y6 exD.b:=⟨_,rfl⟩
 have eS:bD.av=[.v (.int .i64 4),.v (.int .i64 2),.v (.int .i64 2),.v (.int .i64 0),.v (.int .i64 0),.c5 false A,.c5 false [],.c5 false B]:=by rw[hA,hB];rfl
 have eD:exD.av=[.v (.int .i64 4),.v (.int .i64 2),.v (.int .i64 5),.v (.int .i64 1),.v (.int .i64 0),.c5 false A,.c5 false [],.c5 false D]:=by rw[hA,hDD];rfl
 rw[eS]at J0 J2 J3 K1 K2 K3 K4 K5
 rw[eC]at J3
 rw[eD]at J1 K1 K2
 simp only[List.cons_append,List.nil_append,show m8 []=[]from rfl,show m8 [0]=[[.v (.int .i64 0)]]from rfl,show m8 [1]=[[.v (.int .i64 1)]]from rfl]at J2 J3 K1 K2 K3 K4
 refine Zf Tryd.func4 Tryd.ntmps4 ?_
 repeat' (first|refine Za ?_|(with_reducible constructor<;>first|intro N hN mk hmk|intro N hN|intro h)|refine Zc J0 ?_|refine Zc J1 ?_|refine Zc J2 ?_|refine Zc J3 ?_|(refine Y0 K1 ?_ rfl ?_ ?_;(next=>(simp (disch:=omega) only[mF.d,B7,Nat.reduceBEq,AV.plain,Nat.reduceAdd,Nat.reduceLeDiff,Nat.reduceLT,↓reduceIte,sF]<;>first|done|rfl));(next=>(simp only[apply_ite List.length,List.length_cons,List.length_nil]<;>(try split)<;>omega)))|(refine U3 K1 ?_ rfl ?_ ?_;(next=>(simp (disch:=omega) only[mF.d,B7,Nat.reduceBEq,AV.plain,Nat.reduceAdd,Nat.reduceLeDiff,Nat.reduceLT,↓reduceIte,sF]<;>first|done|rfl));(next=>(simp only[apply_ite List.length,List.length_cons,List.length_nil]<;>(try split)<;>omega)))|(refine Y0 K2 ?_ rfl ?_ ?_;(next=>(simp (disch:=omega) only[mF.d,B7,Nat.reduceBEq,AV.plain,Nat.reduceAdd,Nat.reduceLeDiff,Nat.reduceLT,↓reduceIte,sF]<;>first|done|rfl));(next=>(simp only[apply_ite List.length,List.length_cons,List.length_nil]<;>(try split)<;>omega)))|(refine U3 K2 ?_ rfl ?_ ?_;(next=>(simp (disch:=omega) only[mF.d,B7,Nat.reduceBEq,AV.plain,Nat.reduceAdd,Nat.reduceLeDiff,Nat.reduceLT,↓reduceIte,sF]<;>first|done|rfl));(next=>(simp only[apply_ite List.length,List.length_cons,List.length_nil]<;>(try split)<;>omega)))|(refine Y0 K3 ?_ rfl ?_ ?_;(next=>(simp (disch:=omega) only[mF.d,B7,Nat.reduceBEq,AV.plain,Nat.reduceAdd,Nat.reduceLeDiff,Nat.reduceLT,↓reduceIte,sF]<;>first|done|rfl));(next=>(simp only[apply_ite List.length,List.length_cons,List.length_nil]<;>(try split)<;>omega)))|(refine U3 K3 ?_ rfl ?_ ?_;(next=>(simp (disch:=omega) only[mF.d,B7,Nat.reduceBEq,AV.plain,Nat.reduceAdd,Nat.reduceLeDiff,Nat.reduceLT,↓reduceIte,sF]<;>first|done|rfl));(next=>(simp only[apply_ite List.length,List.length_cons,List.length_nil]<;>(try split)<;>omega)))|refine Zc K4 ?_|refine Zc K5 ?_|refine Zt mF.d ?_|fail)
 all_goals first|(exact absurd rfl (by assumption))|omega|(exfalso;simp_all;done)
end Go.Proofs.YtgdoiokalfhjoaaDoor
end
