/- Own work (by an AI agent; no person has read it): part of a proof of the seat YtgdoiokalfhjoaaGreatDoor. -/
import Derived.Test.YtgdoiokalfhjoaaGreatDoorYk
import Derived.Test.YtgdoiokalfhjoaaGreatDoorYq
set_option linter.unusedSimpArgs false
set_option linter.unusedVariables false
set_option maxRecDepth 100000
set_option maxHeartbeats 10000000
section
namespace Go.Proofs.YtgdoiokalfhjoaaGreatDoor
open Go.Ab
theorem c0e(l:List cN):(∀e∈y4 l,∀x∈e,AV.one x=true)=True:=by
 refine eq_true fun e he x hx=>?_
 simp only[y4,List.mem_map]at he
 obtain⟨a,_,rfl⟩:=he
 simp only[cN.av,List.mem_cons,List.not_mem_nil,or_false]at hx
 rcases hx with rfl|rfl|rfl|rfl<;>rfl
theorem b20(l:List cN):(y4 l).take l.length=y4 l:=by rw[←eQ,List.take_length]
theorem a96(l:List Loop):(loops l).take l.length=loops l:=by rw[←M7,List.take_length]
def gE:=ZZ.mk (Zq L5.d (Zq @b20 (Zq @a96 (Zq @c0e (Zq @jW (Zq @nQ (Zq @nC (Zq @eQ (Zq @oX (Zq @iB (Zq @M7 (Zq @fP (Zq @dG (Zq @D4 (Zq @Q7 (Zq @N7 (Zq @O5 (Zq @O3 (Zq @cA (Zq @L1 (Zq @b6.av.eq_1 @q9.av.eq_1)))))))))))))))))))))
def vS:=ZZ.mk (Zq gE.d (Zq @fH @aB))
theorem a8z(c:Code)(hb:c.b.length≤1000)(ha:c.c9.length≤1000)(hl:c.loops.length≤1000)(hi':∀b∈c.b,b.i.length≤1000):e8 Tryz.prog 54 [.agg c.av] (fun n=> .agg [.v (.int .i64 c.group),.v (.int .i64 c.sub),.v (.int .i64 c.regs),.v (.int .i64 c.w5),.v (.int .i64 c.params),.a8 false (y4 c.c9),.a8 false (Proofs.YtgdoiokalfhjoaaGreatDoor.loops c.loops),.own n 0 c.b.length]) (fun _=>[⟨14,o0 c.b,0⟩]):=by
 (refine dE Tryz.func54 rfl (by kernel_rfl) ?_;rw[gO Tryz.ntmps54];simp only[Code.av];simp only[List.replicate_succ,List.replicate_zero,List.cons_append,List.nil_append,List.length_cons,List.length_nil,Nat.reduceAdd,Nat.reduceSub];refine u4 ?_)
 repeat' (first|refine Za ?_|(with_reducible constructor<;>first|intro N hN mk hmk|intro N hN|intro h)|refine Zt gE.d ?_|fail)
 refine aZ 0 0 5 (x:= .own 40 0 c.c9.length) (y:= .a8 false (y4 c.c9)) (ids:=[(40,c.c9.length)]) rfl (rfl) (by simp (maxSteps:=10000000) (disch:=omega) only[gE.d,l9,P7,s9,A2,p7,o3,AV.kept,b7,n4,u0,B3,p9,o9,b8,AV.y8,m8,v8,AV.plain,rd,u6,a6,P6,stepC,AV.e6,AV.S9,AV.w6,AV.L8,AV.scalar,T8,s6,A6,A9,B1,A8,o8,A5,U0,s7,A7,z8,j3,T7,l0,y7,y5,Q0,z6,j8,TD.isRow,s8,j7,j9,j6,F4,Value.oneCell',↓reduceIte,Int.reduceNe,Int.reduceEq,Nat.reduceAdd,Nat.reduceLT,Nat.reduceLeDiff,Nat.reduceSub,Nat.reduceMul,Nat.reduceBEq,Nat.reduceEqDiff,reduceCtorEq,Int.reduceToNat,←decide_not,←Bool.decide_and,sA,sN]<;>first|done|rfl) (by first|rfl|(simp (maxSteps:=10000000) (disch:=omega) only[a6,gE.d,l9,P7,s9,A2,p7,o3,AV.kept,b7,n4,u0,B3,p9,o9,b8,AV.y8,m8,v8,AV.plain,rd,u6,a6,P6,stepC,AV.e6,AV.S9,AV.w6,AV.L8,AV.scalar,T8,s6,A6,A9,B1,A8,o8,A5,U0,s7,A7,z8,j3,T7,l0,y7,y5,Q0,z6,j8,TD.isRow,s8,j7,j9,j6,F4,Value.oneCell',↓reduceIte,Int.reduceNe,Int.reduceEq,Nat.reduceAdd,Nat.reduceLT,Nat.reduceLeDiff,Nat.reduceSub,Nat.reduceMul,Nat.reduceBEq,Nat.reduceEqDiff,reduceCtorEq,Int.reduceToNat,←decide_not,←Bool.decide_and,sA,sN]<;>first|done|rfl)) ?_;simp (maxSteps:=10000000) (disch:=omega) only[n4,y0,F4,gE.d,l9,P7,s9,A2,p7,o3,AV.kept,b7,n4,u0,B3,p9,o9,b8,AV.y8,m8,v8,AV.plain,rd,u6,a6,P6,stepC,AV.e6,AV.S9,AV.w6,AV.L8,AV.scalar,T8,s6,A6,A9,B1,A8,o8,A5,U0,s7,A7,z8,j3,T7,l0,y7,y5,Q0,z6,j8,TD.isRow,s8,j7,j9,j6,F4,Value.oneCell',↓reduceIte,Int.reduceNe,Int.reduceEq,Nat.reduceAdd,Nat.reduceLT,Nat.reduceLeDiff,Nat.reduceSub,Nat.reduceMul,Nat.reduceBEq,Nat.reduceEqDiff,reduceCtorEq,Int.reduceToNat,←decide_not,←Bool.decide_and,sA,sN]
 refine aZ 0 0 6 (x:= .own 88 0 c.loops.length) (y:= .a8 false (Proofs.YtgdoiokalfhjoaaGreatDoor.loops c.loops)) (ids:=[(88,c.loops.length)]) rfl (rfl) (by simp (maxSteps:=10000000) (disch:=omega) only[gE.d,l9,P7,s9,A2,p7,o3,AV.kept,b7,n4,u0,B3,p9,o9,b8,AV.y8,m8,v8,AV.plain,rd,u6,a6,P6,stepC,AV.e6,AV.S9,AV.w6,AV.L8,AV.scalar,T8,s6,A6,A9,B1,A8,o8,A5,U0,s7,A7,z8,j3,T7,l0,y7,y5,Q0,z6,j8,TD.isRow,s8,j7,j9,j6,F4,Value.oneCell',↓reduceIte,Int.reduceNe,Int.reduceEq,Nat.reduceAdd,Nat.reduceLT,Nat.reduceLeDiff,Nat.reduceSub,Nat.reduceMul,Nat.reduceBEq,Nat.reduceEqDiff,reduceCtorEq,Int.reduceToNat,←decide_not,←Bool.decide_and,sA,sN]<;>first|done|rfl) (by first|rfl|(simp (maxSteps:=10000000) (disch:=omega) only[a6,gE.d,l9,P7,s9,A2,p7,o3,AV.kept,b7,n4,u0,B3,p9,o9,b8,AV.y8,m8,v8,AV.plain,rd,u6,a6,P6,stepC,AV.e6,AV.S9,AV.w6,AV.L8,AV.scalar,T8,s6,A6,A9,B1,A8,o8,A5,U0,s7,A7,z8,j3,T7,l0,y7,y5,Q0,z6,j8,TD.isRow,s8,j7,j9,j6,F4,Value.oneCell',↓reduceIte,Int.reduceNe,Int.reduceEq,Nat.reduceAdd,Nat.reduceLT,Nat.reduceLeDiff,Nat.reduceSub,Nat.reduceMul,Nat.reduceBEq,Nat.reduceEqDiff,reduceCtorEq,Int.reduceToNat,←decide_not,←Bool.decide_and,sA,sN]<;>first|done|rfl)) ?_;simp (maxSteps:=10000000) (disch:=omega) only[n4,y0,F4,gE.d,l9,P7,s9,A2,p7,o3,AV.kept,b7,n4,u0,B3,p9,o9,b8,AV.y8,m8,v8,AV.plain,rd,u6,a6,P6,stepC,AV.e6,AV.S9,AV.w6,AV.L8,AV.scalar,T8,s6,A6,A9,B1,A8,o8,A5,U0,s7,A7,z8,j3,T7,l0,y7,y5,Q0,z6,j8,TD.isRow,s8,j7,j9,j6,F4,Value.oneCell',↓reduceIte,Int.reduceNe,Int.reduceEq,Nat.reduceAdd,Nat.reduceLT,Nat.reduceLeDiff,Nat.reduceSub,Nat.reduceMul,Nat.reduceBEq,Nat.reduceEqDiff,reduceCtorEq,Int.reduceToNat,←decide_not,←Bool.decide_and,sA,sN]
 refine l8 (fun i=>⟨[.Z,.ptr 0 0 0,.ptr 1 0 0,.own 2 0 (c.b.take i).length,.v (.int .i64 i),.Z,.Z,.Z,.Z,.Z,.Z,.Z,.Z,.Z,.Z,.Z,.Z,.Z,.Z,.Z,.Z,.Z,.Z,.Z,.Z,.Z,.Z,.Z,.Z,.Z,.Z,.Z,.Z,.Z,.Z,.Z,.Z,.Z,.Z,.Z,.Z,.Z,.Z,.Z],[(0,.live ⟨8,[[.v (.int .i64 c.group),.v (.int .i64 c.sub),.v (.int .i64 c.regs),.v (.int .i64 c.w5),.v (.int .i64 c.params),.a8 false (y4 c.c9),.a8 false (Proofs.YtgdoiokalfhjoaaGreatDoor.loops c.loops),.a8 false (o0 c.b)]],0⟩),(1,.live ⟨8,[[.v (.int .i64 0),.v (.int .i64 0),.v (.int .i64 0),.v (.int .i64 0),.v (.int .i64 0),.a8 true [],.a8 true [],.a8 true []]],0⟩),(2,.live ⟨14,o0 (c.b.take i),0⟩)],3⟩) c.b.length (Zw [1,2,3,4] [0,8,112] gE.d ?_) ?_
 ·rfl
 ·intro i hi
  by_cases hlt:i<c.b.length
  ·have hbi:=hi' (c.b.getD i B0) (by rw[List.getD_eq_getElem?_getD,List.getElem?_eq_getElem hlt];exact List.getElem_mem hlt)
   have htl:(c.b.take i).length=i:=by simp;omega
   repeat' (first|refine Za ?_|(with_reducible constructor<;>first|intro N hN mk hmk|intro N hN|intro h)|refine Zt vS.d ?_|fail)
   refine G6 (V3 179 (c.b.take i).length 0 6 (.own 107 0 (c.b.getD i B0).i.length) (.a8 false (c6 (c.b.getD i B0).i)) rfl (by first|exact U2 _ _|(simp only[U2];rfl)) (by simp (maxSteps:=10000000) (disch:=omega) only[u6,vS.d,l9,P7,s9,A2,p7,o3,AV.kept,b7,n4,u0,B3,p9,o9,b8,AV.y8,m8,v8,AV.plain,rd,u6,a6,P6,stepC,AV.e6,AV.S9,AV.w6,AV.L8,AV.scalar,T8,s6,A6,A9,B1,A8,o8,A5,U0,s7,A7,z8,j3,T7,l0,y7,y5,Q0,z6,j8,TD.isRow,s8,j7,j9,j6,F4,Value.oneCell',↓reduceIte,Int.reduceNe,Int.reduceEq,Nat.reduceAdd,Nat.reduceLT,Nat.reduceLeDiff,Nat.reduceSub,Nat.reduceMul,Nat.reduceBEq,Nat.reduceEqDiff,reduceCtorEq,Int.reduceToNat,←decide_not,←Bool.decide_and,sA,sN]<;>first|done|rfl)) ?_
   simp (maxSteps:=10000000) (disch:=omega) only[a6,n4,y0,F4,nB,vS.d,l9,P7,s9,A2,p7,o3,AV.kept,b7,n4,u0,B3,p9,o9,b8,AV.y8,m8,v8,AV.plain,rd,u6,a6,P6,stepC,AV.e6,AV.S9,AV.w6,AV.L8,AV.scalar,T8,s6,A6,A9,B1,A8,o8,A5,U0,s7,A7,z8,j3,T7,l0,y7,y5,Q0,z6,j8,TD.isRow,s8,j7,j9,j6,F4,Value.oneCell',↓reduceIte,Int.reduceNe,Int.reduceEq,Nat.reduceAdd,Nat.reduceLT,Nat.reduceLeDiff,Nat.reduceSub,Nat.reduceMul,Nat.reduceBEq,Nat.reduceEqDiff,reduceCtorEq,Int.reduceToNat,←decide_not,←Bool.decide_and,sA,sN]
   refine Zw [1,2,3,4] [0,1,179] vS.d ?_
   have e1:o0 (c.b.take (i+1))=o0 (c.b.take i)++[(c.b.getD i B0).av]:=by rw[w9 c.b i B0 hlt];simp [o0]
   have e2:(c.b.take (i+1)).length=(c.b.take i).length+1:=by simp;omega
   rw[e1,e2];rfl
  ·obtain rfl:i=c.b.length:=by omega
   rw[List.take_length]
   repeat' (first|refine Za ?_|(with_reducible constructor<;>first|intro N hN mk hmk|intro N hN|intro h)|refine Zt vS.d ?_|fail)
   refine⟨[2],by decide,fun nid=>⟨rfl,?_⟩⟩
   simp (maxSteps:=10000000) (disch:=omega) only[S6,vS.d,c5,n9,b5,c8,n5,w8,AV.plain,Nat.reduceBEq,↓reduceIte,Nat.reduceEqDiff,Nat.reduceAdd,sC]
def rT(c:Code)(l:List Int)(i:Nat):List b6:=(c.b.take i).map (I3 l c.regs)++c.b.drop i
theorem b7s(c:Code)(l:List Int)(i:Nat):(rT c l i).length=c.b.length:=by simp [rT];omega
theorem b31(c:Code)(l:List Int)(i:Nat)(h:i<c.b.length):rT c l (i+1)=(rT c l i).set i (I3 l c.regs (c.b.getD i B0)):=by
 unfold rT
 have hl:((c.b.take i).map (I3 l c.regs)).length=i:=by simp;omega
 rw[w9 c.b i B0 h,a9H c.b i B0 h,List.map_append,List.set_append_right _ _ (by omega),hl,Nat.sub_self]
 simp
theorem b7r(c:Code)(l:List Int):rT c l c.b.length=c.b.map (I3 l c.regs):=by simp [rT]
theorem b55(L:List b6)(i:Nat)(I:List e7)(a b d e g h m n p q r s:Int)(f:Int):(o0 L).modify i (fun x=>o6 x 0 [.a8 false (c6 I),.v (.int .i64 a),.v (.int .i64 b),.v (.int .i64 d),.v (.int .i64 e),.v (.int .i32 f),.v (.int .i64 g),.v (.int .i64 h),.v (.int .i32 m),.v (.int .i64 n),.v (.int .i64 p),.v (.int .i32 q),.v (.int .i64 r),.v (.int .i64 s)])=o0 (L.set i ⟨I,⟨a,b,⟨d,e,f⟩,⟨g,h,m⟩,⟨n,p,q⟩,r,s⟩⟩):=by
 apply List.ext_getElem?
 intro j
 rw[List.getElem?_modify]
 simp only[o0,List.getElem?_map,List.getElem?_set]
 by_cases hij:i=j
 ·subst hij
  by_cases hl:i<L.length
  ·simp [hl,o6,b6.av,q9.av]
  ·simp [hl]
 ·simp [hij]
def a67:=ZZ.mk (Zq L5.d (Zq @I2 (Zq @iM (Zq @m9 (Zq @D4 (Zq @Q7 (Zq @N7 (Zq @O5 (Zq @S6 (Zq @b6.av.eq_1 @q9.av.eq_1))))))))))
def c4T:=ZZ.mk (Zq a67.d @b55)
def c5U:=ZZ.mk (Zq a67.d @aB)
theorem a8B(c:Code)(l:List Int)(hb:c.b.length≤1000)(ha:c.c9.length≤1000)(hlo:c.loops.length≤1000)(hi':∀b∈c.b,b.i.length≤1000)(hl:l.length≤1000)(hr:0≤c.regs∧c.regs≤400)(hl0:∀r∈l,0≤r):e8 Tryz.prog 48 [.agg c.av,.a8 false (c7 l)] (fun _=> .agg (n8 c l).av) (fun _=>[]):=by
 have C1:=a8z c hb ha hlo hi'
 simp only[Code.av]at C1
 refine Zf Tryz.func48 Tryz.ntmps48 ?_;simp only[Code.av]
 repeat' (first|refine Za ?_|(with_reducible constructor<;>first|intro N hN mk hmk|intro N hN|intro h)|(refine H5 C1 ?_ rfl ?_ ?_;(next=>(simp (disch:=omega) only[a67.d,u6,Nat.reduceBEq,AV.plain,Nat.reduceAdd,Nat.reduceLeDiff,Nat.reduceLT,↓reduceIte,sF]<;>first|done|rfl));(next=>(simp only[apply_ite List.length,List.length_cons,List.length_nil]<;>(try split)<;>omega)))|(refine F1 C1 ?_ rfl ?_ ?_;(next=>(simp (disch:=omega) only[a67.d,u6,Nat.reduceBEq,AV.plain,Nat.reduceAdd,Nat.reduceLeDiff,Nat.reduceLT,↓reduceIte,sF]<;>first|done|rfl));(next=>(simp only[apply_ite List.length,List.length_cons,List.length_nil]<;>(try split)<;>omega)))|refine Zt a67.d ?_|fail)
 ·have e:l=[]:=List.length_eq_zero_iff.1 (by omega)
  unfold n8;rw[if_pos e]
 ·have hne:¬l=[]:=fun e=>by subst e;simp at*
  refine l8 (fun i=>⟨[.Z,.a8 false (c7 l),.ptr 0 0 0,.Z,.ptr 1 0 0,.ptr 2 0 0,.v (.int .i64 i),.Z,.Z,.Z,.Z,.Z,.Z,.Z,.Z,.Z,.Z,.Z,.Z,.Z,.Z,.Z,.Z,.Z,.Z,.Z,.Z,.Z,.Z,.Z,.Z,.Z,.Z,.Z,.Z,.Z,.Z,.Z,.Z,.Z,.Z],[(0,.live ⟨8,[[.v (.int .i64 c.group),.v (.int .i64 c.sub),.v (.int .i64 c.regs),.v (.int .i64 c.w5),.v (.int .i64 c.params),.a8 false (y4 c.c9),.a8 false (Proofs.YtgdoiokalfhjoaaGreatDoor.loops c.loops),.a8 false (o0 c.b)]],0⟩),(1,.live ⟨8,[[.v (.int .i64 0),.v (.int .i64 0),.v (.int .i64 0),.v (.int .i64 0),.v (.int .i64 0),.a8 true [],.a8 true [],.a8 true []]],0⟩),(2,.live ⟨8,[[.v (.int .i64 c.group),.v (.int .i64 c.sub),.v (.int .i64 (c.regs+3)),.v (.int .i64 l.length),.v (.int .i64 c.params),.a8 false (y4 c.c9),.a8 false (Proofs.YtgdoiokalfhjoaaGreatDoor.loops c.loops),.own 3 0 c.b.length]],0⟩),(3,.live ⟨14,o0 (rT c l i),0⟩)],4⟩) c.b.length (Zw [1,2,4,5,6] [0,8,56,48] a67.d ?_) ?_
  ·have e:rT c l 0=c.b:=by simp [rT]
   rw[e];rfl
  ·intro i hi
   have hml:=b7s c l i
   by_cases hlt:i<c.b.length
   ·have hbi:=hi' (c.b.getD i B0) (by rw[List.getD_eq_getElem?_getD,List.getElem?_eq_getElem hlt];exact List.getElem_mem hlt)
    have J:=b4f (c.b.getD i B0) l c.regs hbi hl (by omega) hl0
    obtain⟨B,hB⟩:∃B,B=I3 l c.regs (c.b.getD i B0):=⟨_,rfl⟩
    rw[←hB]at J
    simp only[b6.av,q9.av]at J
    repeat' (first|refine Za ?_|(with_reducible constructor<;>first|intro N hN mk hmk|intro N hN|intro h)|refine Zc J ?_|refine Zt (Zq c4T.d hml) ?_|fail)
    refine Zw [1,2,4,5,6] [0,1,2,3] (Zq c4T.d hml) ?_
    rw[b31 c l i hlt,←hB];rfl
   ·obtain rfl:i=c.b.length:=by omega
    have hres:n8 c l=⟨c.group,c.sub,c.regs+3,l.length,c.params,c.c9,c.loops,rT c l c.b.length⟩:=by
     rw[b7r];unfold n8;rw[if_neg hne]
    rw[hres]
    obtain⟨M,hM⟩:∃M,M=rT c l c.b.length:=⟨_,rfl⟩
    rw[←hM]at hml
    simp only[←hM]
    rw[←hml]
    repeat' (first|refine Za ?_|(with_reducible constructor<;>first|intro N hN mk hmk|intro N hN|intro h)|refine Zt c5U.d ?_|fail)
    all_goals first|rfl
end Go.Proofs.YtgdoiokalfhjoaaGreatDoor
end
section
namespace Go.Ab
open Go.RowKit (Below)
theorem cX{t:List AV}{h:List (Nat×RS)}{nx id i j:Nat}{r:Row}(hl:LS.hf h id= .live r):N3 ⟨t,h,nx⟩ ⟨t,Z6 id (.live {r with es:=r.es.modify i fun e=>e.set j .Z}) h,nx⟩:=by
 intro G M0 w0 ρ a w R
 obtain⟨R,hok⟩:=R
 have hh:=a31 (x:=RS.live {r with es:=r.es.modify i fun e=>e.set j .Z}) hl (by simp)
 refine⟨ρ,?_,a4A hok⟩
 show Rel G M0 w0 ⟨t.length,LS.tf t,LS.hf (Z6 id _ h)⟩ ρ a w
 rw[hh]
 have hM:=fun b o=>sK (M0:=M0) (ρ:=ρ) (h:=LS.hf h) (id:=id) (r:=r) (r':={r with es:=r.es.modify i fun e=>e.set j .Z}) hl rfl b o
 have hc:∀b' o c,¬p8 M0 ρ (LS.hf h) b' o→w.cell? ⟨b',o,none⟩=some c→¬p8 M0 ρ (n7 (LS.hf h) id (.live {r with es:=r.es.modify i fun e=>e.set j .Z})) b' o∧w.cell? ⟨b',o,none⟩=some c:=
  fun b' o c g1 g2=>⟨fun g=>g1 ((hM b' o).1 g),g2⟩
 have lift:∀i1 r1,n7 (LS.hf h) id (.live {r with es:=r.es.modify i fun e=>e.set j .Z}) i1= .live r1→∃r',LS.hf h i1= .live r'∧r'.sz=r1.sz:=by
  intro i1 r1 hx
  by_cases hid:i1=id
  ·subst hid
   simp only[n7,if_true,RS.live.injEq]at hx
   subst hx
   exact⟨r,hl,rfl⟩
  ·simp only[n7,if_neg hid]at hx;exact⟨_,hx,rfl⟩
 refine R.step (d:=none) (val:= .Z) (v:=undef) trivial (fun _ _ h=>h) hc (fun _ _ h=>h) ?_ ?_ ?_ R.T1 ?_ ?_ (U3.refl w) (fun _ _ _ h=>h) ?_ (.Z _)
 ·intro id' r' hx
  by_cases hid:id'=id
  ·subst hid
   simp only[n7,if_true,RS.live.injEq]at hx
   subst hx
   obtain⟨b,β,arr,e,p1,p2,p3,p4,p5,p6⟩:=R.live id' r hl
   refine⟨b,β,arr,e,p1,p2,p3,by simpa using p4,fun q hq=>?_,fun m k em x u g1 g2 g3=>?_⟩
   ·obtain⟨m,hm,hmq⟩:=List.mem_iff_getElem.1 hq
    simp only at hm hmq
    rw[List.getElem_modify]at hmq
    simp at hm
    split at hmq
    ·subst hmq;rw[List.length_set];exact p5 _ (List.getElem_mem _)
    ·subst hmq;exact p5 _ (List.getElem_mem _)
   ·simp only at g1 g2 g3
    rw[List.getElem?_modify]at g1
    cases hem:r.es[m]? with
    |none=>simp [hem]at g1
    |some em0=>
     rw[hem]at g1
     simp only[Option.map_eq_map,Option.map_some,Option.some.injEq]at g1
     split at g1
     ·subst g1
      rw[List.getElem?_set]at g2
      split at g2
      ·split at g2
       ·cases g2;exact .Z _
       ·cases g2
      ·exact(p6 m k em0 x u hem g2 g3).mono (fun _ _ h=>h) hc (fun _ _ h=>h)
     ·subst g1
      exact(p6 m k em0 x u hem g2 g3).mono (fun _ _ h=>h) hc (fun _ _ h=>h)
  ·simp only[n7,if_neg hid]at hx
   obtain⟨b,β,arr,e,p1,p2,p3,p4,p5,p6⟩:=R.live id' r' hx
   exact⟨b,β,arr,e,p1,p2,p3,p4,p5,fun m k em x u g1 g2 g3=>(p6 m k em x u g1 g2 g3).mono (fun _ _ h=>h) hc (fun _ _ h=>h)⟩
 ·intro id' hx
  by_cases hid:id'=id
  ·subst hid;simp [n7]at hx
  ·simp only[n7,if_neg hid]at hx;exact R.free id' hx
 ·intro i1 i2 r1 r2 b β β' z z' h1 h2 h3 h4
  obtain⟨q1,e1,_⟩:=lift i1 r1 h1
  obtain⟨q2,e2,_⟩:=lift i2 r2 h2
  exact R.inj i1 i2 q1 q2 b β β' z z' e1 e2 h3 h4
 ·intro id' k cs hx
  by_cases hid:id'=id
  ·subst hid;simp [n7]at hx
  ·simp only[n7,if_neg hid]at hx;exact hx
 ·intro id' b q f hx
  by_cases hid:id'=id
  ·subst hid;simp [n7]at hx
  ·simp only[n7,if_neg hid]at hx;exact hx
 ·intro id' r' p hx hp
  obtain⟨q1,e1,_⟩:=lift id' r' hx
  exact R.dP id' q1 p e1 hp
theorem aJ{t:List AV}{h:List (Nat×RS)}{nx id b:Nat}{d:TypeDesc}{f:Value→Option Value}(hl:LS.hf h id= .mp b d f):N3 ⟨t,h,nx⟩ ⟨t,Z6 id .gone h,nx⟩:=by
 intro G M0 w0 ρ a w R
 refine b9X (t:=t) (h:=h) (h':=Z6 id .gone h) (nx:=nx) (nx':=nx) (fun i=>?_) (a4A R.2) (Nat.le_refl _) G M0 w0 ρ a w R
 rw[a31 hl (by simp)]
 unfold n7
 by_cases e:i=id
 ·subst e;rw[if_pos rfl];exact .inr ⟨rfl,b,d,f,hl⟩
 ·rw[if_neg e];exact .inl rfl
end Go.Ab
end
section
namespace Go.Ab
section
section
variable {md:Bool} {P:Program} {ks:List KF} {s:LS} {K:Exit→LS→Prop} {c:Code}
theorem sL [j5 P] (id1 id2:Nat) {b1 b2:Nat} {d:TypeDesc} {f1 f2:Value→Option Value} (h1:LS.hf s.h id1= .mp b1 d f1) (h2:LS.hf s.h id2= .mp b2 d f2) (hd:d≠ .invalid) (k:Value) (h3:(f1 k).isSome=true) (h4:f2 k=none)
  (h:b1≠b2→AK (md:=md) P c ks s K):AK (md:=md) P c ks s K:=by
 intro m hmm G M0 w0 ρ a w Q hg R hQ
 refine h ?_ m hmm G M0 w0 ρ a w Q hg R hQ
 intro e
 subst e
 obtain⟨_,q1⟩:=R.1.jF id1 _ _ _ h1
 obtain⟨_,q2⟩:=R.1.jF id2 _ _ _ h2
 rcases q1 with⟨es,c,e1,_,_,e4,e5,_⟩|⟨e,_⟩
 ·rcases q2 with⟨es',c',g1,_,_,g4,g5,_⟩|⟨e,_⟩
  ·rw[e1]at g1
   cases g1
   cases hk:f1 k with
   |none=>rw[hk]at h3;cases h3
   |some v=>
    obtain⟨x,hx,hxk⟩:=e5 k v hk
    have:=g4 x hx
    rw[hxk,h4]at this
    cases this
  ·exact hd e
 ·exact hd e
end
end
end Go.Ab
end
section
namespace Go.Proofs.YtgdoiokalfhjoaaGreatDoor
open Go.Ab
theorem b7q{l u:List Int}{r:Int}:r∈r6 l u↔r∈u∧r∈l:=by simp [r6]
theorem c0D{l:List Int}{r:Int}(h:r∈l):0≤gN l r∧gN l r<l.length:=by
 have:=List.idxOf_lt_length_of_mem h
 unfold gN;omega
structure dY (c:Code) (l:List Int):Prop where
 r:∀q∈l,0≤q∧q<c.regs
 s:I9 l
 e:∀q∈l,a9a c q∧¬b6p c q
end Go.Proofs.YtgdoiokalfhjoaaGreatDoor
end
