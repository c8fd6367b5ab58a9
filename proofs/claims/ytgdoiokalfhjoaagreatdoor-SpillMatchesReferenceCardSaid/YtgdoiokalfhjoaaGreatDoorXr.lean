/- Own work (by an AI agent; no person has read it): part of a proof of the seat YtgdoiokalfhjoaaGreatDoor. -/
import Derived.Test.YtgdoiokalfhjoaaGreatDoorXk
import Derived.Test.YtgdoiokalfhjoaaGreatDoorXq
set_option linter.unusedSimpArgs false
set_option linter.unusedVariables false
set_option maxRecDepth 100000
set_option maxHeartbeats 10000000
section
namespace Go.Proofs.YtgdoiokalfhjoaaGreatDoor
open Go.Ab
theorem c1f(l:List cQ):(∀e∈w6 l,∀x∈e,AV.one x=true)=True:=by
 refine eq_true fun e he x hx=>?_
 simp only[w6,List.mem_map]at he
 obtain⟨a,_,rfl⟩:=he
 simp only[cQ.av,List.mem_cons,List.not_mem_nil,or_false]at hx
 rcases hx with rfl|rfl|rfl|rfl<;>rfl
theorem b35(l:List cQ):(w6 l).take l.length=w6 l:=by rw[←fB,List.take_length]
theorem b09(l:List Loop):(loops l).take l.length=loops l:=by rw[←M9,List.take_length]
def a4H:=ZZ.mk (Zq I8.d (Zq @b35 (Zq @b09 (Zq @c1f (Zq @lE (Zq @yR (Zq @pB (Zq @fB (Zq @qY (Zq @jG (Zq @M9 (Zq @gS (Zq @dM (Zq @y7 (Zq @I3 (Zq @H8 (Zq @K0 (Zq @Q6 (Zq @bC (Zq @O3 (Zq @b6.av.eq_1 @o6.av.eq_1)))))))))))))))))))))
def b3Y:=ZZ.mk (Zq a4H.d (Zq @oN @bW))
theorem b8N(c:Code)(hb:c.b.length≤1000)(ha:c.c6.length≤1000)(hl:c.loops.length≤1000)(hi':∀b∈c.b,b.i.length≤1000):c9 Tryz.prog 54 [.agg c.av] (fun n=> .agg [.v (.int .i64 c.group),.v (.int .i64 c.sub),.v (.int .i64 c.regs),.v (.int .i64 c.u7),.v (.int .i64 c.params),.a6 false (w6 c.c6),.a6 false (Proofs.YtgdoiokalfhjoaaGreatDoor.loops c.loops),.own n 0 c.b.length]) (fun _=>[⟨14,p7 c.b,0⟩]):=by
 (refine gP Tryz.func54 rfl (by kernel_rfl) ?_;rw[lB Tryz.ntmps54];simp only[Code.av];simp only[List.replicate_succ,List.replicate_zero,List.cons_append,List.nil_append,List.length_cons,List.length_nil,Nat.reduceAdd,Nat.reduceSub];refine u2 ?_)
 repeat' (first|refine Za ?_|(with_reducible constructor<;>first|intro N hN mk hmk|intro N hN|intro h)|refine Zt a4H.d ?_|fail)
 refine dF 0 0 5 (x:= .own 40 0 c.c6.length) (y:= .a6 false (w6 c.c6)) (ids:=[(40,c.c6.length)]) rfl (rfl) (by simp (maxSteps:=10000000) (disch:=omega) only[a4H.d,n7,T6,u4,B4,s7,o7,AV.kept,b8,n6,u5,D5,s8,s6,c7,AV.A6,n8,x5,AV.plain,rd,v8,a8,T1,stepC,AV.j3,AV.U9,AV.x7,AV.O6,AV.scalar,V7,u0,C8,D3,D4,D0,s5,B9,V8,u1,C9,B3,l0,V6,n4,A4,A3,T7,B2,m8,TD.isRow,u3,l9,n3,l7,H7,Value.oneCell',↓reduceIte,Int.reduceNe,Int.reduceEq,Nat.reduceAdd,Nat.reduceLT,Nat.reduceLeDiff,Nat.reduceSub,Nat.reduceMul,Nat.reduceBEq,Nat.reduceEqDiff,reduceCtorEq,Int.reduceToNat,←decide_not,←Bool.decide_and,sA,sN]<;>first|done|rfl) (by first|rfl|(simp (maxSteps:=10000000) (disch:=omega) only[a8,a4H.d,n7,T6,u4,B4,s7,o7,AV.kept,b8,n6,u5,D5,s8,s6,c7,AV.A6,n8,x5,AV.plain,rd,v8,a8,T1,stepC,AV.j3,AV.U9,AV.x7,AV.O6,AV.scalar,V7,u0,C8,D3,D4,D0,s5,B9,V8,u1,C9,B3,l0,V6,n4,A4,A3,T7,B2,m8,TD.isRow,u3,l9,n3,l7,H7,Value.oneCell',↓reduceIte,Int.reduceNe,Int.reduceEq,Nat.reduceAdd,Nat.reduceLT,Nat.reduceLeDiff,Nat.reduceSub,Nat.reduceMul,Nat.reduceBEq,Nat.reduceEqDiff,reduceCtorEq,Int.reduceToNat,←decide_not,←Bool.decide_and,sA,sN]<;>first|done|rfl)) ?_;simp (maxSteps:=10000000) (disch:=omega) only[n6,y3,H7,a4H.d,n7,T6,u4,B4,s7,o7,AV.kept,b8,n6,u5,D5,s8,s6,c7,AV.A6,n8,x5,AV.plain,rd,v8,a8,T1,stepC,AV.j3,AV.U9,AV.x7,AV.O6,AV.scalar,V7,u0,C8,D3,D4,D0,s5,B9,V8,u1,C9,B3,l0,V6,n4,A4,A3,T7,B2,m8,TD.isRow,u3,l9,n3,l7,H7,Value.oneCell',↓reduceIte,Int.reduceNe,Int.reduceEq,Nat.reduceAdd,Nat.reduceLT,Nat.reduceLeDiff,Nat.reduceSub,Nat.reduceMul,Nat.reduceBEq,Nat.reduceEqDiff,reduceCtorEq,Int.reduceToNat,←decide_not,←Bool.decide_and,sA,sN]
 refine dF 0 0 6 (x:= .own 88 0 c.loops.length) (y:= .a6 false (Proofs.YtgdoiokalfhjoaaGreatDoor.loops c.loops)) (ids:=[(88,c.loops.length)]) rfl (rfl) (by simp (maxSteps:=10000000) (disch:=omega) only[a4H.d,n7,T6,u4,B4,s7,o7,AV.kept,b8,n6,u5,D5,s8,s6,c7,AV.A6,n8,x5,AV.plain,rd,v8,a8,T1,stepC,AV.j3,AV.U9,AV.x7,AV.O6,AV.scalar,V7,u0,C8,D3,D4,D0,s5,B9,V8,u1,C9,B3,l0,V6,n4,A4,A3,T7,B2,m8,TD.isRow,u3,l9,n3,l7,H7,Value.oneCell',↓reduceIte,Int.reduceNe,Int.reduceEq,Nat.reduceAdd,Nat.reduceLT,Nat.reduceLeDiff,Nat.reduceSub,Nat.reduceMul,Nat.reduceBEq,Nat.reduceEqDiff,reduceCtorEq,Int.reduceToNat,←decide_not,←Bool.decide_and,sA,sN]<;>first|done|rfl) (by first|rfl|(simp (maxSteps:=10000000) (disch:=omega) only[a8,a4H.d,n7,T6,u4,B4,s7,o7,AV.kept,b8,n6,u5,D5,s8,s6,c7,AV.A6,n8,x5,AV.plain,rd,v8,a8,T1,stepC,AV.j3,AV.U9,AV.x7,AV.O6,AV.scalar,V7,u0,C8,D3,D4,D0,s5,B9,V8,u1,C9,B3,l0,V6,n4,A4,A3,T7,B2,m8,TD.isRow,u3,l9,n3,l7,H7,Value.oneCell',↓reduceIte,Int.reduceNe,Int.reduceEq,Nat.reduceAdd,Nat.reduceLT,Nat.reduceLeDiff,Nat.reduceSub,Nat.reduceMul,Nat.reduceBEq,Nat.reduceEqDiff,reduceCtorEq,Int.reduceToNat,←decide_not,←Bool.decide_and,sA,sN]<;>first|done|rfl)) ?_;simp (maxSteps:=10000000) (disch:=omega) only[n6,y3,H7,a4H.d,n7,T6,u4,B4,s7,o7,AV.kept,b8,n6,u5,D5,s8,s6,c7,AV.A6,n8,x5,AV.plain,rd,v8,a8,T1,stepC,AV.j3,AV.U9,AV.x7,AV.O6,AV.scalar,V7,u0,C8,D3,D4,D0,s5,B9,V8,u1,C9,B3,l0,V6,n4,A4,A3,T7,B2,m8,TD.isRow,u3,l9,n3,l7,H7,Value.oneCell',↓reduceIte,Int.reduceNe,Int.reduceEq,Nat.reduceAdd,Nat.reduceLT,Nat.reduceLeDiff,Nat.reduceSub,Nat.reduceMul,Nat.reduceBEq,Nat.reduceEqDiff,reduceCtorEq,Int.reduceToNat,←decide_not,←Bool.decide_and,sA,sN]
 refine c8 (fun i=>⟨[.Z,.ptr 0 0 0,.ptr 1 0 0,.own 2 0 (c.b.take i).length,.v (.int .i64 i),.Z,.Z,.Z,.Z,.Z,.Z,.Z,.Z,.Z,.Z,.Z,.Z,.Z,.Z,.Z,.Z,.Z,.Z,.Z,.Z,.Z,.Z,.Z,.Z,.Z,.Z,.Z,.Z,.Z,.Z,.Z,.Z,.Z,.Z,.Z,.Z,.Z,.Z,.Z],[(0,.live ⟨8,[[.v (.int .i64 c.group),.v (.int .i64 c.sub),.v (.int .i64 c.regs),.v (.int .i64 c.u7),.v (.int .i64 c.params),.a6 false (w6 c.c6),.a6 false (Proofs.YtgdoiokalfhjoaaGreatDoor.loops c.loops),.a6 false (p7 c.b)]],0⟩),(1,.live ⟨8,[[.v (.int .i64 0),.v (.int .i64 0),.v (.int .i64 0),.v (.int .i64 0),.v (.int .i64 0),.a6 true [],.a6 true [],.a6 true []]],0⟩),(2,.live ⟨14,p7 (c.b.take i),0⟩)],3⟩) c.b.length (Zw [1,2,3,4] [0,8,112] a4H.d ?_) ?_
 ·rfl
 ·intro i hi
  by_cases hlt:i<c.b.length
  ·have hbi:=hi' (c.b.getD i B0) (by rw[List.getD_eq_getElem?_getD,List.getElem?_eq_getElem hlt];exact List.getElem_mem hlt)
   have htl:(c.b.take i).length=i:=by simp;omega
   repeat' (first|refine Za ?_|(with_reducible constructor<;>first|intro N hN mk hmk|intro N hN|intro h)|refine Zt b3Y.d ?_|fail)
   refine E9 (aO 179 (c.b.take i).length 0 6 (.own 107 0 (c.b.getD i B0).i.length) (.a6 false (e7 (c.b.getD i B0).i)) rfl (by first|exact Y3 _ _|(simp only[Y3];rfl)) (by simp (maxSteps:=10000000) (disch:=omega) only[v8,b3Y.d,n7,T6,u4,B4,s7,o7,AV.kept,b8,n6,u5,D5,s8,s6,c7,AV.A6,n8,x5,AV.plain,rd,v8,a8,T1,stepC,AV.j3,AV.U9,AV.x7,AV.O6,AV.scalar,V7,u0,C8,D3,D4,D0,s5,B9,V8,u1,C9,B3,l0,V6,n4,A4,A3,T7,B2,m8,TD.isRow,u3,l9,n3,l7,H7,Value.oneCell',↓reduceIte,Int.reduceNe,Int.reduceEq,Nat.reduceAdd,Nat.reduceLT,Nat.reduceLeDiff,Nat.reduceSub,Nat.reduceMul,Nat.reduceBEq,Nat.reduceEqDiff,reduceCtorEq,Int.reduceToNat,←decide_not,←Bool.decide_and,sA,sN]<;>first|done|rfl)) ?_
   simp (maxSteps:=10000000) (disch:=omega) only[a8,n6,y3,H7,xT,b3Y.d,n7,T6,u4,B4,s7,o7,AV.kept,b8,n6,u5,D5,s8,s6,c7,AV.A6,n8,x5,AV.plain,rd,v8,a8,T1,stepC,AV.j3,AV.U9,AV.x7,AV.O6,AV.scalar,V7,u0,C8,D3,D4,D0,s5,B9,V8,u1,C9,B3,l0,V6,n4,A4,A3,T7,B2,m8,TD.isRow,u3,l9,n3,l7,H7,Value.oneCell',↓reduceIte,Int.reduceNe,Int.reduceEq,Nat.reduceAdd,Nat.reduceLT,Nat.reduceLeDiff,Nat.reduceSub,Nat.reduceMul,Nat.reduceBEq,Nat.reduceEqDiff,reduceCtorEq,Int.reduceToNat,←decide_not,←Bool.decide_and,sA,sN]
   refine Zw [1,2,3,4] [0,1,179] b3Y.d ?_
   have e1:p7 (c.b.take (i+1))=p7 (c.b.take i)++[(c.b.getD i B0).av]:=by rw[w4 c.b i B0 hlt];simp [p7]
   have e2:(c.b.take (i+1)).length=(c.b.take i).length+1:=by simp;omega
   rw[e1,e2];rfl
  ·obtain rfl:i=c.b.length:=by omega
   rw[List.take_length]
   repeat' (first|refine Za ?_|(with_reducible constructor<;>first|intro N hN mk hmk|intro N hN|intro h)|refine Zt b3Y.d ?_|fail)
   refine⟨[2],by decide,fun nid=>⟨rfl,?_⟩⟩
   simp (maxSteps:=10000000) (disch:=omega) only[S5,b3Y.d,c5,o0,b5,e6,n9,x8,AV.plain,Nat.reduceBEq,↓reduceIte,Nat.reduceEqDiff,Nat.reduceAdd,sC]
def uB(c:Code)(l:List Int)(i:Nat):List b6:=(c.b.take i).map (E5 l c.regs)++c.b.drop i
theorem b8q(c:Code)(l:List Int)(i:Nat):(uB c l i).length=c.b.length:=by simp [uB];omega
theorem b45(c:Code)(l:List Int)(i:Nat)(h:i<c.b.length):uB c l (i+1)=(uB c l i).set i (E5 l c.regs (c.b.getD i B0)):=by
 unfold uB
 have hl:((c.b.take i).map (E5 l c.regs)).length=i:=by simp;omega
 rw[w4 c.b i B0 h,yF c.b i B0 h,List.map_append,List.set_append_right _ _ (by omega),hl,Nat.sub_self]
 simp
theorem b8p(c:Code)(l:List Int):uB c l c.b.length=c.b.map (E5 l c.regs):=by simp [uB]
theorem b64(L:List b6)(i:Nat)(I:List e8)(a b d e g h m n p q r s:Int)(f:Int):(p7 L).modify i (fun x=>p8 x 0 [.a6 false (e7 I),.v (.int .i64 a),.v (.int .i64 b),.v (.int .i64 d),.v (.int .i64 e),.v (.int .i32 f),.v (.int .i64 g),.v (.int .i64 h),.v (.int .i32 m),.v (.int .i64 n),.v (.int .i64 p),.v (.int .i32 q),.v (.int .i64 r),.v (.int .i64 s)])=p7 (L.set i ⟨I,⟨a,b,⟨d,e,f⟩,⟨g,h,m⟩,⟨n,p,q⟩,r,s⟩⟩):=by
 apply List.ext_getElem?
 intro j
 rw[List.getElem?_modify]
 simp only[p7,List.getElem?_map,List.getElem?_set]
 by_cases hij:i=j
 ·subst hij
  by_cases hl:i<L.length
  ·simp [hl,p8,b6.av,o6.av]
  ·simp [hl]
 ·simp [hij]
def b0g:=ZZ.mk (Zq I8.d (Zq @H3 (Zq @fH (Zq @j8 (Zq @y7 (Zq @I3 (Zq @H8 (Zq @K0 (Zq @S5 (Zq @b6.av.eq_1 @o6.av.eq_1))))))))))
def c5O:=ZZ.mk (Zq b0g.d @b64)
def c6S:=ZZ.mk (Zq b0g.d @bW)
theorem gV(c:Code)(l:List Int)(hb:c.b.length≤1000)(ha:c.c6.length≤1000)(hlo:c.loops.length≤1000)(hi':∀b∈c.b,b.i.length≤1000)(hl:l.length≤1000)(hr:0≤c.regs∧c.regs≤400)(hl0:∀r∈l,0≤r):c9 Tryz.prog 48 [.agg c.av,.a6 false (b7 l)] (fun _=> .agg (m9 c l).av) (fun _=>[]):=by
 have C1:=b8N c hb ha hlo hi'
 simp only[Code.av]at C1
 refine Zf Tryz.func48 Tryz.ntmps48 ?_;simp only[Code.av]
 repeat' (first|refine Za ?_|(with_reducible constructor<;>first|intro N hN mk hmk|intro N hN|intro h)|(refine M8 C1 ?_ rfl ?_ ?_;(next=>(simp (disch:=omega) only[b0g.d,v8,Nat.reduceBEq,AV.plain,Nat.reduceAdd,Nat.reduceLeDiff,Nat.reduceLT,↓reduceIte,sF]<;>first|done|rfl));(next=>(simp only[apply_ite List.length,List.length_cons,List.length_nil]<;>(try split)<;>omega)))|(refine H9 C1 ?_ rfl ?_ ?_;(next=>(simp (disch:=omega) only[b0g.d,v8,Nat.reduceBEq,AV.plain,Nat.reduceAdd,Nat.reduceLeDiff,Nat.reduceLT,↓reduceIte,sF]<;>first|done|rfl));(next=>(simp only[apply_ite List.length,List.length_cons,List.length_nil]<;>(try split)<;>omega)))|refine Zt b0g.d ?_|fail)
 ·have e:l=[]:=List.length_eq_zero_iff.1 (by omega)
  unfold m9;rw[if_pos e]
 ·have hne:¬l=[]:=fun e=>by subst e;simp at*
  refine c8 (fun i=>⟨[.Z,.a6 false (b7 l),.ptr 0 0 0,.Z,.ptr 1 0 0,.ptr 2 0 0,.v (.int .i64 i),.Z,.Z,.Z,.Z,.Z,.Z,.Z,.Z,.Z,.Z,.Z,.Z,.Z,.Z,.Z,.Z,.Z,.Z,.Z,.Z,.Z,.Z,.Z,.Z,.Z,.Z,.Z,.Z,.Z,.Z,.Z,.Z,.Z,.Z],[(0,.live ⟨8,[[.v (.int .i64 c.group),.v (.int .i64 c.sub),.v (.int .i64 c.regs),.v (.int .i64 c.u7),.v (.int .i64 c.params),.a6 false (w6 c.c6),.a6 false (Proofs.YtgdoiokalfhjoaaGreatDoor.loops c.loops),.a6 false (p7 c.b)]],0⟩),(1,.live ⟨8,[[.v (.int .i64 0),.v (.int .i64 0),.v (.int .i64 0),.v (.int .i64 0),.v (.int .i64 0),.a6 true [],.a6 true [],.a6 true []]],0⟩),(2,.live ⟨8,[[.v (.int .i64 c.group),.v (.int .i64 c.sub),.v (.int .i64 (c.regs+3)),.v (.int .i64 l.length),.v (.int .i64 c.params),.a6 false (w6 c.c6),.a6 false (Proofs.YtgdoiokalfhjoaaGreatDoor.loops c.loops),.own 3 0 c.b.length]],0⟩),(3,.live ⟨14,p7 (uB c l i),0⟩)],4⟩) c.b.length (Zw [1,2,4,5,6] [0,8,56,48] b0g.d ?_) ?_
  ·have e:uB c l 0=c.b:=by simp [uB]
   rw[e];rfl
  ·intro i hi
   have hml:=b8q c l i
   by_cases hlt:i<c.b.length
   ·have hbi:=hi' (c.b.getD i B0) (by rw[List.getD_eq_getElem?_getD,List.getElem?_eq_getElem hlt];exact List.getElem_mem hlt)
    have J:=b5f (c.b.getD i B0) l c.regs hbi hl (by omega) hl0
    obtain⟨B,hB⟩:∃B,B=E5 l c.regs (c.b.getD i B0):=⟨_,rfl⟩
    rw[←hB]at J
    simp only[b6.av,o6.av]at J
    repeat' (first|refine Za ?_|(with_reducible constructor<;>first|intro N hN mk hmk|intro N hN|intro h)|refine Zc J ?_|refine Zt (Zq c5O.d hml) ?_|fail)
    refine Zw [1,2,4,5,6] [0,1,2,3] (Zq c5O.d hml) ?_
    rw[b45 c l i hlt,←hB];rfl
   ·obtain rfl:i=c.b.length:=by omega
    have hres:m9 c l=⟨c.group,c.sub,c.regs+3,l.length,c.params,c.c6,c.loops,uB c l c.b.length⟩:=by
     rw[b8p];unfold m9;rw[if_neg hne]
    rw[hres]
    obtain⟨M,hM⟩:∃M,M=uB c l c.b.length:=⟨_,rfl⟩
    rw[←hM]at hml
    simp only[←hM]
    rw[←hml]
    repeat' (first|refine Za ?_|(with_reducible constructor<;>first|intro N hN mk hmk|intro N hN|intro h)|refine Zt c6S.d ?_|fail)
    all_goals first|rfl
end Go.Proofs.YtgdoiokalfhjoaaGreatDoor
end
section
namespace Go.Ab
open Go.RowKit (Below)
theorem dE{t:List AV}{h:List (Nat×RS)}{nx id i j:Nat}{r:Row}(hl:LS.hf h id= .live r):N4 ⟨t,h,nx⟩ ⟨t,aB id (.live {r with es:=r.es.modify i fun e=>e.set j .Z}) h,nx⟩:=by
 intro G M0 w0 ρ a w R
 obtain⟨R,hok⟩:=R
 have hh:=a45 (x:=RS.live {r with es:=r.es.modify i fun e=>e.set j .Z}) hl (by simp)
 refine⟨ρ,?_,a5D hok⟩
 show Rel G M0 w0 ⟨t.length,LS.tf t,LS.hf (aB id _ h)⟩ ρ a w
 rw[hh]
 have hM:=fun b o=>uG (M0:=M0) (ρ:=ρ) (h:=LS.hf h) (id:=id) (r:=r) (r':={r with es:=r.es.modify i fun e=>e.set j .Z}) hl rfl b o
 have hc:∀b' o c,¬p9 M0 ρ (LS.hf h) b' o→w.cell? ⟨b',o,none⟩=some c→¬p9 M0 ρ (n5 (LS.hf h) id (.live {r with es:=r.es.modify i fun e=>e.set j .Z})) b' o∧w.cell? ⟨b',o,none⟩=some c:=
  fun b' o c g1 g2=>⟨fun g=>g1 ((hM b' o).1 g),g2⟩
 have lift:∀i1 r1,n5 (LS.hf h) id (.live {r with es:=r.es.modify i fun e=>e.set j .Z}) i1= .live r1→∃r',LS.hf h i1= .live r'∧r'.sz=r1.sz:=by
  intro i1 r1 hx
  by_cases hid:i1=id
  ·subst hid
   simp only[n5,if_true,RS.live.injEq]at hx
   subst hx
   exact⟨r,hl,rfl⟩
  ·simp only[n5,if_neg hid]at hx;exact⟨_,hx,rfl⟩
 refine R.step (d:=none) (val:= .Z) (v:=undef) trivial (fun _ _ h=>h) hc (fun _ _ h=>h) ?_ ?_ ?_ R.S4 ?_ ?_ (T8.refl w) (fun _ _ _ h=>h) ?_ (.Z _)
 ·intro id' r' hx
  by_cases hid:id'=id
  ·subst hid
   simp only[n5,if_true,RS.live.injEq]at hx
   subst hx
   obtain⟨b,β,arr,e,p1,p2,p3,p4,p5,p6⟩:=R.live id' r hl
   refine⟨b,β,arr,e,p1,p2,p3,by simpa using p4,fun q hq=>?_,fun m k em x u g1 g2 g3=>?_⟩
   ·obtain⟨m,hm,hmq⟩:=List.mem_iff_getElem.1 hq
    simp only at hm hmq
    rw[List.getElem_modify]at hmq
    simp at hm
    split at hmq
    ·subst hmq;rw[List.length_set];exact p5 _ (List.getElem_mem _)
    ·subst hmq;exact p5 _ (List.getElem_mem _)
   ·simp only at g1 g2 g3
    rw[List.getElem?_modify]at g1
    cases hem:r.es[m]? with
    |none=>simp [hem]at g1
    |some em0=>
     rw[hem]at g1
     simp only[Option.map_eq_map,Option.map_some,Option.some.injEq]at g1
     split at g1
     ·subst g1
      rw[List.getElem?_set]at g2
      split at g2
      ·split at g2
       ·cases g2;exact .Z _
       ·cases g2
      ·exact(p6 m k em0 x u hem g2 g3).mono (fun _ _ h=>h) hc (fun _ _ h=>h)
     ·subst g1
      exact(p6 m k em0 x u hem g2 g3).mono (fun _ _ h=>h) hc (fun _ _ h=>h)
  ·simp only[n5,if_neg hid]at hx
   obtain⟨b,β,arr,e,p1,p2,p3,p4,p5,p6⟩:=R.live id' r' hx
   exact⟨b,β,arr,e,p1,p2,p3,p4,p5,fun m k em x u g1 g2 g3=>(p6 m k em x u g1 g2 g3).mono (fun _ _ h=>h) hc (fun _ _ h=>h)⟩
 ·intro id' hx
  by_cases hid:id'=id
  ·subst hid;simp [n5]at hx
  ·simp only[n5,if_neg hid]at hx;exact R.free id' hx
 ·intro i1 i2 r1 r2 b β β' z z' h1 h2 h3 h4
  obtain⟨q1,e1,_⟩:=lift i1 r1 h1
  obtain⟨q2,e2,_⟩:=lift i2 r2 h2
  exact R.inj i1 i2 q1 q2 b β β' z z' e1 e2 h3 h4
 ·intro id' k cs hx
  by_cases hid:id'=id
  ·subst hid;simp [n5]at hx
  ·simp only[n5,if_neg hid]at hx;exact hx
 ·intro id' b q f hx
  by_cases hid:id'=id
  ·subst hid;simp [n5]at hx
  ·simp only[n5,if_neg hid]at hx;exact hx
 ·intro id' r' p hx hp
  obtain⟨q1,e1,_⟩:=lift id' r' hx
  exact R.dV id' q1 p e1 hp
theorem aP{t:List AV}{h:List (Nat×RS)}{nx id b:Nat}{d:TypeDesc}{f:Value→Option Value}(hl:LS.hf h id= .mp b d f):N4 ⟨t,h,nx⟩ ⟨t,aB id .gone h,nx⟩:=by
 intro G M0 w0 ρ a w R
 refine c0Y (t:=t) (h:=h) (h':=aB id .gone h) (nx:=nx) (nx':=nx) (fun i=>?_) (a5D R.2) (Nat.le_refl _) G M0 w0 ρ a w R
 rw[a45 hl (by simp)]
 unfold n5
 by_cases e:i=id
 ·subst e;rw[if_pos rfl];exact .inr ⟨rfl,b,d,f,hl⟩
 ·rw[if_neg e];exact .inl rfl
end Go.Ab
end
section
namespace Go.Ab
section
section
variable {md:Bool} {P:Program} {ks:List KF} {s:LS} {K:Exit→LS→Prop} {c:Code}
theorem uH [j5 P] (id1 id2:Nat) {b1 b2:Nat} {d:TypeDesc} {f1 f2:Value→Option Value} (h1:LS.hf s.h id1= .mp b1 d f1) (h2:LS.hf s.h id2= .mp b2 d f2) (hd:d≠ .invalid) (k:Value) (h3:(f1 k).isSome=true) (h4:f2 k=none)
  (h:b1≠b2→AK (md:=md) P c ks s K):AK (md:=md) P c ks s K:=by
 intro m hmm G M0 w0 ρ a w Q hg R hQ
 refine h ?_ m hmm G M0 w0 ρ a w Q hg R hQ
 intro e
 subst e
 obtain⟨_,q1⟩:=R.1.kL id1 _ _ _ h1
 obtain⟨_,q2⟩:=R.1.kL id2 _ _ _ h2
 rcases q1 with⟨es,c,e1,_,_,e4,e5,_⟩|⟨e,_⟩
 ·rcases q2 with⟨es',c',g1,_,_,g4,g5,_⟩|⟨e,_⟩
  ·rw[e1]at g1
   cases g1
   cases hk:f1 k with
   |none=>rw[hk]at h3;cases h3
   |some v=>
    obtain⟨x,hx,hxk⟩:=e5 k v hk
    have:=g4 x hx
    rw[hxk,h4]at this
    cases this
  ·exact hd e
 ·exact hd e
end
end
end Go.Ab
end
section
namespace Go.Proofs.YtgdoiokalfhjoaaGreatDoor
open Go.Ab
theorem fL{l u:List Int}{r:Int}:r∈o4 l u↔r∈u∧r∈l:=by simp [o4]
theorem c1D{l:List Int}{r:Int}(h:r∈l):0≤eM l r∧eM l r<l.length:=by
 have:=List.idxOf_lt_length_of_mem h
 unfold eM;omega
theorem a4j{ops:List E3}{K:List Int}{regs r:Int}:r∈o5 (ops.map fun o=>w8 o K regs)↔(r∈o5 ops∧r∉K)∨∃q,q∈o5 ops∧q∈K∧r=regs+eM K q:=by
 rw[L6]
 constructor
 ·rintro⟨o',ho',hk,hn⟩
  obtain⟨o,ho,rfl⟩:=List.mem_map.1 ho'
  by_cases h:o.k=2∧o.n∈K
  ·unfold w8 at hn
   rw[if_pos h]at hn
   exact .inr ⟨o.n,L6.2 ⟨o,ho,h.1,rfl⟩,h.2,hn.symm⟩
  ·unfold w8 at hn hk
   rw[if_neg h]at hn hk
   exact .inl ⟨L6.2 ⟨o,ho,hk,hn⟩,fun hm=>h ⟨hk,by rw[hn];exact hm⟩⟩
 ·rintro(⟨h1,h2⟩|⟨q,h1,h2,h3⟩)
  ·obtain⟨o,ho,hk,hn⟩:=L6.1 h1
   refine⟨w8 o K regs,List.mem_map.2 ⟨o,ho,rfl⟩,?_⟩
   have h:¬(o.k=2∧o.n∈K):=fun h=>h2 (by rw[←hn];exact h.2)
   unfold w8;rw[if_neg h];exact⟨hk,hn⟩
  ·obtain⟨o,ho,hk,hn⟩:=L6.1 h1
   refine⟨w8 o K regs,List.mem_map.2 ⟨o,ho,rfl⟩,?_⟩
   have h:o.k=2∧o.n∈K:=⟨hk,by rw[hn];exact h2⟩
   unfold w8;rw[if_pos h,hn];exact⟨rfl,h3.symm⟩
theorem zR{l K:List Int}{regs r:Int}{S:List Int}:r∈(H6 l K regs).foldr x6 S↔r∈S∧∀k:Nat,k<K.length→r≠regs+k:=by
 have key:∀L:List Nat,r∈(L.map fun k=>yM l regs (K.getD k 0) k).foldr x6 S↔r∈S∧∀k∈L,r≠regs+(k:Int):=by
  intro L
  induction L with
  |nil=>simp
  |cons k L ih=>
   rw[List.map_cons,List.foldr_cons,bS,ih]
   have hd:z8 (yM l regs (K.getD k 0) k)=regs+k:=rfl
   have hu:m7 (yM l regs (K.getD k 0) k)=[]:=rfl
   rw[hd,hu]
   simp only[List.not_mem_nil,or_false,List.mem_cons,forall_eq_or_imp]
   constructor
   ·rintro⟨⟨h1,h2⟩,h3⟩;exact⟨h1,h3,h2⟩
   ·rintro⟨h1,h3,h2⟩;exact⟨⟨h1,h2⟩,h3⟩
 have:=key (List.range K.length)
 unfold H6
 rw[this]
 simp only[List.mem_range]
theorem mA{a b:List e8}{S:List Int}:(a++b).foldr x6 S=a.foldr x6 (b.foldr x6 S):=List.foldr_append ..
theorem c6G(l:List Int)(regs:Int)(x:e8):m7 (a3Y l regs x)=o5 ([x.a,x.b,x.c].map fun o=>w8 o (o4 l (m7 x)) regs):=rfl
theorem a4i{l:List Int}{regs r:Int}{x:e8}{S':List Int}(hS:r∈S'→0≤r∧r≠regs):
  r∈(W8 l regs x).foldr x6 S'↔(((r∈S'∧(r≠z8 x∨z8 x∈l))∨(r∈m7 x∧r∉l)∨∃q,q∈m7 x∧q∈l∧r=regs+eM (o4 l (m7 x)) q)∧∀k:Nat,k<(o4 l (m7 x)).length→r≠regs+k):=by
 unfold W8
 rw[mA,zR]
 refine and_congr ?_ Iff.rfl
 rw[List.foldr_cons,bS,c6G,a4j]
 refine or_congr ?_ (or_congr ?_ ?_)
 ·by_cases hd:z8 x∈l
  ·have e:z8 (a3Y l regs x)=regs:=by
    show nX (if z8 x∈l then mR regs else x.d)=regs
    rw[if_pos hd];rfl
   rw[if_pos hd,e,List.foldr_cons,List.foldr_nil,bS]
   have hu:m7 (c2n l regs (z8 x))=[regs]:=rfl
   have hdd:z8 (c2n l regs (z8 x))= -1:=rfl
   rw[hu,hdd,List.mem_singleton]
   constructor
   ·rintro⟨⟨h1,_⟩|h1,h2⟩
    ·exact⟨h1,.inr hd⟩
    ·exact absurd h1 h2
   ·rintro⟨h1,_⟩
    have:=hS h1
    exact⟨.inl ⟨h1,by omega⟩,this.2⟩
  ·have e:z8 (a3Y l regs x)=z8 x:=by
    show nX (if z8 x∈l then mR regs else x.d)=z8 x
    rw[if_neg hd];rfl
   rw[if_neg hd,e,List.foldr_nil]
   constructor
   ·rintro⟨h1,h2⟩;exact⟨h1,.inl h2⟩
   ·rintro⟨h1,h2|h2⟩
    ·exact⟨h1,h2⟩
    ·exact absurd h2 hd
 ·rw[fL]
  constructor
  ·rintro⟨h1,h2⟩;exact⟨h1,fun h=>h2 ⟨h1,h⟩⟩
  ·rintro⟨h1,h2⟩;exact⟨h1,fun h=>h2 h.2⟩
 ·refine exists_congr fun q=>?_
  rw[fL]
  constructor
  ·rintro⟨h1,⟨_,h2⟩,h3⟩;exact⟨h1,h2,h3⟩
  ·rintro⟨h1,h2,h3⟩;exact⟨h1,⟨h1,h2⟩,h3⟩
theorem b3E{K:List Int}{q regs:Int}(h:q∈K):∃k:Nat,k<K.length∧regs+eM K q=regs+k:=
 ⟨K.idxOf q,List.idxOf_lt_length_of_mem h,rfl⟩
theorem c5X{l:List Int}{regs:Int}{x:e8}{S S':List Int}(hx:∀q∈m7 x,0≤q∧q<regs)(h:∀r∈S',r∈S∧r∉l∧0≤r∧r<regs):∀r∈(W8 l regs x).foldr x6 S',r∈x6 x S∧r∉l∧0≤r∧r<regs:=by
 intro r hr
 rw[a4i (fun h1=>by have:=h r h1;omega)]at hr
 obtain⟨h1|h1|⟨q,h1,h2,h3⟩,h4⟩:=hr
 ·obtain⟨h5,h6,h7⟩:=h r h1.1
  refine⟨bS.2 (.inl ⟨h5,?_⟩),h6,h7⟩
  rcases h1.2 with h8|h8
  ·exact h8
  ·intro e;rw[e]at h6;exact h6 h8
 ·exact⟨bS.2 (.inr h1.1),h1.2,hx r h1.1⟩
 ·obtain⟨k,h5,h6⟩:=b3E (regs:=regs) (fL.2 ⟨h1,h2⟩)
  exact absurd (h3.trans h6) (h4 k h5)
theorem up1{l:List Int}{regs:Int}{x:e8}{S S':List Int}(h:∀r∈S,r∉l→0≤r→r<regs→r∈S'):∀r∈x6 x S,r∉l→0≤r→r<regs→r∈(W8 l regs x).foldr x6 S':=by
 intro r hr h1 h2 h3
 rw[a4i (fun _=>by omega)]
 refine⟨?_,fun k _=>by omega⟩
 rcases bS.1 hr with⟨h4,h5⟩|h4
 ·exact .inl ⟨h r h4 h1 h2 h3,.inl h5⟩
 ·exact .inr (.inl ⟨h4,h1⟩)
theorem c2Q{l:List Int}{regs:Int}{S S':List Int}:∀{L:List e8},(∀x∈L,∀q∈m7 x,0≤q∧q<regs)→(∀r∈S',r∈S∧r∉l∧0≤r∧r<regs)→∀r∈(L.flatMap (W8 l regs)).foldr x6 S',r∈L.foldr x6 S∧r∉l∧0≤r∧r<regs
 |[],_,h=>h
 |x::L,hx,h=>by
  rw[List.flatMap_cons,mA,List.foldr_cons]
  exact c5X (hx x (by simp)) (c2Q (fun y hy=>hx y (by simp [hy])) h)
theorem up2{l:List Int}{regs:Int}{S S':List Int}:∀{L:List e8},(∀r∈S,r∉l→0≤r→r<regs→r∈S')→∀r∈L.foldr x6 S,r∉l→0≤r→r<regs→r∈(L.flatMap (W8 l regs)).foldr x6 S'
 |[],h=>h
 |x::L,h=>by
  rw[List.flatMap_cons,mA,List.foldr_cons]
  exact up1 (up2 h)
def yG(l:List Int)(regs:Int)(t:o6):o6:={t with a:=w8 t.a (o4 l (j6 t)) regs,b:=w8 t.b (o4 l (j6 t)) regs}
theorem c5e(l:List Int)(regs:Int)(t:o6):j6 (yG l regs t)=o5 ([t.a,t.b].map fun o=>w8 o (o4 l (j6 t)) regs):=rfl
theorem zT{l:List Int}{regs r:Int}{t:o6}:r∈j6 (yG l regs t)↔(r∈j6 t∧r∉l)∨∃q,q∈j6 t∧q∈l∧r=regs+eM (o4 l (j6 t)) q:=by
 rw[c5e,a4j]
 refine or_congr ?_ (exists_congr fun q=>?_)
 ·rw[fL]
  constructor
  ·rintro⟨h1,h2⟩;exact⟨h1,fun h=>h2 ⟨h1,h⟩⟩
  ·rintro⟨h1,h2⟩;exact⟨h1,fun h=>h2 h.2⟩
 ·rw[fL]
  constructor
  ·rintro⟨h1,⟨_,h2⟩,h3⟩;exact⟨h1,h2,h3⟩
  ·rintro⟨h1,h2,h3⟩;exact⟨h1,⟨h1,h2⟩,h3⟩
theorem atS{l:List Int}{regs:Int}{b:b6}{O:List Int}:kV (E5 l regs b) O 0=(b.i.flatMap (W8 l regs)).foldr x6 ((H6 l (o4 l (j6 b.t)) regs).foldr x6 O):=by
 unfold kV E5
 rw[List.drop_zero,mA]
structure cS (c:Code) (l:List Int):Prop where
 r:∀q∈l,0≤q∧q<c.regs
 s:I5 l
 e:∀q∈l,b0a c q∧¬b7r c q
theorem c4I{c:Code}{l:List Int}{b:Nat}(hb:b<c.b.length):w7 (c.b.map (E5 l c.regs)) b=E5 l c.regs (w7 c.b b):=by
 unfold w7
 rw[List.getD_eq_getElem?_getD,List.getD_eq_getElem?_getD,List.getElem?_map,List.getElem?_eq_getElem hb];rfl
theorem c63{c:Code}{l:List Int}(hc:u9 c)(b:Int):cR (c.b.map (E5 l c.regs)) b↔cR c.b b:=by
 have hsucc:aT (c.b.map (E5 l c.regs)):=by
  refine⟨by simpa using hc.n.1,fun b hb to hto=>?_⟩
  obtain⟨b',hb',rfl⟩:=List.mem_map.1 hb
  have:=hc.succ.2 b' hb' to hto
  simpa using this
 constructor
 ·intro h
  induction h with
  |zero=>exact .zero
  |step h1 h2 ih=>
   have hbd:=ih.bd hc.succ
   rw[c4I (by omega)]at h2
   exact .step ih h2
 ·intro h
  induction h with
  |zero=>exact .zero
  |step h1 h2 ih=>
   have hbd:=h1.bd hc.succ
   refine .step ih ?_
   rw[c4I (by omega)]
   exact h2
end Go.Proofs.YtgdoiokalfhjoaaGreatDoor
end
