/- Own work (by an AI agent; no person has read it): part of a proof of the seat YtgdoiokalfhjoaaGreatDoor. -/
import Derived.Test.YtgdoiokalfhjoaaGreatDoorYx
set_option maxRecDepth 100000
set_option linter.unusedSimpArgs false
set_option linter.unusedVariables false
set_option maxHeartbeats 10000000
section
namespace Go.Proofs.YtgdoiokalfhjoaaGreatDoor
open Go.Ab
open Go.ChangeShapes Go.WideShapes Go.ChangeAt Go.RowKit
theorem qF:false=Rows.spillDamageRow.goesBy Tryz.pinned.checked.prog:=by kernel_rfl
theorem yU:Rows.spillDamageRow.wfByText (OpenSpec.ofChange Rows.spillDamageSpec)=true:=by kernel_rfl
theorem qG:Tryz.pinned.checked.prog.mainIs=some (true,Rows.spillDamageCard.stood.harness.2.toList):=by kernel_rfl
theorem yS:Tryz.pinned.checked.prog.funcNamed Rows.spillDamageRow.func=some 12:=by kernel_rfl
theorem rV:([24,25,126].all fun u=> !Tryz.prog.wantsStandIn u)=true:=by kernel_rfl
theorem oK(t:TypeId)(hm:t∈[24,25,126]):Tryz.pinned.checked.prog.wantsStandIn t=false:=
 (show Tryz.prog.wantsStandIn t=false by simpa using List.all_eq_true.1 rV t hm)
end Go.Proofs.YtgdoiokalfhjoaaGreatDoor
end
section
namespace Go.Proofs.YtgdoiokalfhjoaaGreatDoor
open Go.Ab
theorem c0Z(f:List AV→List AV)(Y:List (List AV)):∀X:List (List AV),(X++Y).modify X.length f=X++Y.modify 0 f
 |[]=>rfl
 |x::X=>by rw[List.cons_append,List.length_cons,List.modify_succ_cons,c0Z f Y X];rfl
theorem c5j(f:List AV→List AV)(Y:List (List AV)):∀(X:List (List AV)) (n:Nat),n<X.length→(X++Y).modify n f=X.modify n f++Y
 |[],_,h=>absurd h (Nat.not_lt_zero _)
 |x::X,0,_=>rfl
 |x::X,n+1,h=>by rw[List.cons_append,List.modify_succ_cons,c5j f Y X n (by simpa using h),List.modify_succ_cons];rfl
def dD(B:List b6)(b:Nat)(x:AV):List (List AV):=(o0 B).modify b fun e=>o6 e 0 [x]
theorem a7o(B:List b6)(b:Nat)(x:AV):(dD B b x).length=B.length:=by simp [dD,o0]
theorem a8R(y:b6)(x:AV):o6 y.av 0 [x]=x::y.t.av:=rfl
theorem iC(B:List b6)(b:Nat)(x:AV)(h:b<B.length):dD B b x=o0 (B.take b)++((x::(B.getD b B0).t.av)::o0 (B.drop (b+1))):=by
 unfold dD
 have e:B=B.take b++B.getD b B0::B.drop (b+1):=by
  rw[List.getD_eq_getElem?_getD,List.getElem?_eq_getElem h,Option.getD_some,←List.drop_eq_getElem_cons h,List.take_append_drop]
 have hl:(o0 (B.take b)).length=b:=by simp [o0];omega
 conv=>lhs;rw[e]
 unfold o0
 rw[List.map_append,List.map_cons]
 have hl:((B.take b).map b6.av).length=b:=by simp;omega
 generalize (B.take b).map b6.av=X at*
 subst hl
 rw[c0Z]
 rfl
theorem c0l(B:List b6)(b:Nat)(x:AV)(h:b<B.length):(∀e∈dD B b x,e.length=14)=True:=by
 rw[iC B b x h]
 refine eq_true fun e he=>?_
 have h1:=fun l:List b6=>of_eq_true (N7 l)
 rcases List.mem_append.1 he with q|q
 ·exact h1 _ e q
 ·rcases List.mem_cons.1 q with rfl|q
  ·rfl
  ·exact h1 _ e q
theorem sS(B:List b6)(b:Nat)(x:AV)(h:b<B.length):(dD B b x)[b]?=some (x::(B.getD b B0).t.av):=by
 rw[iC B b x h]
 have hl:(o0 (B.take b)).length=b:=by simp [o0];omega
 rw[List.getElem?_append_right (by omega),hl,Nat.sub_self];rfl
theorem b26(B:List b6)(b:Nat)(x:AV)(y:b6)(h:b<B.length):dD B b x++[y.av]=dD (B++[y]) b x:=by
 unfold dD
 rw[show o0 (B++[y])=o0 B++[y.av] by simp [o0],c5j _ _ _ _ (by simp [o0];omega)]
theorem b52(B:List b6)(x:AV)(y:b6):o0 B++[x::y.t.av]=dD (B++[y]) B.length x:=by
 unfold dD
 rw[show o0 (B++[y])=o0 B++[y.av] by simp [o0]]
 have hl:(o0 B).length=B.length:=by simp [o0]
 rw[←hl,c0Z];rfl
theorem b53(B:List b6)(b:Nat)(x y:AV):(dD B b x).modify b (fun e=>o6 e 0 [y])=dD B b y:=by
 unfold dD
 apply List.ext_getElem?
 intro j
 rw[List.getElem?_modify,List.getElem?_modify,List.getElem?_modify]
 by_cases hij:b=j
 ·subst hij
  by_cases h:b<B.length
  ·simp [o0,h,a8R,o6];rfl
  ·simp [o0,h]
 ·simp [hij]
theorem b51(B:List b6)(b:Nat)(I:List e7):dD B b (.a8 false (c6 I))=o0 (B.set b ⟨I,(B.getD b B0).t⟩):=by
 apply List.ext_getElem?
 intro j
 unfold dD o0
 rw[List.getElem?_modify,List.getElem?_map,List.getElem?_map,List.getElem?_set]
 by_cases hij:b=j
 ·subst hij
  by_cases h:b<B.length
  ·simp [h,a8R,b6.av];rfl
  ·simp [h]
 ·simp [hij]
theorem wH(B:List b6)(b:Nat)(id n:Nat)(h:b<B.length):((dD B b (.own id 0 n)).all fun e=>e.all AV.plain)=false:=by
 apply Bool.eq_false_iff.2
 intro hh
 have:=List.all_eq_true.1 hh _ (List.mem_of_getElem? (sS B b _ h))
 simp [AV.plain]at this
theorem a7p(B:List b6)(b:Nat)(id n:Nat)(r:Nat→Option Nat)(h:b<B.length):((dD B b (.own id 0 n)).mapM fun(e:List AV)=>e.mapM (n5 r 3))=(r id).map fun j=>dD B b (.own j 0 n):=by
 rw[iC B b _ h,eH (S6 _),List.mapM_cons,oG (S6 _)]
 have ht:=a81 (B.getD b B0).t r
 rw[List.mapM_cons,ht]
 cases hr:r id with
 |none=>simp [n5,hr]
 |some j=>simp [n5,hr,iC B b (.own j 0 n) h]
theorem b25(B:List b6)(b:Nat)(id n:Nat)(r:Nat→Option Nat)(h:b<B.length)(y:List (List AV)):((dD B b (.own id 0 n)++y).mapM fun(e:List AV)=>e.mapM (n5 r 3))=(r id).bind fun j=>(y.mapM fun(e:List AV)=>e.mapM (n5 r 3)).map (dD B b (.own j 0 n)++·):=by
 rw[List.mapM_append,a7p B b id n r h]
 cases r id with
 |none=>rfl
 |some j=>
  simp only[Option.map_some,Option.bind_some,Option.bind_eq_bind,Option.pure_def]
  cases (y.mapM fun(e:List AV)=>e.mapM (n5 r 3))<;>rfl
theorem c0f(X:List (List AV))(y:List AV)(n:Nat)(h:X.length=n):(X++[y])[n]?=some y:=by subst h;simp
theorem b7v(X:List (List AV))(y:List AV)(n:Nat)(h:X.length=n)(f:List AV→List AV):(X++[y]).modify n f=X++[f y]:=by subst h;rw[c0Z];rfl
def b1F:=ZZ.mk (Zq gE.d @fH)
theorem b4c(c:Code)(b0:Nat)(h0:b0<c.b.length)(hb:c.b.length≤1000)(ha:c.c9.length≤1000)(hl:c.loops.length≤1000)(hi':∀b∈c.b,b.i.length≤1000):e8 Tryz.prog 54 [.agg c.av] (fun n=> .agg [.v (.int .i64 c.group),.v (.int .i64 c.sub),.v (.int .i64 c.regs),.v (.int .i64 c.w5),.v (.int .i64 c.params),.a8 false (y4 c.c9),.a8 false (Proofs.YtgdoiokalfhjoaaGreatDoor.loops c.loops),.own n 0 c.b.length]) (fun n=>[⟨14,dD c.b b0 (.own (n+1) 0 (c.b.getD b0 B0).i.length),0⟩,⟨15,c6 (c.b.getD b0 B0).i,0⟩]):=by
 (refine dE Tryz.func54 rfl (by kernel_rfl) ?_;rw[gO Tryz.ntmps54];simp only[Code.av];simp only[List.replicate_succ,List.replicate_zero,List.cons_append,List.nil_append,List.length_cons,List.length_nil,Nat.reduceAdd,Nat.reduceSub];refine u4 ?_)
 repeat' (first|refine Za ?_|(with_reducible constructor<;>first|intro N hN mk hmk|intro N hN|intro h)|refine Zt gE.d ?_|fail)
 refine aZ 0 0 5 (x:= .own 40 0 c.c9.length) (y:= .a8 false (y4 c.c9)) (ids:=[(40,c.c9.length)]) rfl (rfl) (by simp (maxSteps:=10000000) (disch:=omega) only[gE.d,l9,P7,s9,A2,p7,o3,AV.kept,b7,n4,u0,B3,p9,o9,b8,AV.y8,m8,v8,AV.plain,rd,u6,a6,P6,stepC,AV.e6,AV.S9,AV.w6,AV.L8,AV.scalar,T8,s6,A6,A9,B1,A8,o8,A5,U0,s7,A7,z8,j3,T7,l0,y7,y5,Q0,z6,j8,TD.isRow,s8,j7,j9,j6,F4,Value.oneCell',↓reduceIte,Int.reduceNe,Int.reduceEq,Nat.reduceAdd,Nat.reduceLT,Nat.reduceLeDiff,Nat.reduceSub,Nat.reduceMul,Nat.reduceBEq,Nat.reduceEqDiff,reduceCtorEq,Int.reduceToNat,←decide_not,←Bool.decide_and,sA,sN]<;>first|done|rfl) (by first|rfl|(simp (maxSteps:=10000000) (disch:=omega) only[a6,gE.d,l9,P7,s9,A2,p7,o3,AV.kept,b7,n4,u0,B3,p9,o9,b8,AV.y8,m8,v8,AV.plain,rd,u6,a6,P6,stepC,AV.e6,AV.S9,AV.w6,AV.L8,AV.scalar,T8,s6,A6,A9,B1,A8,o8,A5,U0,s7,A7,z8,j3,T7,l0,y7,y5,Q0,z6,j8,TD.isRow,s8,j7,j9,j6,F4,Value.oneCell',↓reduceIte,Int.reduceNe,Int.reduceEq,Nat.reduceAdd,Nat.reduceLT,Nat.reduceLeDiff,Nat.reduceSub,Nat.reduceMul,Nat.reduceBEq,Nat.reduceEqDiff,reduceCtorEq,Int.reduceToNat,←decide_not,←Bool.decide_and,sA,sN]<;>first|done|rfl)) ?_;simp (maxSteps:=10000000) (disch:=omega) only[n4,y0,F4,gE.d,l9,P7,s9,A2,p7,o3,AV.kept,b7,n4,u0,B3,p9,o9,b8,AV.y8,m8,v8,AV.plain,rd,u6,a6,P6,stepC,AV.e6,AV.S9,AV.w6,AV.L8,AV.scalar,T8,s6,A6,A9,B1,A8,o8,A5,U0,s7,A7,z8,j3,T7,l0,y7,y5,Q0,z6,j8,TD.isRow,s8,j7,j9,j6,F4,Value.oneCell',↓reduceIte,Int.reduceNe,Int.reduceEq,Nat.reduceAdd,Nat.reduceLT,Nat.reduceLeDiff,Nat.reduceSub,Nat.reduceMul,Nat.reduceBEq,Nat.reduceEqDiff,reduceCtorEq,Int.reduceToNat,←decide_not,←Bool.decide_and,sA,sN]
 refine aZ 0 0 6 (x:= .own 88 0 c.loops.length) (y:= .a8 false (Proofs.YtgdoiokalfhjoaaGreatDoor.loops c.loops)) (ids:=[(88,c.loops.length)]) rfl (rfl) (by simp (maxSteps:=10000000) (disch:=omega) only[gE.d,l9,P7,s9,A2,p7,o3,AV.kept,b7,n4,u0,B3,p9,o9,b8,AV.y8,m8,v8,AV.plain,rd,u6,a6,P6,stepC,AV.e6,AV.S9,AV.w6,AV.L8,AV.scalar,T8,s6,A6,A9,B1,A8,o8,A5,U0,s7,A7,z8,j3,T7,l0,y7,y5,Q0,z6,j8,TD.isRow,s8,j7,j9,j6,F4,Value.oneCell',↓reduceIte,Int.reduceNe,Int.reduceEq,Nat.reduceAdd,Nat.reduceLT,Nat.reduceLeDiff,Nat.reduceSub,Nat.reduceMul,Nat.reduceBEq,Nat.reduceEqDiff,reduceCtorEq,Int.reduceToNat,←decide_not,←Bool.decide_and,sA,sN]<;>first|done|rfl) (by first|rfl|(simp (maxSteps:=10000000) (disch:=omega) only[a6,gE.d,l9,P7,s9,A2,p7,o3,AV.kept,b7,n4,u0,B3,p9,o9,b8,AV.y8,m8,v8,AV.plain,rd,u6,a6,P6,stepC,AV.e6,AV.S9,AV.w6,AV.L8,AV.scalar,T8,s6,A6,A9,B1,A8,o8,A5,U0,s7,A7,z8,j3,T7,l0,y7,y5,Q0,z6,j8,TD.isRow,s8,j7,j9,j6,F4,Value.oneCell',↓reduceIte,Int.reduceNe,Int.reduceEq,Nat.reduceAdd,Nat.reduceLT,Nat.reduceLeDiff,Nat.reduceSub,Nat.reduceMul,Nat.reduceBEq,Nat.reduceEqDiff,reduceCtorEq,Int.reduceToNat,←decide_not,←Bool.decide_and,sA,sN]<;>first|done|rfl)) ?_;simp (maxSteps:=10000000) (disch:=omega) only[n4,y0,F4,gE.d,l9,P7,s9,A2,p7,o3,AV.kept,b7,n4,u0,B3,p9,o9,b8,AV.y8,m8,v8,AV.plain,rd,u6,a6,P6,stepC,AV.e6,AV.S9,AV.w6,AV.L8,AV.scalar,T8,s6,A6,A9,B1,A8,o8,A5,U0,s7,A7,z8,j3,T7,l0,y7,y5,Q0,z6,j8,TD.isRow,s8,j7,j9,j6,F4,Value.oneCell',↓reduceIte,Int.reduceNe,Int.reduceEq,Nat.reduceAdd,Nat.reduceLT,Nat.reduceLeDiff,Nat.reduceSub,Nat.reduceMul,Nat.reduceBEq,Nat.reduceEqDiff,reduceCtorEq,Int.reduceToNat,←decide_not,←Bool.decide_and,sA,sN]
 refine l8 (fun i=>if i≤b0 then⟨[.Z,.ptr 0 0 0,.ptr 1 0 0,.own 2 0 (c.b.take i).length,.v (.int .i64 i),.Z,.Z,.Z,.Z,.Z,.Z,.Z,.Z,.Z,.Z,.Z,.Z,.Z,.Z,.Z,.Z,.Z,.Z,.Z,.Z,.Z,.Z,.Z,.Z,.Z,.Z,.Z,.Z,.Z,.Z,.Z,.Z,.Z,.Z,.Z,.Z,.Z,.Z,.Z],[(0,.live ⟨8,[[.v (.int .i64 c.group),.v (.int .i64 c.sub),.v (.int .i64 c.regs),.v (.int .i64 c.w5),.v (.int .i64 c.params),.a8 false (y4 c.c9),.a8 false (Proofs.YtgdoiokalfhjoaaGreatDoor.loops c.loops),.a8 false (o0 c.b)]],0⟩),(1,.live ⟨8,[[.v (.int .i64 0),.v (.int .i64 0),.v (.int .i64 0),.v (.int .i64 0),.v (.int .i64 0),.a8 true [],.a8 true [],.a8 true []]],0⟩),(2,.live ⟨14,o0 (c.b.take i),0⟩)],3⟩else⟨[.Z,.ptr 0 0 0,.ptr 1 0 0,.own 2 0 (c.b.take i).length,.v (.int .i64 i),.Z,.Z,.Z,.Z,.Z,.Z,.Z,.Z,.Z,.Z,.Z,.Z,.Z,.Z,.Z,.Z,.Z,.Z,.Z,.Z,.Z,.Z,.Z,.Z,.Z,.Z,.Z,.Z,.Z,.Z,.Z,.Z,.Z,.Z,.Z,.Z,.Z,.Z,.Z],[(0,.live ⟨8,[[.v (.int .i64 c.group),.v (.int .i64 c.sub),.v (.int .i64 c.regs),.v (.int .i64 c.w5),.v (.int .i64 c.params),.a8 false (y4 c.c9),.a8 false (Proofs.YtgdoiokalfhjoaaGreatDoor.loops c.loops),.a8 false (o0 c.b)]],0⟩),(1,.live ⟨8,[[.v (.int .i64 0),.v (.int .i64 0),.v (.int .i64 0),.v (.int .i64 0),.v (.int .i64 0),.a8 true [],.a8 true [],.a8 true []]],0⟩),(2,.live ⟨14,dD (c.b.take i) b0 (.own 3 0 (c.b.getD b0 B0).i.length),0⟩),(3,.live ⟨15,c6 (c.b.getD b0 B0).i,0⟩)],4⟩) c.b.length ?_ ?_
 ·rw[if_pos (Nat.zero_le _)]
  refine Zw [1,2,3,4] [0,8,112] gE.d ?_
  rfl
 ·intro i hi
  by_cases hlt:i<c.b.length
  ·have hbi:=hi' (c.b.getD i B0) (by rw[List.getD_eq_getElem?_getD,List.getElem?_eq_getElem hlt];exact List.getElem_mem hlt)
   have htl:(c.b.take i).length=i:=by simp;omega
   have e1:o0 (c.b.take (i+1))=o0 (c.b.take i)++[(c.b.getD i B0).av]:=by rw[w9 c.b i B0 hlt];simp [o0]
   have e2:(c.b.take (i+1)).length=(c.b.take i).length+1:=by simp;omega
   have e3:=w9 c.b i B0 hlt
   by_cases h1:i≤b0
   ·rw[if_pos h1]
    repeat' (first|refine Za ?_|(with_reducible constructor<;>first|intro N hN mk hmk|intro N hN|intro h)|refine Zt vS.d ?_|fail)
    by_cases h2:i=b0
    ·subst h2
     rw[if_neg (by omega)]
     refine Zw [1,2,3,4] [0,1,179,107] vS.d ?_
     rw[e2,e3]
     have e4:=b52 (c.b.take i) (.own 3 0 (c.b.getD i B0).i.length) (c.b.getD i B0)
     rw[htl]at e4
     rw[←e4]
     rfl
    ·rw[if_pos (by omega)]
     refine G6 (V3 179 (c.b.take i).length 0 6 (.own 107 0 (c.b.getD i B0).i.length) (.a8 false (c6 (c.b.getD i B0).i)) rfl (by first|exact U2 _ _|(simp only[U2];rfl)) (by simp (maxSteps:=10000000) (disch:=omega) only[u6,vS.d,l9,P7,s9,A2,p7,o3,AV.kept,b7,n4,u0,B3,p9,o9,b8,AV.y8,m8,v8,AV.plain,rd,u6,a6,P6,stepC,AV.e6,AV.S9,AV.w6,AV.L8,AV.scalar,T8,s6,A6,A9,B1,A8,o8,A5,U0,s7,A7,z8,j3,T7,l0,y7,y5,Q0,z6,j8,TD.isRow,s8,j7,j9,j6,F4,Value.oneCell',↓reduceIte,Int.reduceNe,Int.reduceEq,Nat.reduceAdd,Nat.reduceLT,Nat.reduceLeDiff,Nat.reduceSub,Nat.reduceMul,Nat.reduceBEq,Nat.reduceEqDiff,reduceCtorEq,Int.reduceToNat,←decide_not,←Bool.decide_and,sA,sN]<;>first|done|rfl)) ?_
     simp (maxSteps:=10000000) (disch:=omega) only[a6,n4,y0,F4,nB,vS.d,l9,P7,s9,A2,p7,o3,AV.kept,b7,n4,u0,B3,p9,o9,b8,AV.y8,m8,v8,AV.plain,rd,u6,a6,P6,stepC,AV.e6,AV.S9,AV.w6,AV.L8,AV.scalar,T8,s6,A6,A9,B1,A8,o8,A5,U0,s7,A7,z8,j3,T7,l0,y7,y5,Q0,z6,j8,TD.isRow,s8,j7,j9,j6,F4,Value.oneCell',↓reduceIte,Int.reduceNe,Int.reduceEq,Nat.reduceAdd,Nat.reduceLT,Nat.reduceLeDiff,Nat.reduceSub,Nat.reduceMul,Nat.reduceBEq,Nat.reduceEqDiff,reduceCtorEq,Int.reduceToNat,←decide_not,←Bool.decide_and,sA,sN]
     refine Zw [1,2,3,4] [0,1,179] vS.d ?_
     rw[e1,e2];rfl
   ·rw[if_neg h1,if_neg (by omega)]
    have hx:b0<(c.b.take i).length:=by omega
    obtain⟨X,hX⟩:∃X,X=fun a=>dD (c.b.take i) b0 (.own a 0 (c.b.getD b0 B0).i.length):=⟨_,rfl⟩
    have x1:∀a,dD (c.b.take i) b0 (.own a 0 (c.b.getD b0 B0).i.length)=X a:=fun a=>by rw[hX]
    have x2:∀a,(X a).length=(c.b.take i).length:=fun a=>by rw[hX];exact a7o _ _ _
    have x2':∀a,(X a).length=i:=fun a=>by rw[x2,htl]
    have x3:∀a,(∀e∈X a,e.length=14)=True:=fun a=>by rw[hX];exact c0l _ _ _ hx
    have x4:∀a,((X a).all fun e=>e.all AV.plain)=false:=fun a=>by rw[hX];exact wH _ _ _ _ hx
    have x5:∀a (r:Nat→Option Nat) y,((X a++y).mapM fun(e:List AV)=>e.mapM (n5 r 3))=(r a).bind fun j=>(y.mapM fun(e:List AV)=>e.mapM (n5 r 3)).map (X j++·):=fun a r y=>by rw[hX];exact b25 _ _ _ _ r hx y
    rw[x1 3]
    have x6:∀a,(X a).take (c.b.take i).length=X a:=fun a=>by rw[←x2 a,List.take_length]
    have x7:∀a,(X a).take i=X a:=fun a=>by rw[←x2' a,List.take_length]
    have x8:∀y (f:List AV→List AV),(X 3++[y]).modify (c.b.take i).length f=X 3++[f y]:=fun y f=>b7v _ _ _ (x2 3) f
    clear hX
    repeat' (first|refine Za ?_|(with_reducible constructor<;>first|intro N hN mk hmk|intro N hN|intro h)|refine Zt (Zq b1F.d (Zq x2 (Zq x3 (Zq x4 (Zq x5 (Zq x6 (Zq x7 x8))))))) ?_|fail)
    refine G6 (V3 180 (c.b.take i).length 0 6 (.own 108 0 (c.b.getD i B0).i.length) (.a8 false (c6 (c.b.getD i B0).i)) rfl (by rw[c0f _ _ _ (x2 _)];rfl) (by simp (maxSteps:=10000000) (disch:=omega) only[u6,b1F.d,x2,x3,x4,x5,x6,x7,x8,l9,P7,s9,A2,p7,o3,AV.kept,b7,n4,u0,B3,p9,o9,b8,AV.y8,m8,v8,AV.plain,rd,u6,a6,P6,stepC,AV.e6,AV.S9,AV.w6,AV.L8,AV.scalar,T8,s6,A6,A9,B1,A8,o8,A5,U0,s7,A7,z8,j3,T7,l0,y7,y5,Q0,z6,j8,TD.isRow,s8,j7,j9,j6,F4,Value.oneCell',↓reduceIte,Int.reduceNe,Int.reduceEq,Nat.reduceAdd,Nat.reduceLT,Nat.reduceLeDiff,Nat.reduceSub,Nat.reduceMul,Nat.reduceBEq,Nat.reduceEqDiff,reduceCtorEq,Int.reduceToNat,←decide_not,←Bool.decide_and,sA,sN]<;>first|done|rfl)) ?_
    simp (maxSteps:=10000000) (disch:=omega) only[a6,n4,y0,F4,b1F.d,x2,x3,x4,x5,x6,x7,x8,l9,P7,s9,A2,p7,o3,AV.kept,b7,n4,u0,B3,p9,o9,b8,AV.y8,m8,v8,AV.plain,rd,u6,a6,P6,stepC,AV.e6,AV.S9,AV.w6,AV.L8,AV.scalar,T8,s6,A6,A9,B1,A8,o8,A5,U0,s7,A7,z8,j3,T7,l0,y7,y5,Q0,z6,j8,TD.isRow,s8,j7,j9,j6,F4,Value.oneCell',↓reduceIte,Int.reduceNe,Int.reduceEq,Nat.reduceAdd,Nat.reduceLT,Nat.reduceLeDiff,Nat.reduceSub,Nat.reduceMul,Nat.reduceBEq,Nat.reduceEqDiff,reduceCtorEq,Int.reduceToNat,←decide_not,←Bool.decide_and,sA,sN]
    refine Zw [1,2,3,4] [0,1,180,3] (Zq b1F.d (Zq x2 (Zq x3 (Zq x4 (Zq x5 (Zq x6 (Zq x7 x8))))))) ?_
    rw[e2,e3,←b26 _ _ _ _ hx,x1];rfl
  ·obtain rfl:i=c.b.length:=by omega
   rw[if_neg (by omega),List.take_length]
   repeat' (first|refine Za ?_|(with_reducible constructor<;>first|intro N hN mk hmk|intro N hN|intro h)|refine Zt gE.d ?_|fail)
   refine⟨[2,3],by decide,fun nid=>⟨rfl,?_⟩⟩
   have x4:=wH c.b b0 3 (c.b.getD b0 B0).i.length h0
   have x5:=fun(r:Nat→Option Nat)=>a7p c.b b0 3 (c.b.getD b0 B0).i.length r h0
   simp (maxSteps:=10000000) (disch:=omega) only[x4,x5,L1,gE.d,c5,n9,b5,c8,n5,w8,AV.plain,Nat.reduceBEq,↓reduceIte,Nat.reduceEqDiff,Nat.reduceAdd,sC]
theorem c4l(m:Nat)(h:m<65536):wB .u16 (m:Int) 1=((m%2:Nat):Int):=by
 unfold wB
 have e:(BitVec.ofInt (IntKind.u16).bits (m:Int)&&& BitVec.ofInt (IntKind.u16).bits 1).toNat=m%2:=by
  show(BitVec.ofInt 16 (m:Int)&&& BitVec.ofInt 16 1).toNat=m%2
  rw[BitVec.toNat_and,BitVec.ofInt_natCast,BitVec.toNat_ofNat,show(BitVec.ofInt 16 1).toNat=1 from rfl,Nat.and_one_is_mod]
  omega
 rw[e]
 simp [IntKind.wrap,IntKind.bits,IntKind.signed];omega
theorem c5K(m k:Nat)(hk:k<16):b0x .u16 (m:Int) k=((m>>>k:Nat):Int):=by
 unfold b0x
 rw[show min (k:Int).toNat (IntKind.u16).bits=k from by show min (k:Int).toNat 16=k;omega]
 rw[Int.fdiv_eq_ediv_of_nonneg _ (Int.le_of_lt (Int.pow_pos (by omega))),Nat.shiftRight_eq_div_pow]
 push_cast
 rfl
theorem c3t(m k:Nat)(hm:m<65536)(hk:k<16):decide (wB .u16 (b0x .u16 (m:Int) k) 1=1)=m.testBit k:=by
 rw[c5K m k hk,c4l _ (Nat.lt_of_le_of_lt (Nat.shiftRight_le m k) hm),Nat.testBit_eq_decide_div_mod_eq,Nat.shiftRight_eq_div_pow]
 apply decide_eq_decide.2
 omega
theorem c5J(j:Nat)(hj:j<16):kE .u16 1 (j:Int)=((2^j:Nat):Int):=by
 unfold kE
 rw[show min (j:Int).toNat (IntKind.u16).bits=j from by show min (j:Int).toNat 16=j;omega]
 have h2:2^j<2^16:=Nat.pow_lt_pow_right (by omega) hj
 have e:(1:Int)*2^j=((2^j:Nat):Int):=by push_cast;omega
 rw[e]
 generalize 2^j=m at*
 simp [IntKind.wrap,IntKind.bits,IntKind.signed];omega
theorem c5L(m j:Nat)(hm:m<65536)(hj:j<65536):qN .u16 (m:Int) (j:Int)=((m^^^j:Nat):Int)∧m^^^j<65536:=by
 have hb:m^^^j<65536:=Nat.xor_lt_two_pow (n:=16) hm hj
 refine⟨?_,hb⟩
 unfold qN
 have e:(BitVec.ofInt (IntKind.u16).bits (m:Int)^^^BitVec.ofInt (IntKind.u16).bits (j:Int)).toNat=m^^^j:=by
  show(BitVec.ofInt 16 (m:Int)^^^BitVec.ofInt 16 (j:Int)).toNat=m^^^j
  rw[BitVec.toNat_xor,BitVec.ofInt_natCast,BitVec.ofInt_natCast,BitVec.toNat_ofNat,BitVec.toNat_ofNat,Nat.mod_eq_of_lt hm,Nat.mod_eq_of_lt hj]
 rw[e]
 generalize m^^^j=x at*
 simp [IntKind.wrap,IntKind.bits,IntKind.signed];omega
theorem c4m(m j k:Nat)(hm:m<65536)(hj:j<16)(hk:k<16):decide (wB .u16 (b0x .u16 (qN .u16 (m:Int) (kE .u16 1 (j:Int))) k) 1=1)=(m.testBit k^^decide (j=k)):=by
 have h2:2^j<2^16:=Nat.pow_lt_pow_right (by omega) hj
 rw[c5J j hj]
 obtain⟨e,hb⟩:=c5L m (2^j) hm h2
 rw[e,c3t _ k hb hk,Nat.testBit_xor,Nat.testBit_two_pow]
theorem a3u(sp:List Bool)(n n':Int)(j:Nat)(h:∀k,k<16→k≠j→rP n' k=rP n k)(hj:rP n' j= !rP n j):∀k,k≤16→(k≤j→I8 sp n' k=I8 sp n k)∧(I8 sp n' k=I8 sp n k∨(I8 sp n' k).length+1=(I8 sp n k).length∨(I8 sp n k).length+1=(I8 sp n' k).length)
 |0=>fun _=>⟨fun _=>rfl,.inl rfl⟩
 |k+1=>fun hk=>by
  obtain⟨i1,i2⟩:=a3u sp n n' j h hj k (by omega)
  by_cases e:k=j
  ·subst e
   have i1:=i1 (Nat.le_refl _)
   refine⟨fun q=>by omega,?_⟩
   unfold I8
   rw[hj,i1]
   cases sp.getD k false<;>cases rP n k<;>simp
  ·have hb:=h k (by omega) e
   have key:∀p:Prop,[Decidable p]→(I8 sp n' k=I8 sp n k→(if p then I8 sp n' k++[(k:Int)]else I8 sp n' k)=if p then I8 sp n k++[(k:Int)]else I8 sp n k):=fun p _ q=>by rw[q]
   unfold I8
   rw[hb]
   refine⟨fun q=>key _ (i1 (by omega)),?_⟩
   split
   ·rcases i2 with q|q|q
    ·exact .inl (by rw[q])
    ·exact .inr (.inl (by simp;omega))
    ·exact .inr (.inr (by simp;omega))
   ·exact i2
theorem a7n{n:Int}(h:0≤n∧n<65536)(j k:Nat)(hj:j<16)(hk:k<16):rP (qN .u16 n (kE .u16 1 (j:Int))) k=(rP n k^^decide (j=k)):=by
 obtain⟨m,rfl⟩:=Int.eq_ofNat_of_zero_le h.1
 unfold rP
 rw[c4m m j k (by omega) hj hk,c3t m k (by omega) hk]
theorem a8P{sp:List Bool}{n:Int}(h:0≤n∧n<65536){j K:Nat}(hj:j<16)(hK:K≤16)(hne:I8 sp n K≠I8 sp (qN .u16 n (kE .u16 1 (j:Int))) K):(I8 sp n K).length≠(I8 sp (qN .u16 n (kE .u16 1 (j:Int))) K).length:=fun e=>by
 have:=(a3u sp n (qN .u16 n (kE .u16 1 (j:Int))) j (fun k hk hkj=>by rw[a7n h j k hj hk,decide_eq_false (fun q=>hkj q.symm),Bool.xor_false]) (by rw[a7n h j j hj hj,decide_eq_true rfl,Bool.xor_true]) K hK).2
 rcases this with q|q|q
 ·exact hne q.symm
 ·omega
 ·omega
theorem yW{c:Code}(h:c.w5=0)(l:List Int):(n8 c l).w5=l.length:=by
 unfold n8
 split
 ·rename_i e;rw[h,e];rfl
 ·rfl
theorem yV{c:Code}(h:c.w5=0){l l':List Int}(hl:l.length≠l'.length):¬n8 c l'=n8 c l:=fun e=>by
 have:=congrArg Code.w5 e
 rw[yW h,yW h]at this
 omega
theorem b5Y{c:Code}{l:List Int}(h:0<l.length):¬dY c (l++[l.getD 0 0]):=fun q=>by
 have:=List.pairwise_append.1 q.s
 have h1:=this.2.2 (l.getD 0 0) (by rw[List.getD_eq_getElem?_getD,List.getElem?_eq_getElem h];exact List.getElem_mem h) _ (List.mem_singleton.2 rfl)
 omega
theorem c0j{c:Code}(l:List Int):¬dY c (-1::l):=fun q=>by
 have:=q.r (-1) (by simp)
 omega
theorem c1A{c:Code}{l:List Int}(h:dY c l):dY c (l.drop 1):=⟨fun q hq=>h.r q (List.mem_of_mem_drop hq),h.s.sublist (List.drop_sublist 1 l),fun q hq=>h.e q (List.mem_of_mem_drop hq)⟩
def Code.put(d:Code)(b:Nat)(I:List e7):Code:={d with b:=d.b.set b ⟨I,(d.b.getD b B0).t⟩}
theorem c4a{d:Code}{b:Nat}{I:List e7}(hb:b<d.b.length)(h:I≠(d.b.getD b B0).i):¬d=d.put b I:=fun e=>by
 have e1:d.b=d.b.set b ⟨I,(d.b.getD b B0).t⟩:=congrArg Code.b e
 have e2:(d.b.getD b B0)=⟨I,(d.b.getD b B0).t⟩:=by
  conv=>lhs;rw[e1]
  rw[List.getD_eq_getElem?_getD,List.getElem?_set_self hb];rfl
 exact h (congrArg b6.i e2).symm
theorem c3V{I:List e7}{i:Nat}(hi:i<I.length):I.set i {I.getD i I0 with n:=wrap ((I.getD i I0).n+1)}≠I:=fun e=>by
 have e1:(I.getD i I0)={I.getD i I0 with n:=wrap ((I.getD i I0).n+1)}:=by
  conv=>lhs;rw[←e]
  rw[List.getD_eq_getElem?_getD,List.getElem?_set_self hi];rfl
 have e2:(I.getD i I0).n=wrap ((I.getD i I0).n+1):=congrArg e7.n e1
 generalize (I.getD i I0).n=n at e2
 simp [wrap,IntKind.wrap,IntKind.bits,IntKind.signed]at e2
 omega
theorem b9V{I:List e7}(x:e7):I++[x]≠I:=fun e=>by
 have:=congrArg List.length e
 simp at this
theorem c5p{d:Code}(h:tN d){b:Nat}{I:List e7}(hI:I.length≤100000):tN (d.put b I):=⟨h.a,h.l,by show(d.b.set b _).length≤_;rw[List.length_set];exact h.b,fun x hx=>by
 rcases List.mem_or_eq_of_mem_set (show x∈d.b.set b _ from hx)with q|rfl
 ·exact h.i x q
 ·exact hI⟩
end Go.Proofs.YtgdoiokalfhjoaaGreatDoor
end
