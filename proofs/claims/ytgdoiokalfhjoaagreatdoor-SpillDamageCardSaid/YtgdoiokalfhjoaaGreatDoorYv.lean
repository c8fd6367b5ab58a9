/- Own work (by an AI agent; no person has read it): part of a proof of the seat YtgdoiokalfhjoaaGreatDoor. -/
import Derived.Test.YtgdoiokalfhjoaaGreatDoorYi
set_option linter.unusedSimpArgs false
set_option linter.unusedVariables false
set_option maxRecDepth 100000
set_option maxHeartbeats 10000000
section
namespace Go.Proofs.YtgdoiokalfhjoaaGreatDoor
open Go.Ab
theorem b4q(n:Nat):List.replicate n [AV.a8 true []]=N8 n (fun _=>[]):=a9A n
theorem b7T(n:Nat):List.replicate n [AV.v (.int .u64 0),.v (.int .u64 0),.v (.int .u64 0),.v (.int .u64 0)]=bR (zS n):=by
 unfold bR zS;rw[List.map_replicate];rfl
def qX(T:List Int):AV:=if T=[]then .a8 true []else .own 5 0 T.length
def a8G(T:List Int):List Row:=if T=[]then[]else[⟨1,c7 T,0⟩]
noncomputable def p1 (c:Code) (F:Nat→List Int) (T:List Int) (i:Nat):LS:=
 ⟨[.Z,.ptr 0 0 0,.ptr 1 0 0,.v (.int .i64 c.b.length),.own 2 0 c.b.length,.own 3 0 c.b.length,.a8 false (u3 (reachF c.b)),.own 4 0 c.b.length,qX T]++List.replicate 18 .Z++[.v (.int .i64 c.b.length),.v (.int .i64 i)]++List.replicate 112 .Z,e9 0 ([(⟨8,[[.v (.int .i64 c.group),.v (.int .i64 c.sub),.v (.int .i64 c.regs),.v (.int .i64 c.w5),.v (.int .i64 c.params),.a8 false (y4 c.c9),.a8 false (loops c.loops),.a8 false (o0 c.b)]],0⟩:Row),⟨2,[[.a8 true [],.a8 true []]],0⟩,⟨4,bR (zS c.b.length),0⟩,⟨4,bR (zS c.b.length),0⟩,⟨1,N8 c.b.length F,0⟩]++a8G T)++wV c.b.length F,200⟩
noncomputable def q1 (c:Code) (F:Nat→List Int) (T:List Int) (i:Nat) (l:List Int) (j:Nat):LS:=
 ⟨[.Z,.ptr 0 0 0,.ptr 1 0 0,.v (.int .i64 c.b.length),.own 2 0 c.b.length,.own 3 0 c.b.length,.a8 false (u3 (reachF c.b)),.own 4 0 c.b.length,.own 5 0 T.length,.v (.int .i64 i)]++List.replicate 17 .Z++[.v (.int .i64 c.b.length),.v (.int .i64 i)]++List.replicate 17 .Z++[.a8 false (c7 l),.v (.int .i64 l.length),.v (.int .i64 j)]++List.replicate 92 .Z,e9 0 [(⟨8,[[.v (.int .i64 c.group),.v (.int .i64 c.sub),.v (.int .i64 c.regs),.v (.int .i64 c.w5),.v (.int .i64 c.params),.a8 false (y4 c.c9),.a8 false (loops c.loops),.a8 false (o0 c.b)]],0⟩:Row),⟨2,[[.a8 true [],.a8 true []]],0⟩,⟨4,bR (zS c.b.length),0⟩,⟨4,bR (zS c.b.length),0⟩,⟨1,N8 c.b.length F,0⟩,⟨1,c7 T,0⟩]++wV c.b.length F,200⟩
theorem a29(I:List (List Int))(h:0<I.length):lists (I.take (0+1))=[[.a8 false (c7 (I.getD 0 []))]]:=by
 cases I with
 |nil=>simp at h
 |cons x I=>rfl
theorem a3b(I:List (List Int))(i:Nat)(h:i<I.length):lists (I.take i)++[[.a8 false (c7 (I.getD i []))]]=lists (I.take (i+1)):=by
 rw[w9 I i [] h];unfold lists;rw[List.map_append];rfl
theorem b7h(l:List (List Int)):(∀e∈lists l,∀x∈e,AV.one x=true)=True:=by
 simp only[eq_iff_iff,iff_true,lists,List.mem_map]
 rintro e ⟨_,_,rfl⟩ x hx
 simp only[List.mem_cons,List.not_mem_nil,or_false]at hx
 subst hx;rfl
theorem b7X(l:List (List Int))(k:Nat)(v:List Int):(bR l).modify k (fun e=>o6 e 0 [.v (.int .u64 (D3 v)),.v (.int .u64 0),.v (.int .u64 0),.v (.int .u64 0)])=bR (l.set k v):=by
 apply List.ext_getElem?
 intro j
 rw[List.getElem?_modify]
 simp only[bR,List.getElem?_map,List.getElem?_set]
 by_cases h:k=j
 ·subst h
  by_cases h2:k<l.length
  ·simp [h2,o6]
  ·simp [h2]
 ·simp [h]
def f2(c:Code)(Fr I O:List (List Int))(T:List Int):LS:=
 ⟨[.Z,.ptr 0 0 0,.ptr 1 0 0,.v (.int .i64 c.b.length),.own 2 0 c.b.length,.own 3 0 c.b.length,.Z,.a8 false (lists Fr),.own 4 0 T.length]++List.replicate 132 .Z,
  e9 0 [(⟨8,[[.v (.int .i64 c.group),.v (.int .i64 c.sub),.v (.int .i64 c.regs),.v (.int .i64 c.w5),.v (.int .i64 c.params),.a8 false (y4 c.c9),.a8 false (loops c.loops),.a8 false (o0 c.b)]],0⟩:Row),⟨2,[[.a8 true [],.a8 true []]],0⟩,⟨4,bR I,0⟩,⟨4,bR O,0⟩,⟨1,c7 T,0⟩],5⟩
def I6:=ZZ.mk (Zq vT.d (Zq @b4q (Zq @b7T (Zq @kC (Zq @r8 (Zq @fS (Zq @a4B (Zq @wR (Zq @b6e (Zq @a2J (Zq @a9z (Zq @D4 (Zq @Q7 (Zq @N7 (Zq @b6.av.eq_1 (Zq @q9.av.eq_1 (Zq @Q8 (Zq @T6 (Zq @cY (Zq @I2 (Zq @eP (Zq @iM (Zq @m9 (Zq @B4 (Zq @dA (Zq @cV (Zq @N1 (Zq @List.append_assoc.{0} (Zq @Ab.lookup_append (Zq @D0 (Zq @w4 (Zq @B8 (Zq @b2G (Zq @pS (Zq @b90 (Zq @zV (Zq @a92 (Zq @b2H (Zq @B2 (Zq @z7 @E5))))))))))))))))))))))))))))))))))))))))
def vW:=ZZ.mk (Zq c5Y.d (Zq vT.d (Zq @kC (Zq @qC (Zq @r8 (Zq @fS (Zq @a4B (Zq @c1s (Zq @b7X (Zq @iQ (Zq @b7h (Zq @Q7 (Zq @N7 (Zq @Q8 (Zq @T6 (Zq @cY (Zq @I2 (Zq @eP (Zq @iM (Zq @m9 (Zq @B4 (Zq @dA (Zq @cV (Zq @xC (Zq @N1 (Zq @a24 (Zq @a2T @b1P)))))))))))))))))))))))))))
def a7b:=ZZ.mk (Zq vW.d (Zq c5X.d (Zq @or_true (Zq @and_true @Int.sub_zero))))
theorem a7s(c:Code)(hc:y3 c):e8 Tryz.prog 51 [.agg c.av] (fun _=> .agg [.a8 false (lists (liveF c).1),.a8 false (lists (liveF c).2)]) (fun _=>[]):=by
 have hr:=hc.r
 have hn:=hc.n
 have hrl:=bI c.b
 have C3:=pE c hc.succ (by omega)
 simp only[Code.av]at C3
 refine Zf Tryz.func51 Tryz.ntmps51 ?_;simp only[Code.av]
 repeat' (first|refine Za ?_|(with_reducible constructor<;>first|intro N hN mk hmk|intro N hN|intro h)|refine Zc C3 ?_|refine Zt (Zq I6.d hrl) ?_|fail)
 refine l8 (fun i=>p1 c (fromI c i) (todoI c i) i) c.b.length ?_ ?_
 ·generalize hF0:(fun _:Nat=>([]:List Int))=F
  obtain⟨r,hr⟩:∃r:Nat→Option Nat,r=fun id=>match r7 [0,8,56,72,128] 0 id with|some j=>some j|none=>if 100≤id∧id<100+c.b.length∧F (id-100)≠[]then some id else none:=⟨_,rfl⟩
  have r0:r 0=some 0:=by rw[hr];rfl
  have r1:r 8=some 1:=by rw[hr];rfl
  have r2:r 56=some 2:=by rw[hr];rfl
  have r3:r 72=some 3:=by rw[hr];rfl
  have r4:r 128=some 4:=by rw[hr];rfl
  have hni:∀y,y<c.b.length→r7 [0,8,56,72,128] 0 (100+y)=none:=fun y hy=>by simp (disch:=omega) only[G9,I5,E5,if_false]
  have hm:=cT (n:=c.b.length) (F:=F) (r:=r) (fun y hy hF=>by rw[hr];simp only[hni y hy];rw[if_pos ⟨by omega,by omega,by rw[Nat.add_sub_cancel_left];exact hF⟩])
  have hpl:=aD c.b.length F hn.1
  refine Y5 (eV (t':=_) (rows:=_) (F:=F) [1,2,3,4,5,6,7,8,27,28] [0,8,56,72,128] r hr (by decide) (fun id h=>?_) (by decide) (by omega) (by simp (disch:=omega) only[r0,r1,r2,r3,r4,hpl,hm,B2,z7,E5,D0,w4,B8,Ab.lookup_append,r8,m9,I6.d,hrl,c5,n9,b5,c8,n5,w8,AV.plain,Nat.reduceBEq,↓reduceIte,Nat.reduceEqDiff,Nat.reduceAdd,sC];rfl) (by simp (disch:=omega) only[r0,r1,r2,r3,r4,hpl,hm,B2,z7,E5,D0,w4,B8,Ab.lookup_append,r8,m9,I6.d,hrl,c5,n9,b5,c8,n5,w8,AV.plain,Nat.reduceBEq,↓reduceIte,Nat.reduceEqDiff,Nat.reduceAdd,sC];rfl) (fun y hy hF=>by rw[←hF0]at hF;exact absurd rfl hF)) ?_
  ·simp only[List.mem_cons,List.not_mem_nil,or_false]at h;omega
  ·rw[←hF0];rfl
 ·intro i hi
  by_cases hin:i<c.b.length
  ·cases hre:(reachF c.b).getD i false with
   |false=>
    rw[b6D hre,b9U hre]
    generalize fromI c i=F
    generalize todoI c i=T
    have hpl:=aD c.b.length F hn.1
    by_cases hT:T=[]
    ·simp only[p1,qX,a8G,if_pos hT,List.replicate_succ,List.replicate_zero,List.cons_append,List.nil_append,List.append_nil,e9,Nat.reduceAdd]
     repeat' (first|refine Za ?_|(with_reducible constructor<;>first|intro N hN mk hmk|intro N hN|intro h)|refine Zt (Zq I6.d (Zq hre hrl)) ?_|fail)
     obtain⟨r,hr⟩:∃r:Nat→Option Nat,r=fun id=>match r7 [0,1,2,3,4] 0 id with|some j=>some j|none=>if 100≤id∧id<100+c.b.length∧F (id-100)≠[]then some id else none:=⟨_,rfl⟩
     have r0:r 0=some 0:=by rw[hr];rfl
     have r1:r 1=some 1:=by rw[hr];rfl
     have r2:r 2=some 2:=by rw[hr];rfl
     have r3:r 3=some 3:=by rw[hr];rfl
     have r4:r 4=some 4:=by rw[hr];rfl
     have hni:∀y,y<c.b.length→r7 [0,1,2,3,4] 0 (100+y)=none:=fun y hy=>by simp (disch:=omega) only[G9,I5,E5,if_false]
     have hm:=cT (n:=c.b.length) (F:=F) (r:=r) (fun y hy hF=>by rw[hr];simp only[hni y hy];rw[if_pos ⟨by omega,by omega,by rw[Nat.add_sub_cancel_left];exact hF⟩])
     have hpl:=aD c.b.length F hn.1
     refine Y5 (eV (t':=_) (rows:=_) (F:=F) [1,2,3,4,5,6,7,8,27,28] [0,1,2,3,4] r hr (by decide) (fun id h=>?_) (by decide) (by omega) (by simp (disch:=omega) only[r0,r1,r2,r3,r4,hpl,hm,B2,z7,E5,D0,w4,B8,Ab.lookup_append,r8,m9,I6.d,hre,hrl,c5,n9,b5,c8,n5,w8,AV.plain,Nat.reduceBEq,↓reduceIte,Nat.reduceEqDiff,Nat.reduceAdd,sC];rfl) (by simp (disch:=omega) only[r0,r1,r2,r3,r4,hpl,hm,B2,z7,E5,D0,w4,B8,Ab.lookup_append,r8,m9,I6.d,hre,hrl,c5,n9,b5,c8,n5,w8,AV.plain,Nat.reduceBEq,↓reduceIte,Nat.reduceEqDiff,Nat.reduceAdd,sC];rfl) (fun y hy hF=>by simp (disch:=omega) only[LS.hf,List.lookup_cons,B2,Ab.lookup_append,w4,Option.getD_some])) ?_
     ·simp only[List.mem_cons,List.not_mem_nil,or_false]at h;omega
     ·rfl
    ·simp only[p1,qX,a8G,if_neg hT,List.replicate_succ,List.replicate_zero,List.cons_append,List.nil_append,List.append_nil,e9,Nat.reduceAdd]
     repeat' (first|refine Za ?_|(with_reducible constructor<;>first|intro N hN mk hmk|intro N hN|intro h)|refine Zt (Zq I6.d (Zq hre hrl)) ?_|fail)
     obtain⟨r,hr⟩:∃r:Nat→Option Nat,r=fun id=>match r7 [0,1,2,3,4,5] 0 id with|some j=>some j|none=>if 100≤id∧id<100+c.b.length∧F (id-100)≠[]then some id else none:=⟨_,rfl⟩
     have r0:r 0=some 0:=by rw[hr];rfl
     have r1:r 1=some 1:=by rw[hr];rfl
     have r2:r 2=some 2:=by rw[hr];rfl
     have r3:r 3=some 3:=by rw[hr];rfl
     have r4:r 4=some 4:=by rw[hr];rfl
     have r5:r 5=some 5:=by rw[hr];rfl
     have hni:∀y,y<c.b.length→r7 [0,1,2,3,4,5] 0 (100+y)=none:=fun y hy=>by simp (disch:=omega) only[G9,I5,E5,if_false]
     have hm:=cT (n:=c.b.length) (F:=F) (r:=r) (fun y hy hF=>by rw[hr];simp only[hni y hy];rw[if_pos ⟨by omega,by omega,by rw[Nat.add_sub_cancel_left];exact hF⟩])
     have hpl:=aD c.b.length F hn.1
     refine Y5 (eV (t':=_) (rows:=_) (F:=F) [1,2,3,4,5,6,7,8,27,28] [0,1,2,3,4,5] r hr (by decide) (fun id h=>?_) (by decide) (by omega) (by simp (disch:=omega) only[r0,r1,r2,r3,r4,r5,hpl,hm,B2,z7,E5,D0,w4,B8,Ab.lookup_append,r8,m9,I6.d,hre,hrl,c5,n9,b5,c8,n5,w8,AV.plain,Nat.reduceBEq,↓reduceIte,Nat.reduceEqDiff,Nat.reduceAdd,sC];rfl) (by simp (disch:=omega) only[r0,r1,r2,r3,r4,r5,hpl,hm,B2,z7,E5,D0,w4,B8,Ab.lookup_append,r8,m9,I6.d,hre,hrl,c5,n9,b5,c8,n5,w8,AV.plain,Nat.reduceBEq,↓reduceIte,Nat.reduceEqDiff,Nat.reduceAdd,sC];rfl) (fun y hy hF=>by simp (disch:=omega) only[LS.hf,List.lookup_cons,B2,Ab.lookup_append,w4,Option.getD_some])) ?_
     ·simp only[List.mem_cons,List.not_mem_nil,or_false]at h;omega
     ·rfl
   |true=>
    obtain⟨t,ht⟩:∃t,t=(B6 c.b i).t:=⟨_,rfl⟩
    have ht':(c.b.getD i B0).t=t:=ht.symm
    have hs:∀to∈m7 t,0≤to∧to<c.b.length:=by rw[ht];exact hc.succ.2 _ (S5 hin)
    have C1:=wN t
    have hl2:=nZ t
    simp only[q9.av]at C1
    rw[b4D hre]
    have hFi:=b3y (c:=c) (i:=i) hre (j:=(m7 t).length) (by rw[ht];exact Nat.le_refl _)
    rw[←ht]at hFi
    rw[←hFi]
    have h0:=a9P c (m7 t) i
    rw[←h0]
    have hTl:=a3B c i
    generalize todoI c i=T at*
    obtain⟨SI,hSI⟩:∃s,s=p1 c (fromJ c (m7 t) i (m7 t).length) (T++[(i:Int)]) (i+1):=⟨_,rfl⟩
    rw[←hSI]
    obtain⟨F0,hF0⟩:∃F,F=fromJ c (m7 t) i 0:=⟨_,rfl⟩
    rw[←hF0]
    by_cases hT:T=[]
    ·simp only[p1,qX,a8G,if_pos hT,List.replicate_succ,List.replicate_zero,List.cons_append,List.nil_append,List.append_nil,e9,Nat.reduceAdd]
     repeat' (first|refine Za ?_|(with_reducible constructor<;>first|intro N hN mk hmk|intro N hN|intro h)|refine Zc C1 ?_|refine Zt (Zq I6.d (Zq hre (Zq hrl ht'))) ?_|fail)
     refine u9 (s':=q1 c (fromJ c (m7 t) i 0) (T++[(i:Int)]) i (m7 t) 0) ?_ ?_
     ·skip
      obtain⟨r,hr⟩:∃r:Nat→Option Nat,r=fun id=>match r7 [0,1,2,3,4,288] 0 id with|some j=>some j|none=>if 100≤id∧id<100+c.b.length∧F0 (id-100)≠[]then some id else none:=⟨_,rfl⟩
      have r0:r 0=some 0:=by rw[hr];rfl
      have r1:r 1=some 1:=by rw[hr];rfl
      have r2:r 2=some 2:=by rw[hr];rfl
      have r3:r 3=some 3:=by rw[hr];rfl
      have r4:r 4=some 4:=by rw[hr];rfl
      have r5:r 288=some 5:=by rw[hr];rfl
      have hni:∀y,y<c.b.length→r7 [0,1,2,3,4,288] 0 (100+y)=none:=fun y hy=>by simp (disch:=omega) only[G9,I5,E5,if_false]
      have hm:=cT (n:=c.b.length) (F:=F0) (r:=r) (fun y hy hF=>by rw[hr];simp only[hni y hy];rw[if_pos ⟨by omega,by omega,by rw[Nat.add_sub_cancel_left];exact hF⟩])
      have hpl:=aD c.b.length F0 hn.1
      refine Y5 (eV (t':=_) (rows:=_) (F:=F0) [1,2,3,4,5,6,7,8,9,27,28,46,47,48] [0,1,2,3,4,288] r hr (by decide) (fun id h=>?_) (by decide) (by omega) (by simp (disch:=omega) only[r0,r1,r2,r3,r4,r5,hpl,hm,B2,z7,E5,D0,w4,B8,Ab.lookup_append,r8,m9,I6.d,hre,hrl,ht',c5,n9,b5,c8,n5,w8,AV.plain,Nat.reduceBEq,↓reduceIte,Nat.reduceEqDiff,Nat.reduceAdd,sC];rfl) (by simp (disch:=omega) only[r0,r1,r2,r3,r4,r5,hpl,hm,B2,z7,E5,D0,w4,B8,Ab.lookup_append,r8,m9,I6.d,hre,hrl,ht',c5,n9,b5,c8,n5,w8,AV.plain,Nat.reduceBEq,↓reduceIte,Nat.reduceEqDiff,Nat.reduceAdd,sC];rfl) (fun y hy hF=>by simp (disch:=omega) only[LS.hf,List.lookup_cons,B2,Ab.lookup_append,w4,Option.getD_some])) ?_
      ·simp only[List.mem_cons,List.not_mem_nil,or_false]at h;omega
      ·rw[hF0,hT];rfl
     ·skip
      have hT':(T++[(i:Int)]).length≤30:=by simp;omega
      have hTn:T++[(i:Int)]≠[]:=by simp
      generalize T++[(i:Int)]=T' at*
      refine l8 (fun j=>q1 c (fromJ c (m7 t) i j) T' i (m7 t) j) (m7 t).length (Y5 (fun _ _ _ ρ _ _ R=>⟨ρ,R⟩) rfl) ?_
      intro j hj
      by_cases hjn:j<(m7 t).length
      ·have hgo:=hs _ (L2 hjn)
       obtain⟨z,hzz⟩:∃z:Nat,(m7 t).getD j 0=z:=⟨((m7 t).getD j 0).toNat,by omega⟩
       rw[wX (yZ t) hjn hgo.1,hzz,Int.toNat_natCast]
       have hz:z<c.b.length:=by omega
       have hFl:=a2R c (m7 t) i j z
       generalize fromJ c (m7 t) i j=F at*
       obtain⟨SJ,hSJ⟩:∃s,s=q1 c (aI F z (F z++[(i:Int)])) T' i (m7 t) (j+1):=⟨_,rfl⟩
       rw[←hSJ]
       by_cases hF:F z=[]
       ·have hcz:W8 z (F z)= .a8 true []:=by unfold W8;rw[if_pos hF]
        simp only[q1,List.replicate_succ,List.replicate_zero,List.cons_append,List.nil_append,List.append_nil,e9,Nat.reduceAdd]
        repeat' (first|refine Za ?_|(with_reducible constructor<;>first|intro N hN mk hmk|intro N hN|intro h)|refine Zt (Zq I6.d (Zq hzz (Zq hcz (Zq hre (Zq hrl ht'))))) ?_|fail)
        obtain⟨r,hr⟩:∃r:Nat→Option Nat,r=fun id=>match r7 [0,1,2,3,4,5] 0 id with|some j=>some j|none=>if id=296 then some (100+z)else if 100≤id∧id<100+c.b.length∧F (id-100)≠[]∧id≠100+z then some id else none:=⟨_,rfl⟩
        have r0:r 0=some 0:=by rw[hr];rfl
        have r1:r 1=some 1:=by rw[hr];rfl
        have r2:r 2=some 2:=by rw[hr];rfl
        have r3:r 3=some 3:=by rw[hr];rfl
        have r4:r 4=some 4:=by rw[hr];rfl
        have r5:r 5=some 5:=by rw[hr];rfl
        have hni:∀y,y<c.b.length→r7 [0,1,2,3,4,5] 0 (100+y)=none:=fun y hy=>by simp (disch:=omega) only[G9,I5,E5,if_false]
        have hrx:r 296=some (100+z):=by rw[hr];rfl
        have hro:∀y,y<c.b.length→y≠z→F y≠[]→r (100+y)=some (100+y):=fun y hy hyz hF=>by rw[hr];simp only[hni y hy];rw[if_neg (by omega),if_pos ⟨by omega,by omega,by rw[Nat.add_sub_cancel_left];exact hF,by omega⟩]
        have hm:=iI (v:=(i:Int)) hz hrx hro
        have hpl:=kL c.b.length F z 296 ((F z).length+1) hz
        simp only[hF,List.length_nil,Nat.zero_add]at hm hpl
        refine Y5 (nK (t':=_) (rows:=_) (x:=296) (z:=z) (F:=F) (v:=(i:Int)) [1,2,3,4,5,6,7,8,9,27,28,46,47,48] [0,1,2,3,4,5] r hr (by decide) (fun id h=>?_) (by decide) ⟨by omega,by decide⟩ hz (by omega) (by simp (disch:=omega) only[r0,r1,r2,r3,r4,r5,hpl,hm,B2,z7,E5,D0,w4,B8,Ab.lookup_append,r8,m9,I6.d,hzz,hcz,hre,hrl,ht',c5,n9,b5,c8,n5,w8,AV.plain,Nat.reduceBEq,↓reduceIte,Nat.reduceEqDiff,Nat.reduceAdd,sC];rfl) (by simp (disch:=omega) only[r0,r1,r2,r3,r4,r5,hpl,hm,B2,z7,E5,D0,w4,B8,Ab.lookup_append,r8,m9,I6.d,hzz,hcz,hre,hrl,ht',c5,n9,b5,c8,n5,w8,AV.plain,Nat.reduceBEq,↓reduceIte,Nat.reduceEqDiff,Nat.reduceAdd,sC];rfl) (by first|(rw[hF];simp (disch:=omega) only[LS.hf,List.lookup_cons,List.lookup_nil,B2,z7,Nat.reduceBEq,Ab.lookup_append,D0,w4,B8,Option.getD_some,beq_self_eq_true];rfl)|simp (disch:=omega) only[LS.hf,List.lookup_cons,List.lookup_nil,B2,z7,Nat.reduceBEq,Ab.lookup_append,D0,w4,B8,Option.getD_some,beq_self_eq_true]) (fun y hy hyz=>by simp (disch:=omega) only[LS.hf,List.lookup_cons,List.lookup_nil,B2,z7,Nat.reduceBEq,Ab.lookup_append,w4,nJ,hyz,if_false,Option.getD_some])) ?_
        ·simp only[List.mem_cons,List.not_mem_nil,or_false]at h;omega
        ·rw[hSJ,hF];rfl
       ·have hcz:W8 z (F z)= .own (100+z) 0 (F z).length:=by unfold W8;rw[if_neg hF]
        have hrz:fK (F z)= .live ⟨1,c7 (F z),0⟩:=by unfold fK;rw[if_neg hF]
        simp only[q1,List.replicate_succ,List.replicate_zero,List.cons_append,List.nil_append,List.append_nil,e9,Nat.reduceAdd]
        repeat' (first|refine Za ?_|(with_reducible constructor<;>first|intro N hN mk hmk|intro N hN|intro h)|refine Zt (Zq I6.d (Zq hzz (Zq hcz (Zq hrz (Zq hre (Zq hrl ht')))))) ?_|fail)
        obtain⟨r,hr⟩:∃r:Nat→Option Nat,r=fun id=>match r7 [0,1,2,3,4,5] 0 id with|some j=>some j|none=>if id=296 then some (100+z)else if 100≤id∧id<100+c.b.length∧F (id-100)≠[]∧id≠100+z then some id else none:=⟨_,rfl⟩
        have r0:r 0=some 0:=by rw[hr];rfl
        have r1:r 1=some 1:=by rw[hr];rfl
        have r2:r 2=some 2:=by rw[hr];rfl
        have r3:r 3=some 3:=by rw[hr];rfl
        have r4:r 4=some 4:=by rw[hr];rfl
        have r5:r 5=some 5:=by rw[hr];rfl
        have hni:∀y,y<c.b.length→r7 [0,1,2,3,4,5] 0 (100+y)=none:=fun y hy=>by simp (disch:=omega) only[G9,I5,E5,if_false]
        have hrx:r 296=some (100+z):=by rw[hr];rfl
        have hro:∀y,y<c.b.length→y≠z→F y≠[]→r (100+y)=some (100+y):=fun y hy hyz hF=>by rw[hr];simp only[hni y hy];rw[if_neg (by omega),if_pos ⟨by omega,by omega,by rw[Nat.add_sub_cancel_left];exact hF,by omega⟩]
        have hm:=iI (v:=(i:Int)) hz hrx hro
        have hpl:=kL c.b.length F z 296 ((F z).length+1) hz
        refine Y5 (nK (t':=_) (rows:=_) (x:=296) (z:=z) (F:=F) (v:=(i:Int)) [1,2,3,4,5,6,7,8,9,27,28,46,47,48] [0,1,2,3,4,5] r hr (by decide) (fun id h=>?_) (by decide) ⟨by omega,by decide⟩ hz (by omega) (by simp (disch:=omega) only[r0,r1,r2,r3,r4,r5,hpl,hm,B2,z7,E5,D0,w4,B8,Ab.lookup_append,r8,m9,I6.d,hzz,hcz,hrz,hre,hrl,ht',c5,n9,b5,c8,n5,w8,AV.plain,Nat.reduceBEq,↓reduceIte,Nat.reduceEqDiff,Nat.reduceAdd,sC];rfl) (by simp (disch:=omega) only[r0,r1,r2,r3,r4,r5,hpl,hm,B2,z7,E5,D0,w4,B8,Ab.lookup_append,r8,m9,I6.d,hzz,hcz,hrz,hre,hrl,ht',c5,n9,b5,c8,n5,w8,AV.plain,Nat.reduceBEq,↓reduceIte,Nat.reduceEqDiff,Nat.reduceAdd,sC];rfl) (by first|(rw[hF];simp (disch:=omega) only[LS.hf,List.lookup_cons,List.lookup_nil,B2,z7,Nat.reduceBEq,Ab.lookup_append,D0,w4,B8,Option.getD_some,beq_self_eq_true];rfl)|simp (disch:=omega) only[LS.hf,List.lookup_cons,List.lookup_nil,B2,z7,Nat.reduceBEq,Ab.lookup_append,D0,w4,B8,Option.getD_some,beq_self_eq_true]) (fun y hy hyz=>by simp (disch:=omega) only[LS.hf,List.lookup_cons,List.lookup_nil,B2,z7,Nat.reduceBEq,Ab.lookup_append,w4,nJ,hyz,if_false,Option.getD_some])) ?_
        ·simp only[List.mem_cons,List.not_mem_nil,or_false]at h;omega
        ·rw[hSJ];rfl
      ·have e:j=(m7 t).length:=by omega
       rw[e]
       rw[hFi]at hSI
       rw[hFi]
       generalize fromI c (i+1)=F at*
       simp only[q1,List.replicate_succ,List.replicate_zero,List.cons_append,List.nil_append,List.append_nil,e9,Nat.reduceAdd]
       repeat' (first|refine Za ?_|(with_reducible constructor<;>first|intro N hN mk hmk|intro N hN|intro h)|refine Zt (Zq I6.d (Zq hre (Zq hrl ht'))) ?_|fail)
       obtain⟨r,hr⟩:∃r:Nat→Option Nat,r=fun id=>match r7 [0,1,2,3,4,5] 0 id with|some j=>some j|none=>if 100≤id∧id<100+c.b.length∧F (id-100)≠[]then some id else none:=⟨_,rfl⟩
       have r0:r 0=some 0:=by rw[hr];rfl
       have r1:r 1=some 1:=by rw[hr];rfl
       have r2:r 2=some 2:=by rw[hr];rfl
       have r3:r 3=some 3:=by rw[hr];rfl
       have r4:r 4=some 4:=by rw[hr];rfl
       have r5:r 5=some 5:=by rw[hr];rfl
       have hni:∀y,y<c.b.length→r7 [0,1,2,3,4,5] 0 (100+y)=none:=fun y hy=>by simp (disch:=omega) only[G9,I5,E5,if_false]
       have hm:=cT (n:=c.b.length) (F:=F) (r:=r) (fun y hy hF=>by rw[hr];simp only[hni y hy];rw[if_pos ⟨by omega,by omega,by rw[Nat.add_sub_cancel_left];exact hF⟩])
       have hpl:=aD c.b.length F hn.1
       refine Y5 (eV (t':=_) (rows:=_) (F:=F) [1,2,3,4,5,6,7,8,27,28] [0,1,2,3,4,5] r hr (by decide) (fun id h=>?_) (by decide) (by omega) (by simp (disch:=omega) only[r0,r1,r2,r3,r4,r5,hpl,hm,B2,z7,E5,D0,w4,B8,Ab.lookup_append,r8,m9,I6.d,hre,hrl,ht',c5,n9,b5,c8,n5,w8,AV.plain,Nat.reduceBEq,↓reduceIte,Nat.reduceEqDiff,Nat.reduceAdd,sC];rfl) (by simp (disch:=omega) only[r0,r1,r2,r3,r4,r5,hpl,hm,B2,z7,E5,D0,w4,B8,Ab.lookup_append,r8,m9,I6.d,hre,hrl,ht',c5,n9,b5,c8,n5,w8,AV.plain,Nat.reduceBEq,↓reduceIte,Nat.reduceEqDiff,Nat.reduceAdd,sC];rfl) (fun y hy hF=>by simp (disch:=omega) only[LS.hf,List.lookup_cons,B2,Ab.lookup_append,w4,Option.getD_some])) ?_
       ·simp only[List.mem_cons,List.not_mem_nil,or_false]at h;omega
       ·rw[hSI];simp only[p1,qX,a8G,if_neg hTn];rfl
    ·simp only[p1,qX,a8G,if_neg hT,List.replicate_succ,List.replicate_zero,List.cons_append,List.nil_append,List.append_nil,e9,Nat.reduceAdd]
     repeat' (first|refine Za ?_|(with_reducible constructor<;>first|intro N hN mk hmk|intro N hN|intro h)|refine Zc C1 ?_|refine Zt (Zq I6.d (Zq hre (Zq hrl ht'))) ?_|fail)
     refine u9 (s':=q1 c (fromJ c (m7 t) i 0) (T++[(i:Int)]) i (m7 t) 0) ?_ ?_
     ·skip
      obtain⟨r,hr⟩:∃r:Nat→Option Nat,r=fun id=>match r7 [0,1,2,3,4,288] 0 id with|some j=>some j|none=>if 100≤id∧id<100+c.b.length∧F0 (id-100)≠[]then some id else none:=⟨_,rfl⟩
      have r0:r 0=some 0:=by rw[hr];rfl
      have r1:r 1=some 1:=by rw[hr];rfl
      have r2:r 2=some 2:=by rw[hr];rfl
      have r3:r 3=some 3:=by rw[hr];rfl
      have r4:r 4=some 4:=by rw[hr];rfl
      have r5:r 288=some 5:=by rw[hr];rfl
      have hni:∀y,y<c.b.length→r7 [0,1,2,3,4,288] 0 (100+y)=none:=fun y hy=>by simp (disch:=omega) only[G9,I5,E5,if_false]
      have hm:=cT (n:=c.b.length) (F:=F0) (r:=r) (fun y hy hF=>by rw[hr];simp only[hni y hy];rw[if_pos ⟨by omega,by omega,by rw[Nat.add_sub_cancel_left];exact hF⟩])
      have hpl:=aD c.b.length F0 hn.1
      refine Y5 (eV (t':=_) (rows:=_) (F:=F0) [1,2,3,4,5,6,7,8,9,27,28,46,47,48] [0,1,2,3,4,288] r hr (by decide) (fun id h=>?_) (by decide) (by omega) (by simp (disch:=omega) only[r0,r1,r2,r3,r4,r5,hpl,hm,B2,z7,E5,D0,w4,B8,Ab.lookup_append,r8,m9,I6.d,hre,hrl,ht',c5,n9,b5,c8,n5,w8,AV.plain,Nat.reduceBEq,↓reduceIte,Nat.reduceEqDiff,Nat.reduceAdd,sC];rfl) (by simp (disch:=omega) only[r0,r1,r2,r3,r4,r5,hpl,hm,B2,z7,E5,D0,w4,B8,Ab.lookup_append,r8,m9,I6.d,hre,hrl,ht',c5,n9,b5,c8,n5,w8,AV.plain,Nat.reduceBEq,↓reduceIte,Nat.reduceEqDiff,Nat.reduceAdd,sC];rfl) (fun y hy hF=>by simp (disch:=omega) only[LS.hf,List.lookup_cons,B2,Ab.lookup_append,w4,Option.getD_some])) ?_
      ·simp only[List.mem_cons,List.not_mem_nil,or_false]at h;omega
      ·rw[hF0];simp only[q1,List.length_append,List.length_cons,List.length_nil,Nat.zero_add];rfl
     ·skip
      have hT':(T++[(i:Int)]).length≤30:=by simp;omega
      have hTn:T++[(i:Int)]≠[]:=by simp
      generalize T++[(i:Int)]=T' at*
      refine l8 (fun j=>q1 c (fromJ c (m7 t) i j) T' i (m7 t) j) (m7 t).length (Y5 (fun _ _ _ ρ _ _ R=>⟨ρ,R⟩) rfl) ?_
      intro j hj
      by_cases hjn:j<(m7 t).length
      ·have hgo:=hs _ (L2 hjn)
       obtain⟨z,hzz⟩:∃z:Nat,(m7 t).getD j 0=z:=⟨((m7 t).getD j 0).toNat,by omega⟩
       rw[wX (yZ t) hjn hgo.1,hzz,Int.toNat_natCast]
       have hz:z<c.b.length:=by omega
       have hFl:=a2R c (m7 t) i j z
       generalize fromJ c (m7 t) i j=F at*
       obtain⟨SJ,hSJ⟩:∃s,s=q1 c (aI F z (F z++[(i:Int)])) T' i (m7 t) (j+1):=⟨_,rfl⟩
       rw[←hSJ]
       by_cases hF:F z=[]
       ·have hcz:W8 z (F z)= .a8 true []:=by unfold W8;rw[if_pos hF]
        simp only[q1,List.replicate_succ,List.replicate_zero,List.cons_append,List.nil_append,List.append_nil,e9,Nat.reduceAdd]
        repeat' (first|refine Za ?_|(with_reducible constructor<;>first|intro N hN mk hmk|intro N hN|intro h)|refine Zt (Zq I6.d (Zq hzz (Zq hcz (Zq hre (Zq hrl ht'))))) ?_|fail)
        obtain⟨r,hr⟩:∃r:Nat→Option Nat,r=fun id=>match r7 [0,1,2,3,4,5] 0 id with|some j=>some j|none=>if id=296 then some (100+z)else if 100≤id∧id<100+c.b.length∧F (id-100)≠[]∧id≠100+z then some id else none:=⟨_,rfl⟩
        have r0:r 0=some 0:=by rw[hr];rfl
        have r1:r 1=some 1:=by rw[hr];rfl
        have r2:r 2=some 2:=by rw[hr];rfl
        have r3:r 3=some 3:=by rw[hr];rfl
        have r4:r 4=some 4:=by rw[hr];rfl
        have r5:r 5=some 5:=by rw[hr];rfl
        have hni:∀y,y<c.b.length→r7 [0,1,2,3,4,5] 0 (100+y)=none:=fun y hy=>by simp (disch:=omega) only[G9,I5,E5,if_false]
        have hrx:r 296=some (100+z):=by rw[hr];rfl
        have hro:∀y,y<c.b.length→y≠z→F y≠[]→r (100+y)=some (100+y):=fun y hy hyz hF=>by rw[hr];simp only[hni y hy];rw[if_neg (by omega),if_pos ⟨by omega,by omega,by rw[Nat.add_sub_cancel_left];exact hF,by omega⟩]
        have hm:=iI (v:=(i:Int)) hz hrx hro
        have hpl:=kL c.b.length F z 296 ((F z).length+1) hz
        simp only[hF,List.length_nil,Nat.zero_add]at hm hpl
        refine Y5 (nK (t':=_) (rows:=_) (x:=296) (z:=z) (F:=F) (v:=(i:Int)) [1,2,3,4,5,6,7,8,9,27,28,46,47,48] [0,1,2,3,4,5] r hr (by decide) (fun id h=>?_) (by decide) ⟨by omega,by decide⟩ hz (by omega) (by simp (disch:=omega) only[r0,r1,r2,r3,r4,r5,hpl,hm,B2,z7,E5,D0,w4,B8,Ab.lookup_append,r8,m9,I6.d,hzz,hcz,hre,hrl,ht',c5,n9,b5,c8,n5,w8,AV.plain,Nat.reduceBEq,↓reduceIte,Nat.reduceEqDiff,Nat.reduceAdd,sC];rfl) (by simp (disch:=omega) only[r0,r1,r2,r3,r4,r5,hpl,hm,B2,z7,E5,D0,w4,B8,Ab.lookup_append,r8,m9,I6.d,hzz,hcz,hre,hrl,ht',c5,n9,b5,c8,n5,w8,AV.plain,Nat.reduceBEq,↓reduceIte,Nat.reduceEqDiff,Nat.reduceAdd,sC];rfl) (by first|(rw[hF];simp (disch:=omega) only[LS.hf,List.lookup_cons,List.lookup_nil,B2,z7,Nat.reduceBEq,Ab.lookup_append,D0,w4,B8,Option.getD_some,beq_self_eq_true];rfl)|simp (disch:=omega) only[LS.hf,List.lookup_cons,List.lookup_nil,B2,z7,Nat.reduceBEq,Ab.lookup_append,D0,w4,B8,Option.getD_some,beq_self_eq_true]) (fun y hy hyz=>by simp (disch:=omega) only[LS.hf,List.lookup_cons,List.lookup_nil,B2,z7,Nat.reduceBEq,Ab.lookup_append,w4,nJ,hyz,if_false,Option.getD_some])) ?_
        ·simp only[List.mem_cons,List.not_mem_nil,or_false]at h;omega
        ·rw[hSJ,hF];rfl
       ·have hcz:W8 z (F z)= .own (100+z) 0 (F z).length:=by unfold W8;rw[if_neg hF]
        have hrz:fK (F z)= .live ⟨1,c7 (F z),0⟩:=by unfold fK;rw[if_neg hF]
        simp only[q1,List.replicate_succ,List.replicate_zero,List.cons_append,List.nil_append,List.append_nil,e9,Nat.reduceAdd]
        repeat' (first|refine Za ?_|(with_reducible constructor<;>first|intro N hN mk hmk|intro N hN|intro h)|refine Zt (Zq I6.d (Zq hzz (Zq hcz (Zq hrz (Zq hre (Zq hrl ht')))))) ?_|fail)
        obtain⟨r,hr⟩:∃r:Nat→Option Nat,r=fun id=>match r7 [0,1,2,3,4,5] 0 id with|some j=>some j|none=>if id=296 then some (100+z)else if 100≤id∧id<100+c.b.length∧F (id-100)≠[]∧id≠100+z then some id else none:=⟨_,rfl⟩
        have r0:r 0=some 0:=by rw[hr];rfl
        have r1:r 1=some 1:=by rw[hr];rfl
        have r2:r 2=some 2:=by rw[hr];rfl
        have r3:r 3=some 3:=by rw[hr];rfl
        have r4:r 4=some 4:=by rw[hr];rfl
        have r5:r 5=some 5:=by rw[hr];rfl
        have hni:∀y,y<c.b.length→r7 [0,1,2,3,4,5] 0 (100+y)=none:=fun y hy=>by simp (disch:=omega) only[G9,I5,E5,if_false]
        have hrx:r 296=some (100+z):=by rw[hr];rfl
        have hro:∀y,y<c.b.length→y≠z→F y≠[]→r (100+y)=some (100+y):=fun y hy hyz hF=>by rw[hr];simp only[hni y hy];rw[if_neg (by omega),if_pos ⟨by omega,by omega,by rw[Nat.add_sub_cancel_left];exact hF,by omega⟩]
        have hm:=iI (v:=(i:Int)) hz hrx hro
        have hpl:=kL c.b.length F z 296 ((F z).length+1) hz
        refine Y5 (nK (t':=_) (rows:=_) (x:=296) (z:=z) (F:=F) (v:=(i:Int)) [1,2,3,4,5,6,7,8,9,27,28,46,47,48] [0,1,2,3,4,5] r hr (by decide) (fun id h=>?_) (by decide) ⟨by omega,by decide⟩ hz (by omega) (by simp (disch:=omega) only[r0,r1,r2,r3,r4,r5,hpl,hm,B2,z7,E5,D0,w4,B8,Ab.lookup_append,r8,m9,I6.d,hzz,hcz,hrz,hre,hrl,ht',c5,n9,b5,c8,n5,w8,AV.plain,Nat.reduceBEq,↓reduceIte,Nat.reduceEqDiff,Nat.reduceAdd,sC];rfl) (by simp (disch:=omega) only[r0,r1,r2,r3,r4,r5,hpl,hm,B2,z7,E5,D0,w4,B8,Ab.lookup_append,r8,m9,I6.d,hzz,hcz,hrz,hre,hrl,ht',c5,n9,b5,c8,n5,w8,AV.plain,Nat.reduceBEq,↓reduceIte,Nat.reduceEqDiff,Nat.reduceAdd,sC];rfl) (by first|(rw[hF];simp (disch:=omega) only[LS.hf,List.lookup_cons,List.lookup_nil,B2,z7,Nat.reduceBEq,Ab.lookup_append,D0,w4,B8,Option.getD_some,beq_self_eq_true];rfl)|simp (disch:=omega) only[LS.hf,List.lookup_cons,List.lookup_nil,B2,z7,Nat.reduceBEq,Ab.lookup_append,D0,w4,B8,Option.getD_some,beq_self_eq_true]) (fun y hy hyz=>by simp (disch:=omega) only[LS.hf,List.lookup_cons,List.lookup_nil,B2,z7,Nat.reduceBEq,Ab.lookup_append,w4,nJ,hyz,if_false,Option.getD_some])) ?_
        ·simp only[List.mem_cons,List.not_mem_nil,or_false]at h;omega
        ·rw[hSJ];rfl
      ·have e:j=(m7 t).length:=by omega
       rw[e]
       rw[hFi]at hSI
       rw[hFi]
       generalize fromI c (i+1)=F at*
       simp only[q1,List.replicate_succ,List.replicate_zero,List.cons_append,List.nil_append,List.append_nil,e9,Nat.reduceAdd]
       repeat' (first|refine Za ?_|(with_reducible constructor<;>first|intro N hN mk hmk|intro N hN|intro h)|refine Zt (Zq I6.d (Zq hre (Zq hrl ht'))) ?_|fail)
       obtain⟨r,hr⟩:∃r:Nat→Option Nat,r=fun id=>match r7 [0,1,2,3,4,5] 0 id with|some j=>some j|none=>if 100≤id∧id<100+c.b.length∧F (id-100)≠[]then some id else none:=⟨_,rfl⟩
       have r0:r 0=some 0:=by rw[hr];rfl
       have r1:r 1=some 1:=by rw[hr];rfl
       have r2:r 2=some 2:=by rw[hr];rfl
       have r3:r 3=some 3:=by rw[hr];rfl
       have r4:r 4=some 4:=by rw[hr];rfl
       have r5:r 5=some 5:=by rw[hr];rfl
       have hni:∀y,y<c.b.length→r7 [0,1,2,3,4,5] 0 (100+y)=none:=fun y hy=>by simp (disch:=omega) only[G9,I5,E5,if_false]
       have hm:=cT (n:=c.b.length) (F:=F) (r:=r) (fun y hy hF=>by rw[hr];simp only[hni y hy];rw[if_pos ⟨by omega,by omega,by rw[Nat.add_sub_cancel_left];exact hF⟩])
       have hpl:=aD c.b.length F hn.1
       refine Y5 (eV (t':=_) (rows:=_) (F:=F) [1,2,3,4,5,6,7,8,27,28] [0,1,2,3,4,5] r hr (by decide) (fun id h=>?_) (by decide) (by omega) (by simp (disch:=omega) only[r0,r1,r2,r3,r4,r5,hpl,hm,B2,z7,E5,D0,w4,B8,Ab.lookup_append,r8,m9,I6.d,hre,hrl,ht',c5,n9,b5,c8,n5,w8,AV.plain,Nat.reduceBEq,↓reduceIte,Nat.reduceEqDiff,Nat.reduceAdd,sC];rfl) (by simp (disch:=omega) only[r0,r1,r2,r3,r4,r5,hpl,hm,B2,z7,E5,D0,w4,B8,Ab.lookup_append,r8,m9,I6.d,hre,hrl,ht',c5,n9,b5,c8,n5,w8,AV.plain,Nat.reduceBEq,↓reduceIte,Nat.reduceEqDiff,Nat.reduceAdd,sC];rfl) (fun y hy hF=>by simp (disch:=omega) only[LS.hf,List.lookup_cons,B2,Ab.lookup_append,w4,Option.getD_some])) ?_
       ·simp only[List.mem_cons,List.not_mem_nil,or_false]at h;omega
       ·rw[hSI];simp only[p1,qX,a8G,if_neg hTn];rfl
  ·obtain rfl:i=c.b.length:=by omega
   have hT:todoI c c.b.length≠[]:=List.ne_nil_of_mem (yA.2 ⟨0,rfl,hn.1,.zero⟩)
   obtain⟨F,hF0⟩:∃F,F=fromI c c.b.length:=⟨_,rfl⟩
   rw[←hF0]
   simp only[p1,qX,a8G,if_neg hT,List.replicate_succ,List.replicate_zero,List.cons_append,List.nil_append,List.append_nil,e9,Nat.reduceAdd]
   repeat' (first|refine Za ?_|(with_reducible constructor<;>first|intro N hN mk hmk|intro N hN|intro h)|refine Zt (Zq I6.d hrl) ?_|fail)
   refine u9 (s':=f2 c (fromL c) (zS c.b.length) (zS c.b.length) (todoI c c.b.length)) ?_ (mZ (fun m s=>∃I O T,WI c I O T∧wm c I T≤10000∧m=wm c I T∧s=f2 c (fromL c) I O T) _ ⟨_,_,_,WI.zero c,c1H c hn.2 _,rfl,rfl⟩ ?_)
   ·refine Y5 (c0w (t':=_) (rows:=_) (F:=F) [1,2,3,4,5,7,8] [0,1,2,3,5] hn.1 rfl rfl (fun z hz hF=>by simp (disch:=omega) only[LS.hf,List.lookup_cons,B2,w4,Option.getD_some];unfold fK;rw[if_neg hF]) (by decide) (by decide) (by simp only[List.set_cons_succ,List.set_cons_zero,I6.d,hrl,c5,n9,b5,c8,n5,w8,AV.plain,Nat.reduceBEq,↓reduceIte,Nat.reduceEqDiff,Nat.reduceAdd,sC];rfl) (by simp only[r8,m9,I6.d,hrl,c5,n9,b5,c8,n5,w8,AV.plain,Nat.reduceBEq,↓reduceIte,Nat.reduceEqDiff,Nat.reduceAdd,sC];rfl)) ?_
    rw[hF0];rfl
   ·rintro m s ⟨I,O,T,W,hw,rfl,rfl⟩
    have gl:=W.f.s.li
    have go:=W.f.s.lo
    have gfl:=b3z c
    rcases yR T with rfl|⟨T',b,rfl⟩
    ·simp only[f2,List.replicate_succ,List.replicate_zero,List.cons_append,List.nil_append,e9,Nat.reduceAdd]
     rw[W.done]
     repeat' (first|refine Za ?_|(with_reducible constructor<;>first|intro N hN mk hmk|intro N hN|intro h)|refine Zt (Zq vW.d (Zq gl go)) ?_|fail)
     have hli:∀z,RB c.regs (I.getD z [])∧I9 (I.getD z []):=W.f.s.i
     have hlo:∀z,RB c.regs (O.getD z [])∧I9 (O.getD z []):=W.f.s.o
     have KI:=fun z=>a7t (I.getD z []) ((hli z).1.r64 (by omega)) (hli z).2 ((hli z).1.len (hli z).2 (by omega))
     have KO:=fun z=>a7t (O.getD z []) ((hlo z).1.r64 (by omega)) (hlo z).2 ((hlo z).1.len (hlo z).2 (by omega))
     simp only[L4]at KI KO
     refine wA (fun i=>⟨[.Z,.Z,.ptr 0 0 0,.Z,.own 1 0 c.b.length,.own 2 0 c.b.length,.Z,.Z,.Z,.Z,.Z,.Z,.Z,.Z,.ptr 3 0 0,.Z,.Z,.Z,.Z,.Z,.Z,.Z,.Z,.Z,.Z,.Z,.Z,.Z,.Z,.Z,.Z,.Z,.Z,.Z,.Z,.Z,.Z,.Z,.Z,.Z,.Z,.Z,.Z,.Z,.Z,.Z,.Z,.Z,.Z,.Z,.Z,.Z,.Z,.Z,.Z,.Z,.Z,.Z,.Z,.Z,.Z,.Z,.Z,.Z,.Z,.Z,.Z,.Z,.Z,.Z,.Z,.Z,.Z,.Z,.Z,.Z,.Z,.Z,.Z,.Z,.Z,.Z,.Z,.Z,.Z,.Z,.Z,.Z,.Z,.Z,.Z,.Z,.Z,.Z,.Z,.Z,.Z,.Z,.Z,.Z,.Z,.Z,.Z,.Z,.Z,.Z,.Z,.Z,.Z,.Z,.Z,.Z,.Z,.Z,.Z,.v (.int .i64 c.b.length),.v (.int .i64 ((i+1:Nat):Int)),.Z,.Z,.Z,.Z,.Z,.Z,.Z,.Z,.Z,.Z,.Z,.Z,.Z,.Z,.Z,.Z,.Z,.Z,.Z,.Z,.Z,.Z,.Z,.Z],[(0,.live ⟨2,[[.a8 true [],.a8 true []]],0⟩),(1,.live ⟨4,bR I,0⟩),(2,.live ⟨4,bR O,0⟩),(3,.live ⟨2,[[.own 4 0 (i+1),.own 5 0 (i+1)]],0⟩),(4,.live ⟨1,lists (I.take (i+1)),0⟩),(5,.live ⟨1,lists (O.take (i+1)),0⟩)],6⟩) (c.b.length-1) ?_ ?_
     ·have KI0:=KI 0
      have KO0:=KO 0
      repeat' (first|refine Za ?_|(with_reducible constructor<;>first|intro N hN mk hmk|intro N hN|intro h)|refine Zc KI0 ?_|refine Zc KO0 ?_|refine Zt (Zq vW.d (Zq gl go)) ?_|fail)
      refine fV (keep:=[2,4,5,14,115,116]) (ids:=[1,2,3,29,141,213]) (s':=_) (by simp only[r8,m9,vW.d,gl,go,c5,n9,b5,c8,n5,w8,AV.plain,Nat.reduceBEq,↓reduceIte,Nat.reduceEqDiff,Nat.reduceAdd,sC];rfl) ?_
      rw[a29 I (by omega),a29 O (by omega)]
      rfl
     ·intro i hi
      dsimp only
      by_cases hlt:i+1<c.b.length
      ·have KI1:=KI (i+1)
       have KO1:=KO (i+1)
       have eI:=a3b I (i+1) (by omega)
       have eO:=a3b O (i+1) (by omega)
       have tI:List.take (i+1) (lists (I.take (i+1)))=lists (I.take (i+1)):=iR (by rw[List.length_take];omega)
       have tO:List.take (i+1) (lists (O.take (i+1)))=lists (O.take (i+1)):=iR (by rw[List.length_take];omega)
       have lI:(I.take (i+1)).length=i+1:=by rw[List.length_take];omega
       have lO:(O.take (i+1)).length=i+1:=by rw[List.length_take];omega
       rw[←eI,←eO]
       generalize I.take (i+1)=PI at*
       generalize O.take (i+1)=PO at*
       repeat' (first|refine Za ?_|(with_reducible constructor<;>first|intro N hN mk hmk|intro N hN|intro h)|refine Zc KI1 ?_|refine Zc KO1 ?_|refine Zt (Zq vW.d (Zq tI (Zq tO (Zq lI (Zq lO (Zq gl go)))))) ?_|fail)
       refine fV (keep:=[2,4,5,14,115,116]) (ids:=[0,1,2,3,94,166]) (s':=_) (by simp only[r8,dF,List.all_append,vW.d,tI,tO,lI,lO,gl,go,c5,n9,b5,c8,n5,w8,AV.plain,Nat.reduceBEq,↓reduceIte,Nat.reduceEqDiff,Nat.reduceAdd,sC];rfl) ?_
       rfl
      ·have e:i+1=c.b.length:=by omega
       rw[e,List.take_of_length_le (by omega),List.take_of_length_le (by omega)]
       have tI:List.take c.b.length (lists I)=lists I:=iR gl
       have tO:List.take c.b.length (lists O)=lists O:=iR go
       repeat' (first|refine Za ?_|(with_reducible constructor<;>first|intro N hN mk hmk|intro N hN|intro h)|refine Zt (Zq vW.d (Zq tI (Zq tO (Zq gl go)))) ?_|fail)
    ·obtain⟨k,rfl⟩:∃k:Nat,b=k:=⟨b.toNat,by have:=W.m b (by simp);omega⟩
     obtain⟨hb,hrb,hsame,hpush⟩:=W.pop hc
     have hT':T'.length≤10000:=by have:=c4i c I (T'++[(k:Int)]);simp at this;omega
     obtain⟨B,hB⟩:∃B,B=B6 c.b k:=⟨_,rfl⟩
     have hB':c.b.getD k B0=B:=hB.symm
     have hbl:=(hc.blk hb).l
     have hgt:=hc.c5c hb
     have hgi:=hc.c5Z hb
     have hto:=(hc.blk hb).t.succ
     rw[←hB]at hgt hgi hbl hto
     have hsi:b4T I:=fun z=>⟨(W.f.s.i z).1.r64 (by omega),(W.f.s.i z).2⟩
     have nO:=a3i hc W.f.s hb
     have sO:I9 (V4 c I k):=fG
     have nI:RB c.regs (V1 c I k):=c1R nO (hc.rb hb) 0
     have sI:I9 (V1 c I k):=a4F sO
     have K1:=a9s B.t I (by rw[gl];exact hto) (by omega) hsi hgt.1 hgt.2
     rw[show cE B.t I=V4 c I k from by rw[hB];rfl]at K1
     have K2:=b6c B (V4 c I k) 0 (by omega) (by omega) (nO.r64 (by omega)) sO hgi
     rw[show atF B (V4 c I k) 0=V1 c I k from by rw[hB];rfl]at K2
     have m1:((D3 (V1 c I k):Int)=(D3 (I.getD k []):Int))=(V1 c I k=I.getD k []):=c0W (nI.r64 (by omega)) (hsi k).1 sI (hsi k).2
     have hfl:=pL c c.b.length k
     rw[←a7Q c hb]at hfl
     have hsO:(O.set k (V4 c I k)).length=c.b.length:=by rw[List.length_set];exact go
     have hsO2:(O.set k (V4 c I k)).getD k []=V4 c I k:=by rw[F2,if_pos ⟨rfl,by omega⟩]
     have tkI:List.take c.b.length (bR I)=bR I:=by rw[←gl];exact b4B I
     simp only[b6.av,q9.av,List.cons_append,List.nil_append]at K1 K2
     simp only[f2,List.replicate_succ,List.replicate_zero,List.cons_append,List.nil_append,e9,Nat.reduceAdd,List.length_append,List.length_cons,List.length_nil]
     repeat' (first|(guard_target=~ AK Tryz.prog (Go.Code.seq (Go.Code.region 20 _ _) _) _ _ _;(refine b5G (es:=c7 (T'++[(k:Int)])) 4 T'.length rfl ?_;simp only[zQ,a75,Nat.reduceEqDiff,if_true,if_false]))|refine Za ?_|(with_reducible constructor<;>first|intro N hN mk hmk|intro N hN|intro h)|(refine cS K1 rfl ?_ rfl ?_;(next=>(simp (disch:=omega) only[a7b.d,tkI,hsO,hsO2,m1,hB',gl,go,gfl,u6,Nat.reduceBEq,AV.plain,Nat.reduceAdd,Nat.reduceLeDiff,Nat.reduceLT,↓reduceIte,sF]<;>first|done|rfl)))|(refine bL K1 rfl ?_ rfl ?_;(next=>(simp (disch:=omega) only[a7b.d,tkI,hsO,hsO2,m1,hB',gl,go,gfl,u6,Nat.reduceBEq,AV.plain,Nat.reduceAdd,Nat.reduceLeDiff,Nat.reduceLT,↓reduceIte,sF]<;>first|done|rfl)))|refine Zc K2 ?_|refine Zt (Zq a7b.d (Zq tkI (Zq hsO (Zq hsO2 (Zq m1 (Zq hB' (Zq gl (Zq go gfl)))))))) ?_|fail)
     ·have hne:V1 c I k≠I.getD k []:=by first|exact ‹¬V1 c I k=I.getD k []›|assumption
      obtain⟨W2,ht2⟩:=hpush hne
      have hw2:=c1G (T:=T') (b:=(k:Int)) (z:=k) ht2 (W2.f.c6a hc)
      rw[a7Q c hb]
      refine⟨wm c (I.set k (V1 c I k)) (T'++fromI c c.b.length k),f2 c (fromL c) (I.set k (V1 c I k)) (O.set k (V4 c I k)) (T'++fromI c c.b.length k),hw2,fV (keep:=[1,2,3,4,5,7,8]) (ids:=[0,1,2,3,453]) (s':=_) (by simp only[r8,m9,a7b.d,tkI,hsO,hsO2,m1,hB',gl,go,gfl,c5,n9,b5,c8,n5,w8,AV.plain,Nat.reduceBEq,↓reduceIte,Nat.reduceEqDiff,Nat.reduceAdd,sC];rfl) ?_,_,_,_,W2,by omega,rfl,rfl⟩
      simp only[f2,List.length_append];rfl
     ·have heq:V1 c I k=I.getD k []:=by first|exact Decidable.not_not.1 ‹_›|assumption
      have W2:=hsame heq
      have hw2:=c4j c I T' (k:Int)
      refine⟨wm c I T',f2 c (fromL c) I (O.set k (V4 c I k)) T',hw2,fV (keep:=[1,2,3,4,5,7,8]) (ids:=[0,1,2,3,4]) (s':=_) (by simp only[r8,m9,a7b.d,tkI,hsO,hsO2,m1,hB',gl,go,gfl,c5,n9,b5,c8,n5,w8,AV.plain,Nat.reduceBEq,↓reduceIte,Nat.reduceEqDiff,Nat.reduceAdd,sC];rfl) ?_,_,_,_,W2,by omega,rfl,rfl⟩
      rfl
end Go.Proofs.YtgdoiokalfhjoaaGreatDoor
end
