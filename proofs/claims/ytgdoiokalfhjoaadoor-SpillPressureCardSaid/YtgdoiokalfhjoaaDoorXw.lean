/- Own work (by an AI agent; no person has read it): part of a proof of the seat YtgdoiokalfhjoaaDoor. -/
import Derived.Test.YtgdoiokalfhjoaaDoorXj
set_option linter.unusedSimpArgs false
set_option linter.unusedVariables false
set_option maxRecDepth 100000
set_option maxHeartbeats 10000000
section
namespace Go.Proofs.YtgdoiokalfhjoaaDoor
open Go.Ab
theorem a9h(n:Nat):List.replicate n [AV.c5 true []]=P7 n (fun _=>[]):=a4V n
theorem b12(n:Nat):List.replicate n [AV.v (.int .u64 0),.v (.int .u64 0),.v (.int .u64 0),.v (.int .u64 0)]=bR (wD n):=by
 unfold bR wD;rw[List.map_replicate];rfl
def qD(T:List Int):AV:=if T=[]then .c5 true []else .own 5 0 T.length
def a39(T:List Int):List Row:=if T=[]then[]else[⟨1,m8 T,0⟩]
noncomputable def p1 (c:Code) (F:Nat→List Int) (T:List Int) (i:Nat):LS:=
 ⟨[.Z,.ptr 0 0 0,.ptr 1 0 0,.v (.int .i64 c.b.length),.own 2 0 c.b.length,.own 3 0 c.b.length,.c5 false (F7 (reachF c.b)),.own 4 0 c.b.length,qD T]++List.replicate 18 .Z++[.v (.int .i64 c.b.length),.v (.int .i64 i)]++List.replicate 112 .Z,j7 0 ([(⟨8,[[.v (.int .i64 c.group),.v (.int .i64 c.sub),.v (.int .i64 c.regs),.v (.int .i64 c.I2),.v (.int .i64 c.params),.c5 false (H2 c.o0),.c5 false (loops c.loops),.c5 false (y6 c.b)]],0⟩:Row),⟨2,[[.c5 true [],.c5 true []]],0⟩,⟨4,bR (wD c.b.length),0⟩,⟨4,bR (wD c.b.length),0⟩,⟨1,P7 c.b.length F,0⟩]++a39 T)++tM c.b.length F,200⟩
noncomputable def q1 (c:Code) (F:Nat→List Int) (T:List Int) (i:Nat) (l:List Int) (j:Nat):LS:=
 ⟨[.Z,.ptr 0 0 0,.ptr 1 0 0,.v (.int .i64 c.b.length),.own 2 0 c.b.length,.own 3 0 c.b.length,.c5 false (F7 (reachF c.b)),.own 4 0 c.b.length,.own 5 0 T.length,.v (.int .i64 i)]++List.replicate 17 .Z++[.v (.int .i64 c.b.length),.v (.int .i64 i)]++List.replicate 17 .Z++[.c5 false (m8 l),.v (.int .i64 l.length),.v (.int .i64 j)]++List.replicate 92 .Z,j7 0 [(⟨8,[[.v (.int .i64 c.group),.v (.int .i64 c.sub),.v (.int .i64 c.regs),.v (.int .i64 c.I2),.v (.int .i64 c.params),.c5 false (H2 c.o0),.c5 false (loops c.loops),.c5 false (y6 c.b)]],0⟩:Row),⟨2,[[.c5 true [],.c5 true []]],0⟩,⟨4,bR (wD c.b.length),0⟩,⟨4,bR (wD c.b.length),0⟩,⟨1,P7 c.b.length F,0⟩,⟨1,m8 T,0⟩]++tM c.b.length F,200⟩
theorem zQ(I:List (List Int))(h:0<I.length):lists (I.take (0+1))=[[.c5 false (m8 (I.getD 0 []))]]:=by
 cases I with
 |nil=>simp at h
 |cons x I=>rfl
theorem zR(I:List (List Int))(i:Nat)(h:i<I.length):lists (I.take i)++[[.c5 false (m8 (I.getD i []))]]=lists (I.take (i+1)):=by
 rw[G6 I i [] h];unfold lists;rw[List.map_append];rfl
theorem b1x(l:List (List Int)):(∀e∈lists l,∀x∈e,AV.one x=true)=True:=by
 simp only[eq_iff_iff,iff_true,lists,List.mem_map]
 rintro e ⟨_,_,rfl⟩ x hx
 simp only[List.mem_cons,List.not_mem_nil,or_false]at hx
 subst hx;rfl
theorem b16(l:List (List Int))(k:Nat)(v:List Int):(bR l).modify k (fun e=>u2 e 0 [.v (.int .u64 (E1 v)),.v (.int .u64 0),.v (.int .u64 0),.v (.int .u64 0)])=bR (l.set k v):=by
 apply List.ext_getElem?
 intro j
 rw[List.getElem?_modify]
 simp only[bR,List.getElem?_map,List.getElem?_set]
 by_cases h:k=j
 ·subst h
  by_cases h2:k<l.length
  ·simp [h2,u2]
  ·simp [h2]
 ·simp [h]
def f2(c:Code)(Fr I O:List (List Int))(T:List Int):LS:=
 ⟨[.Z,.ptr 0 0 0,.ptr 1 0 0,.v (.int .i64 c.b.length),.own 2 0 c.b.length,.own 3 0 c.b.length,.Z,.c5 false (lists Fr),.own 4 0 T.length]++List.replicate 132 .Z,
  j7 0 [(⟨8,[[.v (.int .i64 c.group),.v (.int .i64 c.sub),.v (.int .i64 c.regs),.v (.int .i64 c.I2),.v (.int .i64 c.params),.c5 false (H2 c.o0),.c5 false (loops c.loops),.c5 false (y6 c.b)]],0⟩:Row),⟨2,[[.c5 true [],.c5 true []]],0⟩,⟨4,bR I,0⟩,⟨4,bR O,0⟩,⟨1,m8 T,0⟩],5⟩
def L7:=ZZ.mk (Zq @a9h (Zq @b12 (Zq @nN (Zq @r9 (Zq @jJ (Zq @a5N (Zq @tG (Zq @b0s (Zq @yY (Zq @a4U (Zq @n3 (Zq @aA (Zq @W6 (Zq @l8 (Zq @e8.av.eq_1 (Zq @w4.av.eq_1 (Zq @U8 (Zq @W8 (Zq @dS (Zq @P9 (Zq @M5 (Zq @F9 (Zq @O4 (Zq @bF (Zq @j4 (Zq @A7 (Zq @aX (Zq @aE (Zq @Q5 (Zq @List.append_assoc.{0} (Zq @Ab.lookup_append (Zq @E0 (Zq @x5 (Zq @D4 (Zq @a7M (Zq @pD (Zq @b2I (Zq @wG (Zq @a5m (Zq @a7N (Zq @B8 (Zq @A8 (Zq @G7 (Zq @j0 @j3))))))))))))))))))))))))))))))))))))))))))))
def sP:=ZZ.mk (Zq @nN (Zq @a0k (Zq @r9 (Zq @jJ (Zq @a5N (Zq @b3T (Zq @b16 (Zq @jZ (Zq @gY (Zq @rM (Zq @bM (Zq @gZ (Zq @b1x (Zq @n3 (Zq @aA (Zq @W6 (Zq @l8 (Zq @U8 (Zq @W8 (Zq @dS (Zq @P9 (Zq @M5 (Zq @F9 (Zq @O4 (Zq @bF (Zq @j4 (Zq @A7 (Zq @aX (Zq @aE (Zq @b1p (Zq @Q5 (Zq @zN (Zq @zH (Zq @I1 (Zq @j0 @j3)))))))))))))))))))))))))))))))))))
def a2I:=ZZ.mk (Zq sP.d (Zq @N4.eq_1 (Zq @e8.av.eq_1 (Zq @w4.av.eq_1 (Zq @or_true (Zq @and_true @Int.sub_zero))))))
theorem mK(c:Code)(hc:C8 c):n5 Tryd.prog 7 [.agg c.av] (fun _=> .agg [.c5 false (lists (liveF c).1),.c5 false (lists (liveF c).2)]) (fun _=>[]):=by
 have hr:=hc.r
 have hn:=hc.n
 have hrl:=cQ c.b
 have C3:=oS c hc.succ (by omega)
 simp only[Code.av]at C3
 refine Zf Tryd.func7 Tryd.ntmps7 ?_;simp only[Code.av]
 repeat' (first|refine Za ?_|(with_reducible constructor<;>first|intro N hN mk hmk|intro N hN|intro h)|refine Zc C3 ?_|refine Zt (Zq L7.d hrl) ?_|fail)
 refine v7 (fun i=>p1 c (fromI c i) (todoI c i) i) c.b.length ?_ ?_
 ·generalize hF0:(fun _:Nat=>([]:List Int))=F
  obtain⟨r,hr⟩:∃r:Nat→Option Nat,r=fun id=>match p8 [0,8,56,72,128] 0 id with|some j=>some j|none=>if 100≤id∧id<100+c.b.length∧F (id-100)≠[]then some id else none:=⟨_,rfl⟩
  have r0:r 0=some 0:=by rw[hr];rfl
  have r1:r 8=some 1:=by rw[hr];rfl
  have r2:r 56=some 2:=by rw[hr];rfl
  have r3:r 72=some 3:=by rw[hr];rfl
  have r4:r 128=some 4:=by rw[hr];rfl
  have hni:∀y,y<c.b.length→p8 [0,8,56,72,128] 0 (100+y)=none:=fun y hy=>by simp (disch:=omega) only[I5,L6,G7,if_false]
  have hm:=cO (n:=c.b.length) (F:=F) (r:=r) (fun y hy hF=>by rw[hr];simp only[hni y hy];rw[if_pos ⟨by omega,by omega,by rw[Nat.add_sub_cancel_left];exact hF⟩])
  have hpl:=aB c.b.length F hn.1
  refine Y9 (eG (t':=_) (rows:=_) (F:=F) [1,2,3,4,5,6,7,8,27,28] [0,8,56,72,128] r hr (by decide) (fun id h=>?_) (by decide) (by omega) (by simp (disch:=omega) only[r0,r1,r2,r3,r4,hpl,hm,B8,A8,G7,E0,x5,D4,Ab.lookup_append,r9,j4,L7.d,hrl,c8,n7,b6,e7,n6,y5,AV.plain,Nat.reduceBEq,↓reduceIte,Nat.reduceEqDiff,Nat.reduceAdd,sC];rfl) (by simp (disch:=omega) only[r0,r1,r2,r3,r4,hpl,hm,B8,A8,G7,E0,x5,D4,Ab.lookup_append,r9,j4,L7.d,hrl,c8,n7,b6,e7,n6,y5,AV.plain,Nat.reduceBEq,↓reduceIte,Nat.reduceEqDiff,Nat.reduceAdd,sC];rfl) (fun y hy hF=>by rw[←hF0]at hF;exact absurd rfl hF)) ?_
  ·simp only[List.mem_cons,List.not_mem_nil,or_false]at h;omega
  ·rw[←hF0];rfl
 ·intro i hi
  by_cases hin:i<c.b.length
  ·cases hre:(reachF c.b).getD i false with
   |false=>
    rw[b0R hre,b2D hre]
    generalize fromI c i=F
    generalize todoI c i=T
    have hpl:=aB c.b.length F hn.1
    by_cases hT:T=[]
    ·simp only[p1,qD,a39,if_pos hT,List.replicate_succ,List.replicate_zero,List.cons_append,List.nil_append,List.append_nil,j7,Nat.reduceAdd]
     repeat' (first|refine Za ?_|(with_reducible constructor<;>first|intro N hN mk hmk|intro N hN|intro h)|refine Zt (Zq L7.d (Zq hre hrl)) ?_|fail)
     obtain⟨r,hr⟩:∃r:Nat→Option Nat,r=fun id=>match p8 [0,1,2,3,4] 0 id with|some j=>some j|none=>if 100≤id∧id<100+c.b.length∧F (id-100)≠[]then some id else none:=⟨_,rfl⟩
     have r0:r 0=some 0:=by rw[hr];rfl
     have r1:r 1=some 1:=by rw[hr];rfl
     have r2:r 2=some 2:=by rw[hr];rfl
     have r3:r 3=some 3:=by rw[hr];rfl
     have r4:r 4=some 4:=by rw[hr];rfl
     have hni:∀y,y<c.b.length→p8 [0,1,2,3,4] 0 (100+y)=none:=fun y hy=>by simp (disch:=omega) only[I5,L6,G7,if_false]
     have hm:=cO (n:=c.b.length) (F:=F) (r:=r) (fun y hy hF=>by rw[hr];simp only[hni y hy];rw[if_pos ⟨by omega,by omega,by rw[Nat.add_sub_cancel_left];exact hF⟩])
     have hpl:=aB c.b.length F hn.1
     refine Y9 (eG (t':=_) (rows:=_) (F:=F) [1,2,3,4,5,6,7,8,27,28] [0,1,2,3,4] r hr (by decide) (fun id h=>?_) (by decide) (by omega) (by simp (disch:=omega) only[r0,r1,r2,r3,r4,hpl,hm,B8,A8,G7,E0,x5,D4,Ab.lookup_append,r9,j4,L7.d,hre,hrl,c8,n7,b6,e7,n6,y5,AV.plain,Nat.reduceBEq,↓reduceIte,Nat.reduceEqDiff,Nat.reduceAdd,sC];rfl) (by simp (disch:=omega) only[r0,r1,r2,r3,r4,hpl,hm,B8,A8,G7,E0,x5,D4,Ab.lookup_append,r9,j4,L7.d,hre,hrl,c8,n7,b6,e7,n6,y5,AV.plain,Nat.reduceBEq,↓reduceIte,Nat.reduceEqDiff,Nat.reduceAdd,sC];rfl) (fun y hy hF=>by simp (disch:=omega) only[LS.hf,List.lookup_cons,B8,Ab.lookup_append,x5,Option.getD_some])) ?_
     ·simp only[List.mem_cons,List.not_mem_nil,or_false]at h;omega
     ·rfl
    ·simp only[p1,qD,a39,if_neg hT,List.replicate_succ,List.replicate_zero,List.cons_append,List.nil_append,List.append_nil,j7,Nat.reduceAdd]
     repeat' (first|refine Za ?_|(with_reducible constructor<;>first|intro N hN mk hmk|intro N hN|intro h)|refine Zt (Zq L7.d (Zq hre hrl)) ?_|fail)
     obtain⟨r,hr⟩:∃r:Nat→Option Nat,r=fun id=>match p8 [0,1,2,3,4,5] 0 id with|some j=>some j|none=>if 100≤id∧id<100+c.b.length∧F (id-100)≠[]then some id else none:=⟨_,rfl⟩
     have r0:r 0=some 0:=by rw[hr];rfl
     have r1:r 1=some 1:=by rw[hr];rfl
     have r2:r 2=some 2:=by rw[hr];rfl
     have r3:r 3=some 3:=by rw[hr];rfl
     have r4:r 4=some 4:=by rw[hr];rfl
     have r5:r 5=some 5:=by rw[hr];rfl
     have hni:∀y,y<c.b.length→p8 [0,1,2,3,4,5] 0 (100+y)=none:=fun y hy=>by simp (disch:=omega) only[I5,L6,G7,if_false]
     have hm:=cO (n:=c.b.length) (F:=F) (r:=r) (fun y hy hF=>by rw[hr];simp only[hni y hy];rw[if_pos ⟨by omega,by omega,by rw[Nat.add_sub_cancel_left];exact hF⟩])
     have hpl:=aB c.b.length F hn.1
     refine Y9 (eG (t':=_) (rows:=_) (F:=F) [1,2,3,4,5,6,7,8,27,28] [0,1,2,3,4,5] r hr (by decide) (fun id h=>?_) (by decide) (by omega) (by simp (disch:=omega) only[r0,r1,r2,r3,r4,r5,hpl,hm,B8,A8,G7,E0,x5,D4,Ab.lookup_append,r9,j4,L7.d,hre,hrl,c8,n7,b6,e7,n6,y5,AV.plain,Nat.reduceBEq,↓reduceIte,Nat.reduceEqDiff,Nat.reduceAdd,sC];rfl) (by simp (disch:=omega) only[r0,r1,r2,r3,r4,r5,hpl,hm,B8,A8,G7,E0,x5,D4,Ab.lookup_append,r9,j4,L7.d,hre,hrl,c8,n7,b6,e7,n6,y5,AV.plain,Nat.reduceBEq,↓reduceIte,Nat.reduceEqDiff,Nat.reduceAdd,sC];rfl) (fun y hy hF=>by simp (disch:=omega) only[LS.hf,List.lookup_cons,B8,Ab.lookup_append,x5,Option.getD_some])) ?_
     ·simp only[List.mem_cons,List.not_mem_nil,or_false]at h;omega
     ·rfl
   |true=>
    obtain⟨t,ht⟩:∃t,t=(I8 c.b i).t:=⟨_,rfl⟩
    have ht':(c.b.getD i B0).t=t:=ht.symm
    have hs:∀to∈o4 t,0≤to∧to<c.b.length:=by rw[ht];exact hc.succ.2 _ (bW hin)
    have C1:=tD t
    have hl2:=uD t
    simp only[w4.av]at C1
    rw[a9u hre]
    have hFi:=a8v (c:=c) (i:=i) hre (j:=(o4 t).length) (by rw[ht];exact Nat.le_refl _)
    rw[←ht]at hFi
    rw[←hFi]
    have h0:=a5a c (o4 t) i
    rw[←h0]
    have hTl:=a0s c i
    generalize todoI c i=T at*
    obtain⟨SI,hSI⟩:∃s,s=p1 c (fromJ c (o4 t) i (o4 t).length) (T++[(i:Int)]) (i+1):=⟨_,rfl⟩
    rw[←hSI]
    obtain⟨F0,hF0⟩:∃F,F=fromJ c (o4 t) i 0:=⟨_,rfl⟩
    rw[←hF0]
    by_cases hT:T=[]
    ·simp only[p1,qD,a39,if_pos hT,List.replicate_succ,List.replicate_zero,List.cons_append,List.nil_append,List.append_nil,j7,Nat.reduceAdd]
     repeat' (first|refine Za ?_|(with_reducible constructor<;>first|intro N hN mk hmk|intro N hN|intro h)|refine Zc C1 ?_|refine Zt (Zq L7.d (Zq hre (Zq hrl ht'))) ?_|fail)
     refine A5 (s':=q1 c (fromJ c (o4 t) i 0) (T++[(i:Int)]) i (o4 t) 0) ?_ ?_
     ·skip
      obtain⟨r,hr⟩:∃r:Nat→Option Nat,r=fun id=>match p8 [0,1,2,3,4,288] 0 id with|some j=>some j|none=>if 100≤id∧id<100+c.b.length∧F0 (id-100)≠[]then some id else none:=⟨_,rfl⟩
      have r0:r 0=some 0:=by rw[hr];rfl
      have r1:r 1=some 1:=by rw[hr];rfl
      have r2:r 2=some 2:=by rw[hr];rfl
      have r3:r 3=some 3:=by rw[hr];rfl
      have r4:r 4=some 4:=by rw[hr];rfl
      have r5:r 288=some 5:=by rw[hr];rfl
      have hni:∀y,y<c.b.length→p8 [0,1,2,3,4,288] 0 (100+y)=none:=fun y hy=>by simp (disch:=omega) only[I5,L6,G7,if_false]
      have hm:=cO (n:=c.b.length) (F:=F0) (r:=r) (fun y hy hF=>by rw[hr];simp only[hni y hy];rw[if_pos ⟨by omega,by omega,by rw[Nat.add_sub_cancel_left];exact hF⟩])
      have hpl:=aB c.b.length F0 hn.1
      refine Y9 (eG (t':=_) (rows:=_) (F:=F0) [1,2,3,4,5,6,7,8,9,27,28,46,47,48] [0,1,2,3,4,288] r hr (by decide) (fun id h=>?_) (by decide) (by omega) (by simp (disch:=omega) only[r0,r1,r2,r3,r4,r5,hpl,hm,B8,A8,G7,E0,x5,D4,Ab.lookup_append,r9,j4,L7.d,hre,hrl,ht',c8,n7,b6,e7,n6,y5,AV.plain,Nat.reduceBEq,↓reduceIte,Nat.reduceEqDiff,Nat.reduceAdd,sC];rfl) (by simp (disch:=omega) only[r0,r1,r2,r3,r4,r5,hpl,hm,B8,A8,G7,E0,x5,D4,Ab.lookup_append,r9,j4,L7.d,hre,hrl,ht',c8,n7,b6,e7,n6,y5,AV.plain,Nat.reduceBEq,↓reduceIte,Nat.reduceEqDiff,Nat.reduceAdd,sC];rfl) (fun y hy hF=>by simp (disch:=omega) only[LS.hf,List.lookup_cons,B8,Ab.lookup_append,x5,Option.getD_some])) ?_
      ·simp only[List.mem_cons,List.not_mem_nil,or_false]at h;omega
      ·rw[hF0,hT];rfl
     ·skip
      have hT':(T++[(i:Int)]).length≤30:=by simp;omega
      have hTn:T++[(i:Int)]≠[]:=by simp
      generalize T++[(i:Int)]=T' at*
      refine v7 (fun j=>q1 c (fromJ c (o4 t) i j) T' i (o4 t) j) (o4 t).length (Y9 (fun _ _ _ ρ _ _ R=>⟨ρ,R⟩) rfl) ?_
      intro j hj
      by_cases hjn:j<(o4 t).length
      ·have hgo:=hs _ (V8 hjn)
       obtain⟨z,hzz⟩:∃z:Nat,(o4 t).getD j 0=z:=⟨((o4 t).getD j 0).toNat,by omega⟩
       rw[tP (vL t) hjn hgo.1,hzz,Int.toNat_natCast]
       have hz:z<c.b.length:=by omega
       have hFl:=zF c (o4 t) i j z
       generalize fromJ c (o4 t) i j=F at*
       obtain⟨SJ,hSJ⟩:∃s,s=q1 c (aH F z (F z++[(i:Int)])) T' i (o4 t) (j+1):=⟨_,rfl⟩
       rw[←hSJ]
       by_cases hF:F z=[]
       ·have hcz:X3 z (F z)= .c5 true []:=by unfold X3;rw[if_pos hF]
        simp only[q1,List.replicate_succ,List.replicate_zero,List.cons_append,List.nil_append,List.append_nil,j7,Nat.reduceAdd]
        repeat' (first|refine Za ?_|(with_reducible constructor<;>first|intro N hN mk hmk|intro N hN|intro h)|refine Zt (Zq L7.d (Zq hzz (Zq hcz (Zq hre (Zq hrl ht'))))) ?_|fail)
        obtain⟨r,hr⟩:∃r:Nat→Option Nat,r=fun id=>match p8 [0,1,2,3,4,5] 0 id with|some j=>some j|none=>if id=296 then some (100+z)else if 100≤id∧id<100+c.b.length∧F (id-100)≠[]∧id≠100+z then some id else none:=⟨_,rfl⟩
        have r0:r 0=some 0:=by rw[hr];rfl
        have r1:r 1=some 1:=by rw[hr];rfl
        have r2:r 2=some 2:=by rw[hr];rfl
        have r3:r 3=some 3:=by rw[hr];rfl
        have r4:r 4=some 4:=by rw[hr];rfl
        have r5:r 5=some 5:=by rw[hr];rfl
        have hni:∀y,y<c.b.length→p8 [0,1,2,3,4,5] 0 (100+y)=none:=fun y hy=>by simp (disch:=omega) only[I5,L6,G7,if_false]
        have hrx:r 296=some (100+z):=by rw[hr];rfl
        have hro:∀y,y<c.b.length→y≠z→F y≠[]→r (100+y)=some (100+y):=fun y hy hyz hF=>by rw[hr];simp only[hni y hy];rw[if_neg (by omega),if_pos ⟨by omega,by omega,by rw[Nat.add_sub_cancel_left];exact hF,by omega⟩]
        have hm:=gR (v:=(i:Int)) hz hrx hro
        have hpl:=jR c.b.length F z 296 ((F z).length+1) hz
        simp only[hF,List.length_nil,Nat.zero_add]at hm hpl
        refine Y9 (mR (t':=_) (rows:=_) (x:=296) (z:=z) (F:=F) (v:=(i:Int)) [1,2,3,4,5,6,7,8,9,27,28,46,47,48] [0,1,2,3,4,5] r hr (by decide) (fun id h=>?_) (by decide) ⟨by omega,by decide⟩ hz (by omega) (by simp (disch:=omega) only[r0,r1,r2,r3,r4,r5,hpl,hm,B8,A8,G7,E0,x5,D4,Ab.lookup_append,r9,j4,L7.d,hzz,hcz,hre,hrl,ht',c8,n7,b6,e7,n6,y5,AV.plain,Nat.reduceBEq,↓reduceIte,Nat.reduceEqDiff,Nat.reduceAdd,sC];rfl) (by simp (disch:=omega) only[r0,r1,r2,r3,r4,r5,hpl,hm,B8,A8,G7,E0,x5,D4,Ab.lookup_append,r9,j4,L7.d,hzz,hcz,hre,hrl,ht',c8,n7,b6,e7,n6,y5,AV.plain,Nat.reduceBEq,↓reduceIte,Nat.reduceEqDiff,Nat.reduceAdd,sC];rfl) (by first|(rw[hF];simp (disch:=omega) only[LS.hf,List.lookup_cons,List.lookup_nil,B8,A8,Nat.reduceBEq,Ab.lookup_append,E0,x5,D4,Option.getD_some,beq_self_eq_true];rfl)|simp (disch:=omega) only[LS.hf,List.lookup_cons,List.lookup_nil,B8,A8,Nat.reduceBEq,Ab.lookup_append,E0,x5,D4,Option.getD_some,beq_self_eq_true]) (fun y hy hyz=>by simp (disch:=omega) only[LS.hf,List.lookup_cons,List.lookup_nil,B8,A8,Nat.reduceBEq,Ab.lookup_append,x5,mQ,hyz,if_false,Option.getD_some])) ?_
        ·simp only[List.mem_cons,List.not_mem_nil,or_false]at h;omega
        ·rw[hSJ,hF];rfl
       ·have hcz:X3 z (F z)= .own (100+z) 0 (F z).length:=by unfold X3;rw[if_neg hF]
        have hrz:eT (F z)= .live ⟨1,m8 (F z),0⟩:=by unfold eT;rw[if_neg hF]
        simp only[q1,List.replicate_succ,List.replicate_zero,List.cons_append,List.nil_append,List.append_nil,j7,Nat.reduceAdd]
        repeat' (first|refine Za ?_|(with_reducible constructor<;>first|intro N hN mk hmk|intro N hN|intro h)|refine Zt (Zq L7.d (Zq hzz (Zq hcz (Zq hrz (Zq hre (Zq hrl ht')))))) ?_|fail)
        obtain⟨r,hr⟩:∃r:Nat→Option Nat,r=fun id=>match p8 [0,1,2,3,4,5] 0 id with|some j=>some j|none=>if id=296 then some (100+z)else if 100≤id∧id<100+c.b.length∧F (id-100)≠[]∧id≠100+z then some id else none:=⟨_,rfl⟩
        have r0:r 0=some 0:=by rw[hr];rfl
        have r1:r 1=some 1:=by rw[hr];rfl
        have r2:r 2=some 2:=by rw[hr];rfl
        have r3:r 3=some 3:=by rw[hr];rfl
        have r4:r 4=some 4:=by rw[hr];rfl
        have r5:r 5=some 5:=by rw[hr];rfl
        have hni:∀y,y<c.b.length→p8 [0,1,2,3,4,5] 0 (100+y)=none:=fun y hy=>by simp (disch:=omega) only[I5,L6,G7,if_false]
        have hrx:r 296=some (100+z):=by rw[hr];rfl
        have hro:∀y,y<c.b.length→y≠z→F y≠[]→r (100+y)=some (100+y):=fun y hy hyz hF=>by rw[hr];simp only[hni y hy];rw[if_neg (by omega),if_pos ⟨by omega,by omega,by rw[Nat.add_sub_cancel_left];exact hF,by omega⟩]
        have hm:=gR (v:=(i:Int)) hz hrx hro
        have hpl:=jR c.b.length F z 296 ((F z).length+1) hz
        refine Y9 (mR (t':=_) (rows:=_) (x:=296) (z:=z) (F:=F) (v:=(i:Int)) [1,2,3,4,5,6,7,8,9,27,28,46,47,48] [0,1,2,3,4,5] r hr (by decide) (fun id h=>?_) (by decide) ⟨by omega,by decide⟩ hz (by omega) (by simp (disch:=omega) only[r0,r1,r2,r3,r4,r5,hpl,hm,B8,A8,G7,E0,x5,D4,Ab.lookup_append,r9,j4,L7.d,hzz,hcz,hrz,hre,hrl,ht',c8,n7,b6,e7,n6,y5,AV.plain,Nat.reduceBEq,↓reduceIte,Nat.reduceEqDiff,Nat.reduceAdd,sC];rfl) (by simp (disch:=omega) only[r0,r1,r2,r3,r4,r5,hpl,hm,B8,A8,G7,E0,x5,D4,Ab.lookup_append,r9,j4,L7.d,hzz,hcz,hrz,hre,hrl,ht',c8,n7,b6,e7,n6,y5,AV.plain,Nat.reduceBEq,↓reduceIte,Nat.reduceEqDiff,Nat.reduceAdd,sC];rfl) (by first|(rw[hF];simp (disch:=omega) only[LS.hf,List.lookup_cons,List.lookup_nil,B8,A8,Nat.reduceBEq,Ab.lookup_append,E0,x5,D4,Option.getD_some,beq_self_eq_true];rfl)|simp (disch:=omega) only[LS.hf,List.lookup_cons,List.lookup_nil,B8,A8,Nat.reduceBEq,Ab.lookup_append,E0,x5,D4,Option.getD_some,beq_self_eq_true]) (fun y hy hyz=>by simp (disch:=omega) only[LS.hf,List.lookup_cons,List.lookup_nil,B8,A8,Nat.reduceBEq,Ab.lookup_append,x5,mQ,hyz,if_false,Option.getD_some])) ?_
        ·simp only[List.mem_cons,List.not_mem_nil,or_false]at h;omega
        ·rw[hSJ];rfl
      ·have e:j=(o4 t).length:=by omega
       rw[e]
       rw[hFi]at hSI
       rw[hFi]
       generalize fromI c (i+1)=F at*
       simp only[q1,List.replicate_succ,List.replicate_zero,List.cons_append,List.nil_append,List.append_nil,j7,Nat.reduceAdd]
       repeat' (first|refine Za ?_|(with_reducible constructor<;>first|intro N hN mk hmk|intro N hN|intro h)|refine Zt (Zq L7.d (Zq hre (Zq hrl ht'))) ?_|fail)
       obtain⟨r,hr⟩:∃r:Nat→Option Nat,r=fun id=>match p8 [0,1,2,3,4,5] 0 id with|some j=>some j|none=>if 100≤id∧id<100+c.b.length∧F (id-100)≠[]then some id else none:=⟨_,rfl⟩
       have r0:r 0=some 0:=by rw[hr];rfl
       have r1:r 1=some 1:=by rw[hr];rfl
       have r2:r 2=some 2:=by rw[hr];rfl
       have r3:r 3=some 3:=by rw[hr];rfl
       have r4:r 4=some 4:=by rw[hr];rfl
       have r5:r 5=some 5:=by rw[hr];rfl
       have hni:∀y,y<c.b.length→p8 [0,1,2,3,4,5] 0 (100+y)=none:=fun y hy=>by simp (disch:=omega) only[I5,L6,G7,if_false]
       have hm:=cO (n:=c.b.length) (F:=F) (r:=r) (fun y hy hF=>by rw[hr];simp only[hni y hy];rw[if_pos ⟨by omega,by omega,by rw[Nat.add_sub_cancel_left];exact hF⟩])
       have hpl:=aB c.b.length F hn.1
       refine Y9 (eG (t':=_) (rows:=_) (F:=F) [1,2,3,4,5,6,7,8,27,28] [0,1,2,3,4,5] r hr (by decide) (fun id h=>?_) (by decide) (by omega) (by simp (disch:=omega) only[r0,r1,r2,r3,r4,r5,hpl,hm,B8,A8,G7,E0,x5,D4,Ab.lookup_append,r9,j4,L7.d,hre,hrl,ht',c8,n7,b6,e7,n6,y5,AV.plain,Nat.reduceBEq,↓reduceIte,Nat.reduceEqDiff,Nat.reduceAdd,sC];rfl) (by simp (disch:=omega) only[r0,r1,r2,r3,r4,r5,hpl,hm,B8,A8,G7,E0,x5,D4,Ab.lookup_append,r9,j4,L7.d,hre,hrl,ht',c8,n7,b6,e7,n6,y5,AV.plain,Nat.reduceBEq,↓reduceIte,Nat.reduceEqDiff,Nat.reduceAdd,sC];rfl) (fun y hy hF=>by simp (disch:=omega) only[LS.hf,List.lookup_cons,B8,Ab.lookup_append,x5,Option.getD_some])) ?_
       ·simp only[List.mem_cons,List.not_mem_nil,or_false]at h;omega
       ·rw[hSI];simp only[p1,qD,a39,if_neg hTn];rfl
    ·simp only[p1,qD,a39,if_neg hT,List.replicate_succ,List.replicate_zero,List.cons_append,List.nil_append,List.append_nil,j7,Nat.reduceAdd]
     repeat' (first|refine Za ?_|(with_reducible constructor<;>first|intro N hN mk hmk|intro N hN|intro h)|refine Zc C1 ?_|refine Zt (Zq L7.d (Zq hre (Zq hrl ht'))) ?_|fail)
     refine A5 (s':=q1 c (fromJ c (o4 t) i 0) (T++[(i:Int)]) i (o4 t) 0) ?_ ?_
     ·skip
      obtain⟨r,hr⟩:∃r:Nat→Option Nat,r=fun id=>match p8 [0,1,2,3,4,288] 0 id with|some j=>some j|none=>if 100≤id∧id<100+c.b.length∧F0 (id-100)≠[]then some id else none:=⟨_,rfl⟩
      have r0:r 0=some 0:=by rw[hr];rfl
      have r1:r 1=some 1:=by rw[hr];rfl
      have r2:r 2=some 2:=by rw[hr];rfl
      have r3:r 3=some 3:=by rw[hr];rfl
      have r4:r 4=some 4:=by rw[hr];rfl
      have r5:r 288=some 5:=by rw[hr];rfl
      have hni:∀y,y<c.b.length→p8 [0,1,2,3,4,288] 0 (100+y)=none:=fun y hy=>by simp (disch:=omega) only[I5,L6,G7,if_false]
      have hm:=cO (n:=c.b.length) (F:=F0) (r:=r) (fun y hy hF=>by rw[hr];simp only[hni y hy];rw[if_pos ⟨by omega,by omega,by rw[Nat.add_sub_cancel_left];exact hF⟩])
      have hpl:=aB c.b.length F0 hn.1
      refine Y9 (eG (t':=_) (rows:=_) (F:=F0) [1,2,3,4,5,6,7,8,9,27,28,46,47,48] [0,1,2,3,4,288] r hr (by decide) (fun id h=>?_) (by decide) (by omega) (by simp (disch:=omega) only[r0,r1,r2,r3,r4,r5,hpl,hm,B8,A8,G7,E0,x5,D4,Ab.lookup_append,r9,j4,L7.d,hre,hrl,ht',c8,n7,b6,e7,n6,y5,AV.plain,Nat.reduceBEq,↓reduceIte,Nat.reduceEqDiff,Nat.reduceAdd,sC];rfl) (by simp (disch:=omega) only[r0,r1,r2,r3,r4,r5,hpl,hm,B8,A8,G7,E0,x5,D4,Ab.lookup_append,r9,j4,L7.d,hre,hrl,ht',c8,n7,b6,e7,n6,y5,AV.plain,Nat.reduceBEq,↓reduceIte,Nat.reduceEqDiff,Nat.reduceAdd,sC];rfl) (fun y hy hF=>by simp (disch:=omega) only[LS.hf,List.lookup_cons,B8,Ab.lookup_append,x5,Option.getD_some])) ?_
      ·simp only[List.mem_cons,List.not_mem_nil,or_false]at h;omega
      ·rw[hF0];simp only[q1,List.length_append,List.length_cons,List.length_nil,Nat.zero_add];rfl
     ·skip
      have hT':(T++[(i:Int)]).length≤30:=by simp;omega
      have hTn:T++[(i:Int)]≠[]:=by simp
      generalize T++[(i:Int)]=T' at*
      refine v7 (fun j=>q1 c (fromJ c (o4 t) i j) T' i (o4 t) j) (o4 t).length (Y9 (fun _ _ _ ρ _ _ R=>⟨ρ,R⟩) rfl) ?_
      intro j hj
      by_cases hjn:j<(o4 t).length
      ·have hgo:=hs _ (V8 hjn)
       obtain⟨z,hzz⟩:∃z:Nat,(o4 t).getD j 0=z:=⟨((o4 t).getD j 0).toNat,by omega⟩
       rw[tP (vL t) hjn hgo.1,hzz,Int.toNat_natCast]
       have hz:z<c.b.length:=by omega
       have hFl:=zF c (o4 t) i j z
       generalize fromJ c (o4 t) i j=F at*
       obtain⟨SJ,hSJ⟩:∃s,s=q1 c (aH F z (F z++[(i:Int)])) T' i (o4 t) (j+1):=⟨_,rfl⟩
       rw[←hSJ]
       by_cases hF:F z=[]
       ·have hcz:X3 z (F z)= .c5 true []:=by unfold X3;rw[if_pos hF]
        simp only[q1,List.replicate_succ,List.replicate_zero,List.cons_append,List.nil_append,List.append_nil,j7,Nat.reduceAdd]
        repeat' (first|refine Za ?_|(with_reducible constructor<;>first|intro N hN mk hmk|intro N hN|intro h)|refine Zt (Zq L7.d (Zq hzz (Zq hcz (Zq hre (Zq hrl ht'))))) ?_|fail)
        obtain⟨r,hr⟩:∃r:Nat→Option Nat,r=fun id=>match p8 [0,1,2,3,4,5] 0 id with|some j=>some j|none=>if id=296 then some (100+z)else if 100≤id∧id<100+c.b.length∧F (id-100)≠[]∧id≠100+z then some id else none:=⟨_,rfl⟩
        have r0:r 0=some 0:=by rw[hr];rfl
        have r1:r 1=some 1:=by rw[hr];rfl
        have r2:r 2=some 2:=by rw[hr];rfl
        have r3:r 3=some 3:=by rw[hr];rfl
        have r4:r 4=some 4:=by rw[hr];rfl
        have r5:r 5=some 5:=by rw[hr];rfl
        have hni:∀y,y<c.b.length→p8 [0,1,2,3,4,5] 0 (100+y)=none:=fun y hy=>by simp (disch:=omega) only[I5,L6,G7,if_false]
        have hrx:r 296=some (100+z):=by rw[hr];rfl
        have hro:∀y,y<c.b.length→y≠z→F y≠[]→r (100+y)=some (100+y):=fun y hy hyz hF=>by rw[hr];simp only[hni y hy];rw[if_neg (by omega),if_pos ⟨by omega,by omega,by rw[Nat.add_sub_cancel_left];exact hF,by omega⟩]
        have hm:=gR (v:=(i:Int)) hz hrx hro
        have hpl:=jR c.b.length F z 296 ((F z).length+1) hz
        simp only[hF,List.length_nil,Nat.zero_add]at hm hpl
        refine Y9 (mR (t':=_) (rows:=_) (x:=296) (z:=z) (F:=F) (v:=(i:Int)) [1,2,3,4,5,6,7,8,9,27,28,46,47,48] [0,1,2,3,4,5] r hr (by decide) (fun id h=>?_) (by decide) ⟨by omega,by decide⟩ hz (by omega) (by simp (disch:=omega) only[r0,r1,r2,r3,r4,r5,hpl,hm,B8,A8,G7,E0,x5,D4,Ab.lookup_append,r9,j4,L7.d,hzz,hcz,hre,hrl,ht',c8,n7,b6,e7,n6,y5,AV.plain,Nat.reduceBEq,↓reduceIte,Nat.reduceEqDiff,Nat.reduceAdd,sC];rfl) (by simp (disch:=omega) only[r0,r1,r2,r3,r4,r5,hpl,hm,B8,A8,G7,E0,x5,D4,Ab.lookup_append,r9,j4,L7.d,hzz,hcz,hre,hrl,ht',c8,n7,b6,e7,n6,y5,AV.plain,Nat.reduceBEq,↓reduceIte,Nat.reduceEqDiff,Nat.reduceAdd,sC];rfl) (by first|(rw[hF];simp (disch:=omega) only[LS.hf,List.lookup_cons,List.lookup_nil,B8,A8,Nat.reduceBEq,Ab.lookup_append,E0,x5,D4,Option.getD_some,beq_self_eq_true];rfl)|simp (disch:=omega) only[LS.hf,List.lookup_cons,List.lookup_nil,B8,A8,Nat.reduceBEq,Ab.lookup_append,E0,x5,D4,Option.getD_some,beq_self_eq_true]) (fun y hy hyz=>by simp (disch:=omega) only[LS.hf,List.lookup_cons,List.lookup_nil,B8,A8,Nat.reduceBEq,Ab.lookup_append,x5,mQ,hyz,if_false,Option.getD_some])) ?_
        ·simp only[List.mem_cons,List.not_mem_nil,or_false]at h;omega
        ·rw[hSJ,hF];rfl
       ·have hcz:X3 z (F z)= .own (100+z) 0 (F z).length:=by unfold X3;rw[if_neg hF]
        have hrz:eT (F z)= .live ⟨1,m8 (F z),0⟩:=by unfold eT;rw[if_neg hF]
        simp only[q1,List.replicate_succ,List.replicate_zero,List.cons_append,List.nil_append,List.append_nil,j7,Nat.reduceAdd]
        repeat' (first|refine Za ?_|(with_reducible constructor<;>first|intro N hN mk hmk|intro N hN|intro h)|refine Zt (Zq L7.d (Zq hzz (Zq hcz (Zq hrz (Zq hre (Zq hrl ht')))))) ?_|fail)
        obtain⟨r,hr⟩:∃r:Nat→Option Nat,r=fun id=>match p8 [0,1,2,3,4,5] 0 id with|some j=>some j|none=>if id=296 then some (100+z)else if 100≤id∧id<100+c.b.length∧F (id-100)≠[]∧id≠100+z then some id else none:=⟨_,rfl⟩
        have r0:r 0=some 0:=by rw[hr];rfl
        have r1:r 1=some 1:=by rw[hr];rfl
        have r2:r 2=some 2:=by rw[hr];rfl
        have r3:r 3=some 3:=by rw[hr];rfl
        have r4:r 4=some 4:=by rw[hr];rfl
        have r5:r 5=some 5:=by rw[hr];rfl
        have hni:∀y,y<c.b.length→p8 [0,1,2,3,4,5] 0 (100+y)=none:=fun y hy=>by simp (disch:=omega) only[I5,L6,G7,if_false]
        have hrx:r 296=some (100+z):=by rw[hr];rfl
        have hro:∀y,y<c.b.length→y≠z→F y≠[]→r (100+y)=some (100+y):=fun y hy hyz hF=>by rw[hr];simp only[hni y hy];rw[if_neg (by omega),if_pos ⟨by omega,by omega,by rw[Nat.add_sub_cancel_left];exact hF,by omega⟩]
        have hm:=gR (v:=(i:Int)) hz hrx hro
        have hpl:=jR c.b.length F z 296 ((F z).length+1) hz
        refine Y9 (mR (t':=_) (rows:=_) (x:=296) (z:=z) (F:=F) (v:=(i:Int)) [1,2,3,4,5,6,7,8,9,27,28,46,47,48] [0,1,2,3,4,5] r hr (by decide) (fun id h=>?_) (by decide) ⟨by omega,by decide⟩ hz (by omega) (by simp (disch:=omega) only[r0,r1,r2,r3,r4,r5,hpl,hm,B8,A8,G7,E0,x5,D4,Ab.lookup_append,r9,j4,L7.d,hzz,hcz,hrz,hre,hrl,ht',c8,n7,b6,e7,n6,y5,AV.plain,Nat.reduceBEq,↓reduceIte,Nat.reduceEqDiff,Nat.reduceAdd,sC];rfl) (by simp (disch:=omega) only[r0,r1,r2,r3,r4,r5,hpl,hm,B8,A8,G7,E0,x5,D4,Ab.lookup_append,r9,j4,L7.d,hzz,hcz,hrz,hre,hrl,ht',c8,n7,b6,e7,n6,y5,AV.plain,Nat.reduceBEq,↓reduceIte,Nat.reduceEqDiff,Nat.reduceAdd,sC];rfl) (by first|(rw[hF];simp (disch:=omega) only[LS.hf,List.lookup_cons,List.lookup_nil,B8,A8,Nat.reduceBEq,Ab.lookup_append,E0,x5,D4,Option.getD_some,beq_self_eq_true];rfl)|simp (disch:=omega) only[LS.hf,List.lookup_cons,List.lookup_nil,B8,A8,Nat.reduceBEq,Ab.lookup_append,E0,x5,D4,Option.getD_some,beq_self_eq_true]) (fun y hy hyz=>by simp (disch:=omega) only[LS.hf,List.lookup_cons,List.lookup_nil,B8,A8,Nat.reduceBEq,Ab.lookup_append,x5,mQ,hyz,if_false,Option.getD_some])) ?_
        ·simp only[List.mem_cons,List.not_mem_nil,or_false]at h;omega
        ·rw[hSJ];rfl
      ·have e:j=(o4 t).length:=by omega
       rw[e]
       rw[hFi]at hSI
       rw[hFi]
       generalize fromI c (i+1)=F at*
       simp only[q1,List.replicate_succ,List.replicate_zero,List.cons_append,List.nil_append,List.append_nil,j7,Nat.reduceAdd]
       repeat' (first|refine Za ?_|(with_reducible constructor<;>first|intro N hN mk hmk|intro N hN|intro h)|refine Zt (Zq L7.d (Zq hre (Zq hrl ht'))) ?_|fail)
       obtain⟨r,hr⟩:∃r:Nat→Option Nat,r=fun id=>match p8 [0,1,2,3,4,5] 0 id with|some j=>some j|none=>if 100≤id∧id<100+c.b.length∧F (id-100)≠[]then some id else none:=⟨_,rfl⟩
       have r0:r 0=some 0:=by rw[hr];rfl
       have r1:r 1=some 1:=by rw[hr];rfl
       have r2:r 2=some 2:=by rw[hr];rfl
       have r3:r 3=some 3:=by rw[hr];rfl
       have r4:r 4=some 4:=by rw[hr];rfl
       have r5:r 5=some 5:=by rw[hr];rfl
       have hni:∀y,y<c.b.length→p8 [0,1,2,3,4,5] 0 (100+y)=none:=fun y hy=>by simp (disch:=omega) only[I5,L6,G7,if_false]
       have hm:=cO (n:=c.b.length) (F:=F) (r:=r) (fun y hy hF=>by rw[hr];simp only[hni y hy];rw[if_pos ⟨by omega,by omega,by rw[Nat.add_sub_cancel_left];exact hF⟩])
       have hpl:=aB c.b.length F hn.1
       refine Y9 (eG (t':=_) (rows:=_) (F:=F) [1,2,3,4,5,6,7,8,27,28] [0,1,2,3,4,5] r hr (by decide) (fun id h=>?_) (by decide) (by omega) (by simp (disch:=omega) only[r0,r1,r2,r3,r4,r5,hpl,hm,B8,A8,G7,E0,x5,D4,Ab.lookup_append,r9,j4,L7.d,hre,hrl,ht',c8,n7,b6,e7,n6,y5,AV.plain,Nat.reduceBEq,↓reduceIte,Nat.reduceEqDiff,Nat.reduceAdd,sC];rfl) (by simp (disch:=omega) only[r0,r1,r2,r3,r4,r5,hpl,hm,B8,A8,G7,E0,x5,D4,Ab.lookup_append,r9,j4,L7.d,hre,hrl,ht',c8,n7,b6,e7,n6,y5,AV.plain,Nat.reduceBEq,↓reduceIte,Nat.reduceEqDiff,Nat.reduceAdd,sC];rfl) (fun y hy hF=>by simp (disch:=omega) only[LS.hf,List.lookup_cons,B8,Ab.lookup_append,x5,Option.getD_some])) ?_
       ·simp only[List.mem_cons,List.not_mem_nil,or_false]at h;omega
       ·rw[hSI];simp only[p1,qD,a39,if_neg hTn];rfl
  ·obtain rfl:i=c.b.length:=by omega
   have hT:todoI c c.b.length≠[]:=List.ne_nil_of_mem (uP.2 ⟨0,rfl,hn.1,.zero⟩)
   obtain⟨F,hF0⟩:∃F,F=fromI c c.b.length:=⟨_,rfl⟩
   rw[←hF0]
   simp only[p1,qD,a39,if_neg hT,List.replicate_succ,List.replicate_zero,List.cons_append,List.nil_append,List.append_nil,j7,Nat.reduceAdd]
   repeat' (first|refine Za ?_|(with_reducible constructor<;>first|intro N hN mk hmk|intro N hN|intro h)|refine Zt (Zq L7.d hrl) ?_|fail)
   refine A5 (s':=f2 c (fromL c) (wD c.b.length) (wD c.b.length) (todoI c c.b.length)) ?_ (mH (fun m s=>∃I O T,WI c I O T∧wm c I T≤10000∧m=wm c I T∧s=f2 c (fromL c) I O T) _ ⟨_,_,_,WI.zero c,b35 c hn.2 _,rfl,rfl⟩ ?_)
   ·refine Y9 (b23 (t':=_) (rows:=_) (F:=F) [1,2,3,4,5,7,8] [0,1,2,3,5] hn.1 rfl rfl (fun z hz hF=>by simp (disch:=omega) only[LS.hf,List.lookup_cons,B8,x5,Option.getD_some];unfold eT;rw[if_neg hF]) (by decide) (by decide) (by simp only[List.set_cons_succ,List.set_cons_zero,L7.d,hrl,c8,n7,b6,e7,n6,y5,AV.plain,Nat.reduceBEq,↓reduceIte,Nat.reduceEqDiff,Nat.reduceAdd,sC];rfl) (by simp only[r9,j4,L7.d,hrl,c8,n7,b6,e7,n6,y5,AV.plain,Nat.reduceBEq,↓reduceIte,Nat.reduceEqDiff,Nat.reduceAdd,sC];rfl)) ?_
    rw[hF0];rfl
   ·rintro m s ⟨I,O,T,W,hw,rfl,rfl⟩
    have gl:=W.f.s.li
    have go:=W.f.s.lo
    have gfl:=a8w c
    rcases vI T with rfl|⟨T',b,rfl⟩
    ·simp only[f2,List.replicate_succ,List.replicate_zero,List.cons_append,List.nil_append,j7,Nat.reduceAdd]
     rw[W.done]
     repeat' (first|refine Za ?_|(with_reducible constructor<;>first|intro N hN mk hmk|intro N hN|intro h)|refine Zt (Zq sP.d (Zq gl go)) ?_|fail)
     have hli:∀z,RB c.regs (I.getD z [])∧N1 (I.getD z []):=W.f.s.i
     have hlo:∀z,RB c.regs (O.getD z [])∧N1 (O.getD z []):=W.f.s.o
     have KI:=fun z=>a2W (I.getD z []) ((hli z).1.r64 (by omega)) (hli z).2 ((hli z).1.len (hli z).2 (by omega))
     have KO:=fun z=>a2W (O.getD z []) ((hlo z).1.r64 (by omega)) (hlo z).2 ((hlo z).1.len (hlo z).2 (by omega))
     simp only[N4]at KI KO
     refine sT (fun i=>⟨[.Z,.Z,.ptr 0 0 0,.Z,.own 1 0 c.b.length,.own 2 0 c.b.length,.Z,.Z,.Z,.Z,.Z,.Z,.Z,.Z,.ptr 3 0 0,.Z,.Z,.Z,.Z,.Z,.Z,.Z,.Z,.Z,.Z,.Z,.Z,.Z,.Z,.Z,.Z,.Z,.Z,.Z,.Z,.Z,.Z,.Z,.Z,.Z,.Z,.Z,.Z,.Z,.Z,.Z,.Z,.Z,.Z,.Z,.Z,.Z,.Z,.Z,.Z,.Z,.Z,.Z,.Z,.Z,.Z,.Z,.Z,.Z,.Z,.Z,.Z,.Z,.Z,.Z,.Z,.Z,.Z,.Z,.Z,.Z,.Z,.Z,.Z,.Z,.Z,.Z,.Z,.Z,.Z,.Z,.Z,.Z,.Z,.Z,.Z,.Z,.Z,.Z,.Z,.Z,.Z,.Z,.Z,.Z,.Z,.Z,.Z,.Z,.Z,.Z,.Z,.Z,.Z,.Z,.Z,.Z,.Z,.Z,.Z,.v (.int .i64 c.b.length),.v (.int .i64 ((i+1:Nat):Int)),.Z,.Z,.Z,.Z,.Z,.Z,.Z,.Z,.Z,.Z,.Z,.Z,.Z,.Z,.Z,.Z,.Z,.Z,.Z,.Z,.Z,.Z,.Z,.Z],[(0,.live ⟨2,[[.c5 true [],.c5 true []]],0⟩),(1,.live ⟨4,bR I,0⟩),(2,.live ⟨4,bR O,0⟩),(3,.live ⟨2,[[.own 4 0 (i+1),.own 5 0 (i+1)]],0⟩),(4,.live ⟨1,lists (I.take (i+1)),0⟩),(5,.live ⟨1,lists (O.take (i+1)),0⟩)],6⟩) (c.b.length-1) ?_ ?_
     ·have KI0:=KI 0
      have KO0:=KO 0
      repeat' (first|refine Za ?_|(with_reducible constructor<;>first|intro N hN mk hmk|intro N hN|intro h)|refine Zc KI0 ?_|refine Zc KO0 ?_|refine Zt (Zq sP.d (Zq gl go)) ?_|fail)
      refine fD (keep:=[2,4,5,14,115,116]) (ids:=[1,2,3,29,141,213]) (s':=_) (by simp only[r9,j4,sP.d,gl,go,c8,n7,b6,e7,n6,y5,AV.plain,Nat.reduceBEq,↓reduceIte,Nat.reduceEqDiff,Nat.reduceAdd,sC];rfl) ?_
      rw[zQ I (by omega),zQ O (by omega)]
      rfl
     ·intro i hi
      dsimp only
      by_cases hlt:i+1<c.b.length
      ·have KI1:=KI (i+1)
       have KO1:=KO (i+1)
       have eI:=zR I (i+1) (by omega)
       have eO:=zR O (i+1) (by omega)
       have tI:List.take (i+1) (lists (I.take (i+1)))=lists (I.take (i+1)):=hZ (by rw[List.length_take];omega)
       have tO:List.take (i+1) (lists (O.take (i+1)))=lists (O.take (i+1)):=hZ (by rw[List.length_take];omega)
       have lI:(I.take (i+1)).length=i+1:=by rw[List.length_take];omega
       have lO:(O.take (i+1)).length=i+1:=by rw[List.length_take];omega
       rw[←eI,←eO]
       generalize I.take (i+1)=PI at*
       generalize O.take (i+1)=PO at*
       repeat' (first|refine Za ?_|(with_reducible constructor<;>first|intro N hN mk hmk|intro N hN|intro h)|refine Zc KI1 ?_|refine Zc KO1 ?_|refine Zt (Zq sP.d (Zq tI (Zq tO (Zq lI (Zq lO (Zq gl go)))))) ?_|fail)
       refine fD (keep:=[2,4,5,14,115,116]) (ids:=[0,1,2,3,94,166]) (s':=_) (by simp only[r9,bM,List.all_append,sP.d,tI,tO,lI,lO,gl,go,c8,n7,b6,e7,n6,y5,AV.plain,Nat.reduceBEq,↓reduceIte,Nat.reduceEqDiff,Nat.reduceAdd,sC];rfl) ?_
       rfl
      ·have e:i+1=c.b.length:=by omega
       rw[e,List.take_of_length_le (by omega),List.take_of_length_le (by omega)]
       have tI:List.take c.b.length (lists I)=lists I:=hZ gl
       have tO:List.take c.b.length (lists O)=lists O:=hZ go
       repeat' (first|refine Za ?_|(with_reducible constructor<;>first|intro N hN mk hmk|intro N hN|intro h)|refine Zt (Zq sP.d (Zq tI (Zq tO (Zq gl go)))) ?_|fail)
    ·obtain⟨k,rfl⟩:∃k:Nat,b=k:=⟨b.toNat,by have:=W.m b (by simp);omega⟩
     obtain⟨hb,hrb,hsame,hpush⟩:=W.pop hc
     have hT':T'.length≤10000:=by have:=b6c c I (T'++[(k:Int)]);simp at this;omega
     obtain⟨B,hB⟩:∃B,B=I8 c.b k:=⟨_,rfl⟩
     have hB':c.b.getD k B0=B:=hB.symm
     have hbl:=(hc.blk hb).l
     have hgt:=hc.b67 hb
     have hgi:=hc.b7I hb
     have hto:=(hc.blk hb).t.succ
     rw[←hB]at hgt hgi hbl hto
     have hsi:a9J I:=fun z=>⟨(W.f.s.i z).1.r64 (by omega),(W.f.s.i z).2⟩
     have nO:=zW hc W.f.s hb
     have sO:N1 (V5 c I k):=eP
     have nI:RB c.regs (V4 c I k):=b4d nO (hc.rb hb) 0
     have sI:N1 (V4 c I k):=a1o sO
     have K1:=a4L B.t I (by rw[gl];exact hto) (by omega) hsi hgt.1 hgt.2
     rw[show cB B.t I=V5 c I k from by rw[hB];rfl]at K1
     have K2:=b0q B (V5 c I k) 0 (by omega) (by omega) (nO.r64 (by omega)) sO hgi
     rw[show atF B (V5 c I k) 0=V4 c I k from by rw[hB];rfl]at K2
     have m1:((E1 (V4 c I k):Int)=(E1 (I.getD k []):Int))=(V4 c I k=I.getD k []):=b3r (nI.r64 (by omega)) (hsi k).1 sI (hsi k).2
     have hfl:=oW c c.b.length k
     rw[←a3o c hb]at hfl
     have hsO:(O.set k (V5 c I k)).length=c.b.length:=by rw[List.length_set];exact go
     have hsO2:(O.set k (V5 c I k)).getD k []=V5 c I k:=by rw[H3,if_pos ⟨rfl,by omega⟩]
     have tkI:List.take c.b.length (bR I)=bR I:=by rw[←gl];exact a9s I
     simp only[e8.av,w4.av,List.cons_append,List.nil_append]at K1 K2
     simp only[f2,List.replicate_succ,List.replicate_zero,List.cons_append,List.nil_append,j7,Nat.reduceAdd,List.length_append,List.length_cons,List.length_nil]
     repeat' (first|(guard_target=~ AK Tryd.prog (Go.Code.seq (Go.Code.region 20 _ _) _) _ _ _;(refine a92 (es:=m8 (T'++[(k:Int)])) 4 T'.length rfl ?_;simp only[wB,a3z,Nat.reduceEqDiff,if_true,if_false]))|refine Za ?_|(with_reducible constructor<;>first|intro N hN mk hmk|intro N hN|intro h)|(refine a4O K1 rfl ?_ rfl ?_;(next=>(simp (disch:=omega) only[a2I.d,tkI,hsO,hsO2,m1,a3Y,hB',gl,go,gfl,B7,Nat.reduceBEq,AV.plain,Nat.reduceAdd,Nat.reduceLeDiff,Nat.reduceLT,↓reduceIte,sF]<;>first|done|rfl)))|(refine a2Y K1 rfl ?_ rfl ?_;(next=>(simp (disch:=omega) only[a2I.d,tkI,hsO,hsO2,m1,a3Y,hB',gl,go,gfl,B7,Nat.reduceBEq,AV.plain,Nat.reduceAdd,Nat.reduceLeDiff,Nat.reduceLT,↓reduceIte,sF]<;>first|done|rfl)))|refine Zc K2 ?_|refine Zt (Zq a2I.d (Zq tkI (Zq hsO (Zq hsO2 (Zq m1 (Zq a3Y (Zq hB' (Zq gl (Zq go gfl))))))))) ?_|fail)
     ·have hne:V4 c I k≠I.getD k []:=by first|exact ‹¬V4 c I k=I.getD k []›|assumption
      obtain⟨W2,ht2⟩:=hpush hne
      have hw2:=b34 (T:=T') (b:=(k:Int)) (z:=k) ht2 (W2.f.b7R hc)
      rw[a3o c hb]
      refine⟨wm c (I.set k (V4 c I k)) (T'++fromI c c.b.length k),f2 c (fromL c) (I.set k (V4 c I k)) (O.set k (V5 c I k)) (T'++fromI c c.b.length k),hw2,fD (keep:=[1,2,3,4,5,7,8]) (ids:=[0,1,2,3,453]) (s':=_) (by simp only[r9,j4,a2I.d,tkI,hsO,hsO2,m1,a3Y,hB',gl,go,gfl,c8,n7,b6,e7,n6,y5,AV.plain,Nat.reduceBEq,↓reduceIte,Nat.reduceEqDiff,Nat.reduceAdd,sC];rfl) ?_,_,_,_,W2,by omega,rfl,rfl⟩
      simp only[f2,List.length_append];rfl
     ·have heq:V4 c I k=I.getD k []:=by first|exact Decidable.not_not.1 ‹_›|assumption
      have W2:=hsame heq
      have hw2:=b6d c I T' (k:Int)
      refine⟨wm c I T',f2 c (fromL c) I (O.set k (V5 c I k)) T',hw2,fD (keep:=[1,2,3,4,5,7,8]) (ids:=[0,1,2,3,4]) (s':=_) (by simp only[r9,j4,a2I.d,tkI,hsO,hsO2,m1,a3Y,hB',gl,go,gfl,c8,n7,b6,e7,n6,y5,AV.plain,Nat.reduceBEq,↓reduceIte,Nat.reduceEqDiff,Nat.reduceAdd,sC];rfl) ?_,_,_,_,W2,by omega,rfl,rfl⟩
      rfl
end Go.Proofs.YtgdoiokalfhjoaaDoor
end
