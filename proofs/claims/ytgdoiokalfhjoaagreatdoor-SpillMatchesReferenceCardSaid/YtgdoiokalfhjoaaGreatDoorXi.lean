/- Own work (by an AI agent; no person has read it): part of a proof of the seat YtgdoiokalfhjoaaGreatDoor. -/
import Derived.Test.YtgdoiokalfhjoaaGreatDoorXh
set_option linter.unusedSimpArgs false
set_option linter.unusedVariables false
set_option maxRecDepth 100000
set_option maxHeartbeats 10000000
section
namespace Go.Proofs.YtgdoiokalfhjoaaGreatDoor
open Go.Ab
theorem fM(n:Int):c9 Tryz.prog 63 [.v (.int .i64 n)] (fun _=> .agg (E3.av ⟨2,n,0⟩)) (fun _=>[]):=by
 simp only[E3.av]
 refine Zf Tryz.func63 Tryz.ntmps63 ?_
 repeat' (first|refine Za ?_|(with_reducible constructor<;>first|intro N hN mk hmk|intro N hN|intro h)|refine Zt I8.d ?_|fail)
 all_goals rfl
def c1b:=ZZ.mk (Zq I8.d @mI)
theorem a9F(c:Code)(b:Nat)(inn:List (List Int))(hc:aT c.b)(hb:b<c.b.length)(hl:inn.length=c.b.length)(hn:b1K 1000 inn):y0 Tryz.prog 136 [.agg c.av,.v (.int .i64 b),.own 0 0 inn.length] [⟨1,lists inn,0⟩] 1 (fun _:Unit=>True) (fun _=> .a6 false (b7 (O1 (w7 c.b b).t inn))) (fun _=>[⟨1,lists inn,0⟩]):=by
 obtain⟨t,ht⟩:∃t,t=(w7 c.b b).t:=⟨_,rfl⟩
 have hs:∀to∈e9 t,0≤to∧to<c.b.length:=by rw[ht];exact hc.2 _ (O8 hb)
 have ht':(c.b.getD b B0).t=t:=ht.symm
 have C1:=a9I t
 have C2:=a0d t
 have C3:=rZ t
 have hl1:=a39 hn (e9 t)
 have hl2:=lD t
 have hl3:=gR (aC inn (e9 t)) (B8 t)
 have hl4:=X7 t
 have C4:=tT (aC inn (e9 t)) (B8 t) (by omega)
 have C5:=mQ (A8 (aC inn (e9 t)) (B8 t)) (j6 t) (by omega) (by omega)
 rw[←ht]
 simp only[o6.av]at C1 C2 C3
 simp only[Code.av];refine Zf Tryz.func136 Tryz.ntmps136 ?_
 repeat' (first|refine Za ?_|(with_reducible constructor<;>first|intro N hN mk hmk|intro N hN|intro h)|refine Zc C1 ?_|refine Zt (Zq sZ.d ht') ?_|fail)
 refine nR 8 (y:= .a6 false (b7 [])) (by simp (maxSteps:=10000000) (disch:=omega) only[sZ.d,ht',n7,T6,u4,B4,s7,o7,AV.kept,b8,n6,u5,D5,s8,s6,c7,AV.A6,n8,x5,AV.plain,rd,v8,a8,T1,stepC,AV.j3,AV.U9,AV.x7,AV.O6,AV.scalar,V7,u0,C8,D3,D4,D0,s5,B9,V8,u1,C9,B3,l0,V6,n4,A4,A3,T7,B2,m8,TD.isRow,u3,l9,n3,l7,H7,Value.oneCell',↓reduceIte,Int.reduceNe,Int.reduceEq,Nat.reduceAdd,Nat.reduceLT,Nat.reduceLeDiff,Nat.reduceSub,Nat.reduceMul,Nat.reduceBEq,Nat.reduceEqDiff,reduceCtorEq,Int.reduceToNat,←decide_not,←Bool.decide_and,sA,sN]<;>first|done|rfl) rfl ?_;simp (maxSteps:=10000000) (disch:=omega) only[a8,n6,y3,sZ.d,ht',n7,T6,u4,B4,s7,o7,AV.kept,b8,n6,u5,D5,s8,s6,c7,AV.A6,n8,x5,AV.plain,rd,v8,a8,T1,stepC,AV.j3,AV.U9,AV.x7,AV.O6,AV.scalar,V7,u0,C8,D3,D4,D0,s5,B9,V8,u1,C9,B3,l0,V6,n4,A4,A3,T7,B2,m8,TD.isRow,u3,l9,n3,l7,H7,Value.oneCell',↓reduceIte,Int.reduceNe,Int.reduceEq,Nat.reduceAdd,Nat.reduceLT,Nat.reduceLeDiff,Nat.reduceSub,Nat.reduceMul,Nat.reduceBEq,Nat.reduceEqDiff,reduceCtorEq,Int.reduceToNat,←decide_not,←Bool.decide_and,sA,sN]
 refine c8 (fun i=>⟨[.Z,.Z,.own 0 0 inn.length,.Z,.Z,.Z,.Z,.ptr 1 0 0,.a6 false (b7 (aC inn ((e9 t).take i))),.a6 false (b7 (e9 t)),.v (.int .i64 i),.Z,.Z,.Z,.Z,.Z,.Z,.Z,.Z,.Z,.Z,.Z,.Z,.Z,.Z,.Z,.Z,.Z,.Z,.Z,.Z,.Z,.Z,.Z,.Z,.Z,.Z,.Z,.Z,.Z,.Z,.Z],[(0,.live ⟨1,lists inn,0⟩),(1,.live ⟨13,[[.v (.int .i64 t.kind),.v (.int .i64 t.sub),.v (.int .i64 t.d.k),.v (.int .i64 t.d.n),.v (.int .i32 t.d.v),.v (.int .i64 t.a.k),.v (.int .i64 t.a.n),.v (.int .i32 t.a.v),.v (.int .i64 t.b.k),.v (.int .i64 t.b.n),.v (.int .i32 t.b.v),.v (.int .i64 t.t0),.v (.int .i64 t.t1)]],0⟩),(2,.s9 99 [.ptr 0 0 0])],3⟩) (e9 t).length (Zw [2,7,8,9,10] [0,72] (Zq sZ.d ht') ?_) ?_
 ·simp [aC]
 ·intro i hi
  by_cases hin:i<(e9 t).length
  ·have hto:=hs _ (F6 hin)
   have h1:=a39 hn ((e9 t).take i)
   have h2:((e9 t).take i).length≤2:=by simp;omega
   have h3:=hn ((e9 t).getD i 0).toNat
   have C6:=mQ (aC inn ((e9 t).take i)) (inn.getD ((e9 t).getD i 0).toNat []) (by omega) (by omega)
   repeat' (first|refine Za ?_|(with_reducible constructor<;>first|intro N hN mk hmk|intro N hN|intro h)|refine Zc C6 ?_|refine Zt (Zq sZ.d ht') ?_|fail)
   refine Zw [2,7,8,9,10] [0,1] (Zq sZ.d ht') ?_
   rw[a0v inn (e9 t) i hin];rfl
  ·have e:(e9 t).take i=e9 t:=List.take_of_length_le (by omega)
   rw[e]
   repeat' (first|refine Za ?_|(with_reducible constructor<;>first|intro N hN mk hmk|intro N hN|intro h)|refine Zc C2 ?_|refine Zc C3 ?_|refine Zc C4 ?_|refine Zc C5 ?_|refine Zt (Zq sZ.d ht') ?_|fail)
   refine Zr (()) [0] (Zq sZ.d ht') ?_
   trivial
theorem E9{s s1 s2:LS}(h1:N4 s s1)(h2:N4 s1 s2):N4 s s2:=fun G M0 w0 ρ a w R=>
 let⟨ρ1,R1⟩:=h1 G M0 w0 ρ a w R
 h2 G M0 w0 ρ1 a w R1
theorem y6{n:Nat}{L:List (List Int)}(h:L.length=n):List.take n (lists L)=lists L:=List.take_of_length_le (by simp [lists];omega)
theorem b4Z(l:List (List Int))(k:Nat)(v:List Int):(lists l).modify k (fun e=>p8 e 0 [.a6 false (b7 v)])=lists (l.set k v):=by
 apply List.ext_getElem?
 intro j
 rw[List.getElem?_modify]
 simp only[lists,List.getElem?_map,List.getElem?_set]
 by_cases h:k=j
 ·subst h
  by_cases h2:k<l.length
  ·simp [h2,p8]
  ·simp [h2]
 ·simp [h]
def bN(n:Nat):List (List Int):=List.replicate n []
theorem b7n(n:Nat):(bN n).length=n:=by simp [bN]
theorem b4u(n:Nat):List.take n (lists (bN n))=lists (bN n):=by
 have:(lists (bN n)).length=n:=by simp [lists,bN]
 exact List.take_of_length_le (by omega)
theorem b2P(n:Nat)(x:AV):((lists (bN n)++[[x]])[n]?).bind (·[0]?)=some x:=by
 have:(lists (bN n)).length=n:=by simp [lists,bN]
 rw[List.getElem?_append_right (by omega),this,Nat.sub_self];rfl
theorem tM(f:List AV→List AV):∀(l:List (List AV)) (x:List AV),(l++[x]).modify l.length f=l++[f x]
 |[],x=>rfl
 |y::l,x=>by
  show y::(l++[x]).modify l.length f=_
  rw[tM f l x];rfl
theorem b7o(n:Nat)(x y:AV):(lists (bN n)++[[x]]).modify n (fun e=>p8 e 0 [y])=lists (bN n)++[[y]]:=by
 have:(lists (bN n)).length=n:=by simp [lists,bN]
 have h:=tM (fun e=>p8 e 0 [y]) (lists (bN n)) [x]
 rw[this]at h;exact h
theorem b4t(n:Nat):lists (bN n)++[[.a6 false []]]=lists (bN (n+1)):=by
 unfold bN;rw[List.replicate_succ'];unfold lists;rw[List.map_append];rfl
noncomputable def fS (c:Code) (I O:List (List Int)) (a:Bool):LS:=
 ⟨[.Z,.ptr 0 0 0,.ptr 1 0 0,.ptr 2 0 0,.a6 false (o8 (reachF c.b)),.Z,.v (.bool a)]++List.replicate 81 .Z,[(0,.live ⟨8,[[.v (.int .i64 c.group),.v (.int .i64 c.sub),.v (.int .i64 c.regs),.v (.int .i64 c.u7),.v (.int .i64 c.params),.a6 false (w6 c.c6),.a6 false (loops c.loops),.a6 false (p7 c.b)]],0⟩),(1,.live ⟨2,[[.a6 true [],.a6 true []]],0⟩),(2,.live ⟨2,[[.own 3 0 c.b.length,.own 4 0 c.b.length]],0⟩),(3,.live ⟨1,lists I,0⟩),(4,.live ⟨1,lists O,0⟩)],5⟩
def xK:=ZZ.mk (Zq c1b.d (Zq @b7n (Zq @b4u (Zq @b7o (Zq @b4t (Zq @S8 (Zq @cI (Zq @jU @y7))))))))
def b0j:=ZZ.mk (Zq c1b.d (Zq @S8 (Zq @cI (Zq @jU @y7))))
def b31:=ZZ.mk (Zq b0j.d (Zq nF.d (Zq @b4Z (Zq @List.length_set.{0} (Zq @o6.av.eq_1 (Zq @b6.av.eq_1 (Zq @List.cons_append.{0} (Zq @List.nil_append.{0} (Zq @H3 (Zq @I3 (Zq @H8 (Zq @K7 (Zq @K6 (Zq @aG @V5))))))))))))))
def c5T:=ZZ.mk (Zq c1b.d (Zq @S8 (Zq @cI @y7)))
theorem a9E(c:Code)(hc:u9 c):c9 Tryz.prog 60 [.agg c.av] (fun _=> .agg [.a6 false (lists (liveF c).1),.a6 false (lists (liveF c).2)]) (fun _=>[]):=by
 have hr:=hc.r
 have hn:=hc.n
 have C3:=mP c hc.succ (by omega)
 simp only[Code.av]at C3
 refine Zf Tryz.func60 Tryz.ntmps60 ?_;simp only[Code.av]
 repeat' (first|refine Za ?_|(with_reducible constructor<;>first|intro N hN mk hmk|intro N hN|intro h)|refine Zc C3 ?_|refine Zt xK.d ?_|fail)
 refine nS (fun i=>⟨[.Z,.ptr 0 0 0,.ptr 1 0 0,.ptr 2 0 0,.a6 false (o8 (reachF c.b)),.v (.int .i64 ((i+1:Nat):Int)),.Z,.Z,.Z,.Z,.Z,.Z,.Z,.Z,.Z,.Z,.Z,.Z,.Z,.Z,.Z,.Z,.Z,.Z,.Z,.Z,.Z,.Z,.Z,.Z,.Z,.Z,.Z,.Z,.Z,.Z,.Z,.Z,.Z,.Z,.Z,.Z,.Z,.Z,.Z,.Z,.Z,.Z,.Z,.Z,.Z,.Z,.Z,.Z,.Z,.Z,.Z,.Z,.Z,.Z,.Z,.Z,.Z,.Z,.Z,.Z,.Z,.Z,.Z,.Z,.Z,.Z,.Z,.Z,.Z,.Z,.Z,.Z,.Z,.Z,.Z,.Z,.Z,.Z,.Z,.Z,.Z,.Z],[(0,.live ⟨8,[[.v (.int .i64 c.group),.v (.int .i64 c.sub),.v (.int .i64 c.regs),.v (.int .i64 c.u7),.v (.int .i64 c.params),.a6 false (w6 c.c6),.a6 false (loops c.loops),.a6 false (p7 c.b)]],0⟩),(1,.live ⟨2,[[.a6 true [],.a6 true []]],0⟩),(2,.live ⟨2,[[.own 3 0 (i+1),.own 4 0 (i+1)]],0⟩),(3,.live ⟨1,lists (bN (i+1)),0⟩),(4,.live ⟨1,lists (bN (i+1)),0⟩)],5⟩) (c.b.length-1) ?_ ?_
 ·repeat' (first|refine Za ?_|(with_reducible constructor<;>first|intro N hN mk hmk|intro N hN|intro h)|refine Zt xK.d ?_|fail)
  refine E9 (aO 144 0 0 6 (.own 128 0 0) (.a6 false []) rfl rfl rfl) ?_
  simp (maxSteps:=10000000) (disch:=omega) only[a8,n6,y3,H7,xK.d,n7,T6,u4,B4,s7,o7,AV.kept,b8,n6,u5,D5,s8,s6,c7,AV.A6,n8,x5,AV.plain,rd,v8,a8,T1,stepC,AV.j3,AV.U9,AV.x7,AV.O6,AV.scalar,V7,u0,C8,D3,D4,D0,s5,B9,V8,u1,C9,B3,l0,V6,n4,A4,A3,T7,B2,m8,TD.isRow,u3,l9,n3,l7,H7,Value.oneCell',↓reduceIte,Int.reduceNe,Int.reduceEq,Nat.reduceAdd,Nat.reduceLT,Nat.reduceLeDiff,Nat.reduceSub,Nat.reduceMul,Nat.reduceBEq,Nat.reduceEqDiff,reduceCtorEq,Int.reduceToNat,←decide_not,←Bool.decide_and,sA,sN]
  refine E9 (aO 200 0 0 6 (.own 184 0 0) (.a6 false []) rfl rfl rfl) ?_
  simp (maxSteps:=10000000) (disch:=omega) only[a8,n6,y3,H7,xK.d,n7,T6,u4,B4,s7,o7,AV.kept,b8,n6,u5,D5,s8,s6,c7,AV.A6,n8,x5,AV.plain,rd,v8,a8,T1,stepC,AV.j3,AV.U9,AV.x7,AV.O6,AV.scalar,V7,u0,C8,D3,D4,D0,s5,B9,V8,u1,C9,B3,l0,V6,n4,A4,A3,T7,B2,m8,TD.isRow,u3,l9,n3,l7,H7,Value.oneCell',↓reduceIte,Int.reduceNe,Int.reduceEq,Nat.reduceAdd,Nat.reduceLT,Nat.reduceLeDiff,Nat.reduceSub,Nat.reduceMul,Nat.reduceBEq,Nat.reduceEqDiff,reduceCtorEq,Int.reduceToNat,←decide_not,←Bool.decide_and,sA,sN]
  refine Zw [1,2,3,4,5] [0,8,40,144,200] xK.d ?_
  rfl
 ·intro i hi
  dsimp only
  by_cases hlt:i+1<c.b.length
  ·repeat' (first|refine Za ?_|(with_reducible constructor<;>first|intro N hN mk hmk|intro N hN|intro h)|refine Zt xK.d ?_|fail)
   refine E9 (aO 77 (i+1) 0 6 (.own 61 0 0) (.a6 false []) rfl (b2P _ _) rfl) ?_
   simp (maxSteps:=10000000) (disch:=omega) only[a8,n6,y3,H7,xK.d,n7,T6,u4,B4,s7,o7,AV.kept,b8,n6,u5,D5,s8,s6,c7,AV.A6,n8,x5,AV.plain,rd,v8,a8,T1,stepC,AV.j3,AV.U9,AV.x7,AV.O6,AV.scalar,V7,u0,C8,D3,D4,D0,s5,B9,V8,u1,C9,B3,l0,V6,n4,A4,A3,T7,B2,m8,TD.isRow,u3,l9,n3,l7,H7,Value.oneCell',↓reduceIte,Int.reduceNe,Int.reduceEq,Nat.reduceAdd,Nat.reduceLT,Nat.reduceLeDiff,Nat.reduceSub,Nat.reduceMul,Nat.reduceBEq,Nat.reduceEqDiff,reduceCtorEq,Int.reduceToNat,←decide_not,←Bool.decide_and,sA,sN]
   refine E9 (aO 133 (i+1) 0 6 (.own 117 0 0) (.a6 false []) rfl (b2P _ _) rfl) ?_
   simp (maxSteps:=10000000) (disch:=omega) only[a8,n6,y3,H7,xK.d,n7,T6,u4,B4,s7,o7,AV.kept,b8,n6,u5,D5,s8,s6,c7,AV.A6,n8,x5,AV.plain,rd,v8,a8,T1,stepC,AV.j3,AV.U9,AV.x7,AV.O6,AV.scalar,V7,u0,C8,D3,D4,D0,s5,B9,V8,u1,C9,B3,l0,V6,n4,A4,A3,T7,B2,m8,TD.isRow,u3,l9,n3,l7,H7,Value.oneCell',↓reduceIte,Int.reduceNe,Int.reduceEq,Nat.reduceAdd,Nat.reduceLT,Nat.reduceLeDiff,Nat.reduceSub,Nat.reduceMul,Nat.reduceBEq,Nat.reduceEqDiff,reduceCtorEq,Int.reduceToNat,←decide_not,←Bool.decide_and,sA,sN]
   refine Zw [1,2,3,4,5] [0,1,2,77,133] xK.d ?_
   rfl
  ·have e:i+1=c.b.length:=by omega
   rw[e]
   repeat' (first|refine Za ?_|(with_reducible constructor<;>first|intro N hN mk hmk|intro N hN|intro h)|refine Zt xK.d ?_|fail)
   refine y4 (s':=fS c (bN c.b.length) (bN c.b.length) true) (Zw [1,2,3,4,6] [0,1,2,3,4] xK.d rfl)
    (lS (fun m s=>∃I O a,FI c I O∧(a=false→liveF c=(I,O))∧m=(32*c.b.length-(qN I+qN O))+(if a=true then 1 else 0)∧s=fS c I O a) _ ⟨_,_,true,FI.zero c,(fun h=>by cases h),rfl,rfl⟩ ?_)
   rintro m s ⟨I,O,a,hF,hA,rfl,rfl⟩
   have gl:=hF.s.li
   have go:=hF.s.lo
   simp only[fS,List.replicate_succ,List.replicate_zero,List.cons_append,List.nil_append]
   cases a with
   |false=>
    rw[hA rfl]
    repeat' (first|refine Za ?_|(with_reducible constructor<;>first|intro N hN mk hmk|intro N hN|intro h)|refine Zt (Zq b0j.d (Zq gl (Zq go (Zq (y6 gl) (y6 go))))) ?_|fail)
   |true=>
    repeat' (first|refine Za ?_|(with_reducible constructor<;>first|intro N hN mk hmk|intro N hN|intro h)|refine Zt (Zq b0j.d (Zq gl (Zq go (Zq (y6 gl) (y6 go))))) ?_|fail)
    refine c8 (fun b=>⟨[.Z,.ptr 0 0 0,.ptr 1 0 0,.ptr 2 0 0,.a6 false (o8 (reachF c.b)),.Z,.v (.bool (refS c I O b).2.2),.v (.int .i64 b),.Z,.Z,.Z,.Z,.Z,.Z,.Z,.Z,.Z,.Z,.Z,.Z,.Z,.Z,.Z,.Z,.Z,.Z,.Z,.Z,.Z,.Z,.Z,.Z,.Z,.Z,.Z,.Z,.Z,.Z,.Z,.Z,.Z,.Z,.Z,.Z,.Z,.Z,.Z,.Z,.Z,.Z,.Z,.Z,.Z,.Z,.Z,.Z,.Z,.Z,.Z,.Z,.Z,.Z,.Z,.Z,.Z,.Z,.Z,.Z,.Z,.Z,.Z,.Z,.Z,.Z,.Z,.Z,.Z,.Z,.Z,.Z,.Z,.Z,.Z,.Z,.Z,.Z,.Z,.Z],[(0,.live ⟨8,[[.v (.int .i64 c.group),.v (.int .i64 c.sub),.v (.int .i64 c.regs),.v (.int .i64 c.u7),.v (.int .i64 c.params),.a6 false (w6 c.c6),.a6 false (loops c.loops),.a6 false (p7 c.b)]],0⟩),(1,.live ⟨2,[[.a6 true [],.a6 true []]],0⟩),(2,.live ⟨2,[[.own 3 0 c.b.length,.own 4 0 c.b.length]],0⟩),(3,.live ⟨1,lists (refS c I O b).1,0⟩),(4,.live ⟨1,lists (refS c I O b).2.1,0⟩)],5⟩) c.b.length (Zw [1,2,3,4,6,7] [0,1,2,3,4] (Zq b0j.d (Zq gl (Zq go (Zq (y6 gl) (y6 go))))) ?_) ?_
    ·rfl
    ·intro b hb
     dsimp only
     obtain⟨f1,f2,f3⟩:=vA hc hF b hb
     by_cases hlb:b<c.b.length
     ·have hra:=O5 c.b hlb
      have hrl:=T0 c.b
      have hst:refS c I O (b+1)=if(reachF c.b).getD b false=true then((refS c I O b).1.set b (P6 c (refS c I O b).1 b),(refS c I O b).2.1.set b (P7 c (refS c I O b).1 b),(refS c I O b).2.2||decide (((refS c I O b).2.1.getD b []).length<(P7 c (refS c I O b).1 b).length∨((refS c I O b).1.getD b []).length<(P6 c (refS c I O b).1 b).length))else refS c I O b:=rfl
      generalize refS c I O b=p at*
      obtain⟨J,P,a⟩:=p
      simp only at f1 hst
      dsimp only
      have l1:=f1.s.li
      have l2:=f1.s.lo
      obtain⟨B,hB⟩:∃B,B=w7 c.b b:=⟨_,rfl⟩
      have hB':c.b.getD b B0=B:=hB.symm
      have hbl:=(hc.blk hlb).l
      rw[←hB]at hbl
      have hJl:b1K 1000 J:=fun z=>(f1.s.i z).1.len (f1.s.i z).2 (by omega)
      have hPl:b1K 1000 P:=fun z=>(f1.s.o z).1.len (f1.s.o z).2 (by omega)
      have hj:=hJl b
      have hp:=hPl b
      have nO:=rW hc f1.s hlb
      have sO:I5 (P7 c J b):=bT
      have lO:=nO.len sO (by omega)
      have nI:RB c.regs (P6 c J b):=a8s nO (hc.rb hlb) 0
      have sI:I5 (P6 c J b):=sL sO
      have lI:=nI.len sI (by omega)
      have K1:=a9F c b J hc.succ hlb l1 hJl
      rw[show O1 (w7 c.b b).t J=P7 c J b from rfl,l1]at K1
      have K3:=b8M B (P7 c J b) 0 (by omega) (by omega) lO
      rw[show kV B (P7 c J b) 0=P6 c J b from by rw[hB];rfl]at K3
      simp only[b6.av,o6.av,List.cons_append,List.nil_append,Code.av]at K1 K3
      repeat' (first|refine Za ?_|(with_reducible constructor<;>first|intro N hN mk hmk|intro N hN|intro h)|(refine Zp K1 [3] (Zq b31.d (Zq l1 (Zq l2 (Zq hrl (Zq hB' (Zq (y6 l1) (y6 l2))))))) ?_;with_reducible intro _ _)|refine Zc K3 ?_|refine Zt (Zq b31.d (Zq l1 (Zq l2 (Zq hrl (Zq hB' (Zq (y6 l1) (y6 l2))))))) ?_|fail)
      ·refine Zw [1,2,3,4,6,7] [0,1,2,3,4] (Zq b31.d (Zq l1 (Zq l2 (Zq hrl (Zq hB' (Zq (y6 l1) (y6 l2))))))) ?_
       rw[hst,if_neg (by simp_all)];rfl
      ·refine Zw [1,2,3,4,6,7] [0,1,2,3,4] (Zq b31.d (Zq l1 (Zq l2 (Zq hrl (Zq hB' (Zq (y6 l1) (y6 l2))))))) ?_
       rw[hst,if_pos (by simp_all)]
       simp only[]
       rw[decide_eq_true (show _∨_ from .inl (by omega)),Bool.or_true];rfl
      ·refine Zw [1,2,3,4,6,7] [0,1,2,3,4] (Zq b31.d (Zq l1 (Zq l2 (Zq hrl (Zq hB' (Zq (y6 l1) (y6 l2))))))) ?_
       rw[hst,if_pos (by simp_all)]
       simp only[]
       rw[decide_eq_true (show _∨_ from .inr (by omega)),Bool.or_true];rfl
      ·refine Zw [1,2,3,4,6,7] [0,1,2,3,4] (Zq b31.d (Zq l1 (Zq l2 (Zq hrl (Zq hB' (Zq (y6 l1) (y6 l2))))))) ?_
       rw[hst,if_pos (by simp_all)]
       simp only[]
       rw[decide_eq_false (by omega),Bool.or_false];rfl
     ·obtain rfl:b=c.b.length:=by omega
      have sz1:=hF.a9T hc
      have sz2:=f1.a9T hc
      generalize refS c I O c.b.length=p at*
      obtain⟨J,P,a⟩:=p
      simp only at f1 f2 f3 sz2
      dsimp only
      repeat' (first|refine Za ?_|(with_reducible constructor<;>first|intro N hN mk hmk|intro N hN|intro h)|refine Zt c5T.d ?_|fail)
      refine⟨_,fS c J P a,?_,?_,J,P,a,f1,fun ha=>?_,rfl,rfl⟩
      ·cases a with
       |true=>simp only[if_true]at f2⊢;omega
       |false=>simp only[Bool.false_eq_true,if_false]at f2⊢;omega
      ·refine Zw [1,2,3,4,6] [0,1,2,3,4] c5T.d ?_
       rfl
      ·obtain⟨rfl,rfl,h4⟩:=f3 ha
       exact hF.done h4
def prV(B:b6)(out:List Int)(i:Nat):Int:=(X5 (kV B out (i+1)) (z8 (B.i.getD i I0))).length
def oF(B:b6)(out:List Int)(m:Int)(l:List Nat):Int:=l.foldl (fun m i=>mx m (prV B out i)) m
theorem b8u(a b c:Int):mx (mx a b) c=mx (mx a c) b:=by
 unfold mx
 repeat' split
 all_goals omega
theorem c2m(B:b6)(out:List Int)(l:List Nat):∀(m y:Int),oF B out (mx m y) l=mx (oF B out m l) y:=by
 induction l with
 |nil=>intro m y;rfl
 |cons x l ih=>intro m y;show oF B out (mx (mx m y) _) l=mx (oF B out (mx m _) l) y;rw[b8u,ih]
theorem b8J(B:b6)(out:List Int)(l:List Nat)(m:Int):oF B out m l.reverse=oF B out m l:=by
 induction l generalizing m with
 |nil=>rfl
 |cons x l ih=>
  rw[List.reverse_cons]
  show(l.reverse++[x]).foldl _ m=_
  rw[List.foldl_append]
  show mx (oF B out m l.reverse) _=oF B out (mx m _) l
  rw[ih,c2m]
theorem a4M(B:b6)(out:List Int)(k:Nat)(hk:k≤B.i.length):cN B.i out (N5 B.i.length k)=kV B out (B.i.length-k):=by
 unfold cN kV
 induction k with
 |zero=>simp [N5]
 |succ k ih=>
  rw[gQ,List.foldl_append,ih (by omega),show B.i.length-k=(B.i.length-(k+1))+1 from by omega,List.drop_eq_getElem_cons (i:=B.i.length-(k+1)) (by omega),List.foldr_cons]
  simp only[List.foldl_cons,List.foldl_nil]
  rw[show B.i.length-1-k=B.i.length-(k+1)from by omega,List.getD_eq_getElem?_getD,List.getElem?_eq_getElem (by omega)]
  rfl
theorem c2l(B:b6)(out:List Int)(m:Int)(k:Nat)(hk:k≤B.i.length):(a5u B.i m out (N5 B.i.length k)).1=oF B out m (N5 B.i.length k):=by
 induction k with
 |zero=>rfl
 |succ k ih=>
  rw[gQ,a4p]
  show mx (a5u B.i m out (N5 B.i.length k)).1 (X5 (a5u B.i m out (N5 B.i.length k)).2 _).length=(N5 B.i.length k++[B.i.length-1-k]).foldl _ m
  rw[List.foldl_append,ih (by omega),a9z,a4M B out k (by omega)]
  show _=mx (oF B out m (N5 B.i.length k)) (prV B out (B.i.length-1-k))
  unfold prV
  rw[show B.i.length-1-k+1=B.i.length-k from by omega]
theorem b0I(n:Nat):N5 n n=(List.range n).reverse:=by
 apply List.ext_getElem
 ·simp [N5]
 ·intro i h1 h2
  simp [N5]at h1⊢
theorem c45(I O:List (List Int))(B:b6)(b:Nat)(m:Int):prB I O B b m=prT I B.t (oF B (O.getD b []) (mx (mx m (I.getD b []).length) (O.getD b []).length) (List.range B.i.length)):=by
 unfold prB
 rw[c2l B _ _ _ (Nat.le_refl _),b0I,b8J]
theorem b5c(B:b6)(out:List Int)(m:Int)(i:Nat):oF B out m (List.range (i+1))=mx (oF B out m (List.range i)) (prV B out i):=by
 unfold oF;rw[List.range_succ,List.foldl_append];rfl
def a8g:=ZZ.mk (Zq nF.d (Zq @mI (Zq @V5 (Zq @jU (Zq @S8 (Zq @H3 (Zq @Q6 (Zq @fG (Zq @bC (Zq @b6.av.eq_1 (Zq @o6.av.eq_1 (Zq @List.cons_append.{0} (Zq @List.nil_append.{0} (Zq @K7 (Zq @K6 (Zq @aG (Zq @y7 (Zq @I3 @H8))))))))))))))))))
def c5U:=ZZ.mk (Zq a8g.d @e8.av.eq_1)
def c6W:=ZZ.mk (Zq I8.d @y7)
theorem a5v(c:Code)(I O:List (List Int))(hc:u9 c)(hi:a5s c.regs I)(ho:a5s c.regs O)(hil:I.length=c.b.length)(hol:O.length=c.b.length):
  c9 Tryz.prog 116 [.agg c.av,.agg [.a6 false (lists I),.a6 false (lists O)]] (fun _=> .v (.int .i64 (prF c I O c.b.length))) (fun _=>[]):=by
 have hr:=hc.r
 have hn:=hc.n
 have hrl:=T0 c.b
 have C3:=mP c hc.succ (by omega)
 simp only[Code.av]at C3
 refine Zf Tryz.func116 Tryz.ntmps116 ?_;simp only[Code.av]
 repeat' (first|refine Za ?_|(with_reducible constructor<;>first|intro N hN mk hmk|intro N hN|intro h)|refine Zc C3 ?_|refine Zt I8.d ?_|fail)
 refine c8 (fun b=>⟨[.Z,.Z,.ptr 0 0 0,.ptr 1 0 0,.Z,.v (.int .i64 (prF c I O b)),.a6 false (o8 (reachF c.b)),.v (.int .i64 b),.Z,.Z,.Z,.Z,.Z,.Z,.Z,.Z,.Z,.Z,.Z,.Z,.Z,.Z,.Z,.Z,.Z,.Z,.Z,.Z,.Z,.Z,.Z,.Z,.Z,.Z,.Z,.Z,.Z,.Z,.Z,.Z,.Z,.Z,.Z,.Z,.Z,.Z,.Z,.Z,.Z,.Z,.Z,.Z,.Z,.Z,.Z,.Z,.Z,.Z,.Z,.Z,.Z,.Z,.Z,.Z,.Z,.Z,.Z,.Z,.Z,.Z,.Z,.Z,.Z,.Z,.Z,.Z,.Z,.Z,.Z,.Z,.Z,.Z,.Z,.Z,.Z,.Z,.Z,.Z,.Z,.Z,.Z,.Z,.Z,.Z,.Z,.Z,.Z,.Z,.Z],[(0,.live ⟨8,[[.v (.int .i64 c.group),.v (.int .i64 c.sub),.v (.int .i64 c.regs),.v (.int .i64 c.u7),.v (.int .i64 c.params),.a6 false (w6 c.c6),.a6 false (loops c.loops),.a6 false (p7 c.b)]],0⟩),(1,.live ⟨2,[[.a6 false (lists I),.a6 false (lists O)]],0⟩)],2⟩) c.b.length (Zw [2,3,5,6,7] [0,8] I8.d ?_) ?_
 ·rfl
 ·intro b hb
  dsimp only
  by_cases hlt:b<c.b.length
  ·obtain⟨B,hB⟩:∃B,B=w7 c.b b:=⟨_,rfl⟩
   have hB':c.b.getD b B0=B:=hB.symm
   have hgt:=hc.rbT hlt
   have hgi:=hc.rb hlt
   have hbl:=(hc.blk hlt).l
   rw[←hB]at hgt hgi hbl
   obtain⟨i1,i2⟩:=mL hi b
   obtain⟨o1,o2⟩:=mL ho b
   have ilen:=i1.len i2 (by omega)
   have olen:=o1.len o2 (by omega)
   repeat' (first|refine Za ?_|(with_reducible constructor<;>first|intro N hN mk hmk|intro N hN|intro h)|refine Zt (Zq a8g.d (Zq hB' (Zq hrl (Zq hil hol)))) ?_|fail)
   ·refine Zw [2,3,5,6,7] [0,1] (Zq a8g.d (Zq hB' (Zq hrl (Zq hil hol)))) ?_
    rw[show prF c I O (b+1)=prF c I O b from by show(if _ then _ else _)=_;rw[if_neg (by simp_all)]]
    rfl
   ·have hpr:prF c I O (b+1)=prB I O B b (prF c I O b):=by rw[hB];show(if _ then _ else _)=_;rw[if_pos (by simp_all)]
    rw[c45]at hpr
    have htt:0≤B8 B.t→0≤B.t.t0∧B.t.t0<c.b.length:=fun h=>by
     have hb0:=(hc.blk hlt).t
     rw[←hB]at hb0
     have hk:B.t.d.k=2:=by
      apply Classical.byContradiction
      intro hk
      have:B8 B.t= -1:=by show(if _ then _ else _)=_;rw[if_neg hk]
      omega
     exact hb0.to (hb0.dk hk)
    refine c8 (fun i=>⟨[.Z,.Z,.ptr 0 0 0,.ptr 1 0 0,.Z,.v (.int .i64 (oF B (O.getD b []) (mx (mx (prF c I O b) (I.getD b []).length) (O.getD b []).length) (List.range i))),.a6 false (o8 (reachF c.b)),.v (.int .i64 b),.v (.int .i64 i),.Z,.Z,.Z,.Z,.Z,.Z,.Z,.Z,.Z,.Z,.Z,.Z,.Z,.Z,.Z,.Z,.Z,.Z,.Z,.Z,.Z,.Z,.Z,.Z,.Z,.Z,.Z,.Z,.Z,.Z,.Z,.Z,.Z,.Z,.Z,.Z,.Z,.Z,.Z,.Z,.Z,.Z,.Z,.Z,.Z,.Z,.Z,.Z,.Z,.Z,.Z,.Z,.Z,.Z,.Z,.Z,.Z,.Z,.Z,.Z,.Z,.Z,.Z,.Z,.Z,.Z,.Z,.Z,.Z,.Z,.Z,.Z,.Z,.Z,.Z,.Z,.Z,.Z,.Z,.Z,.Z,.Z,.Z,.Z,.Z,.Z,.Z,.Z,.Z,.Z],[(0,.live ⟨8,[[.v (.int .i64 c.group),.v (.int .i64 c.sub),.v (.int .i64 c.regs),.v (.int .i64 c.u7),.v (.int .i64 c.params),.a6 false (w6 c.c6),.a6 false (loops c.loops),.a6 false (p7 c.b)]],0⟩),(1,.live ⟨2,[[.a6 false (lists I),.a6 false (lists O)]],0⟩)],2⟩) B.i.length (Zw [2,3,5,6,7,8] [0,1] (Zq a8g.d (Zq hB' (Zq hrl (Zq hil hol)))) ?_) ?_
    ·rfl
    ·intro i hi2
     dsimp only
     by_cases hil2:i<B.i.length
     ·have J1:=b8M B (O.getD b []) (i+1) (by omega) (by omega) olen
      have ha:RB c.regs (kV B (O.getD b []) (i+1)):=a8s o1 hgi (i+1)
      have sa:I5 (kV B (O.getD b []) (i+1)):=sL o2
      have la:=ha.len sa (by omega)
      have J2:=uZ (B.i.getD i I0)
      have J3:=a9J (kV B (O.getD b []) (i+1)) (z8 (B.i.getD i I0)) (by omega)
      have hu:=b5c B (O.getD b []) (mx (mx (prF c I O b) (I.getD b []).length) (O.getD b []).length) i
      simp only[b6.av,o6.av,List.cons_append,List.nil_append,e8.av]at J1 J2
      rw[show(((i+1:Nat)):Int)=(i:Int)+1 from rfl]at J1
      repeat' (first|refine Za ?_|(with_reducible constructor<;>first|intro N hN mk hmk|intro N hN|intro h)|refine Zc J1 ?_|refine Zc J2 ?_|refine Zc J3 ?_|refine Zt (Zq c5U.d (Zq hB' (Zq hrl (Zq hil hol)))) ?_|fail)
      refine Zw [2,3,5,6,7,8] [0,1] (Zq c5U.d (Zq hB' (Zq hrl (Zq hil hol)))) ?_
      rw[hu];rfl
     ·obtain rfl:i=B.i.length:=by omega
      rw[hpr]
      have J1:=a0d B.t
      simp only[o6.av]at J1
      by_cases hd:0≤B8 B.t
      ·obtain⟨t1,t2⟩:=htt hd
       obtain⟨q1,q2⟩:=mL hi B.t.t0.toNat
       have qlen:=q1.len q2 (by omega)
       have J3:=a9J (I.getD B.t.t0.toNat []) (B8 B.t) (by omega)
       have ee:∀m,prT I B.t m=mx m (X5 (I.getD B.t.t0.toNat []) (B8 B.t)).length:=fun m=>by unfold prT;rw[if_pos hd]
       rw[ee]
       repeat' (first|refine Za ?_|(with_reducible constructor<;>first|intro N hN mk hmk|intro N hN|intro h)|refine Zc J1 ?_|refine Zc J3 ?_|refine Zt (Zq a8g.d (Zq hB' (Zq hrl (Zq hil hol)))) ?_|fail)
       refine Zw [2,3,5,6,7] [0,1] (Zq a8g.d (Zq hB' (Zq hrl (Zq hil hol)))) ?_
       rfl
      ·have ee:∀m,prT I B.t m=m:=fun m=>by unfold prT;rw[if_neg hd]
       rw[ee]
       repeat' (first|refine Za ?_|(with_reducible constructor<;>first|intro N hN mk hmk|intro N hN|intro h)|refine Zc J1 ?_|refine Zt (Zq a8g.d (Zq hB' (Zq hrl (Zq hil hol)))) ?_|fail)
       refine Zw [2,3,5,6,7] [0,1] (Zq a8g.d (Zq hB' (Zq hrl (Zq hil hol)))) ?_
       rfl
  ·obtain rfl:b=c.b.length:=by omega
   repeat' (first|refine Za ?_|(with_reducible constructor<;>first|intro N hN mk hmk|intro N hN|intro h)|refine Zt c6W.d ?_|fail)
def W7(z:Nat)(l:List Int):AV:=if l=[]then .a6 true []else .own (100+z) 0 l.length
def fX(l:List Int):RS:=if l=[]then .gone else .live ⟨1,b7 l,0⟩
def N9(n:Nat)(F:Nat→List Int):List (List AV):=(List.range n).map fun z=>[W7 z (F z)]
def yJ(n:Nat)(F:Nat→List Int):List (Nat×RS):=jQ 100 n fun z=>fX (F z)
theorem yC(n:Nat)(F:Nat→List Int):(N9 n F).length=n:=by simp [N9]
theorem b7d(n:Nat)(F:Nat→List Int):(∀e∈N9 n F,e.length=1)=True:=by simp [N9]
theorem a3H(n:Nat)(F:Nat→List Int)(z:Nat)(h:z<n):(N9 n F)[z]?=some [W7 z (F z)]:=by simp [N9,h]
theorem b0B(n:Nat)(F:Nat→List Int)(z:Nat)(x:AV):(N9 n F).modify z (fun e=>p8 e 0 [x])=(List.range n).map fun y=>[if y=z then x else W7 y (F y)]:=by
 unfold N9
 rw[a5m]
 apply List.map_congr_left
 intro y _
 split<;>rfl
theorem aI(n:Nat)(F:Nat→List Int)(h:0<n):((N9 n F).all fun e=>e.all AV.plain)=false:=by
 apply Bool.eq_false_iff.2
 intro hh
 have:=List.all_eq_true.1 hh [W7 0 (F 0)] (List.mem_of_getElem? (a3H n F 0 h))
 simp only[List.all_cons,List.all_nil,Bool.and_true]at this
 unfold W7 at this
 split at this<;>simp [AV.plain]at this
theorem lZ(n:Nat)(F:Nat→List Int)(z id k:Nat)(h:z<n):(((List.range n).map fun y=>[if y=z then AV.own id 0 k else W7 y (F y)]).all fun e=>e.all AV.plain)=false:=by
 apply Bool.eq_false_iff.2
 intro hh
 have:=List.all_eq_true.1 hh [if z=z then AV.own id 0 k else W7 z (F z)] (List.mem_map.2 ⟨z,List.mem_range.2 h,rfl⟩)
 simp [AV.plain]at this
def aN(F:Nat→List Int)(z:Nat)(l:List Int):Nat→List Int:=fun y=>if y=z then l else F y
theorem pJ {t t':List AV} {h:List (Nat×RS)} {nx n z x:Nat} {F:Nat→List Int} {v:Int} {rows:List Row} (keep ids:List Nat) (r:Nat→Option Nat)
  (hr:r=fun id=>match q9 ids 0 id with|some j=>some j|none=>if id=x then some (100+z)else if 100≤id∧id<100+n∧F (id-100)≠[]∧id≠100+z then some id else none)
  (hnd:ids.Nodup) (hi:∀id∈ids,id<100∨100+n≤id) (hb:ids.length≤100) (hx:100+n≤x∧x∉ids) (hz:z<n) (hn:n≤100)
  (ht:o0 keep r 0 t=some t')
  (hp:b5 (LS.hf h) r ids=some rows)
  (hnew:LS.hf h x= .live ⟨1,b7 (F z++[v]),0⟩)
  (hold:∀y,y<n→y≠z→LS.hf h (100+y)=fX (F y)):
  N4 ⟨t,h,nx⟩ ⟨t',j0 0 rows++yJ n (aN F z (F z++[v])),200⟩:=by
 have hni:∀id,100≤id→id<100+n→q9 ids 0 id=none:=by
  intro id h1 h2
  unfold q9
  rw[List.idxOf?_eq_none_iff.2 (fun hm=>by rcases hi id hm with h|h<;>omega)];rfl
 have hnx:q9 ids 0 x=none:=by
  unfold q9
  rw[List.idxOf?_eq_none_iff.2 hx.2];rfl
 refine a0B keep ids n (fun y=>fX (aN F z (F z++[v]) y)) 100 r (fun y=>if y=z then x else 100+y) hnd (fun id j h=>by rw[hr];simp only[h]) (fun id j h hj=>?_) ht hp hb (fun y hy=>?_) (fun a b r1 r2 ha hb' h1 h2 e=>?_) 200 (by omega)
 ·rw[hr]at hj
  simp only[h]at hj
  by_cases h1:id=x
  ·rw[if_pos h1]at hj
   cases hj
   refine⟨z,hz,rfl,by simp [h1],⟨1,b7 (F z++[v]),0⟩,?_⟩
   simp [fX,aN]
  ·rw[if_neg h1]at hj
   split at hj
   ·rename_i h2
    cases hj
    refine⟨id-100,by omega,by omega,?_,⟨1,b7 (F (id-100)),0⟩,?_⟩
    ·rw[if_neg (by omega)];omega
    ·simp only[aN]
     rw[if_neg (by omega)]
     unfold fX;rw[if_neg h2.2.2.1]
   ·cases hj
 ·by_cases e:y=z
  ·subst e
   refine .inr ⟨⟨1,b7 (F y++[v]),0⟩,by simp [fX,aN],by simp [hx.2],⟨1,b7 (F y++[v]),0⟩,by simp only[if_true];exact hnew,?_⟩
   unfold e6;simp only;rw[if_pos (y9 _)]
  ·by_cases hF:F y=[]
   ·left;simp [aN,e,hF,fX]
   ·refine .inr ⟨⟨1,b7 (F y),0⟩,by simp [fX,aN,e,hF],?_,⟨1,b7 (F y),0⟩,?_,?_⟩
    ·rw[if_neg e];intro hm
     rcases hi _ hm with h|h<;>omega
    ·rw[if_neg e,hold y hy e];simp [fX,hF]
    ·unfold e6;simp only;rw[if_pos (y9 _)]
 ·split at e<;>split at e<;>omega
theorem jN{n z x:Nat}{F:Nat→List Int}{v:Int}{r:Nat→Option Nat}(hz:z<n)(hrx:r x=some (100+z))(hro:∀y,y<n→y≠z→F y≠[]→r (100+y)=some (100+y)):
  ((List.range n).map fun y=>[if y=z then AV.own x 0 ((F z).length+1)else W7 y (F y)]).mapM (fun(e:List AV)=>e.mapM (n9 r 3))=some (N9 n (aN F z (F z++[v]))):=by
 unfold N9
 refine oB fun y hy=>?_
 by_cases e:y=z
 ·subst e
  simp [n9,hrx,aN,W7]
 ·by_cases hF:F y=[]
  ·simp [e,n9,aN,W7,hF]
  ·simp [e,n9,aN,W7,hF,hro y hy e hF]
theorem fE {t t':List AV} {h:List (Nat×RS)} {nx n:Nat} {F:Nat→List Int} {rows:List Row} (keep ids:List Nat) (r:Nat→Option Nat)
  (hr:r=fun id=>match q9 ids 0 id with|some j=>some j|none=>if 100≤id∧id<100+n∧F (id-100)≠[]then some id else none)
  (hnd:ids.Nodup) (hi:∀id∈ids,id<100∨100+n≤id) (hb:ids.length≤100) (hn:n≤100)
  (ht:o0 keep r 0 t=some t')
  (hp:b5 (LS.hf h) r ids=some rows)
  (hold:∀y,y<n→F y≠[]→LS.hf h (100+y)=fX (F y)):
  N4 ⟨t,h,nx⟩ ⟨t',j0 0 rows++yJ n F,200⟩:=by
 refine a0B keep ids n (fun y=>fX (F y)) 100 r (fun y=>100+y) hnd (fun id j h=>by rw[hr];simp only[h]) (fun id j h hj=>?_) ht hp hb (fun y hy=>?_) (fun a b r1 r2 ha hb' h1 h2 e=>?_) 200 (by omega)
 ·rw[hr]at hj
  simp only[h]at hj
  split at hj
  ·rename_i h2
   cases hj
   refine⟨id-100,by omega,by omega,by omega,⟨1,b7 (F (id-100)),0⟩,?_⟩
   unfold fX;rw[if_neg h2.2.2]
  ·cases hj
 ·by_cases hF:F y=[]
  ·left;simp [hF,fX]
  ·refine .inr ⟨⟨1,b7 (F y),0⟩,by simp [fX,hF],?_,⟨1,b7 (F y),0⟩,?_,?_⟩
   ·intro hm
    rcases hi _ hm with h|h<;>omega
   ·rw[hold y hy hF];simp [fX,hF]
   ·unfold e6;simp only;rw[if_pos (y9 _)]
 ·omega
theorem cY{n:Nat}{F:Nat→List Int}{r:Nat→Option Nat}(hro:∀y,y<n→F y≠[]→r (100+y)=some (100+y)):
  (N9 n F).mapM (fun(e:List AV)=>e.mapM (n9 r 3))=some (N9 n F):=by
 unfold N9
 refine oB fun y hy=>?_
 by_cases hF:F y=[]
 ·simp [n9,W7,hF]
 ·simp [n9,W7,hF,hro y hy hF]
theorem B6(n:Nat)(F:Nat→List Int)(id:Nat)(h:id<100∨100+n≤id):(yJ n F).lookup id=none:=A9 100 n _ id h
theorem w5(n:Nat)(F:Nat→List Int)(z:Nat)(h:z<n):(yJ n F).lookup (100+z)=some (fX (F z)):=pI 100 n _ z h
theorem Y7{s s1 s2:LS}(h:N4 s s1)(e:s1=s2):N4 s s2:=e ▸ h
noncomputable def todoI (c:Code) (i:Nat):List Int:=((List.range i).filter fun b=>(reachF c.b).getD b false).map fun(b:Nat)=>(b:Int)
noncomputable def fromI (c:Code) (i:Nat) (z:Nat):List Int:=((List.range i).filter fun b=>(reachF c.b).getD b false&&decide ((z:Int)∈e9 (w7 c.b b).t)).map fun(b:Nat)=>(b:Int)
noncomputable def fromJ (c:Code) (l:List Int) (i j:Nat) (z:Nat):List Int:=fromI c i z++if(z:Int)∈l.take j then[(i:Int)]else[]
theorem b5F{c:Code}{i:Nat}(h:(reachF c.b).getD i false=true):todoI c (i+1)=todoI c i++[(i:Int)]:=by
 unfold todoI;rw[List.range_succ,List.filter_append];simp only[List.filter_cons,List.filter_nil,h,if_true,List.map_append,List.map_cons,List.map_nil]
theorem c0W{c:Code}{i:Nat}(h:(reachF c.b).getD i false=false):todoI c (i+1)=todoI c i:=by
 unfold todoI;rw[List.range_succ,List.filter_append];simp only[List.filter_cons,List.filter_nil,h,Bool.false_eq_true,if_false,List.append_nil]
theorem b7E{c:Code}{i:Nat}(h:(reachF c.b).getD i false=false):fromI c (i+1)=fromI c i:=by
 funext z;unfold fromI;rw[List.range_succ,List.filter_append];simp only[List.filter_cons,List.filter_nil,h,Bool.false_and,Bool.false_eq_true,if_false,List.append_nil]
theorem b4C{c:Code}{i:Nat}(h:(reachF c.b).getD i false=true){j:Nat}(hj:(e9 (w7 c.b i).t).length≤j):fromJ c (e9 (w7 c.b i).t) i j=fromI c (i+1):=by
 funext z;unfold fromJ fromI
 rw[List.take_of_length_le hj,List.range_succ,List.filter_append,List.map_append]
 congr 1
 by_cases hz:(z:Int)∈e9 (w7 c.b i).t
 ·simp only[List.filter_cons,List.filter_nil,h,hz,if_true,decide_true,Bool.and_self,List.map_cons,List.map_nil]
 ·simp only[List.filter_cons,List.filter_nil,h,hz,if_false,decide_false,Bool.and_false,Bool.false_eq_true,List.map_nil]
theorem b0R(c:Code)(l:List Int)(i:Nat):fromJ c l i 0=fromI c i:=by funext z;simp [fromJ]
theorem a0u(t:o6):(e9 t).Nodup:=by
 unfold e9
 split
 ·simp
 ·split
  ·rename_i h;simp [h.2]
  ·simp
theorem yL{c:Code}{l:List Int}{i j:Nat}(hnd:l.Nodup)(hj:j<l.length)(h0:0≤l.getD j 0):fromJ c l i (j+1)=aN (fromJ c l i j) (l.getD j 0).toNat (fromJ c l i j (l.getD j 0).toNat++[(i:Int)]):=by
 have hg:l.getD j 0=l[j]:=by rw[List.getD_eq_getElem?_getD,List.getElem?_eq_getElem hj];rfl
 have hnt:l[j]∉l.take j:=by
  intro hm
  obtain⟨k,hk,e⟩:=List.mem_iff_getElem.1 hm
  rw[List.getElem_take]at e
  simp at hk
  exact List.pairwise_iff_getElem.1 hnd k j (by omega) hj (by omega) e
 have ht:l.take (j+1)=l.take j++[l[j]]:=by rw[List.take_add_one,List.getElem?_eq_getElem hj];rfl
 rw[hg]at h0⊢
 funext z
 unfold aN fromJ
 rw[ht]
 by_cases e:z=l[j].toNat
 ·rw[if_pos e]
  have e2:(z:Int)=l[j]:=by omega
  have e3:((l[j].toNat:Nat):Int)=l[j]:=by omega
  rw[e2,e3,if_neg hnt,if_pos (List.mem_append.2 (.inr (List.mem_singleton.2 rfl))),e,List.append_nil]
 ·rw[if_neg e]
  have e2:(z:Int)≠l[j]:=by omega
  simp only[List.mem_append,List.mem_singleton,e2,or_false]
theorem a8N(p:Nat→Bool)(i:Nat):(((List.range i).filter p).map fun(b:Nat)=>(b:Int)).length≤i:=by
 rw[List.length_map]
 have:=List.length_filter_le p (List.range i)
 rw[List.length_range]at this;exact this
theorem a4D(c:Code)(i:Nat):(todoI c i).length≤i:=a8N _ i
theorem rI(c:Code)(i z:Nat):(fromI c i z).length≤i:=a8N _ i
theorem a3R(c:Code)(l:List Int)(i j z:Nat):(fromJ c l i j z).length≤i+1:=by
 unfold fromJ
 have:=rI c i z
 rw[List.length_append]
 split<;>simp<;>omega
theorem c01(id i k:Nat)(cs:List AV)(n:Nat)(F:Nat→List Int)(h:id<100∨100+n≤id):H7 id i k cs (yJ n F)=yJ n F:=b3J id i k cs 100 n _ h
theorem a0Q(id n:Nat)(F:Nat→List Int)(h:id<100∨100+n≤id):cP id (yJ n F)=yJ n F:=a5c id 100 n _ h
theorem b04(z n:Nat)(F:Nat→List Int):cP (100+z) (yJ n F)=jQ 100 n (fun y=>if y=z then .gone else fX (F y)):=b4W z 100 n _
theorem b0C(n:Nat):List.replicate n [AV.a6 true []]=N9 n (fun _=>[]):=by
 apply List.ext_getElem?
 intro j
 simp only[N9,W7,if_true,List.getElem?_map]
 by_cases h:j<n
 ·rw[List.getElem?_range h];simp [h]
 ·rw[List.getElem?_eq_none (by simp;omega),List.getElem?_eq_none (by simp;omega)];rfl
theorem b5I{t t':List AV}{h:List (Nat×RS)}{nx:Nat}{rows:List Row}(keep ids:List Nat)(hnd:ids.Nodup)(ht:o0 keep (q9 ids 0) 0 t=some t')(hp:b5 (LS.hf h) (q9 ids 0) ids=some rows)(nx':Nat)(hx:ids.length≤nx'):
  N4 ⟨t,h,nx⟩ ⟨t',j0 0 rows,nx'⟩:=by
 have:=a0B (s:=⟨t,h,nx⟩) (rows:=rows) keep ids 0 (fun _=> .gone) ids.length (q9 ids 0) (fun z=>z) hnd (fun id j h=>h) (fun id j h hj=>by rw[h]at hj;cases hj) ht hp (Nat.le_refl _) (fun z hz=>by omega) (fun y z r1 r2 hy=>by omega) nx' hx
 simpa[jQ]using this
theorem lL{h1 h2:Nat→RS}{r:Nat→Option Nat}:∀{ids:List Nat},(∀id∈ids,h1 id=h2 id)→b5 h1 r ids=b5 h2 r ids
 |[],_=>rfl
 |id::ids,h=>by
  simp only[b5]
  rw[h id (by simp),lL fun j hj=>h j (by simp [hj])]
theorem b4E{h:Nat→RS}{n m:Nat}{F:Nat→List Int}(h4:h 4= .live ⟨1,N9 n F,0⟩)(hn:0<n)(hold:∀z,z<n→F z≠[]→h (100+z)= .live ⟨1,b7 (F z),0⟩):
  v8 h (m+2) (.own 4 0 n)=some (.a6 false (lists ((List.range n).map F)))∧∀p∈a8 h (m+2) (.own 4 0 n),p.1=4∨100≤p.1:=by
 have hl:=yC n F
 have hpl:=aI n F hn
 constructor
 ·simp only[v8,h4]
  rw[if_pos (by omega),List.drop_zero,List.take_of_length_le (by omega)]
  simp only[v7,hpl,Bool.false_eq_true,if_false]
  have:(N9 n F).mapM (fun(e:List AV)=>e.mapM (v8 h (m+1)))=some ((List.range n).map fun z=>[AV.a6 false (b7 (F z))]):=by
   unfold N9
   refine oB fun z hz=>?_
   by_cases hF:F z=[]
   ·simp [W7,hF,v8,b7]
   ·simp only[W7,if_neg hF,List.mapM_cons,List.mapM_nil,v8,hold z hz hF,Nat.zero_add,H3,Nat.le_refl,if_true,List.drop_zero,U8]
    have:=j8 (F z)
    simp [v7,this]
  rw[this]
  simp [lists,Function.comp_def]
 ·intro p hp
  simp only[a8,h4,List.mem_cons]at hp
  rcases hp with rfl|hp
  ·exact .inl rfl
  ·right
   rw[List.drop_zero,List.take_of_length_le (by omega)]at hp
   simp only[v7,hpl,Bool.false_eq_true,if_false,List.mem_flatMap]at hp
   obtain⟨e,he,x,hx,hp⟩:=hp
   simp only[N9,List.mem_map,List.mem_range]at he
   obtain⟨z,hz,rfl⟩:=he
   rw[List.mem_singleton]at hx
   subst hx
   unfold W7 at hp
   split at hp
   ·simp [a8]at hp
   ·rename_i hF
    simp only[a8,hold z hz hF,List.mem_cons]at hp
    rcases hp with rfl|hp
    ·simp
    ·rw[List.drop_zero,U8]at hp
     have:=j8 (F z)
     simp [v7,this]at hp
theorem c1v {t t':List AV} {h:List (Nat×RS)} {nx n:Nat} {F:Nat→List Int} {rows:List Row} (keep ids:List Nat) (hn:0<n) (h7:LS.tf t 7= .own 4 0 n) (h4:LS.hf h 4= .live ⟨1,N9 n F,0⟩)
  (hold:∀z,z<n→F z≠[]→LS.hf h (100+z)= .live ⟨1,b7 (F z),0⟩) (hnd:ids.Nodup) (hid:∀id∈ids,id≠4∧id<100)
  (ht:o0 keep (q9 ids 0) 0 (t.set 7 (.a6 false (lists ((List.range n).map F))))=some t') (hp:b5 (LS.hf h) (q9 ids 0) ids=some rows):N4 ⟨t,h,nx⟩ ⟨t',j0 0 rows,ids.length⟩:=by
 obtain⟨f1,f2⟩:=b4E (m:=4) h4 hn hold
 have w1:=jF (s:=⟨t,h,nx⟩) 7 6 (.a6 false (lists ((List.range n).map F))) (by show v8 (LS.hf h) 6 (LS.tf t 7)=_;rw[h7];exact f1)
 simp only[h7]at w1
 generalize a8 (LS.hf h) 6 (.own 4 0 n)=fi at*
 intro G M0 w0 ρ a w R
 obtain⟨ρ1,R1⟩:=w1 G M0 w0 ρ a w R
 refine b5I keep ids hnd ht ?_ ids.length (Nat.le_refl _) G M0 w0 ρ1 a w R1
 rw[←hp]
 refine lL fun id hi=>?_
 obtain⟨d1,d2⟩:=hid id hi
 rw[mF]
 unfold raise
 cases hh:LS.hf h id with
 |live r=>
  simp only
  rw[b7D (fun p hp=>by rcases f2 p hp with e|e<;>omega)]
 |_=>rfl
structure WI (c:Code) (I O:List (List Int)) (T:List Int):Prop where
 f:FI c I O
 m:∀b∈T,0≤b∧b<c.b.length∧cR c.b b
 d:∀b,b<c.b.length→cR c.b (b:Int)→(b:Int)∈T∨(O.getD b []=P7 c I b∧I.getD b []=P6 c I b)
noncomputable def fromL (c:Code):List (List Int):=(List.range c.b.length).map (fromI c c.b.length)
theorem b4D(c:Code):(fromL c).length=c.b.length:=by simp [fromL]
theorem a8S(c:Code){b:Nat}(h:b<c.b.length):(fromL c).getD b []=fromI c c.b.length b:=by
 unfold fromL
 rw[List.getD_eq_getElem?_getD,List.getElem?_map,List.getElem?_range h];rfl
theorem zS{c:Code}{b:Int}:b∈todoI c c.b.length↔∃k:Nat,b=k∧k<c.b.length∧cR c.b (k:Int):=by
 unfold todoI
 simp only[List.mem_map,List.mem_filter,List.mem_range]
 constructor
 ·rintro⟨k,⟨h1,h2⟩,rfl⟩
  exact⟨k,rfl,h1,(O5 c.b h1).1 h2⟩
 ·rintro⟨k,rfl,h1,h2⟩
  exact⟨k,⟨h1,(O5 c.b h1).2 h2⟩,rfl⟩
theorem a9p{c:Code}{b:Int}{z:Nat}:b∈fromI c c.b.length z↔∃k:Nat,b=k∧k<c.b.length∧cR c.b (k:Int)∧(z:Int)∈e9 (w7 c.b k).t:=by
 unfold fromI
 simp only[List.mem_map,List.mem_filter,List.mem_range,Bool.and_eq_true,decide_eq_true_eq]
 constructor
 ·rintro⟨k,⟨h1,h2,h3⟩,rfl⟩
  exact⟨k,rfl,h1,(O5 c.b h1).1 h2,h3⟩
 ·rintro⟨k,rfl,h1,h2,h3⟩
  exact⟨k,⟨h1,(O5 c.b h1).2 h2,h3⟩,rfl⟩
theorem WI.zero(c:Code):WI c (bN c.b.length) (bN c.b.length) (todoI c c.b.length):=by
 refine⟨FI.zero c,fun b hb=>?_,fun b hb hr=> .inl (zS.2 ⟨b,rfl,hb,hr⟩)⟩
 obtain⟨k,rfl,h1,h2⟩:=zS.1 hb
 exact⟨by omega,by omega,h2⟩
theorem b1k{c:Code}{I I':List (List Int)}{k:Nat}(h:∀to∈e9 (w7 c.b k).t,I.getD to.toNat []=I'.getD to.toNat []):P7 c I k=P7 c I' k:=by
 unfold P7 O1
 congr 2
 have:∀(l:List Int),(∀to∈l,I.getD to.toNat []=I'.getD to.toNat [])→∀s:List Int,l.foldl (fun s to=>w9 s (I.getD to.toNat [])) s=l.foldl (fun s to=>w9 s (I'.getD to.toNat [])) s:=by
  intro l
  induction l with
  |nil=>intro _ s;rfl
  |cons a l ih=>
   intro h s
   rw[List.foldl_cons,List.foldl_cons,h a (by simp)]
   exact ih (fun to hto=>h to (by simp [hto])) _
 exact this _ h []
theorem WI.pop{c:Code}(hc:u9 c){I O:List (List Int)}{T:List Int}{b:Nat}(W:WI c I O (T++[(b:Int)])):b<c.b.length∧cR c.b (b:Int)∧
  (P6 c I b=I.getD b []→WI c I (O.set b (P7 c I b)) T)∧(P6 c I b≠I.getD b []→WI c (I.set b (P6 c I b)) (O.set b (P7 c I b)) (T++fromI c c.b.length b)∧qN I+1≤qN (I.set b (P6 c I b))):=by
 obtain⟨m1,m2,m3⟩:=W.m b (by simp)
 have hb:b<c.b.length:=by omega
 have hF:=W.f.set hc hb m3
 have hbo:b<O.length:=by rw[W.f.s.lo];exact hb
 have hbi:b<I.length:=by rw[W.f.s.li];exact hb
 refine⟨hb,m3,fun e=>⟨?_,fun x hx=>W.m x (by simp [hx]),fun k hk hr=>?_⟩,fun e=>⟨⟨hF,fun x hx=>?_,fun k hk hr=>?_⟩,?_⟩⟩
 ·rw[e,a0m]at hF;exact hF
 ·rcases W.d k hk hr with h|⟨h1,h2⟩
  ·rcases List.mem_append.1 h with h|h
   ·exact .inl h
   ·have:k=b:=by have:=List.mem_singleton.1 h;omega
    subst this
    right
    rw[F5,if_pos ⟨rfl,hbo⟩]
    exact⟨rfl,e.symm⟩
  ·by_cases hkb:b=k
   ·subst hkb
    right
    rw[F5,if_pos ⟨rfl,hbo⟩]
    exact⟨rfl,h2⟩
   ·right
    rw[F5,if_neg fun hh=>hkb hh.1]
    exact⟨h1,h2⟩
 ·rcases List.mem_append.1 hx with h|h
  ·exact W.m x (by simp [h])
  ·obtain⟨k,rfl,h1,h2,_⟩:=a9p.1 h
   exact⟨by omega,by omega,h2⟩
 ·by_cases hs:(b:Int)∈e9 (w7 c.b k).t
  ·exact .inl (List.mem_append.2 (.inr (a9p.2 ⟨k,rfl,hk,hr,hs⟩)))
  ·have hsame:P7 c (I.set b (P6 c I b)) k=P7 c I k:=b1k fun to hto=>by
    rw[F5,if_neg]
    rintro⟨h1,_⟩
    have:=hc.succ.2 _ (O8 hk) to hto
    exact hs (by rw[show(b:Int)=to by omega];exact hto)
   have hsame2:P6 c (I.set b (P6 c I b)) k=P6 c I k:=by
    show kV _ (P7 c (I.set b (P6 c I b)) k) 0=kV _ (P7 c I k) 0
    rw[hsame]
   by_cases hkb:b=k
   ·subst hkb
    right
    rw[F5,F5,if_pos ⟨rfl,hbo⟩,if_pos ⟨rfl,hbi⟩,hsame,hsame2]
    exact⟨rfl,rfl⟩
   ·rcases W.d k hk hr with h|⟨h1,h2⟩
    ·left
     rcases List.mem_append.1 h with h|h
     ·exact List.mem_append.2 (.inl h)
     ·have:=List.mem_singleton.1 h;omega
    ·right
     rw[F5,F5,if_neg fun hh=>hkb hh.1,if_neg fun hh=>hkb hh.1,hsame,hsame2]
     exact⟨h1,h2⟩
 ·have t1:=vE I b (P6 c I b) hbi
  have g:=(W.f.g b hb m3).1
  obtain⟨l1,e1⟩:=qH (W.f.s.i b).2 (sL bT:I5 (P6 c I b)) g
  have:¬(P6 c I b).length≤(I.getD b []).length:=fun hh=>e (e1 hh).symm
  omega
theorem WI.done{c:Code}{I O:List (List Int)}(W:WI c I O []):liveF c=(I,O):=W.f.done fun b hb hr=>(W.d b hb hr).resolve_left (by simp)
theorem FI.c68{c:Code}(hc:u9 c){I O:List (List Int)}(h:FI c I O):qN I≤16*c.b.length:=(h.a9T hc).1
def wm(c:Code)(I:List (List Int))(T:List Int):Nat:=(16*c.b.length-qN I)*(c.b.length+1)+T.length
theorem c5g(c:Code)(I:List (List Int))(T:List Int)(b:Int):wm c I T<wm c I (T++[b]):=by simp [wm]
theorem c2G{c:Code}{I I':List (List Int)}{T:List Int}{b:Int}{z:Nat}(h:qN I+1≤qN I')(h2:qN I'≤16*c.b.length):wm c I' (T++fromI c c.b.length z)<wm c I (T++[b]):=by
 have hl:=rI c c.b.length z
 obtain⟨d,hd⟩:∃d,16*c.b.length-qN I=(16*c.b.length-qN I')+1+d:=⟨qN I'-qN I-1,by omega⟩
 unfold wm
 rw[hd,List.length_append,List.length_append,Nat.add_mul,Nat.add_mul]
 simp only[List.length_cons,List.length_nil]
 have:0≤d*(c.b.length+1):=Nat.zero_le _
 omega
theorem c5f(c:Code)(I:List (List Int))(T:List Int):T.length≤wm c I T:=Nat.le_add_left _ _
theorem c2H(c:Code)(h:c.b.length≤18)(I:List (List Int)):wm c I (todoI c c.b.length)≤10000:=by
 have h1:=a4D c c.b.length
 unfold wm
 have h2:(16*c.b.length-qN I)*(c.b.length+1)≤288*19:=Nat.mul_le_mul (by omega) (by omega)
 omega
end Go.Proofs.YtgdoiokalfhjoaaGreatDoor
end
