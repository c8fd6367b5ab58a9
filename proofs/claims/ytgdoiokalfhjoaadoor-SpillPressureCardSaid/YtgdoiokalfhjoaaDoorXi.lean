/- Own work (by an AI agent; no person has read it): part of a proof of the seat YtgdoiokalfhjoaaDoor. -/
import Derived.Test.YtgdoiokalfhjoaaDoorXh
set_option linter.unusedSimpArgs false
set_option linter.unusedVariables false
set_option maxRecDepth 100000
set_option maxHeartbeats 10000000
section
namespace Go.Proofs.YtgdoiokalfhjoaaDoor
open Go.Ab
theorem b3O{l:List Int}(h:aW l)(sl:N1 l):l.length≤1000:=by
 have:∀(n:Nat) (l:List Int),N1 l→(∀x∈l,64-(n:Int)≤x∧x<64)→l.length≤n:=by
  intro n
  induction n with
  |zero=>intro l _ h;cases l with
   |nil=>simp
   |cons x l=>have:=h x (by simp);omega
  |succ n ih=>
   intro l sl h
   cases l with
   |nil=>simp
   |cons x l=>
    obtain⟨s1,s2⟩:=List.pairwise_cons.1 sl
    have:=ih l s2 fun y hy=>by
     have h1:=s1 y hy
     have h2:=h x (by simp)
     have h3:=h y (by simp [hy])
     omega
    simp;omega
 have:=this 64 l sl fun x hx=>by have:=h x hx;omega
 omega
def RB(r:Int)(l:List Int):Prop:=∀x∈l,0≤x∧x<r
theorem RB.nil{r:Int}:RB r []:=by intro x hx;simp at hx
theorem RB.union{r:Int}{a b:List Int}(h:RB r a)(hb:RB r b):RB r (E4 a b):=fun x hx=>by
 rcases T6.1 hx with hx|hx
 ·exact h x hx
 ·exact hb x hx
theorem RB.iF{r:Int}{l:List Int}(h:RB r l){n:Int}:RB r (S6 l n):=fun x hx=>h x (bO.1 hx).1
theorem RB.with{r:Int}{l:List Int}(h:RB r l){n:Int}(hn:n<r):RB r (bQ l n):=fun x hx=>by
 rcases a3Q.1 hx with⟨h1,rfl⟩|hx
 ·exact⟨h1,hn⟩
 ·exact h x hx
theorem RB.r64{r:Int}{l:List Int}(h:RB r l)(hr:r≤64):aW l:=fun x hx=>by have:=h x hx;omega
theorem RB.len{r:Int}{l:List Int}(h:RB r l)(sl:N1 l)(hr:r≤64):l.length≤1000:=b3O (h.r64 hr) sl
theorem b0i{r:Int}{L:List l0}(hg:∀x,Q7 (L.getD x I0)<r∧RB r (w6 (L.getD x I0))):∀{out:List Int},RB r out→N1 out→∀pre:List Nat,RB r (dO L out pre)∧N1 (dO L out pre):=by
 intro out ho so pre
 induction pre generalizing out with
 |nil=>exact⟨ho,so⟩
 |cons x pre ih=>exact ih (RB.union ho.iF (hg x).2) (lV so)
theorem b3P{r:Int}{L:List l0}(hr:0≤r)(h:∀x∈L,Q7 x<r∧RB r (w6 x))(x:Nat):Q7 (L.getD x I0)<r∧RB r (w6 (L.getD x I0)):=by
 by_cases hx:x<L.length
 ·rw[List.getD_eq_getElem?_getD,List.getElem?_eq_getElem hx];exact h _ (List.getElem_mem hx)
 ·rw[List.getD_eq_getElem?_getD,List.getElem?_eq_none (by omega)]
  exact⟨by show(-1:Int)<r;omega,RB.nil⟩
theorem C8.rb{c:Code}(h:C8 c){b:Nat}(hb:b<c.b.length):∀x∈(I8 c.b b).i,Q7 x<c.regs∧RB c.regs (w6 x):=fun x hx=>by
 have h1:=(h.blk hb).i x hx
 exact⟨(rI h1.d h.r.1).2,zM h1⟩
theorem C8.rbT{c:Code}(h:C8 c){b:Nat}(hb:b<c.b.length):O3 (I8 c.b b).t<c.regs∧RB c.regs (u9 (I8 c.b b).t):=by
 have h1:=(h.blk hb).t
 exact⟨(rI h1.d h.r.1).2,a0r h1⟩
theorem a1b{r:Int}{L:List (List Int)}(h:a5C r L)(z:Nat):RB r (L.getD z [])∧N1 (L.getD z []):=by
 by_cases hz:z<L.length
 ·exact⟨b50 (h z hz),b51 (h z hz)⟩
 ·rw[List.getD_eq_getElem?_getD,List.getElem?_eq_none (by omega)]
  exact⟨RB.nil,N1.nil⟩
def mx(x y:Int):Int:=if x<y then y else x
def a5E(p:Int×List Int)(y:l0):Int×List Int:=(mx p.1 (bQ p.2 (Q7 y)).length,U4 y p.2)
def a8Y(L:List l0)(m:Int)(out:List Int)(pre:List Nat):Int×List Int:=pre.foldl (fun p i=>a5E p (L.getD i I0)) (m,out)
theorem a8Z(L:List l0)(m:Int)(out:List Int)(pre:List Nat)(x:Nat):a8Y L m out (pre++[x])=a5E (a8Y L m out pre) (L.getD x I0):=by
 unfold a8Y;rw[List.foldl_append];rfl
theorem b1U(L:List l0)(out:List Int)(pre:List Nat):∀(m:Int),(a8Y L m out pre).2=dO L out pre:=by
 induction pre generalizing out with
 |nil=>intro m;rfl
 |cons x pre ih=>intro m;exact ih _ _
def prT(I:List (List Int))(t:w4)(m:Int):Int:=if 0≤O3 t then mx m (bQ (I.getD t.t0.toNat []) (O3 t)).length else m
def prB(I O:List (List Int))(B:e8)(b:Nat)(m:Int):Int:=prT I B.t (a8Y B.i (mx (mx m (I.getD b []).length) (O.getD b []).length) (O.getD b []) (bX B.i.length B.i.length)).1
noncomputable def prF (c:Code) (I O:List (List Int)):Nat→Int
 |0=>0
 |b+1=>if(reachF c.b).getD b false=true then prB I O (I8 c.b b) b (prF c I O b)else prF c I O b
def a6L:=ZZ.mk (Zq @j0 @j3)
def eW:=ZZ.mk (Zq a6L.d (Zq @N4.eq_1 (Zq @jZ (Zq @gY (Zq @rM (Zq @bM (Zq @F9 (Zq @e8.av.eq_1 (Zq @w4.av.eq_1 (Zq @List.cons_append.{0} (Zq @List.nil_append.{0} (Zq @U8 (Zq @W8 (Zq @dS (Zq @P9 (Zq @M5 (Zq @n3 (Zq @aA (Zq @W6 @l8)))))))))))))))))))
theorem gO(c:Code)(I O:List (List Int))(hc:C8 c)(hr12:c.regs≤15)(hi:a5C c.regs I)(ho:a5C c.regs O)(hil:I.length=c.b.length)(hol:O.length=c.b.length):
  n5 Tryd.prog 6 [.agg c.av,.agg [.c5 false (lists I),.c5 false (lists O)]] (fun _=> .v (.int .i64 (prF c I O c.b.length))) (fun _=>[]):=by
 have hr:=hc.r
 have hn:=hc.n
 have hrl:=cQ c.b
 have C3:=oS c hc.succ (by omega)
 simp only[Code.av]at C3
 refine Zf Tryd.func6 Tryd.ntmps6 ?_;simp only[Code.av]
 repeat' (first|refine Za ?_|(with_reducible constructor<;>first|intro N hN mk hmk|intro N hN|intro h)|refine Zc C3 ?_|refine Zt a6L.d ?_|fail)
 refine v7 (fun b=>⟨[.Z,.Z,.ptr 0 0 0,.ptr 1 0 0,.Z,.ptr 2 0 0,.Z,.Z,.Z,.Z,.Z,.Z,.Z,.c5 false (F7 (reachF c.b)),.v (.int .i64 c.b.length),.v (.int .i64 b),.Z,.Z,.Z,.Z,.Z,.Z,.Z,.Z,.Z,.Z,.Z,.Z,.Z,.Z,.Z,.Z,.Z,.Z,.Z,.Z,.Z,.Z,.Z,.Z,.Z,.Z,.Z,.Z,.Z,.Z,.Z,.Z,.Z,.Z,.Z,.Z,.Z,.Z,.Z,.Z,.Z,.Z,.Z,.Z,.Z,.Z,.Z,.Z,.Z,.Z,.Z,.Z,.Z,.Z,.Z,.Z,.Z,.Z,.Z,.Z,.Z,.Z,.Z,.Z,.Z,.Z],[(0,.live ⟨8,[[.v (.int .i64 c.group),.v (.int .i64 c.sub),.v (.int .i64 c.regs),.v (.int .i64 c.I2),.v (.int .i64 c.params),.c5 false (H2 c.o0),.c5 false (loops c.loops),.c5 false (y6 c.b)]],0⟩),(1,.live ⟨2,[[.c5 false (lists I),.c5 false (lists O)]],0⟩),(2,.live ⟨1,[[.v (.int .i64 (prF c I O b))]],0⟩)],3⟩) c.b.length (Zw [2,3,5,13,14,15] [0,8,24] a6L.d ?_) ?_
 ·simp only[U8,cQ];rfl
 ·intro b hb
  dsimp only
  by_cases hlt:b<c.b.length
  ·obtain⟨B,hB⟩:∃B,B=I8 c.b b:=⟨_,rfl⟩
   have hB':c.b.getD b B0=B:=hB.symm
   have hgt:=hc.rbT hlt
   have hgi:=hc.rb hlt
   have hbl:=(hc.blk hlt).l
   have hto:=(hc.blk hlt).t.succ
   rw[←hB]at hgt hgi hbl hto
   obtain⟨i1,i2⟩:=a1b hi b
   obtain⟨o1,o2⟩:=a1b ho b
   have K1:=a0B (O.getD b []) (o1.r64 (by omega)) (by have:=o1.len o2 (by omega);omega)
   rw[a0t o2]at K1
   have K2:=tC (O.getD b []) (fun x hx=>by have:=o1 x hx;omega) o2 (o1.len o2 (by omega))
   have K3:=b4e B.i
   have ilen:=i1.len i2 (by omega)
   have olen:=o1.len o2 (by omega)
   repeat' (first|refine Za ?_|(with_reducible constructor<;>first|intro N hN mk hmk|intro N hN|intro h)|refine Zc K1 ?_|refine Zc K2 ?_|(refine Y0 K3 ?_ rfl ?_ ?_;(next=>(simp (disch:=omega) only[eW.d,hB',hrl,hil,hol,B7,Nat.reduceBEq,AV.plain,Nat.reduceAdd,Nat.reduceLeDiff,Nat.reduceLT,↓reduceIte,sF]<;>first|done|rfl));(next=>(simp only[apply_ite List.length,List.length_cons,List.length_nil]<;>(try split)<;>omega)))|(refine U3 K3 ?_ rfl ?_ ?_;(next=>(simp (disch:=omega) only[eW.d,hB',hrl,hil,hol,B7,Nat.reduceBEq,AV.plain,Nat.reduceAdd,Nat.reduceLeDiff,Nat.reduceLT,↓reduceIte,sF]<;>first|done|rfl));(next=>(simp only[apply_ite List.length,List.length_cons,List.length_nil]<;>(try split)<;>omega)))|refine Zt (Zq eW.d (Zq hB' (Zq hrl (Zq hil hol)))) ?_|fail)
   ·refine Zw [2,3,5,13,14,15] [0,1,2] (Zq eW.d (Zq hB' (Zq hrl (Zq hil hol)))) ?_
    rw[show prF c I O (b+1)=prF c I O b from by show(if _ then _ else _)=_;rw[if_neg (by simp_all)]]
    rfl
   ·refine a4C 44 (y:= .fn 44 [.Z9 [[.c5 false (j5 B.i)]] 0 0]) (by simp (maxSteps:=10000000) (disch:=omega) only[eW.d,hB',hrl,hil,hol,w9,bL,D7,L4,B6,x7,AV.kept,e9,u1,D8,N5,B9,B2,n4,AV.J6,x4,E6,AV.plain,rd,B7,b8,bK,stepC,AV.o3,AV.cF,AV.J5,AV.Z0,AV.scalar,cX,D0,M6,M9,N0,M8,A9,M4,cY,D3,M7,L1,s8,cV,u7,I9,I6,bS,K8,u4,TD.isRow,D6,u0,u6,s9,T1,Value.oneCell',↓reduceIte,Int.reduceNe,Int.reduceEq,Nat.reduceAdd,Nat.reduceLT,Nat.reduceLeDiff,Nat.reduceSub,Nat.reduceMul,Nat.reduceBEq,Nat.reduceEqDiff,reduceCtorEq,Int.reduceToNat,←decide_not,←Bool.decide_and,sA,sN]<;>first|done|rfl) rfl ?_;simp (maxSteps:=10000000) (disch:=omega) only[b8,u1,E7,eW.d,hB',hrl,hil,hol,w9,bL,D7,L4,B6,x7,AV.kept,e9,u1,D8,N5,B9,B2,n4,AV.J6,x4,E6,AV.plain,rd,B7,b8,bK,stepC,AV.o3,AV.cF,AV.J5,AV.Z0,AV.scalar,cX,D0,M6,M9,N0,M8,A9,M4,cY,D3,M7,L1,s8,cV,u7,I9,I6,bS,K8,u4,TD.isRow,D6,u0,u6,s9,T1,Value.oneCell',↓reduceIte,Int.reduceNe,Int.reduceEq,Nat.reduceAdd,Nat.reduceLT,Nat.reduceLeDiff,Nat.reduceSub,Nat.reduceMul,Nat.reduceBEq,Nat.reduceEqDiff,reduceCtorEq,Int.reduceToNat,←decide_not,←Bool.decide_and,sA,sN]
    have hpr:prF c I O (b+1)=prB I O B b (prF c I O b):=by rw[hB];show(if _ then _ else _)=_;rw[if_pos (by simp_all)]
    have hg:=b3P hr.1 hgi
    have htt:0≤O3 B.t→0≤B.t.t0∧B.t.t0<c.b.length:=fun h=>by
     have hb0:=(hc.blk hlt).t
     rw[←hB]at hb0
     have hk:B.t.d.k=2:=by
      apply Classical.byContradiction
      intro hk
      have:O3 B.t= -1:=by show(if _ then _ else _)=_;rw[if_neg hk]
      omega
     exact hb0.to (hb0.dk hk)
    refine a6M rfl B.i (fun pre=>⟨[.Z,.Z,.ptr 0 0 0,.ptr 1 0 0,.Z,.ptr 2 0 0,.v (.int .i64 b),.Z,.ptr 3 0 0,.Z,.Z,.Z,.Z,.c5 false (F7 (reachF c.b)),.v (.int .i64 c.b.length),.v (.int .i64 b),.Z,.Z,.Z,.Z,.Z,.Z,.Z,.Z,.Z,.Z,.Z,.Z,.Z,.Z,.Z,.Z,.Z,.Z,.Z,.Z,.Z,.Z,.Z,.Z,.Z,.Z,.Z,.Z,.fn 44 [.Z9 [[.c5 false (j5 B.i)]] 0 0],.Z,.Z,.Z,.Z,.Z,.Z,.Z,.Z,.Z,.Z,.Z,.Z,.Z,.Z,.Z,.Z,.Z,.Z,.Z,.Z,.Z,.Z,.Z,.Z,.Z,.Z,.Z,.Z,.Z,.Z,.Z,.Z,.Z,.Z,.Z,.Z,.Z],[(0,.live ⟨8,[[.v (.int .i64 c.group),.v (.int .i64 c.sub),.v (.int .i64 c.regs),.v (.int .i64 c.I2),.v (.int .i64 c.params),.c5 false (H2 c.o0),.c5 false (loops c.loops),.c5 false (y6 c.b)]],0⟩),(1,.live ⟨2,[[.c5 false (lists I),.c5 false (lists O)]],0⟩),(2,.live ⟨1,[[.v (.int .i64 (a8Y B.i (mx (mx (prF c I O b) (I.getD b []).length) (O.getD b []).length) (O.getD b []) pre).1)]],0⟩),(3,.live ⟨4,[[.v (.int .u64 (E1 (dO B.i (O.getD b []) pre))),.v (.int .u64 0),.v (.int .u64 0),.v (.int .u64 0)]],0⟩)],4⟩) 7 [2,3,5,8] (by omega) rfl (Zw [2,3,5,6,8,13,14,15,44] [0,1,2,115] (Zq eW.d (Zq hB' (Zq hrl (Zq hil hol)))) rfl) (fun _=>⟨by simp,by simp⟩) (fun _=>rfl) (fun _=>by simp [e9]) (fun pre x hlx=>?_) ?_
    ·obtain⟨h1,h2⟩:=b0i hg o1 o2 pre
     have hgx:=hg x
     have hsn:=a8Z B.i (mx (mx (prF c I O b) (I.getD b []).length) (O.getD b []).length) (O.getD b []) pre x
     have hsd:=b1U B.i (O.getD b []) pre (mx (mx (prF c I O b) (I.getD b []).length) (O.getD b []).length)
     have hbs:=sX B.i (O.getD b []) pre x
     have J1:=rG (B.i.getD x I0)
     have J2:=tF (dO B.i (O.getD b []) pre) (Q7 (B.i.getD x I0)) (h1.r64 (by omega)) (by omega)
     have h3:RB c.regs (bQ (dO B.i (O.getD b []) pre) (Q7 (B.i.getD x I0))):=h1.with hgx.1
     have h4:=a4l h2 (Q7 (B.i.getD x I0))
     have J3:=tC (bQ (dO B.i (O.getD b []) pre) (Q7 (B.i.getD x I0))) (fun z hz=>by have:=h3 z hz;omega) h4 (h3.len h4 (by omega))
     have h5:=h3.len h4 (by omega)
     have J4:=sZ (B.i.getD x I0) (dO B.i (O.getD b []) pre) (h1.r64 (by omega)) h2 (by omega) (hgx.2.r64 (by omega))
     rw[←hbs]at J4
     generalize B.i.getD x I0=y at*
     simp only[l0.av,N4]at J1 J2 J3 J4
     simp only[b14,LS.tf,List.map_cons,List.map_nil,l0.av]
     repeat' (first|refine Za ?_|(with_reducible constructor<;>first|intro N hN mk hmk|intro N hN|intro h)|refine Zs (Zq eW.d (Zq hB' (Zq hrl (Zq hil hol)))) ?_|fail)
     refine⟨rfl,?_⟩
     repeat' (first|refine Za ?_|(with_reducible constructor<;>first|intro N hN mk hmk|intro N hN|intro h)|refine Zc J1 ?_|refine Zc J2 ?_|refine Zc J3 ?_|refine Zc J4 ?_|refine Zs (Zq eW.d (Zq hB' (Zq hrl (Zq hil hol)))) ?_|fail)
     refine a7B 4 rfl ?_ ?_ ?_
     ·simp [e9,C9]
     ·rfl
     ·refine fD (keep:=[2,3,5,6,8,13,14,15,44]) (ids:=[0,1,2,3]) (s':=_) (by simp only[C9,x7,Y7,AV.kept,List.map_cons,List.map_nil,List.all_cons,List.all_nil,if_true,if_false,Nat.reduceEqDiff,LS.tf,eW.d,hB',hrl,hil,hol,c8,n7,b6,e7,n6,y5,AV.plain,Nat.reduceBEq,↓reduceIte,Nat.reduceEqDiff,Nat.reduceAdd,sC];rfl) ?_
      rw[hsn]
      simp only[a5E,hsd]
      rfl
    ·rw[hpr]
     have J1:=tA B.t
     by_cases hd:0≤O3 B.t
     ·obtain⟨t1,t2⟩:=htt hd
      obtain⟨q1,q2⟩:=a1b hi B.t.t0.toNat
      have J2:=a0B (I.getD B.t.t0.toNat []) (q1.r64 (by omega)) (by have:=q1.len q2 (by omega);omega)
      rw[a0t q2]at J2
      have J3:=tF (I.getD B.t.t0.toNat []) (O3 B.t) (q1.r64 (by omega)) (by omega)
      have h3:RB c.regs (bQ (I.getD B.t.t0.toNat []) (O3 B.t)):=q1.with hgt.1
      have h4:=a4l q2 (O3 B.t)
      have h5:=h3.len h4 (by omega)
      have J4:=tC (bQ (I.getD B.t.t0.toNat []) (O3 B.t)) (fun z hz=>by have:=h3 z hz;omega) h4 h5
      have e:∀m,prT I B.t m=mx m (bQ (I.getD B.t.t0.toNat []) (O3 B.t)).length:=fun m=>by unfold prT;rw[if_pos hd]
      unfold prB
      rw[e]
      simp only[w4.av,N4]at J1 J2 J3 J4
      repeat' (first|refine Za ?_|(with_reducible constructor<;>first|intro N hN mk hmk|intro N hN|intro h)|refine Zc J1 ?_|refine Zc J2 ?_|refine Zc J3 ?_|refine Zc J4 ?_|refine Zt (Zq eW.d (Zq hB' (Zq hrl (Zq hil hol)))) ?_|fail)
      refine Zw [2,3,5,13,14,15] [0,1,2] (Zq eW.d (Zq hB' (Zq hrl (Zq hil hol)))) ?_
      rfl
     ·have e:∀m,prT I B.t m=m:=fun m=>by unfold prT;rw[if_neg hd]
      unfold prB
      rw[e]
      simp only[w4.av,N4]at J1
      repeat' (first|refine Za ?_|(with_reducible constructor<;>first|intro N hN mk hmk|intro N hN|intro h)|refine Zc J1 ?_|refine Zt (Zq eW.d (Zq hB' (Zq hrl (Zq hil hol)))) ?_|fail)
      refine Zw [2,3,5,13,14,15] [0,1,2] (Zq eW.d (Zq hB' (Zq hrl (Zq hil hol)))) ?_
      rfl
  ·obtain rfl:b=c.b.length:=by omega
   repeat' (first|refine Za ?_|(with_reducible constructor<;>first|intro N hN mk hmk|intro N hN|intro h)|refine Zt a6L.d ?_|fail)
def clo(c:Code)(I O:List (List Int)):Prop:=∀b,b<c.b.length→gI c.b (b:Int)→
 (∀r∈cB (I8 c.b b).t I,r∈O.getD b [])∧(∀r∈atF (I8 c.b b) (O.getD b []) 0,r∈I.getD b [])
structure Snd (c:Code) (I O:List (List Int)):Prop where
 i:∀b r,r∈I.getD b []→gI c.b (b:Int)∧b<c.b.length∧∀I' O',clo c I' O'→r∈I'.getD b []
 o:∀b r,r∈O.getD b []→gI c.b (b:Int)∧b<c.b.length∧∀I' O',clo c I' O'→r∈O'.getD b []
structure Shp (c:Code) (I O:List (List Int)):Prop where
 li:I.length=c.b.length
 lo:O.length=c.b.length
 i:∀z,RB c.regs (I.getD z [])∧N1 (I.getD z [])
 o:∀z,RB c.regs (O.getD z [])∧N1 (O.getD z [])
structure Lst (c:Code) (I O:List (List Int)):Prop where
 shp:Shp c I O
 snd:Snd c I O
 clo:clo c I O
theorem zC{a b:List (List Int)}(hl:a.length=b.length)(h:∀k,a.getD k []=b.getD k []):a=b:=by
 apply List.ext_getElem hl
 intro k h1 h2
 have:=h k
 rw[List.getD_eq_getElem?_getD,List.getD_eq_getElem?_getD,List.getElem?_eq_getElem h1,List.getElem?_eq_getElem h2]at this
 exact this
theorem Lst.unique{c:Code}{I O I' O':List (List Int)}(h:Lst c I O)(h':Lst c I' O'):I=I'∧O=O':=by
 constructor
 ·refine zC (by rw[h.shp.li,h'.shp.li]) fun k=>N1.ext (h.shp.i k).2 (h'.shp.i k).2 fun r=>⟨fun hr=>(h.snd.i k r hr).2.2 _ _ h'.clo,fun hr=>(h'.snd.i k r hr).2.2 _ _ h.clo⟩
 ·refine zC (by rw[h.shp.lo,h'.shp.lo]) fun k=>N1.ext (h.shp.o k).2 (h'.shp.o k).2 fun r=>⟨fun hr=>(h.snd.o k r hr).2.2 _ _ h'.clo,fun hr=>(h'.snd.o k r hr).2.2 _ _ h.clo⟩
noncomputable def liveF (c:Code):List (List Int)×List (List Int):=haveI:=Classical.propDecidable (∃p:List (List Int)×List (List Int),Lst c p.1 p.2)
 if h:∃p:List (List Int)×List (List Int),Lst c p.1 p.2 then Classical.choose h else([],[])
theorem a0Z{c:Code}{I O:List (List Int)}(h:Lst c I O):liveF c=(I,O):=by
 have hx:∃p:List (List Int)×List (List Int),Lst c p.1 p.2:=⟨(I,O),h⟩
 have e:liveF c=Classical.choose hx:=by unfold liveF;rw[dif_pos hx]
 have hs:=Classical.choose_spec hx
 obtain⟨h1,h2⟩:=hs.unique h
 rw[e]
 exact Prod.ext h1 h2
theorem H3(l:List (List Int))(k b:Nat)(v:List Int):(l.set k v).getD b []=if k=b∧b<l.length then v else l.getD b []:=by
 rw[List.getD_eq_getElem?_getD,List.getElem?_set,List.getD_eq_getElem?_getD]
 by_cases h:k=b
 ·subst h
  by_cases h2:k<l.length
  ·simp [h2]
  ·simp [h2]
 ·simp [h]
def V5(c:Code)(I:List (List Int))(b:Nat):List Int:=cB (I8 c.b b).t I
def V4(c:Code)(I:List (List Int))(b:Nat):List Int:=atF (I8 c.b b) (V5 c I b) 0
theorem b4d{r:Int}{b:e8}{out:List Int}(ho:RB r out)(hg:∀x∈b.i,Q7 x<r∧RB r (w6 x))(i:Nat):RB r (atF b out i):=by
 unfold atF
 have:∀L:List l0,(∀x∈L,Q7 x<r∧RB r (w6 x))→RB r (L.foldr U4 out):=by
  intro L
  induction L with
  |nil=>intro _;exact ho
  |cons x L ih=>intro hg;exact RB.union (ih fun y hy=>hg y (by simp [hy])).iF (hg x (by simp)).2
 exact this _ fun x hx=>hg x (List.mem_of_mem_drop hx)
theorem zW{c:Code}(hc:C8 c){I O:List (List Int)}(h:Shp c I O){b:Nat}(hb:b<c.b.length):RB c.regs (V5 c I b):=by
 intro x hx
 rcases uO.1 hx with⟨⟨to,h1,h2⟩,_⟩|h1
 ·exact(h.i _).1 x h2
 ·exact(hc.rbT hb).2 x h1
theorem Shp.set{c:Code}(hc:C8 c){I O:List (List Int)}(h:Shp c I O){b:Nat}(hb:b<c.b.length):Shp c (I.set b (V4 c I b)) (O.set b (V5 c I b)):=by
 have hn:=zW hc h hb
 have hs:N1 (V5 c I b):=eP
 refine⟨by rw[List.length_set];exact h.li,by rw[List.length_set];exact h.lo,fun z=>?_,fun z=>?_⟩
 ·rw[H3];split
  ·exact⟨b4d hn (hc.rb hb) 0,a1o hs⟩
  ·exact h.i z
 ·rw[H3];split
  ·exact⟨hn,hs⟩
  ·exact h.o z
theorem Snd.V5{c:Code}{I O:List (List Int)}(h:Snd c I O){b:Nat}(hb:b<c.b.length)(hr:gI c.b (b:Int)):∀r∈V5 c I b,∀I' O',clo c I' O'→r∈O'.getD b []:=
 fun r hm I' O' hc=>(hc b hb hr).1 r (qI (fun k x hx=>(h.i k x hx).2.2 I' O' hc) r hm)
theorem Snd.V4{c:Code}{I O:List (List Int)}(h:Snd c I O){b:Nat}(hb:b<c.b.length)(hr:gI c.b (b:Int)):∀r∈V4 c I b,∀I' O',clo c I' O'→r∈I'.getD b []:=
 fun r hm I' O' hc=>(hc b hb hr).2 r (a6S (fun x hx=>h.V5 hb hr x hx I' O' hc) r hm)
theorem Snd.set{c:Code}{I O:List (List Int)}(h:Snd c I O){b:Nat}(hb:b<c.b.length)(hr:gI c.b (b:Int)):Snd c (I.set b (Go.Proofs.YtgdoiokalfhjoaaDoor.V4 c I b)) (O.set b (Go.Proofs.YtgdoiokalfhjoaaDoor.V5 c I b)):=by
 refine⟨fun k r hk=>?_,fun k r hk=>?_⟩
 ·rw[H3]at hk
  split at hk
  ·rename_i e
   obtain⟨rfl,_⟩:=e
   exact⟨hr,hb,h.V4 hb hr r hk⟩
  ·exact h.i k r hk
 ·rw[H3]at hk
  split at hk
  ·rename_i e
   obtain⟨rfl,_⟩:=e
   exact⟨hr,hb,h.V5 hb hr r hk⟩
  ·exact h.o k r hk
theorem oA:∀{b a:List Int},N1 a→N1 b→(∀x∈a,x∈b)→a.length≤b.length∧(b.length≤a.length→a=b)
 |[],a,sa,sb,h=>by
  cases a with
  |nil=>exact⟨by simp,fun _=>rfl⟩
  |cons x a=>have:=h x (by simp);simp at this
 |y::b,a,sa,sb,h=>by
  obtain⟨b1,b2⟩:=List.pairwise_cons.1 sb
  cases a with
  |nil=>exact⟨by simp,fun hl=>by simp at hl⟩
  |cons x a=>
   obtain⟨a1,a2⟩:=List.pairwise_cons.1 sa
   by_cases hxy:x=y
   ·subst hxy
    have hs:∀z∈a,z∈b:=fun z hz=>by
     rcases List.mem_cons.1 (h z (by simp [hz]))with rfl|h1
     ·have:=a1 z hz;omega
     ·exact h1
    obtain⟨h1,h2⟩:=oA a2 b2 hs
    exact⟨by simp;omega,fun hl=>by rw[h2 (by simpa using hl)]⟩
   ·have hx:x∈b:=(List.mem_cons.1 (h x (by simp))).resolve_left hxy
    have hs:∀z∈x::a,z∈b:=fun z hz=>by
     rcases List.mem_cons.1 hz with rfl|hz
     ·exact hx
     ·rcases List.mem_cons.1 (h z (by simp [hz]))with rfl|h1
      ·have h3:=a1 z hz;have h4:=b1 x hx;omega
      ·exact h1
    obtain⟨h1,h2⟩:=oA sa b2 hs
    exact⟨by simp at h1⊢;omega,fun hl=>by simp at h1 hl;omega⟩
theorem pJ{r:Int}{l:List Int}(h:RB r l)(sl:N1 l)(hr:0≤r):(l.length:Int)≤r:=by
 have:∀(n:Nat) (l:List Int),N1 l→(∀x∈l,r-(n:Int)≤x∧x<r)→l.length≤n:=by
  intro n
  induction n with
  |zero=>intro l _ h;cases l with
   |nil=>simp
   |cons x l=>have:=h x (by simp);omega
  |succ n ih=>
   intro l sl h
   cases l with
   |nil=>simp
   |cons x l=>
    obtain⟨s1,s2⟩:=List.pairwise_cons.1 sl
    have:=ih l s2 fun y hy=>by
     have h1:=s1 y hy
     have h2:=h x (by simp)
     have h3:=h y (by simp [hy])
     omega
    simp;omega
 have:=this r.toNat l sl fun x hx=>by have:=h x hx;omega
 omega
def pS(l:List (List Int)):Nat:=(l.map List.length).sum
theorem rV:∀(l:List (List Int)) (b:Nat) (v:List Int),b<l.length→pS (l.set b v)+(l.getD b []).length=pS l+v.length
 |[],b,v,h=>by simp at h
 |x::l,0,v,_=>by simp [pS];omega
 |x::l,b+1,v,h=>by
  have:=rV l b v (by simpa using h)
  simp [pS]at this⊢;omega
theorem a5W:∀(l:List (List Int)) (m:Nat),(∀z,(l.getD z []).length≤m)→pS l≤m*l.length
 |[],m,_=>by simp [pS]
 |x::l,m,h=>by
  have h1:=a5W l m fun z=>by simpa using h (z+1)
  have h2:x.length≤m:=by simpa using h 0
  simp [pS]at h1⊢
  rw[Nat.mul_add];omega
theorem vH(l:List (List Int))(b:Nat):l.set b (l.getD b [])=l:=by
 apply List.ext_getElem?
 intro k
 rw[List.getElem?_set]
 by_cases h:b=k
 ·subst h
  by_cases h2:b<l.length
  ·simp [h2]
  ·simp [h2]
 ·simp [h]
def Inc(c:Code)(I O:List (List Int)):Prop:=∀b,b<c.b.length→gI c.b (b:Int)→(∀r∈I.getD b [],r∈V4 c I b)∧∀r∈O.getD b [],r∈V5 c I b
theorem pI{c:Code}{I I':List (List Int)}(h:∀b,∀r∈I.getD b [],r∈I'.getD b [])(b:Nat):∀r∈V5 c I b,r∈V5 c I' b:=qI h
theorem zX{c:Code}{I I':List (List Int)}(h:∀b,∀r∈I.getD b [],r∈I'.getD b [])(b:Nat):∀r∈V4 c I b,r∈V4 c I' b:=a6S (pI h b)
theorem Inc.grow{c:Code}{I O:List (List Int)}(h:Inc c I O){b:Nat}(hb:b<c.b.length)(hr:gI c.b (b:Int)):∀k,∀r∈I.getD k [],r∈(I.set b (V4 c I b)).getD k []:=fun k r hk=>by
 rw[H3]
 split
 ·rename_i e
  obtain⟨rfl,_⟩:=e
  exact(h b hb hr).1 r hk
 ·exact hk
theorem Inc.set{c:Code}{I O:List (List Int)}(h:Inc c I O){b:Nat}(hb:b<c.b.length)(hr:gI c.b (b:Int)):Inc c (I.set b (V4 c I b)) (O.set b (V5 c I b)):=by
 have hg:=h.grow hb hr
 intro k hk hrk
 constructor
 ·intro r hm
  rw[H3]at hm
  split at hm
  ·rename_i e
   obtain⟨rfl,_⟩:=e
   exact zX hg b r hm
  ·exact zX hg k r ((h k hk hrk).1 r hm)
 ·intro r hm
  rw[H3]at hm
  split at hm
  ·rename_i e
   obtain⟨rfl,_⟩:=e
   exact pI hg b r hm
  ·exact pI hg k r ((h k hk hrk).2 r hm)
structure FI (c:Code) (I O:List (List Int)):Prop where
 s:Shp c I O
 n:Snd c I O
 g:Inc c I O
theorem FI.set{c:Code}(hc:C8 c){I O:List (List Int)}(h:FI c I O){b:Nat}(hb:b<c.b.length)(hr:gI c.b (b:Int)):FI c (I.set b (V4 c I b)) (O.set b (V5 c I b)):=
 ⟨h.s.set hc hb,h.n.set hb hr,h.g.set hb hr⟩
theorem FI.zero(c:Code):FI c (List.replicate c.b.length []) (List.replicate c.b.length []):=by
 have e:∀z,(List.replicate c.b.length ([]:List Int)).getD z []=[]:=fun z=>by
  rw[List.getD_eq_getElem?_getD,List.getElem?_replicate];split<;>rfl
 refine⟨⟨by simp,by simp,fun z=>by rw[e];exact⟨RB.nil,N1.nil⟩,fun z=>by rw[e];exact⟨RB.nil,N1.nil⟩⟩,⟨fun b r h=>by rw[e]at h;simp at h,fun b r h=>by rw[e]at h;simp at h⟩,fun b _ _=>⟨fun r h=>by rw[e]at h;simp at h,fun r h=>by rw[e]at h;simp at h⟩⟩
theorem FI.b19{c:Code}(hc:C8 c){I O:List (List Int)}(h:FI c I O):pS I≤16*c.b.length∧pS O≤16*c.b.length:=by
 have hr:=hc.r
 constructor
 ·have:=a5W I 16 fun z=>by have:=pJ (h.s.i z).1 (h.s.i z).2 hr.1;omega
  rwa [h.s.li]at this
 ·have:=a5W O 16 fun z=>by have:=pJ (h.s.o z).1 (h.s.o z).2 hr.1;omega
  rwa [h.s.lo]at this
theorem FI.done{c:Code}{I O:List (List Int)}(h:FI c I O)(he:∀b,b<c.b.length→gI c.b (b:Int)→O.getD b []=V5 c I b∧I.getD b []=V4 c I b):liveF c=(I,O):=
 a0Z ⟨h.s,h.n,fun b hb hr=>by
  obtain⟨e1,e2⟩:=he b hb hr
  refine⟨fun r hm=>by rw[e1];exact hm,fun r hm=>?_⟩
  rw[e1]at hm
  rw[e2];exact hm⟩
noncomputable def refS (c:Code) (I O:List (List Int)):Nat→List (List Int)×List (List Int)×Bool
 |0=>(I,O,false)
 |b+1=>
  let p:=refS c I O b
  if(reachF c.b).getD b false=true then
   (p.1.set b (V4 c p.1 b),p.2.1.set b (V5 c p.1 b),p.2.2||decide ((p.2.1.getD b []).length<(V5 c p.1 b).length∨(p.1.getD b []).length<(V4 c p.1 b).length))
  else p
theorem a1e{c:Code}(hc:C8 c){I O:List (List Int)}(h:FI c I O):∀b,b≤c.b.length→FI c (refS c I O b).1 (refS c I O b).2.1∧pS I+pS O+(if(refS c I O b).2.2=true then 1 else 0)≤pS (refS c I O b).1+pS (refS c I O b).2.1∧
  ((refS c I O b).2.2=false→(refS c I O b).1=I∧(refS c I O b).2.1=O∧∀k,k<b→gI c.b (k:Int)→O.getD k []=V5 c I k∧I.getD k []=V4 c I k)
 |0,_=>⟨h,by simp [refS],fun _=>⟨rfl,rfl,fun k hk=>by omega⟩⟩
 |b+1,hb=>by
  obtain⟨h1,h2,h3⟩:=a1e hc h b (by omega)
  have hra:=aF c.b (show b<c.b.length by omega)
  unfold refS
  generalize refS c I O b=p at*
  obtain⟨J,P,a⟩:=p
  simp only at h1 h2 h3⊢
  by_cases hr:(reachF c.b).getD b false=true
  ·rw[if_pos hr]
   have hrc:=hra.1 hr
   have hlb:b<c.b.length:=by omega
   have g:=h1.g b hlb hrc
   have s1:=(h1.set hc hlb hrc).s
   have nI:N1 (V4 c J b):=a1o eP
   have nO:N1 (V5 c J b):=eP
   obtain⟨l1,e1⟩:=oA (h1.s.i b).2 nI g.1
   obtain⟨l2,e2⟩:=oA (h1.s.o b).2 nO g.2
   have t1:=rV J b (V4 c J b) (by rw[h1.s.li];exact hlb)
   have t2:=rV P b (V5 c J b) (by rw[h1.s.lo];exact hlb)
   refine⟨h1.set hc hlb hrc,?_,fun ha=>?_⟩
   ·simp only
    cases a with
    |true=>simp only[Bool.true_or,if_true]at h2⊢;omega
    |false=>
     simp only[Bool.false_or,decide_eq_true_eq,Bool.false_eq_true,if_false]at h2⊢
     split<;>omega
   ·simp only[Bool.or_eq_false_iff,decide_eq_false_iff_not]at ha
    obtain⟨ha,hd⟩:=ha
    obtain⟨rfl,rfl,h4⟩:=h3 ha
    have q1:=e1 (by omega)
    have q2:=e2 (by omega)
    refine⟨by rw[←q1];exact vH _ _,by rw[←q2];exact vH _ _,fun k hk hrk=>?_⟩
    rcases Nat.lt_succ_iff_lt_or_eq.1 hk with h5|rfl
    ·exact h4 k h5 hrk
    ·exact⟨q2,q1⟩
  ·rw[if_neg hr]
   refine⟨h1,h2,fun ha=>?_⟩
   obtain⟨r1,r2,h4⟩:=h3 ha
   refine⟨r1,r2,fun k hk hrk=>?_⟩
   rcases Nat.lt_succ_iff_lt_or_eq.1 hk with h5|rfl
   ·exact h4 k h5 hrk
   ·exact absurd (hra.2 hrk) hr
theorem b3l{c:Code}(hc:C8 c):∀(m:Nat) (I O:List (List Int)),FI c I O→32*c.b.length-(pS I+pS O)≤m→
  ∃J P,FI c J P∧∀b,b<c.b.length→gI c.b (b:Int)→P.getD b []=V5 c J b∧J.getD b []=V4 c J b:=by
 intro m
 induction m with
 |zero=>
  intro I O h hm
  obtain⟨f1,f2,f3⟩:=a1e hc h c.b.length (Nat.le_refl _)
  have s1:=h.b19 hc
  have s2:=f1.b19 hc
  cases ha:(refS c I O c.b.length).2.2 with
  |false=>exact⟨I,O,h,(f3 ha).2.2⟩
  |true=>rw[ha]at f2;simp only[if_true]at f2;omega
 |succ m ih=>
  intro I O h hm
  obtain⟨f1,f2,f3⟩:=a1e hc h c.b.length (Nat.le_refl _)
  cases ha:(refS c I O c.b.length).2.2 with
  |false=>exact⟨I,O,h,(f3 ha).2.2⟩
  |true=>
   rw[ha]at f2
   simp only[if_true]at f2
   exact ih _ _ f1 (by omega)
theorem kA{c:Code}(hc:C8 c):Lst c (liveF c).1 (liveF c).2:=by
 obtain⟨J,P,h,he⟩:=b3l hc _ _ _ (FI.zero c) (Nat.le_refl _)
 have hl:=h.done he
 rw[hl]
 exact⟨h.s,h.n,fun b hb hr=>by
  obtain⟨e1,e2⟩:=he b hb hr
  refine⟨fun r hm=>by rw[e1];exact hm,fun r hm=>?_⟩
  rw[e1]at hm
  rw[e2];exact hm⟩
theorem b1y{c:Code}(hc:C8 c)(z:Nat):((liveF c).1.getD z []).length≤100∧((liveF c).2.getD z []).length≤100:=by
 have h:=(kA hc).shp
 have hr:=hc.r
 have h1:=pJ (h.i z).1 (h.i z).2 hr.1
 have h2:=pJ (h.o z).1 (h.o z).2 hr.1
 omega
theorem zS{c:Code}(hc:C8 c):a5C c.regs (liveF c).1∧a5C c.regs (liveF c).2:=by
 have h:=(kA hc).shp
 have key:∀l:List Int,RB c.regs l→N1 l→okL c.regs l:=by
  intro l hb hs k hk
  have e:l.getD k 0=l[k]:=jD hk
  have hm:=hb l[k] (List.getElem_mem hk)
  refine⟨?_,by rw[e];exact hm.2⟩
  unfold a0e
  split
  ·rw[e];omega
  ·rw[jD (show k-1<l.length by omega),e]
   exact List.pairwise_iff_getElem.1 hs (k-1) k (by omega) hk (by omega)
 exact⟨fun i _=>key _ (h.i i).1 (h.i i).2,fun i _=>key _ (h.o i).1 (h.o i).2⟩
def kV(n:Int):H8:=⟨2,n,0⟩
def kP(l:List Int)(r:Int):Int:=(l.idxOf r:Nat)
def A4(l uses:List Int):List Int:=uses.filter fun r=>decide (r∈l)
def b66(l:List Int)(regs:Int)(r k:Int):l0:=⟨11,0,kP l r,kV (regs+k),O0,O0,O0⟩
def P5(l inn:List Int)(regs:Int):List l0:=(List.range inn.length).map fun k=>b66 l regs (inn.getD k 0) k
def K9(o:H8)(inn:List Int)(regs:Int):H8:=if o.k=2∧o.n∈inn then kV (regs+kP inn o.n)else o
def b7g(l:List Int)(regs:Int)(r:Int):l0:=⟨12,0,kP l r,O0,kV regs,O0,O0⟩
def b1d(l:List Int)(regs:Int)(i:l0):l0:=
 {i with a:=K9 i.a (A4 l (w6 i)) regs,b:=K9 i.b (A4 l (w6 i)) regs,c:=K9 i.c (A4 l (w6 i)) regs,d:=if Q7 i∈l then kV regs else i.d}
def cI(l:List Int)(regs:Int)(i:l0):List l0:=
 P5 l (A4 l (w6 i)) regs++b1d l regs i::if Q7 i∈l then[b7g l regs (Q7 i)]else[]
def W7(l:List Int)(regs:Int)(b:e8):e8:=
 ⟨b.i.flatMap (cI l regs)++P5 l (A4 l (u9 b.t)) regs,{b.t with a:=K9 b.t.a (A4 l (u9 b.t)) regs,b:=K9 b.t.b (A4 l (u9 b.t)) regs}⟩
def p9(c:Code)(l:List Int):Code:=if l=[]then c else{c with I2:=l.length,regs:=c.regs+3,b:=c.b.map (W7 l c.regs)}
def dL(c:Code):Prop:=c.regs≤256∧(c.b.map fun b=>b.i.length).sum≤2000
def a4u(c:Code)(r:Int):Prop:=∃b,b<c.b.length∧gI c.b (b:Int)∧(r∈u9 (I8 c.b b).t∨∃i∈(I8 c.b b).i,r∈w6 i∨r=Q7 i)
def b0E(c:Code)(r:Int):Prop:=∃b,b<c.b.length∧gI c.b (b:Int)∧(r=O3 (I8 c.b b).t∨(I8 c.b b).t.kind=4∧r∈u9 (I8 c.b b).t)
noncomputable def spF (c:Code):List Bool:=(List.range c.regs.toNat).map fun(r:Nat)=>Decidable.decide (h:=Classical.propDecidable _) (a4u c r∧¬b0E c r)
end Go.Proofs.YtgdoiokalfhjoaaDoor
end
