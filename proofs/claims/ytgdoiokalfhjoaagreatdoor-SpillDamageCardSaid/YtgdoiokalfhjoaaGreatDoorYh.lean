/- Own work (by an AI agent; no person has read it): part of a proof of the seat YtgdoiokalfhjoaaGreatDoor. -/
import Derived.Test.YtgdoiokalfhjoaaGreatDoorYg
set_option linter.unusedSimpArgs false
set_option linter.unusedVariables false
set_option maxRecDepth 100000
set_option maxHeartbeats 10000000
section
namespace Go.Proofs.YtgdoiokalfhjoaaGreatDoor
open Go.Ab
def RB(r:Int)(l:List Int):Prop:=∀x∈l,0≤x∧x<r
theorem RB.nil{r:Int}:RB r []:=by intro x hx;simp at hx
theorem RB.union{r:Int}{a b:List Int}(h:RB r a)(hb:RB r b):RB r (D5 a b):=fun x hx=>by
 rcases Q9.1 hx with hx|hx
 ·exact h x hx
 ·exact hb x hx
theorem RB.iX{r:Int}{l:List Int}(h:RB r l){n:Int}:RB r (P5 l n):=fun x hx=>h x (bO.1 hx).1
theorem RB.with{r:Int}{l:List Int}(h:RB r l){n:Int}(hn:n<r):RB r (bQ l n):=fun x hx=>by
 rcases a8n.1 hx with⟨h1,rfl⟩|hx
 ·exact⟨h1,hn⟩
 ·exact h x hx
theorem RB.r64{r:Int}{l:List Int}(h:RB r l)(hr:r≤64):aY l:=fun x hx=>by have:=h x hx;omega
theorem RB.len{r:Int}{l:List Int}(h:RB r l)(sl:I9 l)(hr:r≤64):l.length≤1000:=c1n (h.r64 hr) sl
theorem b5X{r:Int}{L:List e7}(hg:∀x,E9 (L.getD x I0)<r∧RB r (o5 (L.getD x I0))):∀{out:List Int},RB r out→I9 out→∀pre:List Nat,RB r (dW L out pre)∧I9 (dW L out pre):=by
 intro out ho so pre
 induction pre generalizing out with
 |nil=>exact⟨ho,so⟩
 |cons x pre ih=>exact ih (RB.union ho.iX (hg x).2) (mM so)
theorem c1p{r:Int}{L:List e7}(hr:0≤r)(h:∀x∈L,E9 x<r∧RB r (o5 x))(x:Nat):E9 (L.getD x I0)<r∧RB r (o5 (L.getD x I0)):=by
 by_cases hx:x<L.length
 ·rw[List.getD_eq_getElem?_getD,List.getElem?_eq_getElem hx];exact h _ (List.getElem_mem hx)
 ·rw[List.getD_eq_getElem?_getD,List.getElem?_eq_none (by omega)]
  exact⟨by show(-1:Int)<r;omega,RB.nil⟩
theorem y3.rb{c:Code}(h:y3 c){b:Nat}(hb:b<c.b.length):∀x∈(B6 c.b b).i,E9 x<c.regs∧RB c.regs (o5 x):=fun x hx=>by
 have h1:=(h.blk hb).i x hx
 exact⟨(sW h1.d h.r.1).2,a2Y h1⟩
theorem y3.rbT{c:Code}(h:y3 c){b:Nat}(hb:b<c.b.length):F3 (B6 c.b b).t<c.regs∧RB c.regs (n6 (B6 c.b b).t):=by
 have h1:=(h.blk hb).t
 exact⟨(sW h1.d h.r.1).2,a3A h1⟩
theorem a4q{r:Int}{L:List (List Int)}(h:b0l r L)(z:Nat):RB r (L.getD z [])∧I9 (L.getD z []):=by
 by_cases hz:z<L.length
 ·exact⟨c3Y (h z hz),c3Z (h z hz)⟩
 ·rw[List.getD_eq_getElem?_getD,List.getElem?_eq_none (by omega)]
  exact⟨RB.nil,I9.nil⟩
def mx(x y:Int):Int:=if x<y then y else x
def b0m(p:Int×List Int)(y:e7):Int×List Int:=(mx p.1 (bQ p.2 (E9 y)).length,U1 y p.2)
def b39(L:List e7)(m:Int)(out:List Int)(pre:List Nat):Int×List Int:=pre.foldl (fun p i=>b0m p (L.getD i I0)) (m,out)
theorem b4a(L:List e7)(m:Int)(out:List Int)(pre:List Nat)(x:Nat):b39 L m out (pre++[x])=b0m (b39 L m out pre) (L.getD x I0):=by
 unfold b39;rw[List.foldl_append];rfl
theorem b7J(L:List e7)(out:List Int)(pre:List Nat):∀(m:Int),(b39 L m out pre).2=dW L out pre:=by
 induction pre generalizing out with
 |nil=>intro m;rfl
 |cons x pre ih=>intro m;exact ih _ _
def prT(I:List (List Int))(t:q9)(m:Int):Int:=if 0≤F3 t then mx m (bQ (I.getD t.t0.toNat []) (F3 t)).length else m
def prB(I O:List (List Int))(B:b6)(b:Nat)(m:Int):Int:=prT I B.t (b39 B.i (mx (mx m (I.getD b []).length) (O.getD b []).length) (O.getD b []) (bY B.i.length B.i.length)).1
noncomputable def prF (c:Code) (I O:List (List Int)):Nat→Int
 |0=>0
 |b+1=>if(reachF c.b).getD b false=true then prB I O (B6 c.b b) b (prF c I O b)else prF c I O b
def fN:=ZZ.mk (Zq vT.d (Zq @L4.eq_1 (Zq @a3a (Zq @iQ (Zq @tC (Zq @dF (Zq @I2 (Zq @b6.av.eq_1 (Zq @q9.av.eq_1 (Zq @List.cons_append.{0} (Zq @List.nil_append.{0} (Zq @Q8 (Zq @T6 (Zq @cY (Zq @D4 (Zq @Q7 @N7))))))))))))))))
theorem a3L(c:Code)(I O:List (List Int))(hc:y3 c)(hr12:c.regs≤15)(hi:b0l c.regs I)(ho:b0l c.regs O)(hil:I.length=c.b.length)(hol:O.length=c.b.length):
  e8 Tryz.prog 29 [.agg c.av,.agg [.a8 false (lists I),.a8 false (lists O)]] (fun _=> .v (.int .i64 (prF c I O c.b.length))) (fun _=>[]):=by
 have hr:=hc.r
 have hn:=hc.n
 have hrl:=bI c.b
 have C3:=pE c hc.succ (by omega)
 simp only[Code.av]at C3
 refine Zf Tryz.func29 Tryz.ntmps29 ?_;simp only[Code.av]
 repeat' (first|refine Za ?_|(with_reducible constructor<;>first|intro N hN mk hmk|intro N hN|intro h)|refine Zc C3 ?_|refine Zt L5.d ?_|fail)
 refine l8 (fun b=>⟨[.Z,.Z,.ptr 0 0 0,.ptr 1 0 0,.Z,.ptr 2 0 0,.Z,.Z,.Z,.Z,.Z,.Z,.Z,.a8 false (u3 (reachF c.b)),.v (.int .i64 c.b.length),.v (.int .i64 b),.Z,.Z,.Z,.Z,.Z,.Z,.Z,.Z,.Z,.Z,.Z,.Z,.Z,.Z,.Z,.Z,.Z,.Z,.Z,.Z,.Z,.Z,.Z,.Z,.Z,.Z,.Z,.Z,.Z,.Z,.Z,.Z,.Z,.Z,.Z,.Z,.Z,.Z,.Z,.Z,.Z,.Z,.Z,.Z,.Z,.Z,.Z,.Z,.Z,.Z,.Z,.Z,.Z,.Z,.Z,.Z,.Z,.Z,.Z,.Z,.Z,.Z,.Z,.Z,.Z,.Z],[(0,.live ⟨8,[[.v (.int .i64 c.group),.v (.int .i64 c.sub),.v (.int .i64 c.regs),.v (.int .i64 c.w5),.v (.int .i64 c.params),.a8 false (y4 c.c9),.a8 false (loops c.loops),.a8 false (o0 c.b)]],0⟩),(1,.live ⟨2,[[.a8 false (lists I),.a8 false (lists O)]],0⟩),(2,.live ⟨1,[[.v (.int .i64 (prF c I O b))]],0⟩)],3⟩) c.b.length (Zw [2,3,5,13,14,15] [0,8,24] L5.d ?_) ?_
 ·simp only[Q8,bI];rfl
 ·intro b hb
  dsimp only
  by_cases hlt:b<c.b.length
  ·obtain⟨B,hB⟩:∃B,B=B6 c.b b:=⟨_,rfl⟩
   have hB':c.b.getD b B0=B:=hB.symm
   have hgt:=hc.rbT hlt
   have hgi:=hc.rb hlt
   have hbl:=(hc.blk hlt).l
   have hto:=(hc.blk hlt).t.succ
   rw[←hB]at hgt hgi hbl hto
   obtain⟨i1,i2⟩:=a4q hi b
   obtain⟨o1,o2⟩:=a4q ho b
   have K1:=a3K (O.getD b []) (o1.r64 (by omega)) (by have:=o1.len o2 (by omega);omega)
   rw[a3C o2]at K1
   have K2:=wM (O.getD b []) (fun x hx=>by have:=o1 x hx;omega) o2 (o1.len o2 (by omega))
   have K3:=c1S B.i
   have ilen:=i1.len i2 (by omega)
   have olen:=o1.len o2 (by omega)
   repeat' (first|refine Za ?_|(with_reducible constructor<;>first|intro N hN mk hmk|intro N hN|intro h)|refine Zc K1 ?_|refine Zc K2 ?_|(refine H5 K3 ?_ rfl ?_ ?_;(next=>(simp (disch:=omega) only[fN.d,hB',hrl,hil,hol,u6,Nat.reduceBEq,AV.plain,Nat.reduceAdd,Nat.reduceLeDiff,Nat.reduceLT,↓reduceIte,sF]<;>first|done|rfl));(next=>(simp only[apply_ite List.length,List.length_cons,List.length_nil]<;>(try split)<;>omega)))|(refine F1 K3 ?_ rfl ?_ ?_;(next=>(simp (disch:=omega) only[fN.d,hB',hrl,hil,hol,u6,Nat.reduceBEq,AV.plain,Nat.reduceAdd,Nat.reduceLeDiff,Nat.reduceLT,↓reduceIte,sF]<;>first|done|rfl));(next=>(simp only[apply_ite List.length,List.length_cons,List.length_nil]<;>(try split)<;>omega)))|refine Zt (Zq fN.d (Zq hB' (Zq hrl (Zq hil hol)))) ?_|fail)
   ·refine Zw [2,3,5,13,14,15] [0,1,2] (Zq fN.d (Zq hB' (Zq hrl (Zq hil hol)))) ?_
    rw[show prF c I O (b+1)=prF c I O b from by show(if _ then _ else _)=_;rw[if_neg (by simp_all)]]
    rfl
   ·refine a3G 44 (y:= .fn 159 [.aA [[.a8 false (c6 B.i)]] 0 0]) (by simp (maxSteps:=10000000) (disch:=omega) only[fN.d,hB',hrl,hil,hol,l9,P7,s9,A2,p7,o3,AV.kept,b7,n4,u0,B3,p9,o9,b8,AV.y8,m8,v8,AV.plain,rd,u6,a6,P6,stepC,AV.e6,AV.S9,AV.w6,AV.L8,AV.scalar,T8,s6,A6,A9,B1,A8,o8,A5,U0,s7,A7,z8,j3,T7,l0,y7,y5,Q0,z6,j8,TD.isRow,s8,j7,j9,j6,F4,Value.oneCell',↓reduceIte,Int.reduceNe,Int.reduceEq,Nat.reduceAdd,Nat.reduceLT,Nat.reduceLeDiff,Nat.reduceSub,Nat.reduceMul,Nat.reduceBEq,Nat.reduceEqDiff,reduceCtorEq,Int.reduceToNat,←decide_not,←Bool.decide_and,sA,sN]<;>first|done|rfl) rfl ?_;simp (maxSteps:=10000000) (disch:=omega) only[a6,n4,y0,fN.d,hB',hrl,hil,hol,l9,P7,s9,A2,p7,o3,AV.kept,b7,n4,u0,B3,p9,o9,b8,AV.y8,m8,v8,AV.plain,rd,u6,a6,P6,stepC,AV.e6,AV.S9,AV.w6,AV.L8,AV.scalar,T8,s6,A6,A9,B1,A8,o8,A5,U0,s7,A7,z8,j3,T7,l0,y7,y5,Q0,z6,j8,TD.isRow,s8,j7,j9,j6,F4,Value.oneCell',↓reduceIte,Int.reduceNe,Int.reduceEq,Nat.reduceAdd,Nat.reduceLT,Nat.reduceLeDiff,Nat.reduceSub,Nat.reduceMul,Nat.reduceBEq,Nat.reduceEqDiff,reduceCtorEq,Int.reduceToNat,←decide_not,←Bool.decide_and,sA,sN]
    have hpr:prF c I O (b+1)=prB I O B b (prF c I O b):=by rw[hB];show(if _ then _ else _)=_;rw[if_pos (by simp_all)]
    have hg:=c1p hr.1 hgi
    have htt:0≤F3 B.t→0≤B.t.t0∧B.t.t0<c.b.length:=fun h=>by
     have hb0:=(hc.blk hlt).t
     rw[←hB]at hb0
     have hk:B.t.d.k=2:=by
      apply Classical.byContradiction
      intro hk
      have:F3 B.t= -1:=by show(if _ then _ else _)=_;rw[if_neg hk]
      omega
     exact hb0.to (hb0.dk hk)
    refine b1G rfl B.i (fun pre=>⟨[.Z,.Z,.ptr 0 0 0,.ptr 1 0 0,.Z,.ptr 2 0 0,.v (.int .i64 b),.Z,.ptr 3 0 0,.Z,.Z,.Z,.Z,.a8 false (u3 (reachF c.b)),.v (.int .i64 c.b.length),.v (.int .i64 b),.Z,.Z,.Z,.Z,.Z,.Z,.Z,.Z,.Z,.Z,.Z,.Z,.Z,.Z,.Z,.Z,.Z,.Z,.Z,.Z,.Z,.Z,.Z,.Z,.Z,.Z,.Z,.Z,.fn 159 [.aA [[.a8 false (c6 B.i)]] 0 0],.Z,.Z,.Z,.Z,.Z,.Z,.Z,.Z,.Z,.Z,.Z,.Z,.Z,.Z,.Z,.Z,.Z,.Z,.Z,.Z,.Z,.Z,.Z,.Z,.Z,.Z,.Z,.Z,.Z,.Z,.Z,.Z,.Z,.Z,.Z,.Z,.Z],[(0,.live ⟨8,[[.v (.int .i64 c.group),.v (.int .i64 c.sub),.v (.int .i64 c.regs),.v (.int .i64 c.w5),.v (.int .i64 c.params),.a8 false (y4 c.c9),.a8 false (loops c.loops),.a8 false (o0 c.b)]],0⟩),(1,.live ⟨2,[[.a8 false (lists I),.a8 false (lists O)]],0⟩),(2,.live ⟨1,[[.v (.int .i64 (b39 B.i (mx (mx (prF c I O b) (I.getD b []).length) (O.getD b []).length) (O.getD b []) pre).1)]],0⟩),(3,.live ⟨4,[[.v (.int .u64 (D3 (dW B.i (O.getD b []) pre))),.v (.int .u64 0),.v (.int .u64 0),.v (.int .u64 0)]],0⟩)],4⟩) 7 [2,3,5,8] (by omega) rfl (Zw [2,3,5,6,8,13,14,15,44] [0,1,2,115] (Zq fN.d (Zq hB' (Zq hrl (Zq hil hol)))) rfl) (fun _=>⟨by simp,by simp⟩) (fun _=>rfl) (fun _=>by simp [b7]) (fun pre x hlx=>?_) ?_
    ·obtain⟨h1,h2⟩:=b5X hg o1 o2 pre
     have hgx:=hg x
     have hsn:=b4a B.i (mx (mx (prF c I O b) (I.getD b []).length) (O.getD b []).length) (O.getD b []) pre x
     have hsd:=b7J B.i (O.getD b []) pre (mx (mx (prF c I O b) (I.getD b []).length) (O.getD b []).length)
     have hbs:=wG B.i (O.getD b []) pre x
     have J1:=sU (B.i.getD x I0)
     have J2:=wP (dW B.i (O.getD b []) pre) (E9 (B.i.getD x I0)) (h1.r64 (by omega)) (by omega)
     have h3:RB c.regs (bQ (dW B.i (O.getD b []) pre) (E9 (B.i.getD x I0))):=h1.with hgx.1
     have h4:=a8U h2 (E9 (B.i.getD x I0))
     have J3:=wM (bQ (dW B.i (O.getD b []) pre) (E9 (B.i.getD x I0))) (fun z hz=>by have:=h3 z hz;omega) h4 (h3.len h4 (by omega))
     have h5:=h3.len h4 (by omega)
     have J4:=wJ (B.i.getD x I0) (dW B.i (O.getD b []) pre) (h1.r64 (by omega)) h2 (by omega) (hgx.2.r64 (by omega))
     rw[←hbs]at J4
     generalize B.i.getD x I0=y at*
     simp only[e7.av,L4]at J1 J2 J3 J4
     simp only[b7V,LS.tf,List.map_cons,List.map_nil,e7.av]
     repeat' (first|refine Za ?_|(with_reducible constructor<;>first|intro N hN mk hmk|intro N hN|intro h)|refine Zs (Zq fN.d (Zq hB' (Zq hrl (Zq hil hol)))) ?_|fail)
     refine⟨rfl,?_⟩
     repeat' (first|refine Za ?_|(with_reducible constructor<;>first|intro N hN mk hmk|intro N hN|intro h)|refine Zc J1 ?_|refine Zc J2 ?_|refine Zc J3 ?_|refine Zc J4 ?_|refine Zs (Zq fN.d (Zq hB' (Zq hrl (Zq hil hol)))) ?_|fail)
     refine b2u 4 rfl ?_ ?_ ?_
     ·simp [b7,B7]
     ·rfl
     ·refine fV (keep:=[2,3,5,6,8,13,14,15,44]) (ids:=[0,1,2,3]) (s':=_) (by simp only[B7,o3,Y2,AV.kept,List.map_cons,List.map_nil,List.all_cons,List.all_nil,if_true,if_false,Nat.reduceEqDiff,LS.tf,fN.d,hB',hrl,hil,hol,c5,n9,b5,c8,n5,w8,AV.plain,Nat.reduceBEq,↓reduceIte,Nat.reduceEqDiff,Nat.reduceAdd,sC];rfl) ?_
      rw[hsn]
      simp only[b0m,hsd]
      rfl
    ·rw[hpr]
     have J1:=wK B.t
     by_cases hd:0≤F3 B.t
     ·obtain⟨t1,t2⟩:=htt hd
      obtain⟨q1,q2⟩:=a4q hi B.t.t0.toNat
      have J2:=a3K (I.getD B.t.t0.toNat []) (q1.r64 (by omega)) (by have:=q1.len q2 (by omega);omega)
      rw[a3C q2]at J2
      have J3:=wP (I.getD B.t.t0.toNat []) (F3 B.t) (q1.r64 (by omega)) (by omega)
      have h3:RB c.regs (bQ (I.getD B.t.t0.toNat []) (F3 B.t)):=q1.with hgt.1
      have h4:=a8U q2 (F3 B.t)
      have h5:=h3.len h4 (by omega)
      have J4:=wM (bQ (I.getD B.t.t0.toNat []) (F3 B.t)) (fun z hz=>by have:=h3 z hz;omega) h4 h5
      have e:∀m,prT I B.t m=mx m (bQ (I.getD B.t.t0.toNat []) (F3 B.t)).length:=fun m=>by unfold prT;rw[if_pos hd]
      unfold prB
      rw[e]
      simp only[q9.av,L4]at J1 J2 J3 J4
      repeat' (first|refine Za ?_|(with_reducible constructor<;>first|intro N hN mk hmk|intro N hN|intro h)|refine Zc J1 ?_|refine Zc J2 ?_|refine Zc J3 ?_|refine Zc J4 ?_|refine Zt (Zq fN.d (Zq hB' (Zq hrl (Zq hil hol)))) ?_|fail)
      refine Zw [2,3,5,13,14,15] [0,1,2] (Zq fN.d (Zq hB' (Zq hrl (Zq hil hol)))) ?_
      rfl
     ·have e:∀m,prT I B.t m=m:=fun m=>by unfold prT;rw[if_neg hd]
      unfold prB
      rw[e]
      simp only[q9.av,L4]at J1
      repeat' (first|refine Za ?_|(with_reducible constructor<;>first|intro N hN mk hmk|intro N hN|intro h)|refine Zc J1 ?_|refine Zt (Zq fN.d (Zq hB' (Zq hrl (Zq hil hol)))) ?_|fail)
      refine Zw [2,3,5,13,14,15] [0,1,2] (Zq fN.d (Zq hB' (Zq hrl (Zq hil hol)))) ?_
      rfl
  ·obtain rfl:b=c.b.length:=by omega
   repeat' (first|refine Za ?_|(with_reducible constructor<;>first|intro N hN mk hmk|intro N hN|intro h)|refine Zt L5.d ?_|fail)
def clo(c:Code)(I O:List (List Int)):Prop:=∀b,b<c.b.length→fJ c.b (b:Int)→
 (∀r∈cE (B6 c.b b).t I,r∈O.getD b [])∧(∀r∈atF (B6 c.b b) (O.getD b []) 0,r∈I.getD b [])
structure Snd (c:Code) (I O:List (List Int)):Prop where
 i:∀b r,r∈I.getD b []→fJ c.b (b:Int)∧b<c.b.length∧∀I' O',clo c I' O'→r∈I'.getD b []
 o:∀b r,r∈O.getD b []→fJ c.b (b:Int)∧b<c.b.length∧∀I' O',clo c I' O'→r∈O'.getD b []
structure Shp (c:Code) (I O:List (List Int)):Prop where
 li:I.length=c.b.length
 lo:O.length=c.b.length
 i:∀z,RB c.regs (I.getD z [])∧I9 (I.getD z [])
 o:∀z,RB c.regs (O.getD z [])∧I9 (O.getD z [])
structure Lst (c:Code) (I O:List (List Int)):Prop where
 shp:Shp c I O
 snd:Snd c I O
 clo:clo c I O
theorem a2N{a b:List (List Int)}(hl:a.length=b.length)(h:∀k,a.getD k []=b.getD k []):a=b:=by
 apply List.ext_getElem hl
 intro k h1 h2
 have:=h k
 rw[List.getD_eq_getElem?_getD,List.getD_eq_getElem?_getD,List.getElem?_eq_getElem h1,List.getElem?_eq_getElem h2]at this
 exact this
theorem Lst.unique{c:Code}{I O I' O':List (List Int)}(h:Lst c I O)(h':Lst c I' O'):I=I'∧O=O':=by
 constructor
 ·refine a2N (by rw[h.shp.li,h'.shp.li]) fun k=>I9.ext (h.shp.i k).2 (h'.shp.i k).2 fun r=>⟨fun hr=>(h.snd.i k r hr).2.2 _ _ h'.clo,fun hr=>(h'.snd.i k r hr).2.2 _ _ h.clo⟩
 ·refine a2N (by rw[h.shp.lo,h'.shp.lo]) fun k=>I9.ext (h.shp.o k).2 (h'.shp.o k).2 fun r=>⟨fun hr=>(h.snd.o k r hr).2.2 _ _ h'.clo,fun hr=>(h'.snd.o k r hr).2.2 _ _ h.clo⟩
noncomputable def liveF (c:Code):List (List Int)×List (List Int):=haveI:=Classical.propDecidable (∃p:List (List Int)×List (List Int),Lst c p.1 p.2)
 if h:∃p:List (List Int)×List (List Int),Lst c p.1 p.2 then Classical.choose h else([],[])
theorem a4f{c:Code}{I O:List (List Int)}(h:Lst c I O):liveF c=(I,O):=by
 have hx:∃p:List (List Int)×List (List Int),Lst c p.1 p.2:=⟨(I,O),h⟩
 have e:liveF c=Classical.choose hx:=by unfold liveF;rw[dif_pos hx]
 have hs:=Classical.choose_spec hx
 obtain⟨h1,h2⟩:=hs.unique h
 rw[e]
 exact Prod.ext h1 h2
theorem F2(l:List (List Int))(k b:Nat)(v:List Int):(l.set k v).getD b []=if k=b∧b<l.length then v else l.getD b []:=by
 rw[List.getD_eq_getElem?_getD,List.getElem?_set,List.getD_eq_getElem?_getD]
 by_cases h:k=b
 ·subst h
  by_cases h2:k<l.length
  ·simp [h2]
  ·simp [h2]
 ·simp [h]
def V4(c:Code)(I:List (List Int))(b:Nat):List Int:=cE (B6 c.b b).t I
def V1(c:Code)(I:List (List Int))(b:Nat):List Int:=atF (B6 c.b b) (V4 c I b) 0
theorem c1R{r:Int}{b:b6}{out:List Int}(ho:RB r out)(hg:∀x∈b.i,E9 x<r∧RB r (o5 x))(i:Nat):RB r (atF b out i):=by
 unfold atF
 have:∀L:List e7,(∀x∈L,E9 x<r∧RB r (o5 x))→RB r (L.foldr U1 out):=by
  intro L
  induction L with
  |nil=>intro _;exact ho
  |cons x L ih=>intro hg;exact RB.union (ih fun y hy=>hg y (by simp [hy])).iX (hg x (by simp)).2
 exact this _ fun x hx=>hg x (List.mem_of_mem_drop hx)
theorem a3i{c:Code}(hc:y3 c){I O:List (List Int)}(h:Shp c I O){b:Nat}(hb:b<c.b.length):RB c.regs (V4 c I b):=by
 intro x hx
 rcases xZ.1 hx with⟨⟨to,h1,h2⟩,_⟩|h1
 ·exact(h.i _).1 x h2
 ·exact(hc.rbT hb).2 x h1
theorem Shp.set{c:Code}(hc:y3 c){I O:List (List Int)}(h:Shp c I O){b:Nat}(hb:b<c.b.length):Shp c (I.set b (V1 c I b)) (O.set b (V4 c I b)):=by
 have hn:=a3i hc h hb
 have hs:I9 (V4 c I b):=fG
 refine⟨by rw[List.length_set];exact h.li,by rw[List.length_set];exact h.lo,fun z=>?_,fun z=>?_⟩
 ·rw[F2];split
  ·exact⟨c1R hn (hc.rb hb) 0,a4F hs⟩
  ·exact h.i z
 ·rw[F2];split
  ·exact⟨hn,hs⟩
  ·exact h.o z
theorem Snd.V4{c:Code}{I O:List (List Int)}(h:Snd c I O){b:Nat}(hb:b<c.b.length)(hr:fJ c.b (b:Int)):∀r∈V4 c I b,∀I' O',clo c I' O'→r∈O'.getD b []:=
 fun r hm I' O' hc=>(hc b hb hr).1 r (rE (fun k x hx=>(h.i k x hx).2.2 I' O' hc) r hm)
theorem Snd.V1{c:Code}{I O:List (List Int)}(h:Snd c I O){b:Nat}(hb:b<c.b.length)(hr:fJ c.b (b:Int)):∀r∈V1 c I b,∀I' O',clo c I' O'→r∈I'.getD b []:=
 fun r hm I' O' hc=>(hc b hb hr).2 r (b1L (fun x hx=>h.V4 hb hr x hx I' O' hc) r hm)
theorem Snd.set{c:Code}{I O:List (List Int)}(h:Snd c I O){b:Nat}(hb:b<c.b.length)(hr:fJ c.b (b:Int)):Snd c (I.set b (Go.Proofs.YtgdoiokalfhjoaaGreatDoor.V1 c I b)) (O.set b (Go.Proofs.YtgdoiokalfhjoaaGreatDoor.V4 c I b)):=by
 refine⟨fun k r hk=>?_,fun k r hk=>?_⟩
 ·rw[F2]at hk
  split at hk
  ·rename_i e
   obtain⟨rfl,_⟩:=e
   exact⟨hr,hb,h.V1 hb hr r hk⟩
  ·exact h.i k r hk
 ·rw[F2]at hk
  split at hk
  ·rename_i e
   obtain⟨rfl,_⟩:=e
   exact⟨hr,hb,h.V4 hb hr r hk⟩
  ·exact h.o k r hk
theorem oL:∀{b a:List Int},I9 a→I9 b→(∀x∈a,x∈b)→a.length≤b.length∧(b.length≤a.length→a=b)
 |[],a,sa,sb,h=>by
  cases a with
  |nil=>exact⟨by simp,fun _=>rfl⟩
  |cons x a=>have:=h x (by simp);simp at this
 |y::b,a,sa,sb,h=>by
  obtain⟨b1,b2⟩:=List.pairwise_cons.1 sb
  cases a with
  |nil=>exact⟨by simp,fun hl=>by simp at hl⟩
  |cons x a=>
   obtain⟨a1,a2⟩:=List.pairwise_cons.1 sa
   by_cases hxy:x=y
   ·subst hxy
    have hs:∀z∈a,z∈b:=fun z hz=>by
     rcases List.mem_cons.1 (h z (by simp [hz]))with rfl|h1
     ·have:=a1 z hz;omega
     ·exact h1
    obtain⟨h1,h2⟩:=oL a2 b2 hs
    exact⟨by simp;omega,fun hl=>by rw[h2 (by simpa using hl)]⟩
   ·have hx:x∈b:=(List.mem_cons.1 (h x (by simp))).resolve_left hxy
    have hs:∀z∈x::a,z∈b:=fun z hz=>by
     rcases List.mem_cons.1 hz with rfl|hz
     ·exact hx
     ·rcases List.mem_cons.1 (h z (by simp [hz]))with rfl|h1
      ·have h3:=a1 z hz;have h4:=b1 x hx;omega
      ·exact h1
    obtain⟨h1,h2⟩:=oL sa b2 hs
    exact⟨by simp at h1⊢;omega,fun hl=>by simp at h1 hl;omega⟩
theorem pZ{r:Int}{l:List Int}(h:RB r l)(sl:I9 l)(hr:0≤r):(l.length:Int)≤r:=by
 have:∀(n:Nat) (l:List Int),I9 l→(∀x∈l,r-(n:Int)≤x∧x<r)→l.length≤n:=by
  intro n
  induction n with
  |zero=>intro l _ h;cases l with
   |nil=>simp
   |cons x l=>have:=h x (by simp);omega
  |succ n ih=>
   intro l sl h
   cases l with
   |nil=>simp
   |cons x l=>
    obtain⟨s1,s2⟩:=List.pairwise_cons.1 sl
    have:=ih l s2 fun y hy=>by
     have h1:=s1 y hy
     have h2:=h x (by simp)
     have h3:=h y (by simp [hy])
     omega
    simp;omega
 have:=this r.toNat l sl fun x hx=>by have:=h x hx;omega
 omega
def qL(l:List (List Int)):Nat:=(l.map List.length).sum
theorem tK:∀(l:List (List Int)) (b:Nat) (v:List Int),b<l.length→qL (l.set b v)+(l.getD b []).length=qL l+v.length
 |[],b,v,h=>by simp at h
 |x::l,0,v,_=>by simp [qL];omega
 |x::l,b+1,v,h=>by
  have:=tK l b v (by simpa using h)
  simp [qL]at this⊢;omega
theorem b0K:∀(l:List (List Int)) (m:Nat),(∀z,(l.getD z []).length≤m)→qL l≤m*l.length
 |[],m,_=>by simp [qL]
 |x::l,m,h=>by
  have h1:=b0K l m fun z=>by simpa using h (z+1)
  have h2:x.length≤m:=by simpa using h 0
  simp [qL]at h1⊢
  rw[Nat.mul_add];omega
theorem yQ(l:List (List Int))(b:Nat):l.set b (l.getD b [])=l:=by
 apply List.ext_getElem?
 intro k
 rw[List.getElem?_set]
 by_cases h:b=k
 ·subst h
  by_cases h2:b<l.length
  ·simp [h2]
  ·simp [h2]
 ·simp [h]
def Inc(c:Code)(I O:List (List Int)):Prop:=∀b,b<c.b.length→fJ c.b (b:Int)→(∀r∈I.getD b [],r∈V1 c I b)∧∀r∈O.getD b [],r∈V4 c I b
theorem pX{c:Code}{I I':List (List Int)}(h:∀b,∀r∈I.getD b [],r∈I'.getD b [])(b:Nat):∀r∈V4 c I b,r∈V4 c I' b:=rE h
theorem a3j{c:Code}{I I':List (List Int)}(h:∀b,∀r∈I.getD b [],r∈I'.getD b [])(b:Nat):∀r∈V1 c I b,r∈V1 c I' b:=b1L (pX h b)
theorem Inc.grow{c:Code}{I O:List (List Int)}(h:Inc c I O){b:Nat}(hb:b<c.b.length)(hr:fJ c.b (b:Int)):∀k,∀r∈I.getD k [],r∈(I.set b (V1 c I b)).getD k []:=fun k r hk=>by
 rw[F2]
 split
 ·rename_i e
  obtain⟨rfl,_⟩:=e
  exact(h b hb hr).1 r hk
 ·exact hk
theorem Inc.set{c:Code}{I O:List (List Int)}(h:Inc c I O){b:Nat}(hb:b<c.b.length)(hr:fJ c.b (b:Int)):Inc c (I.set b (V1 c I b)) (O.set b (V4 c I b)):=by
 have hg:=h.grow hb hr
 intro k hk hrk
 constructor
 ·intro r hm
  rw[F2]at hm
  split at hm
  ·rename_i e
   obtain⟨rfl,_⟩:=e
   exact a3j hg b r hm
  ·exact a3j hg k r ((h k hk hrk).1 r hm)
 ·intro r hm
  rw[F2]at hm
  split at hm
  ·rename_i e
   obtain⟨rfl,_⟩:=e
   exact pX hg b r hm
  ·exact pX hg k r ((h k hk hrk).2 r hm)
structure FI (c:Code) (I O:List (List Int)):Prop where
 s:Shp c I O
 n:Snd c I O
 g:Inc c I O
theorem FI.set{c:Code}(hc:y3 c){I O:List (List Int)}(h:FI c I O){b:Nat}(hb:b<c.b.length)(hr:fJ c.b (b:Int)):FI c (I.set b (V1 c I b)) (O.set b (V4 c I b)):=
 ⟨h.s.set hc hb,h.n.set hb hr,h.g.set hb hr⟩
theorem FI.zero(c:Code):FI c (List.replicate c.b.length []) (List.replicate c.b.length []):=by
 have e:∀z,(List.replicate c.b.length ([]:List Int)).getD z []=[]:=fun z=>by
  rw[List.getD_eq_getElem?_getD,List.getElem?_replicate];split<;>rfl
 refine⟨⟨by simp,by simp,fun z=>by rw[e];exact⟨RB.nil,I9.nil⟩,fun z=>by rw[e];exact⟨RB.nil,I9.nil⟩⟩,⟨fun b r h=>by rw[e]at h;simp at h,fun b r h=>by rw[e]at h;simp at h⟩,fun b _ _=>⟨fun r h=>by rw[e]at h;simp at h,fun r h=>by rw[e]at h;simp at h⟩⟩
theorem FI.b70{c:Code}(hc:y3 c){I O:List (List Int)}(h:FI c I O):qL I≤16*c.b.length∧qL O≤16*c.b.length:=by
 have hr:=hc.r
 constructor
 ·have:=b0K I 16 fun z=>by have:=pZ (h.s.i z).1 (h.s.i z).2 hr.1;omega
  rwa [h.s.li]at this
 ·have:=b0K O 16 fun z=>by have:=pZ (h.s.o z).1 (h.s.o z).2 hr.1;omega
  rwa [h.s.lo]at this
theorem FI.done{c:Code}{I O:List (List Int)}(h:FI c I O)(he:∀b,b<c.b.length→fJ c.b (b:Int)→O.getD b []=V4 c I b∧I.getD b []=V1 c I b):liveF c=(I,O):=
 a4f ⟨h.s,h.n,fun b hb hr=>by
  obtain⟨e1,e2⟩:=he b hb hr
  refine⟨fun r hm=>by rw[e1];exact hm,fun r hm=>?_⟩
  rw[e1]at hm
  rw[e2];exact hm⟩
noncomputable def refS (c:Code) (I O:List (List Int)):Nat→List (List Int)×List (List Int)×Bool
 |0=>(I,O,false)
 |b+1=>
  let p:=refS c I O b
  if(reachF c.b).getD b false=true then
   (p.1.set b (V1 c p.1 b),p.2.1.set b (V4 c p.1 b),p.2.2||decide ((p.2.1.getD b []).length<(V4 c p.1 b).length∨(p.1.getD b []).length<(V1 c p.1 b).length))
  else p
theorem a4s{c:Code}(hc:y3 c){I O:List (List Int)}(h:FI c I O):∀b,b≤c.b.length→FI c (refS c I O b).1 (refS c I O b).2.1∧qL I+qL O+(if(refS c I O b).2.2=true then 1 else 0)≤qL (refS c I O b).1+qL (refS c I O b).2.1∧
  ((refS c I O b).2.2=false→(refS c I O b).1=I∧(refS c I O b).2.1=O∧∀k,k<b→fJ c.b (k:Int)→O.getD k []=V4 c I k∧I.getD k []=V1 c I k)
 |0,_=>⟨h,by simp [refS],fun _=>⟨rfl,rfl,fun k hk=>by omega⟩⟩
 |b+1,hb=>by
  obtain⟨h1,h2,h3⟩:=a4s hc h b (by omega)
  have hra:=V2 c.b (show b<c.b.length by omega)
  unfold refS
  generalize refS c I O b=p at*
  obtain⟨J,P,a⟩:=p
  simp only at h1 h2 h3⊢
  by_cases hr:(reachF c.b).getD b false=true
  ·rw[if_pos hr]
   have hrc:=hra.1 hr
   have hlb:b<c.b.length:=by omega
   have g:=h1.g b hlb hrc
   have s1:=(h1.set hc hlb hrc).s
   have nI:I9 (V1 c J b):=a4F fG
   have nO:I9 (V4 c J b):=fG
   obtain⟨l1,e1⟩:=oL (h1.s.i b).2 nI g.1
   obtain⟨l2,e2⟩:=oL (h1.s.o b).2 nO g.2
   have t1:=tK J b (V1 c J b) (by rw[h1.s.li];exact hlb)
   have t2:=tK P b (V4 c J b) (by rw[h1.s.lo];exact hlb)
   refine⟨h1.set hc hlb hrc,?_,fun ha=>?_⟩
   ·simp only
    cases a with
    |true=>simp only[Bool.true_or,if_true]at h2⊢;omega
    |false=>
     simp only[Bool.false_or,decide_eq_true_eq,Bool.false_eq_true,if_false]at h2⊢
     split<;>omega
   ·simp only[Bool.or_eq_false_iff,decide_eq_false_iff_not]at ha
    obtain⟨ha,hd⟩:=ha
    obtain⟨rfl,rfl,h4⟩:=h3 ha
    have q1:=e1 (by omega)
    have q2:=e2 (by omega)
    refine⟨by rw[←q1];exact yQ _ _,by rw[←q2];exact yQ _ _,fun k hk hrk=>?_⟩
    rcases Nat.lt_succ_iff_lt_or_eq.1 hk with h5|rfl
    ·exact h4 k h5 hrk
    ·exact⟨q2,q1⟩
  ·rw[if_neg hr]
   refine⟨h1,h2,fun ha=>?_⟩
   obtain⟨r1,r2,h4⟩:=h3 ha
   refine⟨r1,r2,fun k hk hrk=>?_⟩
   rcases Nat.lt_succ_iff_lt_or_eq.1 hk with h5|rfl
   ·exact h4 k h5 hrk
   ·exact absurd (hra.2 hrk) hr
theorem c0P{c:Code}(hc:y3 c):∀(m:Nat) (I O:List (List Int)),FI c I O→32*c.b.length-(qL I+qL O)≤m→
  ∃J P,FI c J P∧∀b,b<c.b.length→fJ c.b (b:Int)→P.getD b []=V4 c J b∧J.getD b []=V1 c J b:=by
 intro m
 induction m with
 |zero=>
  intro I O h hm
  obtain⟨f1,f2,f3⟩:=a4s hc h c.b.length (Nat.le_refl _)
  have s1:=h.b70 hc
  have s2:=f1.b70 hc
  cases ha:(refS c I O c.b.length).2.2 with
  |false=>exact⟨I,O,h,(f3 ha).2.2⟩
  |true=>rw[ha]at f2;simp only[if_true]at f2;omega
 |succ m ih=>
  intro I O h hm
  obtain⟨f1,f2,f3⟩:=a4s hc h c.b.length (Nat.le_refl _)
  cases ha:(refS c I O c.b.length).2.2 with
  |false=>exact⟨I,O,h,(f3 ha).2.2⟩
  |true=>
   rw[ha]at f2
   simp only[if_true]at f2
   exact ih _ _ f1 (by omega)
theorem kS{c:Code}(hc:y3 c):Lst c (liveF c).1 (liveF c).2:=by
 obtain⟨J,P,h,he⟩:=c0P hc _ _ _ (FI.zero c) (Nat.le_refl _)
 have hl:=h.done he
 rw[hl]
 exact⟨h.s,h.n,fun b hb hr=>by
  obtain⟨e1,e2⟩:=he b hb hr
  refine⟨fun r hm=>by rw[e1];exact hm,fun r hm=>?_⟩
  rw[e1]at hm
  rw[e2];exact hm⟩
theorem b7i{c:Code}(hc:y3 c)(z:Nat):((liveF c).1.getD z []).length≤100∧((liveF c).2.getD z []).length≤100:=by
 have h:=(kS hc).shp
 have hr:=hc.r
 have h1:=pZ (h.i z).1 (h.i z).2 hr.1
 have h2:=pZ (h.o z).1 (h.o z).2 hr.1
 omega
theorem a3c{c:Code}(hc:y3 c):b0l c.regs (liveF c).1∧b0l c.regs (liveF c).2:=by
 have h:=(kS hc).shp
 have key:∀l:List Int,RB c.regs l→I9 l→okL c.regs l:=by
  intro l hb hs k hk
  have e:l.getD k 0=l[k]:=jU hk
  have hm:=hb l[k] (List.getElem_mem hk)
  refine⟨?_,by rw[e];exact hm.2⟩
  unfold a3m
  split
  ·rw[e];omega
  ·rw[jU (show k-1<l.length by omega),e]
   exact List.pairwise_iff_getElem.1 hs (k-1) k (by omega) hk (by omega)
 exact⟨fun i _=>key _ (h.i i).1 (h.i i).2,fun i _=>key _ (h.o i).1 (h.o i).2⟩
def lN(n:Int):E3:=⟨2,n,0⟩
def gN(l:List Int)(r:Int):Int:=(l.idxOf r:Nat)
def r6(l uses:List Int):List Int:=uses.filter fun r=>decide (r∈l)
def a7U(l:List Int)(regs:Int)(r k:Int):e7:=⟨11,0,gN l r,lN (regs+k),O0,O0,O0⟩
def I7(l inn:List Int)(regs:Int):List e7:=(List.range inn.length).map fun k=>a7U l regs (inn.getD k 0) k
def C8(o:E3)(inn:List Int)(regs:Int):E3:=if o.k=2∧o.n∈inn then lN (regs+gN inn o.n)else o
def c5o(l:List Int)(regs:Int)(r:Int):e7:=⟨12,0,gN l r,O0,lN regs,O0,O0⟩
def b6Y(l:List Int)(regs:Int)(i:e7):e7:=
 {i with a:=C8 i.a (r6 l (o5 i)) regs,b:=C8 i.b (r6 l (o5 i)) regs,c:=C8 i.c (r6 l (o5 i)) regs,d:=if E9 i∈l then lN regs else i.d}
def cL(l:List Int)(regs:Int)(i:e7):List e7:=
 I7 l (r6 l (o5 i)) regs++b6Y l regs i::if E9 i∈l then[c5o l regs (E9 i)]else[]
def I3(l:List Int)(regs:Int)(b:b6):b6:=
 ⟨b.i.flatMap (cL l regs)++I7 l (r6 l (n6 b.t)) regs,{b.t with a:=C8 b.t.a (r6 l (n6 b.t)) regs,b:=C8 b.t.b (r6 l (n6 b.t)) regs}⟩
def n8(c:Code)(l:List Int):Code:=if l=[]then c else{c with w5:=l.length,regs:=c.regs+3,b:=c.b.map (I3 l c.regs)}
def fF(c:Code):Prop:=c.regs≤256∧(c.b.map fun b=>b.i.length).sum≤2000
def a9a(c:Code)(r:Int):Prop:=∃b,b<c.b.length∧fJ c.b (b:Int)∧(r∈n6 (B6 c.b b).t∨∃i∈(B6 c.b b).i,r∈o5 i∨r=E9 i)
def b6p(c:Code)(r:Int):Prop:=∃b,b<c.b.length∧fJ c.b (b:Int)∧(r=F3 (B6 c.b b).t∨(B6 c.b b).t.kind=4∧r∈n6 (B6 c.b b).t)
noncomputable def spF (c:Code):List Bool:=(List.range c.regs.toNat).map fun(r:Nat)=>Decidable.decide (h:=Classical.propDecidable _) (a9a c r∧¬b6p c r)
end Go.Proofs.YtgdoiokalfhjoaaGreatDoor
end
