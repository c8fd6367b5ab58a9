/- Own work (by an AI agent; no person has read it): part of a proof of the seat YtgdoiokalfhjoaaGreatDoor. -/
import Derived.Test.YtgdoiokalfhjoaaGreatDoorXg
set_option linter.unusedSimpArgs false
set_option linter.unusedVariables false
set_option maxRecDepth 100000
set_option maxHeartbeats 10000000
section
namespace Go.Proofs.YtgdoiokalfhjoaaGreatDoor
open Go.Ab
def RB(r:Int)(l:List Int):Prop:=∀x∈l,0≤x∧x<r
theorem RB.nil{r:Int}:RB r []:=by intro x hx;simp at hx
theorem RB.union{r:Int}{a b:List Int}(h:RB r a)(hb:RB r b):RB r (w9 a b):=fun x hx=>by
 rcases Q7.1 hx with hx|hx
 ·exact h x hx
 ·exact hb x hx
theorem RB.kD{r:Int}{l:List Int}(h:RB r l){n:Int}:RB r (A8 l n):=fun x hx=>h x (bZ.1 hx).1
theorem RB.with{r:Int}{l:List Int}(h:RB r l){n:Int}(hn:n<r):RB r (X5 l n):=fun x hx=>by
 rcases a9q.1 hx with⟨h1,rfl⟩|hx
 ·exact⟨h1,hn⟩
 ·exact h x hx
theorem RB.r64{r:Int}{l:List Int}(h:RB r l)(hr:r≤64):bG l:=fun x hx=>by have:=h x hx;omega
theorem RB.len{r:Int}{l:List Int}(h:RB r l)(sl:I5 l)(hr:r≤64):l.length≤1000:=c2o (h.r64 hr) sl
theorem b6Z{r:Int}{L:List e8}(hg:∀x,z8 (L.getD x I0)<r∧RB r (m7 (L.getD x I0))):∀{out:List Int},RB r out→I5 out→∀pre:List Nat,RB r (cN L out pre)∧I5 (cN L out pre):=by
 intro out ho so pre
 induction pre generalizing out with
 |nil=>exact⟨ho,so⟩
 |cons x pre ih=>exact ih (RB.union ho.kD (hg x).2) (oL so)
theorem c2p{r:Int}{L:List e8}(hr:0≤r)(h:∀x∈L,z8 x<r∧RB r (m7 x))(x:Nat):z8 (L.getD x I0)<r∧RB r (m7 (L.getD x I0)):=by
 by_cases hx:x<L.length
 ·rw[List.getD_eq_getElem?_getD,List.getElem?_eq_getElem hx];exact h _ (List.getElem_mem hx)
 ·rw[List.getD_eq_getElem?_getD,List.getElem?_eq_none (by omega)]
  exact⟨by show(-1:Int)<r;omega,RB.nil⟩
theorem u9.rb{c:Code}(h:u9 c){b:Nat}(hb:b<c.b.length):∀x∈(w7 c.b b).i,z8 x<c.regs∧RB c.regs (m7 x):=fun x hx=>by
 have h1:=(h.blk hb).i x hx
 exact⟨(uP h1.d h.r.1).2,a3Z h1⟩
theorem u9.rbT{c:Code}(h:u9 c){b:Nat}(hb:b<c.b.length):B8 (w7 c.b b).t<c.regs∧RB c.regs (j6 (w7 c.b b).t):=by
 have h1:=(h.blk hb).t
 exact⟨(uP h1.d h.r.1).2,a4C h1⟩
theorem mL{r:Int}{L:List (List Int)}(h:a5s r L)(z:Nat):RB r (L.getD z [])∧I5 (L.getD z []):=by
 by_cases hz:z<L.length
 ·exact⟨c4W (h z hz),c4X (h z hz)⟩
 ·rw[List.getD_eq_getElem?_getD,List.getElem?_eq_none (by omega)]
  exact⟨RB.nil,I5.nil⟩
def mx(x y:Int):Int:=if x<y then y else x
def b1m(p:Int×List Int)(y:e8):Int×List Int:=(mx p.1 (X5 p.2 (z8 y)).length,x6 y p.2)
def a5u(L:List e8)(m:Int)(out:List Int)(pre:List Nat):Int×List Int:=pre.foldl (fun p i=>b1m p (L.getD i I0)) (m,out)
theorem a4p(L:List e8)(m:Int)(out:List Int)(pre:List Nat)(x:Nat):a5u L m out (pre++[x])=b1m (a5u L m out pre) (L.getD x I0):=by
 unfold a5u;rw[List.foldl_append];rfl
theorem a9z(L:List e8)(out:List Int)(pre:List Nat):∀(m:Int),(a5u L m out pre).2=cN L out pre:=by
 induction pre generalizing out with
 |nil=>intro m;rfl
 |cons x pre ih=>intro m;exact ih _ _
def prT(I:List (List Int))(t:o6)(m:Int):Int:=if 0≤B8 t then mx m (X5 (I.getD t.t0.toNat []) (B8 t)).length else m
def prB(I O:List (List Int))(B:b6)(b:Nat)(m:Int):Int:=prT I B.t (a5u B.i (mx (mx m (I.getD b []).length) (O.getD b []).length) (O.getD b []) (N5 B.i.length B.i.length)).1
noncomputable def prF (c:Code) (I O:List (List Int)):Nat→Int
 |0=>0
 |b+1=>if(reachF c.b).getD b false=true then prB I O (w7 c.b b) b (prF c I O b)else prF c I O b
def gN:=ZZ.mk (Zq nF.d (Zq @L8.eq_1 (Zq @mI (Zq @V5 (Zq @jU (Zq @S8 (Zq @H3 (Zq @b6.av.eq_1 (Zq @o6.av.eq_1 (Zq @List.cons_append.{0} (Zq @List.nil_append.{0} (Zq @K7 (Zq @K6 (Zq @aG (Zq @y7 (Zq @I3 @H8))))))))))))))))
theorem a4P(c:Code)(I O:List (List Int))(hc:u9 c)(hr12:c.regs≤15)(hi:a5s c.regs I)(ho:a5s c.regs O)(hil:I.length=c.b.length)(hol:O.length=c.b.length):
  c9 Tryz.prog 29 [.agg c.av,.agg [.a6 false (lists I),.a6 false (lists O)]] (fun _=> .v (.int .i64 (prF c I O c.b.length))) (fun _=>[]):=by
 have hr:=hc.r
 have hn:=hc.n
 have hrl:=T0 c.b
 have C3:=rE c hc.succ (by omega)
 simp only[Code.av]at C3
 refine Zf Tryz.func29 Tryz.ntmps29 ?_;simp only[Code.av]
 repeat' (first|refine Za ?_|(with_reducible constructor<;>first|intro N hN mk hmk|intro N hN|intro h)|refine Zc C3 ?_|refine Zt I8.d ?_|fail)
 refine c8 (fun b=>⟨[.Z,.Z,.ptr 0 0 0,.ptr 1 0 0,.Z,.ptr 2 0 0,.Z,.Z,.Z,.Z,.Z,.Z,.Z,.a6 false (o8 (reachF c.b)),.v (.int .i64 c.b.length),.v (.int .i64 b),.Z,.Z,.Z,.Z,.Z,.Z,.Z,.Z,.Z,.Z,.Z,.Z,.Z,.Z,.Z,.Z,.Z,.Z,.Z,.Z,.Z,.Z,.Z,.Z,.Z,.Z,.Z,.Z,.Z,.Z,.Z,.Z,.Z,.Z,.Z,.Z,.Z,.Z,.Z,.Z,.Z,.Z,.Z,.Z,.Z,.Z,.Z,.Z,.Z,.Z,.Z,.Z,.Z,.Z,.Z,.Z,.Z,.Z,.Z,.Z,.Z,.Z,.Z,.Z,.Z,.Z],[(0,.live ⟨8,[[.v (.int .i64 c.group),.v (.int .i64 c.sub),.v (.int .i64 c.regs),.v (.int .i64 c.u7),.v (.int .i64 c.params),.a6 false (w6 c.c6),.a6 false (loops c.loops),.a6 false (p7 c.b)]],0⟩),(1,.live ⟨2,[[.a6 false (lists I),.a6 false (lists O)]],0⟩),(2,.live ⟨1,[[.v (.int .i64 (prF c I O b))]],0⟩)],3⟩) c.b.length (Zw [2,3,5,13,14,15] [0,8,24] I8.d ?_) ?_
 ·simp only[K7,T0];rfl
 ·intro b hb
  dsimp only
  by_cases hlt:b<c.b.length
  ·obtain⟨B,hB⟩:∃B,B=w7 c.b b:=⟨_,rfl⟩
   have hB':c.b.getD b B0=B:=hB.symm
   have hgt:=hc.rbT hlt
   have hgi:=hc.rb hlt
   have hbl:=(hc.blk hlt).l
   have hto:=(hc.blk hlt).t.succ
   rw[←hB]at hgt hgi hbl hto
   obtain⟨i1,i2⟩:=mL hi b
   obtain⟨o1,o2⟩:=mL ho b
   have K1:=a4O (O.getD b []) (o1.r64 (by omega)) (by have:=o1.len o2 (by omega);omega)
   rw[a4E o2]at K1
   have K2:=xY (O.getD b []) (fun x hx=>by have:=o1 x hx;omega) o2 (o1.len o2 (by omega))
   have K3:=c2O B.i
   have ilen:=i1.len i2 (by omega)
   have olen:=o1.len o2 (by omega)
   repeat' (first|refine Za ?_|(with_reducible constructor<;>first|intro N hN mk hmk|intro N hN|intro h)|refine Zc K1 ?_|refine Zc K2 ?_|(refine M8 K3 ?_ rfl ?_ ?_;(next=>(simp (disch:=omega) only[gN.d,hB',hrl,hil,hol,v8,Nat.reduceBEq,AV.plain,Nat.reduceAdd,Nat.reduceLeDiff,Nat.reduceLT,↓reduceIte,sF]<;>first|done|rfl));(next=>(simp only[apply_ite List.length,List.length_cons,List.length_nil]<;>(try split)<;>omega)))|(refine H9 K3 ?_ rfl ?_ ?_;(next=>(simp (disch:=omega) only[gN.d,hB',hrl,hil,hol,v8,Nat.reduceBEq,AV.plain,Nat.reduceAdd,Nat.reduceLeDiff,Nat.reduceLT,↓reduceIte,sF]<;>first|done|rfl));(next=>(simp only[apply_ite List.length,List.length_cons,List.length_nil]<;>(try split)<;>omega)))|refine Zt (Zq gN.d (Zq hB' (Zq hrl (Zq hil hol)))) ?_|fail)
   ·refine Zw [2,3,5,13,14,15] [0,1,2] (Zq gN.d (Zq hB' (Zq hrl (Zq hil hol)))) ?_
    rw[show prF c I O (b+1)=prF c I O b from by show(if _ then _ else _)=_;rw[if_neg (by simp_all)]]
    rfl
   ·refine nR 44 (y:= .fn 159 [.aF [[.a6 false (e7 B.i)]] 0 0]) (by simp (maxSteps:=10000000) (disch:=omega) only[gN.d,hB',hrl,hil,hol,n7,T6,u4,B4,s7,o7,AV.kept,b8,n6,u5,D5,s8,s6,c7,AV.A6,n8,x5,AV.plain,rd,v8,a8,T1,stepC,AV.j3,AV.U9,AV.x7,AV.O6,AV.scalar,V7,u0,C8,D3,D4,D0,s5,B9,V8,u1,C9,B3,l0,V6,n4,A4,A3,T7,B2,m8,TD.isRow,u3,l9,n3,l7,H7,Value.oneCell',↓reduceIte,Int.reduceNe,Int.reduceEq,Nat.reduceAdd,Nat.reduceLT,Nat.reduceLeDiff,Nat.reduceSub,Nat.reduceMul,Nat.reduceBEq,Nat.reduceEqDiff,reduceCtorEq,Int.reduceToNat,←decide_not,←Bool.decide_and,sA,sN]<;>first|done|rfl) rfl ?_;simp (maxSteps:=10000000) (disch:=omega) only[a8,n6,y3,gN.d,hB',hrl,hil,hol,n7,T6,u4,B4,s7,o7,AV.kept,b8,n6,u5,D5,s8,s6,c7,AV.A6,n8,x5,AV.plain,rd,v8,a8,T1,stepC,AV.j3,AV.U9,AV.x7,AV.O6,AV.scalar,V7,u0,C8,D3,D4,D0,s5,B9,V8,u1,C9,B3,l0,V6,n4,A4,A3,T7,B2,m8,TD.isRow,u3,l9,n3,l7,H7,Value.oneCell',↓reduceIte,Int.reduceNe,Int.reduceEq,Nat.reduceAdd,Nat.reduceLT,Nat.reduceLeDiff,Nat.reduceSub,Nat.reduceMul,Nat.reduceBEq,Nat.reduceEqDiff,reduceCtorEq,Int.reduceToNat,←decide_not,←Bool.decide_and,sA,sN]
    have hpr:prF c I O (b+1)=prB I O B b (prF c I O b):=by rw[hB];show(if _ then _ else _)=_;rw[if_pos (by simp_all)]
    have hg:=c2p hr.1 hgi
    have htt:0≤B8 B.t→0≤B.t.t0∧B.t.t0<c.b.length:=fun h=>by
     have hb0:=(hc.blk hlt).t
     rw[←hB]at hb0
     have hk:B.t.d.k=2:=by
      apply Classical.byContradiction
      intro hk
      have:B8 B.t= -1:=by show(if _ then _ else _)=_;rw[if_neg hk]
      omega
     exact hb0.to (hb0.dk hk)
    refine b2B rfl B.i (fun pre=>⟨[.Z,.Z,.ptr 0 0 0,.ptr 1 0 0,.Z,.ptr 2 0 0,.v (.int .i64 b),.Z,.ptr 3 0 0,.Z,.Z,.Z,.Z,.a6 false (o8 (reachF c.b)),.v (.int .i64 c.b.length),.v (.int .i64 b),.Z,.Z,.Z,.Z,.Z,.Z,.Z,.Z,.Z,.Z,.Z,.Z,.Z,.Z,.Z,.Z,.Z,.Z,.Z,.Z,.Z,.Z,.Z,.Z,.Z,.Z,.Z,.Z,.fn 159 [.aF [[.a6 false (e7 B.i)]] 0 0],.Z,.Z,.Z,.Z,.Z,.Z,.Z,.Z,.Z,.Z,.Z,.Z,.Z,.Z,.Z,.Z,.Z,.Z,.Z,.Z,.Z,.Z,.Z,.Z,.Z,.Z,.Z,.Z,.Z,.Z,.Z,.Z,.Z,.Z,.Z,.Z,.Z],[(0,.live ⟨8,[[.v (.int .i64 c.group),.v (.int .i64 c.sub),.v (.int .i64 c.regs),.v (.int .i64 c.u7),.v (.int .i64 c.params),.a6 false (w6 c.c6),.a6 false (loops c.loops),.a6 false (p7 c.b)]],0⟩),(1,.live ⟨2,[[.a6 false (lists I),.a6 false (lists O)]],0⟩),(2,.live ⟨1,[[.v (.int .i64 (a5u B.i (mx (mx (prF c I O b) (I.getD b []).length) (O.getD b []).length) (O.getD b []) pre).1)]],0⟩),(3,.live ⟨4,[[.v (.int .u64 (B7 (cN B.i (O.getD b []) pre))),.v (.int .u64 0),.v (.int .u64 0),.v (.int .u64 0)]],0⟩)],4⟩) 7 [2,3,5,8] (by omega) rfl (Zw [2,3,5,6,8,13,14,15,44] [0,1,2,115] (Zq gN.d (Zq hB' (Zq hrl (Zq hil hol)))) rfl) (fun _=>⟨by simp,by simp⟩) (fun _=>rfl) (fun _=>by simp [b8]) (fun pre x hlx=>?_) ?_
    ·obtain⟨h1,h2⟩:=b6Z hg o1 o2 pre
     have hgx:=hg x
     have hsn:=a4p B.i (mx (mx (prF c I O b) (I.getD b []).length) (O.getD b []).length) (O.getD b []) pre x
     have hsd:=a9z B.i (O.getD b []) pre (mx (mx (prF c I O b) (I.getD b []).length) (O.getD b []).length)
     have hbs:=xS B.i (O.getD b []) pre x
     have J1:=uM (B.i.getD x I0)
     have J2:=yB (cN B.i (O.getD b []) pre) (z8 (B.i.getD x I0)) (h1.r64 (by omega)) (by omega)
     have h3:RB c.regs (X5 (cN B.i (O.getD b []) pre) (z8 (B.i.getD x I0))):=h1.with hgx.1
     have h4:=a91 h2 (z8 (B.i.getD x I0))
     have J3:=xY (X5 (cN B.i (O.getD b []) pre) (z8 (B.i.getD x I0))) (fun z hz=>by have:=h3 z hz;omega) h4 (h3.len h4 (by omega))
     have h5:=h3.len h4 (by omega)
     have J4:=xV (B.i.getD x I0) (cN B.i (O.getD b []) pre) (h1.r64 (by omega)) h2 (by omega) (hgx.2.r64 (by omega))
     rw[←hbs]at J4
     generalize B.i.getD x I0=y at*
     simp only[e8.av,L8]at J1 J2 J3 J4
     simp only[b8V,LS.tf,List.map_cons,List.map_nil,e8.av]
     repeat' (first|refine Za ?_|(with_reducible constructor<;>first|intro N hN mk hmk|intro N hN|intro h)|refine Zs (Zq gN.d (Zq hB' (Zq hrl (Zq hil hol)))) ?_|fail)
     refine⟨rfl,?_⟩
     repeat' (first|refine Za ?_|(with_reducible constructor<;>first|intro N hN mk hmk|intro N hN|intro h)|refine Zc J1 ?_|refine Zc J2 ?_|refine Zc J3 ?_|refine Zc J4 ?_|refine Zs (Zq gN.d (Zq hB' (Zq hrl (Zq hil hol)))) ?_|fail)
     refine b3w 4 rfl ?_ ?_ ?_
     ·simp [b8,A7]
     ·rfl
     ·refine hZ (keep:=[2,3,5,6,8,13,14,15,44]) (ids:=[0,1,2,3]) (s':=_) (by simp only[A7,o7,Y4,AV.kept,List.map_cons,List.map_nil,List.all_cons,List.all_nil,if_true,if_false,Nat.reduceEqDiff,LS.tf,gN.d,hB',hrl,hil,hol,c5,o0,b5,e6,n9,x8,AV.plain,Nat.reduceBEq,↓reduceIte,Nat.reduceEqDiff,Nat.reduceAdd,sC];rfl) ?_
      rw[hsn]
      simp only[b1m,hsd]
      rfl
    ·rw[hpr]
     have J1:=xW B.t
     by_cases hd:0≤B8 B.t
     ·obtain⟨t1,t2⟩:=htt hd
      obtain⟨q1,q2⟩:=mL hi B.t.t0.toNat
      have J2:=a4O (I.getD B.t.t0.toNat []) (q1.r64 (by omega)) (by have:=q1.len q2 (by omega);omega)
      rw[a4E q2]at J2
      have J3:=yB (I.getD B.t.t0.toNat []) (B8 B.t) (q1.r64 (by omega)) (by omega)
      have h3:RB c.regs (X5 (I.getD B.t.t0.toNat []) (B8 B.t)):=q1.with hgt.1
      have h4:=a91 q2 (B8 B.t)
      have h5:=h3.len h4 (by omega)
      have J4:=xY (X5 (I.getD B.t.t0.toNat []) (B8 B.t)) (fun z hz=>by have:=h3 z hz;omega) h4 h5
      have e:∀m,prT I B.t m=mx m (X5 (I.getD B.t.t0.toNat []) (B8 B.t)).length:=fun m=>by unfold prT;rw[if_pos hd]
      unfold prB
      rw[e]
      simp only[o6.av,L8]at J1 J2 J3 J4
      repeat' (first|refine Za ?_|(with_reducible constructor<;>first|intro N hN mk hmk|intro N hN|intro h)|refine Zc J1 ?_|refine Zc J2 ?_|refine Zc J3 ?_|refine Zc J4 ?_|refine Zt (Zq gN.d (Zq hB' (Zq hrl (Zq hil hol)))) ?_|fail)
      refine Zw [2,3,5,13,14,15] [0,1,2] (Zq gN.d (Zq hB' (Zq hrl (Zq hil hol)))) ?_
      rfl
     ·have e:∀m,prT I B.t m=m:=fun m=>by unfold prT;rw[if_neg hd]
      unfold prB
      rw[e]
      simp only[o6.av,L8]at J1
      repeat' (first|refine Za ?_|(with_reducible constructor<;>first|intro N hN mk hmk|intro N hN|intro h)|refine Zc J1 ?_|refine Zt (Zq gN.d (Zq hB' (Zq hrl (Zq hil hol)))) ?_|fail)
      refine Zw [2,3,5,13,14,15] [0,1,2] (Zq gN.d (Zq hB' (Zq hrl (Zq hil hol)))) ?_
      rfl
  ·obtain rfl:b=c.b.length:=by omega
   repeat' (first|refine Za ?_|(with_reducible constructor<;>first|intro N hN mk hmk|intro N hN|intro h)|refine Zt I8.d ?_|fail)
def clo(c:Code)(I O:List (List Int)):Prop:=∀b,b<c.b.length→cR c.b (b:Int)→
 (∀r∈O1 (w7 c.b b).t I,r∈O.getD b [])∧(∀r∈kV (w7 c.b b) (O.getD b []) 0,r∈I.getD b [])
structure Snd (c:Code) (I O:List (List Int)):Prop where
 i:∀b r,r∈I.getD b []→cR c.b (b:Int)∧b<c.b.length∧∀I' O',clo c I' O'→r∈I'.getD b []
 o:∀b r,r∈O.getD b []→cR c.b (b:Int)∧b<c.b.length∧∀I' O',clo c I' O'→r∈O'.getD b []
structure Shp (c:Code) (I O:List (List Int)):Prop where
 li:I.length=c.b.length
 lo:O.length=c.b.length
 i:∀z,RB c.regs (I.getD z [])∧I5 (I.getD z [])
 o:∀z,RB c.regs (O.getD z [])∧I5 (O.getD z [])
structure Lst (c:Code) (I O:List (List Int)):Prop where
 shp:Shp c I O
 snd:Snd c I O
 clo:clo c I O
theorem a3N{a b:List (List Int)}(hl:a.length=b.length)(h:∀k,a.getD k []=b.getD k []):a=b:=by
 apply List.ext_getElem hl
 intro k h1 h2
 have:=h k
 rw[List.getD_eq_getElem?_getD,List.getD_eq_getElem?_getD,List.getElem?_eq_getElem h1,List.getElem?_eq_getElem h2]at this
 exact this
theorem Lst.unique{c:Code}{I O I' O':List (List Int)}(h:Lst c I O)(h':Lst c I' O'):I=I'∧O=O':=by
 constructor
 ·refine a3N (by rw[h.shp.li,h'.shp.li]) fun k=>I5.ext (h.shp.i k).2 (h'.shp.i k).2 fun r=>⟨fun hr=>(h.snd.i k r hr).2.2 _ _ h'.clo,fun hr=>(h'.snd.i k r hr).2.2 _ _ h.clo⟩
 ·refine a3N (by rw[h.shp.lo,h'.shp.lo]) fun k=>I5.ext (h.shp.o k).2 (h'.shp.o k).2 fun r=>⟨fun hr=>(h.snd.o k r hr).2.2 _ _ h'.clo,fun hr=>(h'.snd.o k r hr).2.2 _ _ h.clo⟩
noncomputable def liveF (c:Code):List (List Int)×List (List Int):=haveI:=Classical.propDecidable (∃p:List (List Int)×List (List Int),Lst c p.1 p.2)
 if h:∃p:List (List Int)×List (List Int),Lst c p.1 p.2 then Classical.choose h else([],[])
theorem uV{c:Code}{I O:List (List Int)}(h:Lst c I O):liveF c=(I,O):=by
 have hx:∃p:List (List Int)×List (List Int),Lst c p.1 p.2:=⟨(I,O),h⟩
 have e:liveF c=Classical.choose hx:=by unfold liveF;rw[dif_pos hx]
 have hs:=Classical.choose_spec hx
 obtain⟨h1,h2⟩:=hs.unique h
 rw[e]
 exact Prod.ext h1 h2
theorem F5(l:List (List Int))(k b:Nat)(v:List Int):(l.set k v).getD b []=if k=b∧b<l.length then v else l.getD b []:=by
 rw[List.getD_eq_getElem?_getD,List.getElem?_set,List.getD_eq_getElem?_getD]
 by_cases h:k=b
 ·subst h
  by_cases h2:k<l.length
  ·simp [h2]
  ·simp [h2]
 ·simp [h]
def P7(c:Code)(I:List (List Int))(b:Nat):List Int:=O1 (w7 c.b b).t I
def P6(c:Code)(I:List (List Int))(b:Nat):List Int:=kV (w7 c.b b) (P7 c I b) 0
theorem a8s{r:Int}{b:b6}{out:List Int}(ho:RB r out)(hg:∀x∈b.i,z8 x<r∧RB r (m7 x))(i:Nat):RB r (kV b out i):=by
 unfold kV
 have:∀L:List e8,(∀x∈L,z8 x<r∧RB r (m7 x))→RB r (L.foldr x6 out):=by
  intro L
  induction L with
  |nil=>intro _;exact ho
  |cons x L ih=>intro hg;exact RB.union (ih fun y hy=>hg y (by simp [hy])).kD (hg x (by simp)).2
 exact this _ fun x hx=>hg x (List.mem_of_mem_drop hx)
theorem rW{c:Code}(hc:u9 c){I O:List (List Int)}(h:Shp c I O){b:Nat}(hb:b<c.b.length):RB c.regs (P7 c I b):=by
 intro x hx
 rcases Z7.1 hx with⟨⟨to,h1,h2⟩,_⟩|h1
 ·exact(h.i _).1 x h2
 ·exact(hc.rbT hb).2 x h1
theorem Shp.set{c:Code}(hc:u9 c){I O:List (List Int)}(h:Shp c I O){b:Nat}(hb:b<c.b.length):Shp c (I.set b (P6 c I b)) (O.set b (P7 c I b)):=by
 have hn:=rW hc h hb
 have hs:I5 (P7 c I b):=bT
 refine⟨by rw[List.length_set];exact h.li,by rw[List.length_set];exact h.lo,fun z=>?_,fun z=>?_⟩
 ·rw[F5];split
  ·exact⟨a8s hn (hc.rb hb) 0,sL hs⟩
  ·exact h.i z
 ·rw[F5];split
  ·exact⟨hn,hs⟩
  ·exact h.o z
theorem Snd.P7{c:Code}{I O:List (List Int)}(h:Snd c I O){b:Nat}(hb:b<c.b.length)(hr:cR c.b (b:Int)):∀r∈P7 c I b,∀I' O',clo c I' O'→r∈O'.getD b []:=
 fun r hm I' O' hc=>(hc b hb hr).1 r (lK (fun k x hx=>(h.i k x hx).2.2 I' O' hc) r hm)
theorem Snd.P6{c:Code}{I O:List (List Int)}(h:Snd c I O){b:Nat}(hb:b<c.b.length)(hr:cR c.b (b:Int)):∀r∈P6 c I b,∀I' O',clo c I' O'→r∈I'.getD b []:=
 fun r hm I' O' hc=>(hc b hb hr).2 r (b2F (fun x hx=>h.P7 hb hr x hx I' O' hc) r hm)
theorem Snd.set{c:Code}{I O:List (List Int)}(h:Snd c I O){b:Nat}(hb:b<c.b.length)(hr:cR c.b (b:Int)):Snd c (I.set b (Go.Proofs.YtgdoiokalfhjoaaGreatDoor.P6 c I b)) (O.set b (Go.Proofs.YtgdoiokalfhjoaaGreatDoor.P7 c I b)):=by
 refine⟨fun k r hk=>?_,fun k r hk=>?_⟩
 ·rw[F5]at hk
  split at hk
  ·rename_i e
   obtain⟨rfl,_⟩:=e
   exact⟨hr,hb,h.P6 hb hr r hk⟩
  ·exact h.i k r hk
 ·rw[F5]at hk
  split at hk
  ·rename_i e
   obtain⟨rfl,_⟩:=e
   exact⟨hr,hb,h.P7 hb hr r hk⟩
  ·exact h.o k r hk
theorem qH:∀{b a:List Int},I5 a→I5 b→(∀x∈a,x∈b)→a.length≤b.length∧(b.length≤a.length→a=b)
 |[],a,sa,sb,h=>by
  cases a with
  |nil=>exact⟨by simp,fun _=>rfl⟩
  |cons x a=>have:=h x (by simp);simp at this
 |y::b,a,sa,sb,h=>by
  obtain⟨b1,b2⟩:=List.pairwise_cons.1 sb
  cases a with
  |nil=>exact⟨by simp,fun hl=>by simp at hl⟩
  |cons x a=>
   obtain⟨a1,a2⟩:=List.pairwise_cons.1 sa
   by_cases hxy:x=y
   ·subst hxy
    have hs:∀z∈a,z∈b:=fun z hz=>by
     rcases List.mem_cons.1 (h z (by simp [hz]))with rfl|h1
     ·have:=a1 z hz;omega
     ·exact h1
    obtain⟨h1,h2⟩:=qH a2 b2 hs
    exact⟨by simp;omega,fun hl=>by rw[h2 (by simpa using hl)]⟩
   ·have hx:x∈b:=(List.mem_cons.1 (h x (by simp))).resolve_left hxy
    have hs:∀z∈x::a,z∈b:=fun z hz=>by
     rcases List.mem_cons.1 hz with rfl|hz
     ·exact hx
     ·rcases List.mem_cons.1 (h z (by simp [hz]))with rfl|h1
      ·have h3:=a1 z hz;have h4:=b1 x hx;omega
      ·exact h1
    obtain⟨h1,h2⟩:=qH sa b2 hs
    exact⟨by simp at h1⊢;omega,fun hl=>by simp at h1 hl;omega⟩
theorem sB{r:Int}{l:List Int}(h:RB r l)(sl:I5 l)(hr:0≤r):(l.length:Int)≤r:=by
 have:∀(n:Nat) (l:List Int),I5 l→(∀x∈l,r-(n:Int)≤x∧x<r)→l.length≤n:=by
  intro n
  induction n with
  |zero=>intro l _ h;cases l with
   |nil=>simp
   |cons x l=>have:=h x (by simp);omega
  |succ n ih=>
   intro l sl h
   cases l with
   |nil=>simp
   |cons x l=>
    obtain⟨s1,s2⟩:=List.pairwise_cons.1 sl
    have:=ih l s2 fun y hy=>by
     have h1:=s1 y hy
     have h2:=h x (by simp)
     have h3:=h y (by simp [hy])
     omega
    simp;omega
 have:=this r.toNat l sl fun x hx=>by have:=h x hx;omega
 omega
def qN(l:List (List Int)):Nat:=(l.map List.length).sum
theorem vE:∀(l:List (List Int)) (b:Nat) (v:List Int),b<l.length→qN (l.set b v)+(l.getD b []).length=qN l+v.length
 |[],b,v,h=>by simp at h
 |x::l,0,v,_=>by simp [qN];omega
 |x::l,b+1,v,h=>by
  have:=vE l b v (by simpa using h)
  simp [qN]at this⊢;omega
theorem b1G:∀(l:List (List Int)) (m:Nat),(∀z,(l.getD z []).length≤m)→qN l≤m*l.length
 |[],m,_=>by simp [qN]
 |x::l,m,h=>by
  have h1:=b1G l m fun z=>by simpa using h (z+1)
  have h2:x.length≤m:=by simpa using h 0
  simp [qN]at h1⊢
  rw[Nat.mul_add];omega
theorem a0m(l:List (List Int))(b:Nat):l.set b (l.getD b [])=l:=by
 apply List.ext_getElem?
 intro k
 rw[List.getElem?_set]
 by_cases h:b=k
 ·subst h
  by_cases h2:b<l.length
  ·simp [h2]
  ·simp [h2]
 ·simp [h]
def Inc(c:Code)(I O:List (List Int)):Prop:=∀b,b<c.b.length→cR c.b (b:Int)→(∀r∈I.getD b [],r∈P6 c I b)∧∀r∈O.getD b [],r∈P7 c I b
theorem rX{c:Code}{I I':List (List Int)}(h:∀b,∀r∈I.getD b [],r∈I'.getD b [])(b:Nat):∀r∈P7 c I b,r∈P7 c I' b:=lK h
theorem a4l{c:Code}{I I':List (List Int)}(h:∀b,∀r∈I.getD b [],r∈I'.getD b [])(b:Nat):∀r∈P6 c I b,r∈P6 c I' b:=b2F (rX h b)
theorem Inc.grow{c:Code}{I O:List (List Int)}(h:Inc c I O){b:Nat}(hb:b<c.b.length)(hr:cR c.b (b:Int)):∀k,∀r∈I.getD k [],r∈(I.set b (P6 c I b)).getD k []:=fun k r hk=>by
 rw[F5]
 split
 ·rename_i e
  obtain⟨rfl,_⟩:=e
  exact(h b hb hr).1 r hk
 ·exact hk
theorem Inc.set{c:Code}{I O:List (List Int)}(h:Inc c I O){b:Nat}(hb:b<c.b.length)(hr:cR c.b (b:Int)):Inc c (I.set b (P6 c I b)) (O.set b (P7 c I b)):=by
 have hg:=h.grow hb hr
 intro k hk hrk
 constructor
 ·intro r hm
  rw[F5]at hm
  split at hm
  ·rename_i e
   obtain⟨rfl,_⟩:=e
   exact a4l hg b r hm
  ·exact a4l hg k r ((h k hk hrk).1 r hm)
 ·intro r hm
  rw[F5]at hm
  split at hm
  ·rename_i e
   obtain⟨rfl,_⟩:=e
   exact rX hg b r hm
  ·exact rX hg k r ((h k hk hrk).2 r hm)
structure FI (c:Code) (I O:List (List Int)):Prop where
 s:Shp c I O
 n:Snd c I O
 g:Inc c I O
theorem FI.set{c:Code}(hc:u9 c){I O:List (List Int)}(h:FI c I O){b:Nat}(hb:b<c.b.length)(hr:cR c.b (b:Int)):FI c (I.set b (P6 c I b)) (O.set b (P7 c I b)):=
 ⟨h.s.set hc hb,h.n.set hb hr,h.g.set hb hr⟩
theorem FI.zero(c:Code):FI c (List.replicate c.b.length []) (List.replicate c.b.length []):=by
 have e:∀z,(List.replicate c.b.length ([]:List Int)).getD z []=[]:=fun z=>by
  rw[List.getD_eq_getElem?_getD,List.getElem?_replicate];split<;>rfl
 refine⟨⟨by simp,by simp,fun z=>by rw[e];exact⟨RB.nil,I5.nil⟩,fun z=>by rw[e];exact⟨RB.nil,I5.nil⟩⟩,⟨fun b r h=>by rw[e]at h;simp at h,fun b r h=>by rw[e]at h;simp at h⟩,fun b _ _=>⟨fun r h=>by rw[e]at h;simp at h,fun r h=>by rw[e]at h;simp at h⟩⟩
theorem FI.a9T{c:Code}(hc:u9 c){I O:List (List Int)}(h:FI c I O):qN I≤16*c.b.length∧qN O≤16*c.b.length:=by
 have hr:=hc.r
 constructor
 ·have:=b1G I 16 fun z=>by have:=sB (h.s.i z).1 (h.s.i z).2 hr.1;omega
  rwa [h.s.li]at this
 ·have:=b1G O 16 fun z=>by have:=sB (h.s.o z).1 (h.s.o z).2 hr.1;omega
  rwa [h.s.lo]at this
theorem FI.done{c:Code}{I O:List (List Int)}(h:FI c I O)(he:∀b,b<c.b.length→cR c.b (b:Int)→O.getD b []=P7 c I b∧I.getD b []=P6 c I b):liveF c=(I,O):=
 uV ⟨h.s,h.n,fun b hb hr=>by
  obtain⟨e1,e2⟩:=he b hb hr
  refine⟨fun r hm=>by rw[e1];exact hm,fun r hm=>?_⟩
  rw[e1]at hm
  rw[e2];exact hm⟩
noncomputable def refS (c:Code) (I O:List (List Int)):Nat→List (List Int)×List (List Int)×Bool
 |0=>(I,O,false)
 |b+1=>
  let p:=refS c I O b
  if(reachF c.b).getD b false=true then
   (p.1.set b (P6 c p.1 b),p.2.1.set b (P7 c p.1 b),p.2.2||decide ((p.2.1.getD b []).length<(P7 c p.1 b).length∨(p.1.getD b []).length<(P6 c p.1 b).length))
  else p
theorem vA{c:Code}(hc:u9 c){I O:List (List Int)}(h:FI c I O):∀b,b≤c.b.length→FI c (refS c I O b).1 (refS c I O b).2.1∧qN I+qN O+(if(refS c I O b).2.2=true then 1 else 0)≤qN (refS c I O b).1+qN (refS c I O b).2.1∧
  ((refS c I O b).2.2=false→(refS c I O b).1=I∧(refS c I O b).2.1=O∧∀k,k<b→cR c.b (k:Int)→O.getD k []=P7 c I k∧I.getD k []=P6 c I k)
 |0,_=>⟨h,by simp [refS],fun _=>⟨rfl,rfl,fun k hk=>by omega⟩⟩
 |b+1,hb=>by
  obtain⟨h1,h2,h3⟩:=vA hc h b (by omega)
  have hra:=O5 c.b (show b<c.b.length by omega)
  unfold refS
  generalize refS c I O b=p at*
  obtain⟨J,P,a⟩:=p
  simp only at h1 h2 h3⊢
  by_cases hr:(reachF c.b).getD b false=true
  ·rw[if_pos hr]
   have hrc:=hra.1 hr
   have hlb:b<c.b.length:=by omega
   have g:=h1.g b hlb hrc
   have s1:=(h1.set hc hlb hrc).s
   have nI:I5 (P6 c J b):=sL bT
   have nO:I5 (P7 c J b):=bT
   obtain⟨l1,e1⟩:=qH (h1.s.i b).2 nI g.1
   obtain⟨l2,e2⟩:=qH (h1.s.o b).2 nO g.2
   have t1:=vE J b (P6 c J b) (by rw[h1.s.li];exact hlb)
   have t2:=vE P b (P7 c J b) (by rw[h1.s.lo];exact hlb)
   refine⟨h1.set hc hlb hrc,?_,fun ha=>?_⟩
   ·simp only
    cases a with
    |true=>simp only[Bool.true_or,if_true]at h2⊢;omega
    |false=>
     simp only[Bool.false_or,decide_eq_true_eq,Bool.false_eq_true,if_false]at h2⊢
     split<;>omega
   ·simp only[Bool.or_eq_false_iff,decide_eq_false_iff_not]at ha
    obtain⟨ha,hd⟩:=ha
    obtain⟨rfl,rfl,h4⟩:=h3 ha
    have q1:=e1 (by omega)
    have q2:=e2 (by omega)
    refine⟨by rw[←q1];exact a0m _ _,by rw[←q2];exact a0m _ _,fun k hk hrk=>?_⟩
    rcases Nat.lt_succ_iff_lt_or_eq.1 hk with h5|rfl
    ·exact h4 k h5 hrk
    ·exact⟨q2,q1⟩
  ·rw[if_neg hr]
   refine⟨h1,h2,fun ha=>?_⟩
   obtain⟨r1,r2,h4⟩:=h3 ha
   refine⟨r1,r2,fun k hk hrk=>?_⟩
   rcases Nat.lt_succ_iff_lt_or_eq.1 hk with h5|rfl
   ·exact h4 k h5 hrk
   ·exact absurd (hra.2 hrk) hr
theorem c1N{c:Code}(hc:u9 c):∀(m:Nat) (I O:List (List Int)),FI c I O→32*c.b.length-(qN I+qN O)≤m→
  ∃J P,FI c J P∧∀b,b<c.b.length→cR c.b (b:Int)→P.getD b []=P7 c J b∧J.getD b []=P6 c J b:=by
 intro m
 induction m with
 |zero=>
  intro I O h hm
  obtain⟨f1,f2,f3⟩:=vA hc h c.b.length (Nat.le_refl _)
  have s1:=h.a9T hc
  have s2:=f1.a9T hc
  cases ha:(refS c I O c.b.length).2.2 with
  |false=>exact⟨I,O,h,(f3 ha).2.2⟩
  |true=>rw[ha]at f2;simp only[if_true]at f2;omega
 |succ m ih=>
  intro I O h hm
  obtain⟨f1,f2,f3⟩:=vA hc h c.b.length (Nat.le_refl _)
  cases ha:(refS c I O c.b.length).2.2 with
  |false=>exact⟨I,O,h,(f3 ha).2.2⟩
  |true=>
   rw[ha]at f2
   simp only[if_true]at f2
   exact ih _ _ f1 (by omega)
theorem eP{c:Code}(hc:u9 c):Lst c (liveF c).1 (liveF c).2:=by
 obtain⟨J,P,h,he⟩:=c1N hc _ _ _ (FI.zero c) (Nat.le_refl _)
 have hl:=h.done he
 rw[hl]
 exact⟨h.s,h.n,fun b hb hr=>by
  obtain⟨e1,e2⟩:=he b hb hr
  refine⟨fun r hm=>by rw[e1];exact hm,fun r hm=>?_⟩
  rw[e1]at hm
  rw[e2];exact hm⟩
theorem pW{c:Code}(hc:u9 c)(z:Nat):((liveF c).1.getD z []).length≤100∧((liveF c).2.getD z []).length≤100:=by
 have h:=(eP hc).shp
 have hr:=hc.r
 have h1:=sB (h.i z).1 (h.i z).2 hr.1
 have h2:=sB (h.o z).1 (h.o z).2 hr.1
 omega
theorem a4d{c:Code}(hc:u9 c):a5s c.regs (liveF c).1∧a5s c.regs (liveF c).2:=by
 have h:=(eP hc).shp
 have key:∀l:List Int,RB c.regs l→I5 l→okL c.regs l:=by
  intro l hb hs k hk
  have e:l.getD k 0=l[k]:=lA hk
  have hm:=hb l[k] (List.getElem_mem hk)
  refine⟨?_,by rw[e];exact hm.2⟩
  unfold a4q
  split
  ·rw[e];omega
  ·rw[lA (show k-1<l.length by omega),e]
   exact List.pairwise_iff_getElem.1 hs (k-1) k (by omega) hk (by omega)
 exact⟨fun i _=>key _ (h.i i).1 (h.i i).2,fun i _=>key _ (h.o i).1 (h.o i).2⟩
def mR(n:Int):E3:=⟨2,n,0⟩
def eM(l:List Int)(r:Int):Int:=(l.idxOf r:Nat)
def o4(l uses:List Int):List Int:=uses.filter fun r=>decide (r∈l)
def yM(l:List Int)(regs:Int)(r k:Int):e8:=⟨11,0,eM l r,mR (regs+k),O0,O0,O0⟩
def H6(l inn:List Int)(regs:Int):List e8:=(List.range inn.length).map fun k=>yM l regs (inn.getD k 0) k
def w8(o:E3)(inn:List Int)(regs:Int):E3:=if o.k=2∧o.n∈inn then mR (regs+eM inn o.n)else o
def c2n(l:List Int)(regs:Int)(r:Int):e8:=⟨12,0,eM l r,O0,mR regs,O0,O0⟩
def a3Y(l:List Int)(regs:Int)(i:e8):e8:=
 {i with a:=w8 i.a (o4 l (m7 i)) regs,b:=w8 i.b (o4 l (m7 i)) regs,c:=w8 i.c (o4 l (m7 i)) regs,d:=if z8 i∈l then mR regs else i.d}
def W8(l:List Int)(regs:Int)(i:e8):List e8:=
 H6 l (o4 l (m7 i)) regs++a3Y l regs i::if z8 i∈l then[c2n l regs (z8 i)]else[]
def E5(l:List Int)(regs:Int)(b:b6):b6:=
 ⟨b.i.flatMap (W8 l regs)++H6 l (o4 l (j6 b.t)) regs,{b.t with a:=w8 b.t.a (o4 l (j6 b.t)) regs,b:=w8 b.t.b (o4 l (j6 b.t)) regs}⟩
def m9(c:Code)(l:List Int):Code:=if l=[]then c else{c with u7:=l.length,regs:=c.regs+3,b:=c.b.map (E5 l c.regs)}
def dC(c:Code):Prop:=c.regs≤256∧(c.b.map fun b=>b.i.length).sum≤2000
def b0a(c:Code)(r:Int):Prop:=∃b,b<c.b.length∧cR c.b (b:Int)∧(r∈j6 (w7 c.b b).t∨∃i∈(w7 c.b b).i,r∈m7 i∨r=z8 i)
def b7r(c:Code)(r:Int):Prop:=∃b,b<c.b.length∧cR c.b (b:Int)∧(r=B8 (w7 c.b b).t∨(w7 c.b b).t.kind=4∧r∈j6 (w7 c.b b).t)
noncomputable def spF (c:Code):List Bool:=(List.range c.regs.toNat).map fun(r:Nat)=>Decidable.decide (h:=Classical.propDecidable _) (b0a c r∧¬b7r c r)
end Go.Proofs.YtgdoiokalfhjoaaGreatDoor
end
