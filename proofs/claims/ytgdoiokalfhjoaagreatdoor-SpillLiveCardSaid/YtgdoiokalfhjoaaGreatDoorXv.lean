/- Own work (by an AI agent; no person has read it): part of a proof of the seat YtgdoiokalfhjoaaGreatDoor. -/
import Derived.Test.YtgdoiokalfhjoaaGreatDoorXu
set_option linter.unusedSimpArgs false
set_option linter.unusedVariables false
set_option maxRecDepth 100000
set_option maxHeartbeats 10000000
section
namespace Go.Proofs.YtgdoiokalfhjoaaGreatDoor
open Go.Ab
def yD:Code:=⟨0,0,0,0,0,[],[],[]⟩
noncomputable def doneAV (c:Code):Option (List Int)→List AV
 |none=>yD.av++[.a6 false (b7 []),.v (.int .i64 170)]
 |some l=>(m9 c l).av++[.a6 false (b7 l),.v (.int .i64 0)]
noncomputable def lseq (c:Code):Nat→List Int
 |0=>[]
 |i+1=>y5 (lseq c i) (bestF c (lseq c i))
theorem mS(c:Code)(v:Int)(n:Nat)(l:List Int):runF c v (n+1) l=if dC (m9 c l)then(if pressF (m9 c l)≤v then some l else if bestF c l<0 then none else runF c v n (y5 l (bestF c l)))else none:=rfl
structure qV (c:Code) (v:Int) (i:Nat):Prop where
 s:cS c (lseq c i)
 l:(lseq c i).length=i
 r:runF c v (c.regs.toNat+1) []=runF c v (c.regs.toNat+1-i) (lseq c i)
theorem qV.zero(c:Code)(v:Int):qV c v 0:=⟨cS.nil c,rfl,rfl⟩
theorem qV.le{c:Code}{v:Int}{i:Nat}(hc:u9 c)(h:qV c v i):i≤c.regs.toNat:=by
 have:=h.s.len hc
 have:=h.l
 omega
theorem qV.step{c:Code}{v:Int}{i:Nat}(hc:u9 c)(h:qV c v i):runF c v (c.regs.toNat+1) []=if dC (m9 c (lseq c i))then(if pressF (m9 c (lseq c i))≤v then some (lseq c i)else if bestF c (lseq c i)<0 then none else runF c v (c.regs.toNat-i) (lseq c (i+1)))else none:=by
 have:=h.le hc
 rw[h.r,show c.regs.toNat+1-i=(c.regs.toNat-i)+1 by omega,mS];rfl
theorem qV.next{c:Code}{v:Int}{i:Nat}(hc:u9 c)(h:qV c v i)(h1:dC (m9 c (lseq c i)))(h2:¬pressF (m9 c (lseq c i))≤v)(h3:¬bestF c (lseq c i)<0):qV c v (i+1)∧i<c.regs.toNat+1:=by
 have hle:=h.le hc
 have hs:=h.step hc
 rw[if_pos h1,if_neg h2,if_neg h3]at hs
 refine⟨⟨h.s.b6I h3,?_,?_⟩,by omega⟩
 ·show(y5 _ _).length=i+1
  rw[nQ h.s.s (lT h3).2.2.2,h.l]
 ·rw[hs,show c.regs.toNat+1-(i+1)=c.regs.toNat-i by omega]
theorem a5t{d:Code}(hd:u9 d):a5s d.regs (liveF d).1∧a5s d.regs (liveF d).2∧(liveF d).1.length=d.b.length∧(liveF d).2.length=d.b.length:=
 ⟨(a4d hd).1,(a4d hd).2,(eP hd).shp.li,(eP hd).shp.lo⟩
theorem a9Y(c:Code)(l:List Int):(m9 c l).c6=c.c6∧(m9 c l).loops=c.loops:=by
 unfold m9;split<;>exact⟨rfl,rfl⟩
structure gK (c:Code):Prop where
 s:b1J c
 a:c.c6.length≤1000
 l:c.loops.length≤1000
def sX:=ZZ.mk (Zq c1b.d (Zq @S8 (Zq @cI (Zq @H3 (Zq @fH (Zq @j8 @y9))))))
theorem b5e(c:Code)(v:Int)(hc:gK c):c9 Tryz.prog 44 [.agg c.av,.v (.int .i64 v)] (fun _=> .agg (doneAV c (runF c v (c.regs.toNat+1) []))) (fun _=>[]):=by
 have ho:=hc.s.ok
 have hr:=ho.r
 have hn:=ho.n
 have hsl:=hc.s.l
 refine Zf Tryz.func44 Tryz.ntmps44 ?_;simp only[Code.av]
 repeat' (first|refine Za ?_|(with_reducible constructor<;>first|intro N hN mk hmk|intro N hN|intro h)|refine Zt sX.d ?_|fail)
 refine nR 5 (y:= .a6 false (b7 [])) (by simp (maxSteps:=10000000) (disch:=omega) only[sX.d,n7,T6,u4,B4,s7,o7,AV.kept,b8,n6,u5,D5,s8,s6,c7,AV.A6,n8,x5,AV.plain,rd,v8,a8,T1,stepC,AV.j3,AV.U9,AV.x7,AV.O6,AV.scalar,V7,u0,C8,D3,D4,D0,s5,B9,V8,u1,C9,B3,l0,V6,n4,A4,A3,T7,B2,m8,TD.isRow,u3,l9,n3,l7,H7,Value.oneCell',↓reduceIte,Int.reduceNe,Int.reduceEq,Nat.reduceAdd,Nat.reduceLT,Nat.reduceLeDiff,Nat.reduceSub,Nat.reduceMul,Nat.reduceBEq,Nat.reduceEqDiff,reduceCtorEq,Int.reduceToNat,←decide_not,←Bool.decide_and,sA,sN]<;>first|done|rfl) rfl ?_;simp (maxSteps:=10000000) (disch:=omega) only[a8,n6,y3,sX.d,n7,T6,u4,B4,s7,o7,AV.kept,b8,n6,u5,D5,s8,s6,c7,AV.A6,n8,x5,AV.plain,rd,v8,a8,T1,stepC,AV.j3,AV.U9,AV.x7,AV.O6,AV.scalar,V7,u0,C8,D3,D4,D0,s5,B9,V8,u1,C9,B3,l0,V6,n4,A4,A3,T7,B2,m8,TD.isRow,u3,l9,n3,l7,H7,Value.oneCell',↓reduceIte,Int.reduceNe,Int.reduceEq,Nat.reduceAdd,Nat.reduceLT,Nat.reduceLeDiff,Nat.reduceSub,Nat.reduceMul,Nat.reduceBEq,Nat.reduceEqDiff,reduceCtorEq,Int.reduceToNat,←decide_not,←Bool.decide_and,sA,sN]
 refine F8 (fun i=>⟨[.Z,.v (.int .i64 v),.ptr 0 0 0,.Z,.ptr 1 0 0,.a6 false (b7 (lseq c i)),.Z,.Z,.Z,.Z,.Z,.Z,.Z,.Z,.Z,.Z,.Z,.Z,.Z,.Z,.Z,.Z,.Z,.Z,.Z,.Z,.Z,.Z,.Z,.Z,.Z,.Z,.Z,.Z,.Z],[(0,.live ⟨8,[[.v (.int .i64 c.group),.v (.int .i64 c.sub),.v (.int .i64 c.regs),.v (.int .i64 c.u7),.v (.int .i64 c.params),.a6 false (w6 c.c6),.a6 false (Proofs.YtgdoiokalfhjoaaGreatDoor.loops c.loops),.a6 false (p7 c.b)]],0⟩),(1,.live ⟨10,[[.v (.int .i64 0),.v (.int .i64 0),.v (.int .i64 0),.v (.int .i64 0),.v (.int .i64 0),.a6 true [],.a6 true [],.a6 true [],.a6 true [],.v (.int .i64 0)]],0⟩)],2⟩) (fun ii=>Go.Ab.V9 ((fun i=>qV c v i) ii)) (c.regs.toNat+1) (Zw [1,2,4,5] [0,8] sX.d ?_) ?_ ?_
 ·rfl
 ·exact⟨qV.zero c v⟩
 ·intro i hi hI
  have hI:=hI.out
  have hst:=hI.step ho
  have hnx:=hI.next ho
  have hs:=hI.s
  have hlen:=hI.l
  rw[hst]
  obtain⟨l,hl⟩:∃l,lseq c i=l:=⟨_,rfl⟩
  have hl2:lseq c (i+1)=y5 l (bestF c l):=by rw[←hl];rfl
  rw[hl]at hnx hs hlen
  rw[hl,hl2]
  have J1:=gV c l (by omega) hc.a hc.l (fun b hb=>by have:=hsl b hb;omega) (by have:=hs.len ho;omega) (by omega) (fun q hq=>(hs.r q hq).1)
  obtain⟨d1,d2,d3⟩:=jW hc.s l
  obtain⟨D,hD⟩:∃D,m9 c l=D:=⟨_,rfl⟩
  rw[hD]at J1 d1 d2 d3 hnx
  rw[hD]
  have hdn:=d1.n
  have J2:=b5v D (by omega) (fun b hb=>by have:=d3 b hb;omega)
  have J3:=a9E D d1
  obtain⟨p1,p2,p3,p4⟩:=a5t d1
  have J4:=a5v D (liveF D).1 (liveF D).2 d1 p1 p2 p3 p4
  have J5:=b8O c l ho (by have:=hs.len ho;omega)
  have J6:=dB l (bestF c l) (by have:=hs.len ho;omega)
  rw[show prF D (liveF D).1 (liveF D).2 D.b.length=pressF D from rfl]at J4
  simp only[Code.av]at J1 J2 J3 J4 J5
  repeat' (first|refine Za ?_|(with_reducible constructor<;>first|intro N hN mk hmk|intro N hN|intro h)|refine Zc J1 ?_|refine Zc J2 ?_|refine Zc J3 ?_|refine Zc J4 ?_|refine Zc J5 ?_|refine Zc J6 ?_|refine Zt sX.d ?_|fail)
  ·rw[if_neg (by assumption)];rfl
  ·rw[if_pos (Classical.not_not.1 (by assumption)),if_pos (by assumption),←hD]
   rfl
  ·rw[if_pos (Classical.not_not.1 (by assumption)),if_neg (by assumption),if_pos (by assumption)];rfl
  ·obtain⟨n1,n2⟩:=hnx (Classical.not_not.1 (by assumption)) (by assumption) (by assumption)
   refine⟨n2,⟨n1⟩,?_⟩
   refine Zw [1,2,4,5] [0,1] sX.d ?_
   rfl
def P9(s:List Bool)(l:List Int):List Bool:=l.foldl (fun o r=>if 0≤r then o.set r.toNat true else o) s
theorem E0:∀(l:List Int) (s:List Bool),(P9 s l).length=s.length
 |[],s=>rfl
 |a::l,s=>by
  show(P9 (if 0≤a then s.set a.toNat true else s) l).length=_
  rw[E0 l];split<;>simp
theorem b1d(s:List Bool)(l:List Int)(i:Nat)(h:i<l.length):P9 s (l.take (i+1))=if 0≤l.getD i 0 then(P9 s (l.take i)).set (l.getD i 0).toNat true else P9 s (l.take i):=by
 rw[w4 l i 0 h];unfold P9;rw[List.foldl_append];rfl
def tY:=ZZ.mk (Zq iJ.d (Zq @K7 (Zq @K6 (Zq @aG (Zq @Y8 (Zq @aH (Zq @lW (Zq @y9 @dH))))))))
theorem xX(s:List Bool)(l:List Int)(hs:s.length≤1000)(hl:l.length≤1000)(h:∀r∈l,r<s.length):y0 Tryz.prog 194 [.own 0 0 s.length,.a6 false (b7 l)] [⟨1,o8 s,0⟩] 1 (fun _:Unit=>True) (fun _=> .O4 []) (fun _=>[⟨1,o8 (P9 s l),0⟩]):=by
 refine Zf Tryz.func194 Tryz.ntmps194 ?_
 repeat' (first|refine Za ?_|(with_reducible constructor<;>first|intro N hN mk hmk|intro N hN|intro h)|refine Zt tY.d ?_|fail)
 refine c8 (fun i=>⟨[.own 0 0 s.length,.Z,.Z,.Z,.Z,.Z,.a6 false (b7 l),.v (.int .i64 l.length),.v (.int .i64 i),.Z,.Z,.Z,.Z,.Z,.Z,.Z,.Z,.Z],[(0,.live ⟨1,o8 (P9 s (l.take i)),0⟩),(1,.s9 99 [.ptr 0 0 0])],2⟩) l.length (Zw [0,6,7,8] [0] tY.d ?_) ?_
 ·rfl
 ·intro i hi
  have hml:=E0 (l.take i) s
  by_cases hin:i<l.length
  ·have hgo:=h _ (F6 hin)
   have hst:=b1d s l i hin
   repeat' (first|refine Za ?_|(with_reducible constructor<;>first|intro N hN mk hmk|intro N hN|intro h)|refine Zt (Zq tY.d hml) ?_|fail)
   ·refine Zw [0,6,7,8] [0] (Zq tY.d hml) ?_
    rw[hst,if_pos (by assumption)];rfl
   ·refine Zw [0,6,7,8] [0] (Zq tY.d hml) ?_
    rw[hst,if_neg (by assumption)];rfl
  ·obtain rfl:i=l.length:=by omega
   rw[List.take_length]
   repeat' (first|refine Za ?_|(with_reducible constructor<;>first|intro N hN mk hmk|intro N hN|intro h)|refine Zt (Zq tY.d hml) ?_|fail)
   refine Zr (()) [0] (Zq tY.d hml) ?_
   trivial
def c6T:=ZZ.mk (Zq tY.d (Zq @ct1 @aL))
def c5P:=ZZ.mk (Zq tY.d @ct1)
theorem a3G(s:List Bool)(d:Int)(hs:s.length≤1000)(h:d<s.length):y0 Tryz.prog 194 [.own 0 0 s.length,.own 1 0 1] [⟨1,o8 s,0⟩,⟨1,[[.v (.int .i64 d)]],0⟩] 2 (fun _:Unit=>True) (fun _=> .O4 []) (fun _=>[⟨1,o8 (P9 s [d]),0⟩,⟨1,[[.v (.int .i64 d)]],0⟩]):=by
 have hm:P9 s [d]=if 0≤d then s.set d.toNat true else s:=rfl
 rw[hm]
 refine Zf Tryz.func194 Tryz.ntmps194 ?_
 repeat' (first|refine Za ?_|(with_reducible constructor<;>first|intro N hN mk hmk|intro N hN|intro h)|(guard_target=~ AK Tryz.prog _ _ _ _;refine x9 [(),()] ?_)|refine Zt c6T.d ?_|fail)
 ·rw[if_pos (by assumption)]
  refine Zr (()) [0,1] c5P.d ?_
  trivial
 ·rw[if_neg (by assumption)]
  refine Zr (()) [0,1] c5P.d ?_
  trivial
def spI(U:List Bool)(L:List e8):List Bool:=L.foldl (fun U x=>P9 (P9 U (m7 x)) [z8 x]) U
theorem mV:∀(L:List e8) (U:List Bool),(spI U L).length=U.length
 |[],U=>rfl
 |x::L,U=>by show(spI (P9 (P9 U (m7 x)) [z8 x]) L).length=_;rw[mV L,E0,E0]
theorem b85(U:List Bool)(L:List e8)(i:Nat)(h:i<L.length):spI U (L.take (i+1))=P9 (P9 (spI U (L.take i)) (m7 (L.getD i I0))) [z8 (L.getD i I0)]:=by
 rw[w4 L i I0 h];unfold spI;rw[List.foldl_append];rfl
def spE(E:List Bool)(b:b6):List Bool:=if b.t.kind=4 then P9 (P9 E [B8 b.t]) (j6 b.t)else P9 E [B8 b.t]
noncomputable def spQ (c:Code):Nat→List Bool×List Bool
 |0=>(List.replicate c.regs.toNat false,List.replicate c.regs.toNat false)
 |b+1=>if(reachF c.b).getD b false then(P9 (spI (spQ c b).1 (w7 c.b b).i) (j6 (w7 c.b b).t),spE (spQ c b).2 (w7 c.b b))else spQ c b
theorem c2z(E:List Bool)(b:b6):(spE E b).length=E.length:=by unfold spE;split<;>simp [E0]
theorem mW(c:Code):∀b,(spQ c b).1.length=c.regs.toNat∧(spQ c b).2.length=c.regs.toNat
 |0=>by simp [spQ]
 |b+1=>by
  have ih:=mW c b
  unfold spQ
  split
  ·exact⟨by rw[E0,mV];exact ih.1,by rw[c2z];exact ih.2⟩
  ·exact ih
def eJ:=ZZ.mk (Zq xG.d (Zq tY.d (Zq @aD (Zq @lX (Zq @y7 (Zq @I3 (Zq @H8 (Zq @K0 (Zq @b6.av.eq_1 (Zq @List.length_replicate.{0} @List.length_set.{0}))))))))))
theorem a0L(c:Code)(hc:u9 c):c9 Tryz.prog 123 [.agg c.av] (fun n=> .own n 0 c.regs.toNat) (fun _=>[⟨1,o8 (dY (spQ c c.b.length).1 (spQ c c.b.length).2 c.regs.toNat),0⟩]):=by
 have hr:=hc.r
 have hn:=hc.n
 have C3:=rE c hc.succ (by omega)
 have hlr:=T0 c.b
 simp only[Code.av]at C3
 (refine gP Tryz.func123 rfl (by kernel_rfl) ?_;rw[lB Tryz.ntmps123];simp only[Code.av];simp only[List.replicate_succ,List.replicate_zero,List.cons_append,List.nil_append,List.length_cons,List.length_nil,Nat.reduceAdd,Nat.reduceSub];refine u2 ?_)
 repeat' (first|refine Za ?_|(with_reducible constructor<;>first|intro N hN mk hmk|intro N hN|intro h)|refine Zc C3 ?_|refine Zt (Zq eJ.d hlr) ?_|fail)
 refine c8 (fun b=>⟨[.Z,.ptr 0 0 0,.Z,.own 1 0 c.regs.toNat,.own 2 0 c.regs.toNat,.fn 194 [],.Z,.Z,.Z,.Z,.Z,.Z,.Z,.Z,.Z,.Z,.Z,.Z,.a6 false (o8 (reachF c.b)),.v (.int .i64 c.b.length),.v (.int .i64 b),.Z,.Z,.Z,.Z,.Z,.Z,.Z,.Z,.Z,.Z,.Z,.Z,.Z,.Z,.Z,.Z,.Z,.Z,.Z,.Z,.Z,.Z,.Z,.Z,.Z,.Z,.Z,.Z,.Z,.Z,.Z,.Z,.Z,.Z,.Z,.Z,.Z,.Z,.Z,.Z,.Z,.Z,.Z,.Z,.Z,.Z,.Z,.Z,.Z,.Z,.Z,.Z,.Z,.Z,.Z,.Z,.Z,.Z,.Z,.Z,.Z,.Z,.Z,.Z,.Z,.Z,.Z,.Z,.Z,.Z,.Z,.Z,.Z,.Z,.Z,.Z,.Z,.Z,.Z,.Z,.Z,.Z,.Z,.Z,.Z,.Z,.Z,.Z,.Z,.Z],[(0,.live ⟨8,[[.v (.int .i64 c.group),.v (.int .i64 c.sub),.v (.int .i64 c.regs),.v (.int .i64 c.u7),.v (.int .i64 c.params),.a6 false (w6 c.c6),.a6 false (Proofs.YtgdoiokalfhjoaaGreatDoor.loops c.loops),.a6 false (p7 c.b)]],0⟩),(1,.live ⟨1,o8 ((spQ c b).1),0⟩),(2,.live ⟨1,o8 ((spQ c b).2),0⟩)],3⟩) c.b.length (Zw [1,3,4,5,18,19,20] [0,32,56] (Zq eJ.d hlr) ?_) ?_
 ·rfl
 ·intro b hb
  have hlU:=(mW c b).1
  have hlE:=(mW c b).2
  obtain⟨Y,hY⟩:∃Y,Y=spQ c (b+1):=⟨_,rfl⟩
  rw[←hY]
  by_cases hlt:b<c.b.length
  ·have hy:Y=if(reachF c.b).getD b false then(P9 (spI (spQ c b).1 (w7 c.b b).i) (j6 (w7 c.b b).t),spE (spQ c b).2 (w7 c.b b))else spQ c b:=by rw[hY];rfl
   have hbo:=hc.b _ (O8 hlt)
   obtain⟨U,hU⟩:∃U,U=(spQ c b).1:=⟨_,rfl⟩
   obtain⟨E,hE⟩:∃E,E=(spQ c b).2:=⟨_,rfl⟩
   rw[←hU]at hlU hy
   rw[←hE]at hlE hy
   rw[←hU,←hE]
   obtain⟨B,hB⟩:∃B,B=w7 c.b b:=⟨_,rfl⟩
   have hB2:c.b.getD b B0=B:=by rw[hB];rfl
   rw[←hB]at hy hbo
   have hbl:=hbo.l
   have huT:=X7 B.t
   have hti:=jE hbo.t
   obtain⟨U',hU'⟩:∃U',U'=spI U B.i:=⟨_,rfl⟩
   have hlU':U'.length=c.regs.toNat:=by rw[hU',mV,hlU]
   have J1:=rG B.t
   have J7:=xW B.t
   simp only[o6.av]at J1 J7
   have hdl:B8 B.t<c.regs.toNat:=by
    rcases Int.lt_or_le (B8 B.t) 0 with h|h
    ·omega
    ·have:=uQ hbo.t h;omega
   have P1:=xX U' (j6 B.t) (by omega) (by omega) (fun r h=>by have:=hti r h;omega)
   have P2:=a3G E (B8 B.t) (by omega) (by omega)
   have P3:=xX (P9 E [B8 B.t]) (j6 B.t) (by rw[E0];omega) (by omega) (fun r h=>by have:=hti r h;rw[E0];omega)
   rw[hlU']at P1
   rw[hlE]at P2
   rw[E0,hlE]at P3
   rw[←hU']at hy
   repeat' (first|(guard_target=~ AK Tryz.prog _ _ _ _;refine oZ (x:=Go.Code.seq (Go.Code.region 7 _ _) _) ⟨[.Z,.ptr 0 0 0,.Z,.own 1 0 c.regs.toNat,.own 2 0 c.regs.toNat,.fn 194 [],.v (.int .i64 b),.Z,.Z,.Z,.Z,.Z,.Z,.Z,.Z,.Z,.Z,.Z,.a6 false (o8 (reachF c.b)),.v (.int .i64 c.b.length),.v (.int .i64 b),.Z,.Z,.Z,.Z,.Z,.Z,.Z,.Z,.Z,.Z,.Z,.Z,.Z,.Z,.Z,.Z,.Z,.Z,.Z,.Z,.Z,.Z,.Z,.Z,.Z,.Z,.Z,.Z,.Z,.Z,.Z,.Z,.Z,.Z,.Z,.Z,.Z,.Z,.Z,.Z,.Z,.Z,.Z,.Z,.Z,.Z,.Z,.Z,.Z,.Z,.Z,.Z,.Z,.Z,.Z,.Z,.Z,.Z,.Z,.Z,.Z,.Z,.Z,.Z,.Z,.Z,.Z,.Z,.Z,.Z,.Z,.Z,.Z,.Z,.Z,.Z,.Z,.Z,.Z,.Z,.Z,.Z,.Z,.Z,.Z,.Z,.Z,.Z,.Z,.Z],[(0,.live ⟨8,[[.v (.int .i64 c.group),.v (.int .i64 c.sub),.v (.int .i64 c.regs),.v (.int .i64 c.u7),.v (.int .i64 c.params),.a6 false (w6 c.c6),.a6 false (Proofs.YtgdoiokalfhjoaaGreatDoor.loops c.loops),.a6 false (p7 c.b)]],0⟩),(1,.live ⟨1,o8 (U'),0⟩),(2,.live ⟨1,o8 (E),0⟩)],3⟩ ?_ ?_)|refine Za ?_|(with_reducible constructor<;>first|intro N hN mk hmk|intro N hN|intro h)|refine Zc J1 ?_|refine Zc J7 ?_|(refine Zp P1 [1] (Zq eJ.d (Zq hB2 (Zq hlU (Zq hlE (Zq hlU' hlr))))) ?_;with_reducible intro _ _)|(refine Zp P3 [2] (Zq eJ.d (Zq hB2 (Zq hlU (Zq hlE (Zq hlU' hlr))))) ?_;with_reducible intro _ _)|(refine Zp P2 [2,155] (Zq eJ.d (Zq hB2 (Zq hlU (Zq hlE (Zq hlU' hlr))))) ?_;with_reducible intro _ _)|(refine Zw [1,3,4,5,18,19,20,6] [0,1,2] (Zq eJ.d (Zq hB2 (Zq hlU (Zq hlE (Zq hlU' hlr))))) ?_;first|rfl|(simp only[*,true_and,and_true,false_and,and_false,decide_true,decide_false,not_true_eq_false,not_false_eq_true];done)|(simp [*];done))|refine Zt (Zq eJ.d (Zq hB2 (Zq hlU (Zq hlE (Zq hlU' hlr))))) ?_|fail)
   ·refine Zw [1,3,4,5,18,19,20] [0,1,2] (Zq eJ.d (Zq hB2 (Zq hlU (Zq hlE (Zq hlU' hlr))))) ?_
    rw[hy,if_neg (by simp_all),←hU,←hE];rfl
   ·refine c8 (fun i=>⟨[.Z,.ptr 0 0 0,.Z,.own 1 0 c.regs.toNat,.own 2 0 c.regs.toNat,.fn 194 [],.v (.int .i64 b),.Z,.Z,.Z,.Z,.Z,.Z,.Z,.Z,.Z,.Z,.Z,.a6 false (o8 (reachF c.b)),.v (.int .i64 c.b.length),.v (.int .i64 b),.Z,.Z,.Z,.Z,.Z,.Z,.Z,.Z,.Z,.Z,.Z,.a6 false (e7 B.i),.v (.int .i64 B.i.length),.v (.int .i64 i),.Z,.Z,.Z,.Z,.Z,.Z,.Z,.Z,.Z,.Z,.Z,.Z,.Z,.Z,.Z,.Z,.Z,.Z,.Z,.Z,.Z,.Z,.Z,.Z,.Z,.Z,.Z,.Z,.Z,.Z,.Z,.Z,.Z,.Z,.Z,.Z,.Z,.Z,.Z,.Z,.Z,.Z,.Z,.Z,.Z,.Z,.Z,.Z,.Z,.Z,.Z,.Z,.Z,.Z,.Z,.Z,.Z,.Z,.Z,.Z,.Z,.Z,.Z,.Z,.Z,.Z,.Z,.Z,.Z,.Z,.Z,.Z,.Z,.Z,.Z,.Z],[(0,.live ⟨8,[[.v (.int .i64 c.group),.v (.int .i64 c.sub),.v (.int .i64 c.regs),.v (.int .i64 c.u7),.v (.int .i64 c.params),.a6 false (w6 c.c6),.a6 false (Proofs.YtgdoiokalfhjoaaGreatDoor.loops c.loops),.a6 false (p7 c.b)]],0⟩),(1,.live ⟨1,o8 (spI U (B.i.take i)),0⟩),(2,.live ⟨1,o8 (E),0⟩)],3⟩) B.i.length (Zw [1,3,4,5,18,19,20,6,32,33,34] [0,1,2] (Zq eJ.d (Zq hB2 (Zq hlU (Zq hlE (Zq hlU' hlr))))) ?_) ?_
    ·rfl
    ·intro k hk
     have hlI:(spI U (B.i.take k)).length=c.regs.toNat:=by rw[mV,hlU]
     by_cases hlk:k<B.i.length
     ·have hx:=hbo.i (B.i.getD k I0) (by rw[List.getD_eq_getElem?_getD,List.getElem?_eq_getElem hlk];exact List.getElem_mem hlk)
      have hst:=b85 U B.i k hlk
      obtain⟨x,hxx⟩:∃x,B.i.getD k I0=x:=⟨_,rfl⟩
      rw[hxx]at hst hx
      obtain⟨V,hV⟩:∃V,V=spI U (B.i.take k):=⟨_,rfl⟩
      rw[←hV]at hlI hst⊢
      have hu:=Z4 x
      have hui:=a5N hx
      have K1:=yA x
      have K2:=uM x
      simp only[e8.av]at K1 K2
      have hdx:z8 x<c.regs.toNat:=by
       rcases Int.lt_or_le (z8 x) 0 with h|h
       ·omega
       ·have:=b0G hx h;omega
      have Q1:=xX V (m7 x) (by omega) (by omega) (fun r h=>by have:=hui r h;omega)
      have Q2:=a3G (P9 V (m7 x)) (z8 x) (by rw[E0];omega) (by rw[E0];omega)
      rw[hlI]at Q1
      rw[E0,hlI]at Q2
      repeat' (first|refine Za ?_|(with_reducible constructor<;>first|intro N hN mk hmk|intro N hN|intro h)|refine Zc K1 ?_|refine Zc K2 ?_|(refine Zp Q1 [1] (Zq eJ.d (Zq hxx (Zq hB2 (Zq hlU (Zq hlE (Zq hlI hlr)))))) ?_;with_reducible intro _ _)|(refine Zp Q2 [1,115] (Zq eJ.d (Zq hxx (Zq hB2 (Zq hlU (Zq hlE (Zq hlI hlr)))))) ?_;with_reducible intro _ _)|refine Zt (Zq eJ.d (Zq hxx (Zq hB2 (Zq hlU (Zq hlE (Zq hlI hlr)))))) ?_|fail)
      refine Zw [1,3,4,5,18,19,20,6,32,33,34] [0,1,2] (Zq eJ.d (Zq hxx (Zq hB2 (Zq hlU (Zq hlE (Zq hlI hlr)))))) ?_
      rw[hst];rfl
     ·obtain rfl:k=B.i.length:=by omega
      rw[List.take_length,←hU']
      repeat' (first|refine Za ?_|(with_reducible constructor<;>first|intro N hN mk hmk|intro N hN|intro h)|refine Zt (Zq eJ.d (Zq hB2 (Zq hlU (Zq hlE (Zq hlU' hlr))))) ?_|fail)
      refine Zw [1,3,4,5,6,18,19,20] [0,1,2] (Zq eJ.d (Zq hB2 (Zq hlU (Zq hlE (Zq hlU' hlr))))) ?_
      rfl
   ·
    refine Zw [1,3,4,5,18,19,20] [0,1,2] (Zq eJ.d (Zq hB2 (Zq hlU (Zq hlE (Zq hlU' hlr))))) ?_
    rw[hy,if_pos (by simp_all)];unfold spE;rw[if_pos (by assumption)];rfl
   ·
    refine Zw [1,3,4,5,18,19,20] [0,1,2] (Zq eJ.d (Zq hB2 (Zq hlU (Zq hlE (Zq hlU' hlr))))) ?_
    rw[hy,if_pos (by simp_all)];unfold spE;rw[if_neg (by assumption)];rfl
  ·obtain rfl:b=c.b.length:=by omega
   obtain⟨U,hU⟩:∃U,U=(spQ c c.b.length).1:=⟨_,rfl⟩
   obtain⟨E,hE⟩:∃E,E=(spQ c c.b.length).2:=⟨_,rfl⟩
   rw[←hU]at hlU
   rw[←hE]at hlE
   rw[←hU,←hE]
   repeat' (first|refine Za ?_|(with_reducible constructor<;>first|intro N hN mk hmk|intro N hN|intro h)|refine Zt (Zq eJ.d (Zq hlU (Zq hlE hlr))) ?_|fail)
   refine c8 (fun b=>⟨[.Z,.ptr 0 0 0,.Z,.own 1 0 c.regs.toNat,.own 2 0 c.regs.toNat,.Z,.Z,.Z,.Z,.Z,.Z,.Z,.Z,.Z,.Z,.Z,.Z,.Z,.Z,.Z,.Z,.Z,.Z,.Z,.Z,.Z,.Z,.Z,.Z,.Z,.Z,.Z,.Z,.Z,.Z,.Z,.Z,.Z,.Z,.Z,.Z,.Z,.Z,.Z,.Z,.Z,.Z,.Z,.Z,.Z,.Z,.Z,.Z,.Z,.Z,.Z,.Z,.Z,.Z,.Z,.Z,.Z,.Z,.Z,.Z,.Z,.Z,.Z,.Z,.Z,.Z,.Z,.Z,.Z,.Z,.Z,.Z,.Z,.Z,.Z,.Z,.Z,.Z,.Z,.Z,.Z,.Z,.Z,.Z,.Z,.Z,.v (.int .i64 c.regs.toNat),.v (.int .i64 b),.Z,.Z,.Z,.Z,.Z,.Z,.Z,.Z,.Z,.Z,.Z,.Z,.Z,.Z,.Z,.Z,.Z,.Z],[(0,.live ⟨8,[[.v (.int .i64 c.group),.v (.int .i64 c.sub),.v (.int .i64 c.regs),.v (.int .i64 c.u7),.v (.int .i64 c.params),.a6 false (w6 c.c6),.a6 false (Proofs.YtgdoiokalfhjoaaGreatDoor.loops c.loops),.a6 false (p7 c.b)]],0⟩),(1,.live ⟨1,o8 (dY U E b),0⟩),(2,.live ⟨1,o8 (E),0⟩)],3⟩) c.regs.toNat (Zw [1,3,4,91,92] [0,1,2] (Zq eJ.d (Zq hlU (Zq hlE hlr))) ?_) ?_
   ·rw[show dY U E 0=U by exact b7z U E];rfl
   ·intro k hk
    have hlF:(dY U E k).length=c.regs.toNat:=by rw[a8O,hlU]
    by_cases hlk:k<c.regs.toNat
    ·have hg:=b2R U E (i:=k) (j:=k) (by omega) (Nat.le_refl _)
     have hsu:=a3O U E (i:=k) (by omega)
     obtain⟨F,hF⟩:∃F,F=dY U E k:=⟨_,rfl⟩
     rw[←hF]at hlF hg hsu⊢
     repeat' (first|refine Za ?_|(with_reducible constructor<;>first|intro N hN mk hmk|intro N hN|intro h)|refine Zt (Zq eJ.d (Zq hg (Zq hlU (Zq hlE (Zq hlF hlr))))) ?_|fail)
     ·refine Zw [1,3,4,91,92] [0,1,2] (Zq eJ.d (Zq hg (Zq hlU (Zq hlE (Zq hlF hlr))))) ?_
      rw[hsu,‹U.getD k false=true›,Bool.true_and];rfl
     ·refine Zw [1,3,4,91,92] [0,1,2] (Zq eJ.d (Zq hg (Zq hlU (Zq hlE (Zq hlF hlr))))) ?_
      rw[hsu,‹U.getD k false=false›,Bool.false_and];rfl
    ·obtain rfl:k=c.regs.toNat:=by omega
     obtain⟨F,hF⟩:∃F,F=dY U E c.regs.toNat:=⟨_,rfl⟩
     rw[←hF]at hlF⊢
     repeat' (first|refine Za ?_|(with_reducible constructor<;>first|intro N hN mk hmk|intro N hN|intro h)|refine Zt (Zq eJ.d (Zq hlU (Zq hlE hlr))) ?_|fail)
     refine⟨[1],by decide,fun nid=>⟨rfl,?_⟩⟩
     simp (maxSteps:=10000000) (disch:=omega) only[aH,eJ.d,hlU,hlE,hlr,c5,o0,b5,e6,n9,x8,AV.plain,Nat.reduceBEq,↓reduceIte,Nat.reduceEqDiff,Nat.reduceAdd,sC]
theorem dO:∀(l:List Int) (s:List Bool) (k:Nat),k<s.length→(∀r∈l,r<s.length)→((P9 s l).getD k false=true↔s.getD k false=true∨(k:Int)∈l)
 |[],s,k,_,_=>by simp [P9]
 |a::l,s,k,hk,h=>by
  show(P9 (if 0≤a then s.set a.toNat true else s) l).getD k false=true↔_
  have ha:=h a (by simp)
  by_cases h0:0≤a
  ·rw[if_pos h0,dO l (s.set a.toNat true) k (by simpa using hk) (by simpa using fun r hr=>h r (by simp [hr])),Z1,List.mem_cons]
   by_cases e:a.toNat=k
   ·rw[if_pos ⟨e,hk⟩]
    simp only[true_or,true_iff]
    exact .inr (.inl (by omega))
   ·rw[if_neg (fun hh=>e hh.1)]
    constructor
    ·rintro(g|g)
     ·exact .inl g
     ·exact .inr (.inr g)
    ·rintro(g|g|g)
     ·exact .inl g
     ·omega
     ·exact .inr g
  ·rw[if_neg h0,dO l s k hk (fun r hr=>h r (by simp [hr])),List.mem_cons]
   constructor
   ·rintro(g|g)
    ·exact .inl g
    ·exact .inr (.inr g)
   ·rintro(g|g|g)
    ·exact .inl g
    ·omega
    ·exact .inr g
theorem b84{r:Int}:∀(L:List e8) (U:List Bool) (k:Nat),(U.length:Int)=r→k<U.length→(∀x∈L,aS r x)→((spI U L).getD k false=true↔U.getD k false=true∨∃x∈L,(k:Int)∈m7 x∨(k:Int)=z8 x)
 |[],U,k,_,_,_=>by simp [spI]
 |x::L,U,k,hl,hk,h=>by
  have hx:=h x (by simp)
  have hu:∀y∈m7 x,y<U.length:=fun y hy=>by have:=a5N hx y hy;omega
  have hd:∀y∈[z8 x],y<(P9 U (m7 x)).length:=fun y hy=>by
   rw[List.mem_singleton.1 hy,E0]
   rcases Int.lt_or_le (z8 x) 0 with g|g
   ·omega
   ·have:=b0G hx g;omega
  show(spI (P9 (P9 U (m7 x)) [z8 x]) L).getD k false=true↔_
  rw[b84 L _ k (by rw[E0,E0];exact hl) (by rw[E0,E0];exact hk) (fun y hy=>h y (by simp [hy])),dO _ _ k (by rw[E0];exact hk) hd,dO _ _ k hk hu,List.mem_singleton]
  simp only[List.mem_cons,exists_eq_or_imp]
  simp only[or_assoc]
theorem c5b{r n:Int}{b:b6}(h:cC r n b){E:List Bool}(hE:(E.length:Int)=r)(k:Nat)(hk:k<E.length):(spE E b).getD k false=true↔E.getD k false=true∨((k:Int)=B8 b.t∨b.t.kind=4∧(k:Int)∈j6 b.t):=by
 have hd:∀y∈[B8 b.t],y<E.length:=fun y hy=>by
  rw[List.mem_singleton.1 hy]
  rcases Int.lt_or_le (B8 b.t) 0 with g|g
  ·omega
  ·have:=uQ h.t g;omega
 have hu:∀y∈j6 b.t,y<(P9 E [B8 b.t]).length:=fun y hy=>by have:=jE h.t y hy;rw[E0];omega
 unfold spE
 split
 ·rename_i h4
  rw[dO _ _ k (by rw[E0];exact hk) hu,dO _ _ k hk hd,List.mem_singleton]
  simp only[h4,true_and,or_assoc]
 ·rename_i h4
  rw[dO _ _ k hk hd,List.mem_singleton]
  simp only[h4,false_and,or_false]
theorem b86{c:Code}(hc:u9 c)(k:Nat)(hk:k<c.regs.toNat):∀b,b≤c.b.length→
  (
   ((spQ c b).1.getD k false=true↔∃b',b'<b∧cR c.b (b':Int)∧((k:Int)∈j6 (w7 c.b b').t∨∃i∈(w7 c.b b').i,(k:Int)∈m7 i∨(k:Int)=z8 i))∧
   ((spQ c b).2.getD k false=true↔∃b',b'<b∧cR c.b (b':Int)∧((k:Int)=B8 (w7 c.b b').t∨(w7 c.b b').t.kind=4∧(k:Int)∈j6 (w7 c.b b').t)))
 |0,_=>by
  have:(List.replicate c.regs.toNat false)[k]?.getD false=false:=by
   rw[List.getElem?_replicate];split<;>rfl
  simp [spQ,this]
 |b+1,hb=>by
  have hbo:=hc.b _ (O8 (show b<c.b.length by omega))
  have hl1:((spQ c b).1.length:Int)=c.regs:=by have:=(mW c b).1;have:=hc.r;omega
  have hl2:((spQ c b).2.length:Int)=c.regs:=by have:=(mW c b).2;have:=hc.r;omega
  have hk1:k<(spQ c b).1.length:=by have:=hc.r;omega
  have hk2:k<(spQ c b).2.length:=by have:=hc.r;omega
  have hn1:∀to∈j6 (w7 c.b b).t,to<(spI (spQ c b).1 (w7 c.b b).i).length:=fun to hto=>by have:=jE hbo.t to hto;rw[mV];omega
  obtain⟨ih1,ih2⟩:=b86 hc k hk b (by omega)
  have step:∀{Q:Nat→Prop},(∃b',b'<b+1∧cR c.b (b':Int)∧Q b')↔(∃b',b'<b∧cR c.b (b':Int)∧Q b')∨cR c.b (b:Int)∧Q b:=by
   intro Q
   constructor
   ·rintro⟨b',h1,h2⟩
    rcases Nat.lt_succ_iff_lt_or_eq.1 h1 with h1|rfl
    ·exact .inl ⟨b',h1,h2⟩
    ·exact .inr h2
   ·rintro(⟨b',h1,h2⟩|h2)
    ·exact⟨b',by omega,h2⟩
    ·exact⟨b,by omega,h2⟩
  unfold spQ
  rw[step,step]
  by_cases hr:(reachF c.b).getD b false=true
  ·have hR:=(O5 c.b (by omega)).1 hr
   rw[if_pos hr]
   simp only
   constructor
   ·rw[dO _ _ k (by rw[mV];exact hk1) hn1,b84 _ _ k hl1 hk1 hbo.i,ih1,or_assoc]
    refine or_congr Iff.rfl ?_
    simp only[hR,true_and]
    exact or_comm
   ·rw[c5b hbo hl2 k hk2,ih2]
    simp [hR]
  ·have hR:¬cR c.b (b:Int):=fun h=>hr ((O5 c.b (by omega)).2 h)
   rw[if_neg hr,ih1,ih2]
   simp [hR]
theorem c6s{c:Code}(hc:u9 c):dY (spQ c c.b.length).1 (spQ c c.b.length).2 c.regs.toNat=spF c:=by
 have hl:=mW c c.b.length
 apply List.ext_getElem?
 intro k
 unfold dY spF
 rw[hl.1]
 simp only[List.getElem?_map]
 by_cases hk:k<c.regs.toNat
 ·rw[List.getElem?_range hk]
  simp only[Option.map_some,Option.some.injEq]
  rw[if_pos hk]
  obtain⟨h1,h2⟩:=b86 hc k hk c.b.length (Nat.le_refl _)
  rw[Bool.eq_iff_iff]
  simp only[Bool.and_eq_true,Bool.not_eq_true',decide_eq_true_eq]
  refine and_congr h1 ?_
  rw[←Bool.not_eq_true]
  exact not_congr h2
 ·rw[List.getElem?_eq_none (by simp;omega)];rfl
theorem b7c(c:Code)(hc:u9 c):c9 Tryz.prog 123 [.agg c.av] (fun n=> .own n 0 c.regs.toNat) (fun _=>[⟨1,o8 (spF c),0⟩]):=by
 have:=a0L c hc
 rw[c6s hc]at this;exact this
end Go.Proofs.YtgdoiokalfhjoaaGreatDoor
end
