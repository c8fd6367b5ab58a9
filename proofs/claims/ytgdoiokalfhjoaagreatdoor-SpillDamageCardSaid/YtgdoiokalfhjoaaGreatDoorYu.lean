/- Own work (by an AI agent; no person has read it): part of a proof of the seat YtgdoiokalfhjoaaGreatDoor. -/
import Derived.Test.YtgdoiokalfhjoaaGreatDoorYt
set_option linter.unusedSimpArgs false
set_option linter.unusedVariables false
set_option maxRecDepth 100000
set_option maxHeartbeats 10000000
section
namespace Go.Proofs.YtgdoiokalfhjoaaGreatDoor
open Go.Ab
def a7C:Code:=⟨0,0,0,0,0,[],[],[]⟩
noncomputable def doneAV (c:Code):Option (List Int)→List AV
 |none=>a7C.av++[.a8 false (c7 []),.v (.int .i64 170)]
 |some l=>(n8 c l).av++[.a8 false (c7 l),.v (.int .i64 0)]
noncomputable def lseq (c:Code):Nat→List Int
 |0=>[]
 |i+1=>B5 (lseq c i) (bestF c (lseq c i))
theorem kY(c:Code)(v:Int)(n:Nat)(l:List Int):runF c v (n+1) l=if fF (n8 c l)then(if pressF (n8 c l)≤v then some l else if bestF c l<0 then none else runF c v n (B5 l (bestF c l)))else none:=rfl
structure tP (c:Code) (v:Int) (i:Nat):Prop where
 s:dY c (lseq c i)
 l:(lseq c i).length=i
 r:runF c v (c.regs.toNat+1) []=runF c v (c.regs.toNat+1-i) (lseq c i)
theorem tP.zero(c:Code)(v:Int):tP c v 0:=⟨dY.nil c,rfl,rfl⟩
theorem tP.le{c:Code}{v:Int}{i:Nat}(hc:y3 c)(h:tP c v i):i≤c.regs.toNat:=by
 have:=h.s.len hc
 have:=h.l
 omega
theorem tP.step{c:Code}{v:Int}{i:Nat}(hc:y3 c)(h:tP c v i):runF c v (c.regs.toNat+1) []=if fF (n8 c (lseq c i))then(if pressF (n8 c (lseq c i))≤v then some (lseq c i)else if bestF c (lseq c i)<0 then none else runF c v (c.regs.toNat-i) (lseq c (i+1)))else none:=by
 have:=h.le hc
 rw[h.r,show c.regs.toNat+1-i=(c.regs.toNat-i)+1 by omega,kY];rfl
theorem tP.next{c:Code}{v:Int}{i:Nat}(hc:y3 c)(h:tP c v i)(h1:fF (n8 c (lseq c i)))(h2:¬pressF (n8 c (lseq c i))≤v)(h3:¬bestF c (lseq c i)<0):tP c v (i+1)∧i<c.regs.toNat+1:=by
 have hle:=h.le hc
 have hs:=h.step hc
 rw[if_pos h1,if_neg h2,if_neg h3]at hs
 refine⟨⟨h.s.c1Q h3,?_,?_⟩,by omega⟩
 ·show(B5 _ _).length=i+1
  rw[vX h.s.s (oZ h3).2.2.2,h.l]
 ·rw[hs,show c.regs.toNat+1-(i+1)=c.regs.toNat-i by omega]
theorem c38{d:Code}(hd:y3 d):b0l d.regs (liveF d).1∧b0l d.regs (liveF d).2∧(liveF d).1.length=d.b.length∧(liveF d).2.length=d.b.length:=
 ⟨(a3c hd).1,(a3c hd).2,(kS hd).shp.li,(kS hd).shp.lo⟩
theorem rL(c:Code)(l:List Int):(n8 c l).c9=c.c9∧(n8 c l).loops=c.loops:=by
 unfold n8;split<;>exact⟨rfl,rfl⟩
structure jJ (c:Code):Prop where
 s:b0O c
 a:c.c9.length≤1000
 l:c.loops.length≤1000
def c1L:=ZZ.mk (Zq c4Y.d (Zq @dF (Zq @oA (Zq @I2 (Zq @iM (Zq @m9 @B4))))))
def P9(s:List Bool)(l:List Int):List Bool:=l.foldl (fun o r=>if 0≤r then o.set r.toNat true else o) s
theorem E0:∀(l:List Int) (s:List Bool),(P9 s l).length=s.length
 |[],s=>rfl
 |a::l,s=>by
  show(P9 (if 0≤a then s.set a.toNat true else s) l).length=_
  rw[E0 l];split<;>simp
theorem b0a(s:List Bool)(l:List Int)(i:Nat)(h:i<l.length):P9 s (l.take (i+1))=if 0≤l.getD i 0 then(P9 s (l.take i)).set (l.getD i 0).toNat true else P9 s (l.take i):=by
 rw[w9 l i 0 h];unfold P9;rw[List.foldl_append];rfl
def rO:=ZZ.mk (Zq gF.d (Zq @Q8 (Zq @T6 (Zq @cY (Zq @Y6 (Zq @aC (Zq @kJ (Zq @B4 @dA))))))))
theorem wL(s:List Bool)(l:List Int)(hs:s.length≤1000)(hl:l.length≤1000)(h:∀r∈l,r<s.length):y6 Tryz.prog 194 [.own 0 0 s.length,.a8 false (c7 l)] [⟨1,u3 s,0⟩] 1 (fun _:Unit=>True) (fun _=> .O2 []) (fun _=>[⟨1,u3 (P9 s l),0⟩]):=by
 refine Zf Tryz.func194 Tryz.ntmps194 ?_
 repeat' (first|refine Za ?_|(with_reducible constructor<;>first|intro N hN mk hmk|intro N hN|intro h)|refine Zt rO.d ?_|fail)
 refine l8 (fun i=>⟨[.own 0 0 s.length,.Z,.Z,.Z,.Z,.Z,.a8 false (c7 l),.v (.int .i64 l.length),.v (.int .i64 i),.Z,.Z,.Z,.Z,.Z,.Z,.Z,.Z,.Z],[(0,.live ⟨1,u3 (P9 s (l.take i)),0⟩),(1,.u5 99 [.ptr 0 0 0])],2⟩) l.length (Zw [0,6,7,8] [0] rO.d ?_) ?_
 ·rfl
 ·intro i hi
  have hml:=E0 (l.take i) s
  by_cases hin:i<l.length
  ·have hgo:=h _ (L2 hin)
   have hst:=b0a s l i hin
   repeat' (first|refine Za ?_|(with_reducible constructor<;>first|intro N hN mk hmk|intro N hN|intro h)|refine Zt (Zq rO.d hml) ?_|fail)
   ·refine Zw [0,6,7,8] [0] (Zq rO.d hml) ?_
    rw[hst,if_pos (by assumption)];rfl
   ·refine Zw [0,6,7,8] [0] (Zq rO.d hml) ?_
    rw[hst,if_neg (by assumption)];rfl
  ·obtain rfl:i=l.length:=by omega
   rw[List.take_length]
   repeat' (first|refine Za ?_|(with_reducible constructor<;>first|intro N hN mk hmk|intro N hN|intro h)|refine Zt (Zq rO.d hml) ?_|fail)
   refine Zr (()) [0] (Zq rO.d hml) ?_
   trivial
def c5V:=ZZ.mk (Zq rO.d (Zq @ct1 @aG))
def c4U:=ZZ.mk (Zq rO.d @ct1)
theorem a2H(s:List Bool)(d:Int)(hs:s.length≤1000)(h:d<s.length):y6 Tryz.prog 194 [.own 0 0 s.length,.own 1 0 1] [⟨1,u3 s,0⟩,⟨1,[[.v (.int .i64 d)]],0⟩] 2 (fun _:Unit=>True) (fun _=> .O2 []) (fun _=>[⟨1,u3 (P9 s [d]),0⟩,⟨1,[[.v (.int .i64 d)]],0⟩]):=by
 have hm:P9 s [d]=if 0≤d then s.set d.toNat true else s:=rfl
 rw[hm]
 refine Zf Tryz.func194 Tryz.ntmps194 ?_
 repeat' (first|refine Za ?_|(with_reducible constructor<;>first|intro N hN mk hmk|intro N hN|intro h)|(guard_target=~ AK Tryz.prog _ _ _ _;refine x9 [(),()] ?_)|refine Zt c5V.d ?_|fail)
 ·rw[if_pos (by assumption)]
  refine Zr (()) [0,1] c4U.d ?_
  trivial
 ·rw[if_neg (by assumption)]
  refine Zr (()) [0,1] c4U.d ?_
  trivial
def spI(U:List Bool)(L:List e7):List Bool:=L.foldl (fun U x=>P9 (P9 U (o5 x)) [E9 x]) U
theorem lA:∀(L:List e7) (U:List Bool),(spI U L).length=U.length
 |[],U=>rfl
 |x::L,U=>by show(spI (P9 (P9 U (o5 x)) [E9 x]) L).length=_;rw[lA L,E0,E0]
theorem b74(U:List Bool)(L:List e7)(i:Nat)(h:i<L.length):spI U (L.take (i+1))=P9 (P9 (spI U (L.take i)) (o5 (L.getD i I0))) [E9 (L.getD i I0)]:=by
 rw[w9 L i I0 h];unfold spI;rw[List.foldl_append];rfl
def spE(E:List Bool)(b:b6):List Bool:=if b.t.kind=4 then P9 (P9 E [F3 b.t]) (n6 b.t)else P9 E [F3 b.t]
noncomputable def spQ (c:Code):Nat→List Bool×List Bool
 |0=>(List.replicate c.regs.toNat false,List.replicate c.regs.toNat false)
 |b+1=>if(reachF c.b).getD b false then(P9 (spI (spQ c b).1 (B6 c.b b).i) (n6 (B6 c.b b).t),spE (spQ c b).2 (B6 c.b b))else spQ c b
theorem c1y(E:List Bool)(b:b6):(spE E b).length=E.length:=by unfold spE;split<;>simp [E0]
theorem lB(c:Code):∀b,(spQ c b).1.length=c.regs.toNat∧(spQ c b).2.length=c.regs.toNat
 |0=>by simp [spQ]
 |b+1=>by
  have ih:=lB c b
  unfold spQ
  split
  ·exact⟨by rw[E0,lA];exact ih.1,by rw[c1y];exact ih.2⟩
  ·exact ih
def dZ:=ZZ.mk (Zq c1M.d (Zq rO.d (Zq @Z7 (Zq @kK (Zq @D4 (Zq @Q7 (Zq @N7 (Zq @O5 (Zq @b6.av.eq_1 (Zq @List.length_replicate.{0} @List.length_set.{0}))))))))))
theorem zP(c:Code)(hc:y3 c):e8 Tryz.prog 123 [.agg c.av] (fun n=> .own n 0 c.regs.toNat) (fun _=>[⟨1,u3 (dS (spQ c c.b.length).1 (spQ c c.b.length).2 c.regs.toNat),0⟩]):=by
 have hr:=hc.r
 have hn:=hc.n
 have C3:=pE c hc.succ (by omega)
 have hlr:=bI c.b
 simp only[Code.av]at C3
 (refine dE Tryz.func123 rfl (by kernel_rfl) ?_;rw[gO Tryz.ntmps123];simp only[Code.av];simp only[List.replicate_succ,List.replicate_zero,List.cons_append,List.nil_append,List.length_cons,List.length_nil,Nat.reduceAdd,Nat.reduceSub];refine u4 ?_)
 repeat' (first|refine Za ?_|(with_reducible constructor<;>first|intro N hN mk hmk|intro N hN|intro h)|refine Zc C3 ?_|refine Zt (Zq dZ.d hlr) ?_|fail)
 refine l8 (fun b=>⟨[.Z,.ptr 0 0 0,.Z,.own 1 0 c.regs.toNat,.own 2 0 c.regs.toNat,.fn 194 [],.Z,.Z,.Z,.Z,.Z,.Z,.Z,.Z,.Z,.Z,.Z,.Z,.a8 false (u3 (reachF c.b)),.v (.int .i64 c.b.length),.v (.int .i64 b),.Z,.Z,.Z,.Z,.Z,.Z,.Z,.Z,.Z,.Z,.Z,.Z,.Z,.Z,.Z,.Z,.Z,.Z,.Z,.Z,.Z,.Z,.Z,.Z,.Z,.Z,.Z,.Z,.Z,.Z,.Z,.Z,.Z,.Z,.Z,.Z,.Z,.Z,.Z,.Z,.Z,.Z,.Z,.Z,.Z,.Z,.Z,.Z,.Z,.Z,.Z,.Z,.Z,.Z,.Z,.Z,.Z,.Z,.Z,.Z,.Z,.Z,.Z,.Z,.Z,.Z,.Z,.Z,.Z,.Z,.Z,.Z,.Z,.Z,.Z,.Z,.Z,.Z,.Z,.Z,.Z,.Z,.Z,.Z,.Z,.Z,.Z,.Z,.Z,.Z],[(0,.live ⟨8,[[.v (.int .i64 c.group),.v (.int .i64 c.sub),.v (.int .i64 c.regs),.v (.int .i64 c.w5),.v (.int .i64 c.params),.a8 false (y4 c.c9),.a8 false (Proofs.YtgdoiokalfhjoaaGreatDoor.loops c.loops),.a8 false (o0 c.b)]],0⟩),(1,.live ⟨1,u3 ((spQ c b).1),0⟩),(2,.live ⟨1,u3 ((spQ c b).2),0⟩)],3⟩) c.b.length (Zw [1,3,4,5,18,19,20] [0,32,56] (Zq dZ.d hlr) ?_) ?_
 ·rfl
 ·intro b hb
  have hlU:=(lB c b).1
  have hlE:=(lB c b).2
  obtain⟨Y,hY⟩:∃Y,Y=spQ c (b+1):=⟨_,rfl⟩
  rw[←hY]
  by_cases hlt:b<c.b.length
  ·have hy:Y=if(reachF c.b).getD b false then(P9 (spI (spQ c b).1 (B6 c.b b).i) (n6 (B6 c.b b).t),spE (spQ c b).2 (B6 c.b b))else spQ c b:=by rw[hY];rfl
   have hbo:=hc.b _ (S5 hlt)
   obtain⟨U,hU⟩:∃U,U=(spQ c b).1:=⟨_,rfl⟩
   obtain⟨E,hE⟩:∃E,E=(spQ c b).2:=⟨_,rfl⟩
   rw[←hU]at hlU hy
   rw[←hE]at hlE hy
   rw[←hU,←hE]
   obtain⟨B,hB⟩:∃B,B=B6 c.b b:=⟨_,rfl⟩
   have hB2:c.b.getD b B0=B:=by rw[hB];rfl
   rw[←hB]at hy hbo
   have hbl:=hbo.l
   have huT:=bN B.t
   have hti:=hZ hbo.t
   obtain⟨U',hU'⟩:∃U',U'=spI U B.i:=⟨_,rfl⟩
   have hlU':U'.length=c.regs.toNat:=by rw[hU',lA,hlU]
   have J1:=pH B.t
   have J7:=wK B.t
   simp only[q9.av]at J1 J7
   have hdl:F3 B.t<c.regs.toNat:=by
    rcases Int.lt_or_le (F3 B.t) 0 with h|h
    ·omega
    ·have:=sX hbo.t h;omega
   have P1:=wL U' (n6 B.t) (by omega) (by omega) (fun r h=>by have:=hti r h;omega)
   have P2:=a2H E (F3 B.t) (by omega) (by omega)
   have P3:=wL (P9 E [F3 B.t]) (n6 B.t) (by rw[E0];omega) (by omega) (fun r h=>by have:=hti r h;rw[E0];omega)
   rw[hlU']at P1
   rw[hlE]at P2
   rw[E0,hlE]at P3
   rw[←hU']at hy
   repeat' (first|(guard_target=~ AK Tryz.prog _ _ _ _;refine mY (x:=Go.Code.seq (Go.Code.region 7 _ _) _) ⟨[.Z,.ptr 0 0 0,.Z,.own 1 0 c.regs.toNat,.own 2 0 c.regs.toNat,.fn 194 [],.v (.int .i64 b),.Z,.Z,.Z,.Z,.Z,.Z,.Z,.Z,.Z,.Z,.Z,.a8 false (u3 (reachF c.b)),.v (.int .i64 c.b.length),.v (.int .i64 b),.Z,.Z,.Z,.Z,.Z,.Z,.Z,.Z,.Z,.Z,.Z,.Z,.Z,.Z,.Z,.Z,.Z,.Z,.Z,.Z,.Z,.Z,.Z,.Z,.Z,.Z,.Z,.Z,.Z,.Z,.Z,.Z,.Z,.Z,.Z,.Z,.Z,.Z,.Z,.Z,.Z,.Z,.Z,.Z,.Z,.Z,.Z,.Z,.Z,.Z,.Z,.Z,.Z,.Z,.Z,.Z,.Z,.Z,.Z,.Z,.Z,.Z,.Z,.Z,.Z,.Z,.Z,.Z,.Z,.Z,.Z,.Z,.Z,.Z,.Z,.Z,.Z,.Z,.Z,.Z,.Z,.Z,.Z,.Z,.Z,.Z,.Z,.Z,.Z,.Z],[(0,.live ⟨8,[[.v (.int .i64 c.group),.v (.int .i64 c.sub),.v (.int .i64 c.regs),.v (.int .i64 c.w5),.v (.int .i64 c.params),.a8 false (y4 c.c9),.a8 false (Proofs.YtgdoiokalfhjoaaGreatDoor.loops c.loops),.a8 false (o0 c.b)]],0⟩),(1,.live ⟨1,u3 (U'),0⟩),(2,.live ⟨1,u3 (E),0⟩)],3⟩ ?_ ?_)|refine Za ?_|(with_reducible constructor<;>first|intro N hN mk hmk|intro N hN|intro h)|refine Zc J1 ?_|refine Zc J7 ?_|(refine Zp P1 [1] (Zq dZ.d (Zq hB2 (Zq hlU (Zq hlE (Zq hlU' hlr))))) ?_;with_reducible intro _ _)|(refine Zp P3 [2] (Zq dZ.d (Zq hB2 (Zq hlU (Zq hlE (Zq hlU' hlr))))) ?_;with_reducible intro _ _)|(refine Zp P2 [2,155] (Zq dZ.d (Zq hB2 (Zq hlU (Zq hlE (Zq hlU' hlr))))) ?_;with_reducible intro _ _)|(refine Zw [1,3,4,5,18,19,20,6] [0,1,2] (Zq dZ.d (Zq hB2 (Zq hlU (Zq hlE (Zq hlU' hlr))))) ?_;first|rfl|(simp only[*,true_and,and_true,false_and,and_false,decide_true,decide_false,not_true_eq_false,not_false_eq_true];done)|(simp [*];done))|refine Zt (Zq dZ.d (Zq hB2 (Zq hlU (Zq hlE (Zq hlU' hlr))))) ?_|fail)
   ·refine Zw [1,3,4,5,18,19,20] [0,1,2] (Zq dZ.d (Zq hB2 (Zq hlU (Zq hlE (Zq hlU' hlr))))) ?_
    rw[hy,if_neg (by simp_all),←hU,←hE];rfl
   ·refine l8 (fun i=>⟨[.Z,.ptr 0 0 0,.Z,.own 1 0 c.regs.toNat,.own 2 0 c.regs.toNat,.fn 194 [],.v (.int .i64 b),.Z,.Z,.Z,.Z,.Z,.Z,.Z,.Z,.Z,.Z,.Z,.a8 false (u3 (reachF c.b)),.v (.int .i64 c.b.length),.v (.int .i64 b),.Z,.Z,.Z,.Z,.Z,.Z,.Z,.Z,.Z,.Z,.Z,.a8 false (c6 B.i),.v (.int .i64 B.i.length),.v (.int .i64 i),.Z,.Z,.Z,.Z,.Z,.Z,.Z,.Z,.Z,.Z,.Z,.Z,.Z,.Z,.Z,.Z,.Z,.Z,.Z,.Z,.Z,.Z,.Z,.Z,.Z,.Z,.Z,.Z,.Z,.Z,.Z,.Z,.Z,.Z,.Z,.Z,.Z,.Z,.Z,.Z,.Z,.Z,.Z,.Z,.Z,.Z,.Z,.Z,.Z,.Z,.Z,.Z,.Z,.Z,.Z,.Z,.Z,.Z,.Z,.Z,.Z,.Z,.Z,.Z,.Z,.Z,.Z,.Z,.Z,.Z,.Z,.Z,.Z,.Z,.Z,.Z],[(0,.live ⟨8,[[.v (.int .i64 c.group),.v (.int .i64 c.sub),.v (.int .i64 c.regs),.v (.int .i64 c.w5),.v (.int .i64 c.params),.a8 false (y4 c.c9),.a8 false (Proofs.YtgdoiokalfhjoaaGreatDoor.loops c.loops),.a8 false (o0 c.b)]],0⟩),(1,.live ⟨1,u3 (spI U (B.i.take i)),0⟩),(2,.live ⟨1,u3 (E),0⟩)],3⟩) B.i.length (Zw [1,3,4,5,18,19,20,6,32,33,34] [0,1,2] (Zq dZ.d (Zq hB2 (Zq hlU (Zq hlE (Zq hlU' hlr))))) ?_) ?_
    ·rfl
    ·intro k hk
     have hlI:(spI U (B.i.take k)).length=c.regs.toNat:=by rw[lA,hlU]
     by_cases hlk:k<B.i.length
     ·have hx:=hbo.i (B.i.getD k I0) (by rw[List.getD_eq_getElem?_getD,List.getElem?_eq_getElem hlk];exact List.getElem_mem hlk)
      have hst:=b74 U B.i k hlk
      obtain⟨x,hxx⟩:∃x,B.i.getD k I0=x:=⟨_,rfl⟩
      rw[hxx]at hst hx
      obtain⟨V,hV⟩:∃V,V=spI U (B.i.take k):=⟨_,rfl⟩
      rw[←hV]at hlI hst⊢
      have hu:=cC x
      have hui:=a4I hx
      have K1:=wO x
      have K2:=sU x
      simp only[e7.av]at K1 K2
      have hdx:E9 x<c.regs.toNat:=by
       rcases Int.lt_or_le (E9 x) 0 with h|h
       ·omega
       ·have:=a9E hx h;omega
      have Q1:=wL V (o5 x) (by omega) (by omega) (fun r h=>by have:=hui r h;omega)
      have Q2:=a2H (P9 V (o5 x)) (E9 x) (by rw[E0];omega) (by rw[E0];omega)
      rw[hlI]at Q1
      rw[E0,hlI]at Q2
      repeat' (first|refine Za ?_|(with_reducible constructor<;>first|intro N hN mk hmk|intro N hN|intro h)|refine Zc K1 ?_|refine Zc K2 ?_|(refine Zp Q1 [1] (Zq dZ.d (Zq hxx (Zq hB2 (Zq hlU (Zq hlE (Zq hlI hlr)))))) ?_;with_reducible intro _ _)|(refine Zp Q2 [1,115] (Zq dZ.d (Zq hxx (Zq hB2 (Zq hlU (Zq hlE (Zq hlI hlr)))))) ?_;with_reducible intro _ _)|refine Zt (Zq dZ.d (Zq hxx (Zq hB2 (Zq hlU (Zq hlE (Zq hlI hlr)))))) ?_|fail)
      refine Zw [1,3,4,5,18,19,20,6,32,33,34] [0,1,2] (Zq dZ.d (Zq hxx (Zq hB2 (Zq hlU (Zq hlE (Zq hlI hlr)))))) ?_
      rw[hst];rfl
     ·obtain rfl:k=B.i.length:=by omega
      rw[List.take_length,←hU']
      repeat' (first|refine Za ?_|(with_reducible constructor<;>first|intro N hN mk hmk|intro N hN|intro h)|refine Zt (Zq dZ.d (Zq hB2 (Zq hlU (Zq hlE (Zq hlU' hlr))))) ?_|fail)
      refine Zw [1,3,4,5,6,18,19,20] [0,1,2] (Zq dZ.d (Zq hB2 (Zq hlU (Zq hlE (Zq hlU' hlr))))) ?_
      rfl
   ·
    refine Zw [1,3,4,5,18,19,20] [0,1,2] (Zq dZ.d (Zq hB2 (Zq hlU (Zq hlE (Zq hlU' hlr))))) ?_
    rw[hy,if_pos (by simp_all)];unfold spE;rw[if_pos (by assumption)];rfl
   ·
    refine Zw [1,3,4,5,18,19,20] [0,1,2] (Zq dZ.d (Zq hB2 (Zq hlU (Zq hlE (Zq hlU' hlr))))) ?_
    rw[hy,if_pos (by simp_all)];unfold spE;rw[if_neg (by assumption)];rfl
  ·obtain rfl:b=c.b.length:=by omega
   obtain⟨U,hU⟩:∃U,U=(spQ c c.b.length).1:=⟨_,rfl⟩
   obtain⟨E,hE⟩:∃E,E=(spQ c c.b.length).2:=⟨_,rfl⟩
   rw[←hU]at hlU
   rw[←hE]at hlE
   rw[←hU,←hE]
   repeat' (first|refine Za ?_|(with_reducible constructor<;>first|intro N hN mk hmk|intro N hN|intro h)|refine Zt (Zq dZ.d (Zq hlU (Zq hlE hlr))) ?_|fail)
   refine l8 (fun b=>⟨[.Z,.ptr 0 0 0,.Z,.own 1 0 c.regs.toNat,.own 2 0 c.regs.toNat,.Z,.Z,.Z,.Z,.Z,.Z,.Z,.Z,.Z,.Z,.Z,.Z,.Z,.Z,.Z,.Z,.Z,.Z,.Z,.Z,.Z,.Z,.Z,.Z,.Z,.Z,.Z,.Z,.Z,.Z,.Z,.Z,.Z,.Z,.Z,.Z,.Z,.Z,.Z,.Z,.Z,.Z,.Z,.Z,.Z,.Z,.Z,.Z,.Z,.Z,.Z,.Z,.Z,.Z,.Z,.Z,.Z,.Z,.Z,.Z,.Z,.Z,.Z,.Z,.Z,.Z,.Z,.Z,.Z,.Z,.Z,.Z,.Z,.Z,.Z,.Z,.Z,.Z,.Z,.Z,.Z,.Z,.Z,.Z,.Z,.Z,.v (.int .i64 c.regs.toNat),.v (.int .i64 b),.Z,.Z,.Z,.Z,.Z,.Z,.Z,.Z,.Z,.Z,.Z,.Z,.Z,.Z,.Z,.Z,.Z,.Z],[(0,.live ⟨8,[[.v (.int .i64 c.group),.v (.int .i64 c.sub),.v (.int .i64 c.regs),.v (.int .i64 c.w5),.v (.int .i64 c.params),.a8 false (y4 c.c9),.a8 false (Proofs.YtgdoiokalfhjoaaGreatDoor.loops c.loops),.a8 false (o0 c.b)]],0⟩),(1,.live ⟨1,u3 (dS U E b),0⟩),(2,.live ⟨1,u3 (E),0⟩)],3⟩) c.regs.toNat (Zw [1,3,4,91,92] [0,1,2] (Zq dZ.d (Zq hlU (Zq hlE hlr))) ?_) ?_
   ·rw[show dS U E 0=U by exact b6x U E];rfl
   ·intro k hk
    have hlF:(dS U E k).length=c.regs.toNat:=by rw[a7M,hlU]
    by_cases hlk:k<c.regs.toNat
    ·have hg:=b1U U E (i:=k) (j:=k) (by omega) (Nat.le_refl _)
     have hsu:=a2O U E (i:=k) (by omega)
     obtain⟨F,hF⟩:∃F,F=dS U E k:=⟨_,rfl⟩
     rw[←hF]at hlF hg hsu⊢
     repeat' (first|refine Za ?_|(with_reducible constructor<;>first|intro N hN mk hmk|intro N hN|intro h)|refine Zt (Zq dZ.d (Zq hg (Zq hlU (Zq hlE (Zq hlF hlr))))) ?_|fail)
     ·refine Zw [1,3,4,91,92] [0,1,2] (Zq dZ.d (Zq hg (Zq hlU (Zq hlE (Zq hlF hlr))))) ?_
      rw[hsu,‹U.getD k false=true›,Bool.true_and];rfl
     ·refine Zw [1,3,4,91,92] [0,1,2] (Zq dZ.d (Zq hg (Zq hlU (Zq hlE (Zq hlF hlr))))) ?_
      rw[hsu,‹U.getD k false=false›,Bool.false_and];rfl
    ·obtain rfl:k=c.regs.toNat:=by omega
     obtain⟨F,hF⟩:∃F,F=dS U E c.regs.toNat:=⟨_,rfl⟩
     rw[←hF]at hlF⊢
     repeat' (first|refine Za ?_|(with_reducible constructor<;>first|intro N hN mk hmk|intro N hN|intro h)|refine Zt (Zq dZ.d (Zq hlU (Zq hlE hlr))) ?_|fail)
     refine⟨[1],by decide,fun nid=>⟨rfl,?_⟩⟩
     simp (maxSteps:=10000000) (disch:=omega) only[aC,dZ.d,hlU,hlE,hlr,c5,n9,b5,c8,n5,w8,AV.plain,Nat.reduceBEq,↓reduceIte,Nat.reduceEqDiff,Nat.reduceAdd,sC]
theorem dI:∀(l:List Int) (s:List Bool) (k:Nat),k<s.length→(∀r∈l,r<s.length)→((P9 s l).getD k false=true↔s.getD k false=true∨(k:Int)∈l)
 |[],s,k,_,_=>by simp [P9]
 |a::l,s,k,hk,h=>by
  show(P9 (if 0≤a then s.set a.toNat true else s) l).getD k false=true↔_
  have ha:=h a (by simp)
  by_cases h0:0≤a
  ·rw[if_pos h0,dI l (s.set a.toNat true) k (by simpa using hk) (by simpa using fun r hr=>h r (by simp [hr])),Y8,List.mem_cons]
   by_cases e:a.toNat=k
   ·rw[if_pos ⟨e,hk⟩]
    simp only[true_or,true_iff]
    exact .inr (.inl (by omega))
   ·rw[if_neg (fun hh=>e hh.1)]
    constructor
    ·rintro(g|g)
     ·exact .inl g
     ·exact .inr (.inr g)
    ·rintro(g|g|g)
     ·exact .inl g
     ·omega
     ·exact .inr g
  ·rw[if_neg h0,dI l s k hk (fun r hr=>h r (by simp [hr])),List.mem_cons]
   constructor
   ·rintro(g|g)
    ·exact .inl g
    ·exact .inr (.inr g)
   ·rintro(g|g|g)
    ·exact .inl g
    ·omega
    ·exact .inr g
theorem b73{r:Int}:∀(L:List e7) (U:List Bool) (k:Nat),(U.length:Int)=r→k<U.length→(∀x∈L,aM r x)→((spI U L).getD k false=true↔U.getD k false=true∨∃x∈L,(k:Int)∈o5 x∨(k:Int)=E9 x)
 |[],U,k,_,_,_=>by simp [spI]
 |x::L,U,k,hl,hk,h=>by
  have hx:=h x (by simp)
  have hu:∀y∈o5 x,y<U.length:=fun y hy=>by have:=a4I hx y hy;omega
  have hd:∀y∈[E9 x],y<(P9 U (o5 x)).length:=fun y hy=>by
   rw[List.mem_singleton.1 hy,E0]
   rcases Int.lt_or_le (E9 x) 0 with g|g
   ·omega
   ·have:=a9E hx g;omega
  show(spI (P9 (P9 U (o5 x)) [E9 x]) L).getD k false=true↔_
  rw[b73 L _ k (by rw[E0,E0];exact hl) (by rw[E0,E0];exact hk) (fun y hy=>h y (by simp [hy])),dI _ _ k (by rw[E0];exact hk) hd,dI _ _ k hk hu,List.mem_singleton]
  simp only[List.mem_cons,exists_eq_or_imp]
  simp only[or_assoc]
theorem c4f{r n:Int}{b:b6}(h:bS r n b){E:List Bool}(hE:(E.length:Int)=r)(k:Nat)(hk:k<E.length):(spE E b).getD k false=true↔E.getD k false=true∨((k:Int)=F3 b.t∨b.t.kind=4∧(k:Int)∈n6 b.t):=by
 have hd:∀y∈[F3 b.t],y<E.length:=fun y hy=>by
  rw[List.mem_singleton.1 hy]
  rcases Int.lt_or_le (F3 b.t) 0 with g|g
  ·omega
  ·have:=sX h.t g;omega
 have hu:∀y∈n6 b.t,y<(P9 E [F3 b.t]).length:=fun y hy=>by have:=hZ h.t y hy;rw[E0];omega
 unfold spE
 split
 ·rename_i h4
  rw[dI _ _ k (by rw[E0];exact hk) hu,dI _ _ k hk hd,List.mem_singleton]
  simp only[h4,true_and,or_assoc]
 ·rename_i h4
  rw[dI _ _ k hk hd,List.mem_singleton]
  simp only[h4,false_and,or_false]
theorem b75{c:Code}(hc:y3 c)(k:Nat)(hk:k<c.regs.toNat):∀b,b≤c.b.length→
  (
   ((spQ c b).1.getD k false=true↔∃b',b'<b∧fJ c.b (b':Int)∧((k:Int)∈n6 (B6 c.b b').t∨∃i∈(B6 c.b b').i,(k:Int)∈o5 i∨(k:Int)=E9 i))∧
   ((spQ c b).2.getD k false=true↔∃b',b'<b∧fJ c.b (b':Int)∧((k:Int)=F3 (B6 c.b b').t∨(B6 c.b b').t.kind=4∧(k:Int)∈n6 (B6 c.b b').t)))
 |0,_=>by
  have:(List.replicate c.regs.toNat false)[k]?.getD false=false:=by
   rw[List.getElem?_replicate];split<;>rfl
  simp [spQ,this]
 |b+1,hb=>by
  have hbo:=hc.b _ (S5 (show b<c.b.length by omega))
  have hl1:((spQ c b).1.length:Int)=c.regs:=by have:=(lB c b).1;have:=hc.r;omega
  have hl2:((spQ c b).2.length:Int)=c.regs:=by have:=(lB c b).2;have:=hc.r;omega
  have hk1:k<(spQ c b).1.length:=by have:=hc.r;omega
  have hk2:k<(spQ c b).2.length:=by have:=hc.r;omega
  have hn1:∀to∈n6 (B6 c.b b).t,to<(spI (spQ c b).1 (B6 c.b b).i).length:=fun to hto=>by have:=hZ hbo.t to hto;rw[lA];omega
  obtain⟨ih1,ih2⟩:=b75 hc k hk b (by omega)
  have step:∀{Q:Nat→Prop},(∃b',b'<b+1∧fJ c.b (b':Int)∧Q b')↔(∃b',b'<b∧fJ c.b (b':Int)∧Q b')∨fJ c.b (b:Int)∧Q b:=by
   intro Q
   constructor
   ·rintro⟨b',h1,h2⟩
    rcases Nat.lt_succ_iff_lt_or_eq.1 h1 with h1|rfl
    ·exact .inl ⟨b',h1,h2⟩
    ·exact .inr h2
   ·rintro(⟨b',h1,h2⟩|h2)
    ·exact⟨b',by omega,h2⟩
    ·exact⟨b,by omega,h2⟩
  unfold spQ
  rw[step,step]
  by_cases hr:(reachF c.b).getD b false=true
  ·have hR:=(V2 c.b (by omega)).1 hr
   rw[if_pos hr]
   simp only
   constructor
   ·rw[dI _ _ k (by rw[lA];exact hk1) hn1,b73 _ _ k hl1 hk1 hbo.i,ih1,or_assoc]
    refine or_congr Iff.rfl ?_
    simp only[hR,true_and]
    exact or_comm
   ·rw[c4f hbo hl2 k hk2,ih2]
    simp [hR]
  ·have hR:¬fJ c.b (b:Int):=fun h=>hr ((V2 c.b (by omega)).2 h)
   rw[if_neg hr,ih1,ih2]
   simp [hR]
theorem c5u{c:Code}(hc:y3 c):dS (spQ c c.b.length).1 (spQ c c.b.length).2 c.regs.toNat=spF c:=by
 have hl:=lB c c.b.length
 apply List.ext_getElem?
 intro k
 unfold dS spF
 rw[hl.1]
 simp only[List.getElem?_map]
 by_cases hk:k<c.regs.toNat
 ·rw[List.getElem?_range hk]
  simp only[Option.map_some,Option.some.injEq]
  rw[if_pos hk]
  obtain⟨h1,h2⟩:=b75 hc k hk c.b.length (Nat.le_refl _)
  rw[Bool.eq_iff_iff]
  simp only[Bool.and_eq_true,Bool.not_eq_true',decide_eq_true_eq]
  refine and_congr h1 ?_
  rw[←Bool.not_eq_true]
  exact not_congr h2
 ·rw[List.getElem?_eq_none (by simp;omega)];rfl
theorem b6d(c:Code)(hc:y3 c):e8 Tryz.prog 123 [.agg c.av] (fun n=> .own n 0 c.regs.toNat) (fun _=>[⟨1,u3 (spF c),0⟩]):=by
 have:=zP c hc
 rw[c5u hc]at this;exact this
end Go.Proofs.YtgdoiokalfhjoaaGreatDoor
end
