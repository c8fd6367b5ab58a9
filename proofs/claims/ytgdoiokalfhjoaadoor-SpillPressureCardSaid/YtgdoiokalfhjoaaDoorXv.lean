/- Own work (by an AI agent; no person has read it): part of a proof of the seat YtgdoiokalfhjoaaDoor. -/
import Derived.Test.YtgdoiokalfhjoaaDoorXu
set_option linter.unusedSimpArgs false
set_option linter.unusedVariables false
set_option maxRecDepth 100000
set_option maxHeartbeats 10000000
section
namespace Go.Proofs.YtgdoiokalfhjoaaDoor
open Go.Ab
def wL(c:Code)(i:Nat):Nat:=((c.b.take i).map fun b=>b.i.length).sum
theorem a0m(c:Code)(i:Nat)(h:i<c.b.length):wL c (i+1)=wL c i+(c.b.getD i B0).i.length:=by
 unfold wL;rw[G6 c.b i B0 h,List.map_append,List.sum_append];simp
theorem a1q{c:Code}(h:∀b∈c.b,b.i.length≤1000):∀i,wL c i≤1000*i
 |0=>by simp [wL]
 |i+1=>by
  by_cases hi:i<c.b.length
  ·have h1:=a1q h i
   have h2:=h (c.b.getD i B0) (by rw[List.getD_eq_getElem?_getD,List.getElem?_eq_getElem hi];exact List.getElem_mem hi)
   rw[a0m c i hi];omega
  ·have h1:=a1q h i
   unfold wL at*
   rw[List.take_of_length_le (by omega)]at h1⊢;omega
theorem a9m(c:Code)(n:Int)(h:n=(wL c c.b.length:Nat)):dL c↔c.regs≤256∧n≤2000:=by
 unfold dL
 rw[h]
 unfold wL
 rw[List.take_length]
 refine and_congr Iff.rfl ?_
 omega
def a2C:=ZZ.mk (Zq @n3 (Zq @aA (Zq @W6 (Zq @l8 (Zq @p0 (Zq @w8 (Zq @m7 (Zq @e8.av.eq_1 (Zq @w4.av.eq_1 (Zq @j0 @j3))))))))))
theorem a8j(c:Code)(hb:c.b.length≤1000)(hi':∀b∈c.b,b.i.length≤1000):n5 Tryd.prog 51 [.agg c.av] (fun _=> .v (.bool (decide (dL c)))) (fun _=>[]):=by
 have hsl:=fun i=>a1q hi' i
 refine Zf Tryd.func51 Tryd.ntmps51 ?_;simp only[Code.av]
 repeat' (first|refine Za ?_|(with_reducible constructor<;>first|intro N hN mk hmk|intro N hN|intro h)|refine Zt (Zq a2C.d a7) ?_|fail)
 refine v7 (fun i=>⟨[.Z,.ptr 0 0 0,.Z,.v (.int .i64 (wL c i)),.Z,.Z,.Z,.c5 false (y6 c.b),.v (.int .i64 c.b.length),.v (.int .i64 i),.Z,.Z,.Z,.Z,.Z,.Z,.Z,.Z,.Z,.Z,.Z,.Z,.Z,.Z,.Z,.Z],[(0,.live ⟨8,[[.v (.int .i64 c.group),.v (.int .i64 c.sub),.v (.int .i64 c.regs),.v (.int .i64 c.I2),.v (.int .i64 c.params),.c5 false (H2 c.o0),.c5 false (Proofs.YtgdoiokalfhjoaaDoor.loops c.loops),.c5 false (y6 c.b)]],0⟩)],1⟩) c.b.length (Zw [1,3,7,8,9] [0] (Zq a2C.d a7) ?_) ?_
 ·rfl
 ·intro i hi
  have hs:=hsl i
  by_cases hlt:i<c.b.length
  ·have hs2:=a0m c i hlt
   have hbi:=hi' (c.b.getD i B0) (by rw[List.getD_eq_getElem?_getD,List.getElem?_eq_getElem hlt];exact List.getElem_mem hlt)
   obtain⟨B,hB⟩:∃B,c.b.getD i B0=B:=⟨_,rfl⟩
   rw[hB]at hs2 hbi
   repeat' (first|refine Za ?_|(with_reducible constructor<;>first|intro N hN mk hmk|intro N hN|intro h)|refine Zt (Zq a2C.d (Zq hB a7)) ?_|fail)
   refine Zw [1,3,7,8,9] [0] (Zq a2C.d (Zq hB a7)) ?_
   rw[hs2];rfl
  ·obtain rfl:i=c.b.length:=by omega
   have hsm:=a9m c (wL c c.b.length) rfl
   repeat' (first|refine Za ?_|(with_reducible constructor<;>first|intro N hN mk hmk|intro N hN|intro h)|refine Zt (Zq a2C.d a7) ?_|fail)
   all_goals(first|exact(decide_eq_true (hsm.2 ⟨by omega,by omega⟩)).symm|exact(decide_eq_false fun h=>absurd (hsm.1 h) (by omega)).symm|(refine decide_eq_decide.2 ?_;rw[hsm];omega))
theorem a8e(L:List (List Int))(r:Int)(i:Nat)(h:i<L.length):mM (L.take (i+1)) r=mM (L.take i) r+if r∈L.getD i []then 1 else 0:=by
 rw[G6 L i [] h];unfold mM
 rw[List.filter_append,List.length_append]
 congr 1
 by_cases hm:r∈L.getD i []
 ·rw[if_pos hm,List.filter_cons,if_pos (decide_eq_true hm)];rfl
 ·rw[if_neg hm,List.filter_cons,if_neg (fun h=>hm (of_decide_eq_true h))];rfl
theorem a0D(L:List (List Int))(r:Int):mM L r≤L.length:=List.length_filter_le _ _
def b1J(sp:List Bool)(L:List (List Int))(l:List Int)(n:Nat):Int:=if S7 sp L l n<0 then -1 else mM L (S7 sp L l n)
theorem b2T(sp:List Bool)(L:List (List Int))(l:List Int)(n:Nat): -1≤S7 sp L l n∧S7 sp L l n<n∧ -1≤b1J sp L l n∧b1J sp L l n≤L.length:=by
 have h: -1≤S7 sp L l n∧S7 sp L l n<n:=by
  rcases kZ sp L l n with h|⟨h1,h2,_⟩<;>omega
 refine⟨h.1,h.2,?_⟩
 have:=a0D L (S7 sp L l n)
 unfold b1J
 split<;>omega
def mN:Code:=⟨0,0,0,0,0,[],[],[]⟩
noncomputable def doneAV (c:Code):Option (List Int)→List AV
 |none=>mN.av++[.c5 false (m8 []),.v (.int .i64 170)]
 |some l=>(p9 c l).av++[.c5 false (m8 l),.v (.int .i64 0)]
noncomputable def lseq (c:Code):Nat→List Int
 |0=>[]
 |i+1=>F6 (lseq c i) (bestF c (lseq c i))
theorem kH(c:Code)(v:Int)(n:Nat)(l:List Int):runF c v (n+1) l=if dL (p9 c l)then(if pressF (p9 c l)≤v then some l else if bestF c l<0 then none else runF c v n (F6 l (bestF c l)))else none:=rfl
structure rW (c:Code) (v:Int) (i:Nat):Prop where
 s:bU c (lseq c i)
 l:(lseq c i).length=i
 r:runF c v (c.regs.toNat+1) []=runF c v (c.regs.toNat+1-i) (lseq c i)
theorem rW.zero(c:Code)(v:Int):rW c v 0:=⟨bU.nil c,rfl,rfl⟩
theorem rW.le{c:Code}{v:Int}{i:Nat}(hc:C8 c)(h:rW c v i):i≤c.regs.toNat:=by
 have:=h.s.len hc
 have:=h.l
 omega
theorem rW.step{c:Code}{v:Int}{i:Nat}(hc:C8 c)(h:rW c v i):runF c v (c.regs.toNat+1) []=if dL (p9 c (lseq c i))then(if pressF (p9 c (lseq c i))≤v then some (lseq c i)else if bestF c (lseq c i)<0 then none else runF c v (c.regs.toNat-i) (lseq c (i+1)))else none:=by
 have:=h.le hc
 rw[h.r,show c.regs.toNat+1-i=(c.regs.toNat-i)+1 by omega,kH];rfl
theorem rW.next{c:Code}{v:Int}{i:Nat}(hc:C8 c)(h:rW c v i)(h1:dL (p9 c (lseq c i)))(h2:¬pressF (p9 c (lseq c i))≤v)(h3:¬bestF c (lseq c i)<0):rW c v (i+1)∧i<c.regs.toNat+1:=by
 have hle:=h.le hc
 have hs:=h.step hc
 rw[if_pos h1,if_neg h2,if_neg h3]at hs
 refine⟨⟨h.s.a2J h3,?_,?_⟩,by omega⟩
 ·show(F6 _ _).length=i+1
  rw[gK h.s.s (fN h3).2.2.2,h.l]
 ·rw[hs,show c.regs.toNat+1-(i+1)=c.regs.toNat-i by omega]
theorem a5D{d:Code}(hd:C8 d):a5C d.regs (liveF d).1∧a5C d.regs (liveF d).2∧(liveF d).1.length=d.b.length∧(liveF d).2.length=d.b.length:=
 ⟨(zS hd).1,(zS hd).2,(kA hd).shp.li,(kA hd).shp.lo⟩
theorem a4j(c:Code)(l:List Int):(p9 c l).o0=c.o0∧(p9 c l).loops=c.loops:=by
 unfold p9;split<;>exact⟨rfl,rfl⟩
structure iR (c:Code):Prop where
 s:a50 c
 a:c.o0.length≤1000
 l:c.loops.length≤1000
def S8(s:List Bool)(l:List Int):List Bool:=l.foldl (fun o r=>if 0≤r then o.set r.toNat true else o) s
theorem F8:∀(l:List Int) (s:List Bool),(S8 s l).length=s.length
 |[],s=>rfl
 |a::l,s=>by
  show(S8 (if 0≤a then s.set a.toNat true else s) l).length=_
  rw[F8 l];split<;>simp
theorem a5t(s:List Bool)(l:List Int)(i:Nat)(h:i<l.length):S8 s (l.take (i+1))=if 0≤l.getD i 0 then(S8 s (l.take i)).set (l.getD i 0).toNat true else S8 s (l.take i):=by
 rw[G6 l i 0 h];unfold S8;rw[List.foldl_append];rfl
def a0w:=ZZ.mk (Zq @U8 (Zq @W8 (Zq @dS (Zq @P9 (Zq @M5 (Zq @fP (Zq @F9 (Zq @V1 (Zq @O4 (Zq @bF (Zq @j4 (Zq @A7 (Zq @aX (Zq @j0 @j3))))))))))))))
theorem tB(s:List Bool)(l:List Int)(hs:s.length≤1000)(hl:l.length≤1000)(h:∀r∈l,r<s.length):y9 Tryd.prog 54 [.own 0 0 s.length,.c5 false (m8 l)] [⟨1,F7 s,0⟩] 1 (fun _:Unit=>True) (fun _=> .Q0 []) (fun _=>[⟨1,F7 (S8 s l),0⟩]):=by
 refine Zf Tryd.func54 Tryd.ntmps54 ?_
 repeat' (first|refine Za ?_|(with_reducible constructor<;>first|intro N hN mk hmk|intro N hN|intro h)|refine Zt a0w.d ?_|fail)
 refine v7 (fun i=>⟨[.own 0 0 s.length,.Z,.Z,.Z,.Z,.Z,.c5 false (m8 l),.v (.int .i64 l.length),.v (.int .i64 i),.Z,.Z,.Z,.Z,.Z,.Z,.Z,.Z,.Z],[(0,.live ⟨1,F7 (S8 s (l.take i)),0⟩),(1,.u3 99 [.ptr 0 0 0])],2⟩) l.length (Zw [0,6,7,8] [0] a0w.d ?_) ?_
 ·rfl
 ·intro i hi
  have hml:=F8 (l.take i) s
  by_cases hin:i<l.length
  ·have hgo:=h _ (V8 hin)
   have hst:=a5t s l i hin
   repeat' (first|refine Za ?_|(with_reducible constructor<;>first|intro N hN mk hmk|intro N hN|intro h)|refine Zt (Zq a0w.d hml) ?_|fail)
   ·refine Zw [0,6,7,8] [0] (Zq a0w.d hml) ?_
    rw[hst,if_pos (by assumption)];rfl
   ·refine Zw [0,6,7,8] [0] (Zq a0w.d hml) ?_
    rw[hst,if_neg (by assumption)];rfl
  ·obtain rfl:i=l.length:=by omega
   rw[List.take_length]
   repeat' (first|refine Za ?_|(with_reducible constructor<;>first|intro N hN mk hmk|intro N hN|intro h)|refine Zt (Zq a0w.d hml) ?_|fail)
   refine Zr (()) [0] (Zq a0w.d hml) ?_
   trivial
def b7F:=ZZ.mk (Zq a0w.d (Zq @ct1 @X0))
def b6P:=ZZ.mk (Zq a0w.d @ct1)
theorem yX(s:List Bool)(d:Int)(hs:s.length≤1000)(h:d<s.length):y9 Tryd.prog 54 [.own 0 0 s.length,.own 1 0 1] [⟨1,F7 s,0⟩,⟨1,[[.v (.int .i64 d)]],0⟩] 2 (fun _:Unit=>True) (fun _=> .Q0 []) (fun _=>[⟨1,F7 (S8 s [d]),0⟩,⟨1,[[.v (.int .i64 d)]],0⟩]):=by
 have hm:S8 s [d]=if 0≤d then s.set d.toNat true else s:=rfl
 rw[hm]
 refine Zf Tryd.func54 Tryd.ntmps54 ?_
 repeat' (first|refine Za ?_|(with_reducible constructor<;>first|intro N hN mk hmk|intro N hN|intro h)|(guard_target=~ AK Tryd.prog _ _ _ _;refine y3 [(),()] ?_)|refine Zt b7F.d ?_|fail)
 ·rw[if_pos (by assumption)]
  refine Zr (()) [0,1] b6P.d ?_
  trivial
 ·rw[if_neg (by assumption)]
  refine Zr (()) [0,1] b6P.d ?_
  trivial
def spI(U:List Bool)(L:List l0):List Bool:=L.foldl (fun U x=>S8 (S8 U (w6 x)) [Q7 x]) U
theorem kJ:∀(L:List l0) (U:List Bool),(spI U L).length=U.length
 |[],U=>rfl
 |x::L,U=>by show(spI (S8 (S8 U (w6 x)) [Q7 x]) L).length=_;rw[kJ L,F8,F8]
theorem b2d(U:List Bool)(L:List l0)(i:Nat)(h:i<L.length):spI U (L.take (i+1))=S8 (S8 (spI U (L.take i)) (w6 (L.getD i I0))) [Q7 (L.getD i I0)]:=by
 rw[G6 L i I0 h];unfold spI;rw[List.foldl_append];rfl
def spE(E:List Bool)(b:e8):List Bool:=if b.t.kind=4 then S8 (S8 E [O3 b.t]) (u9 b.t)else S8 E [O3 b.t]
noncomputable def spQ (c:Code):Nat→List Bool×List Bool
 |0=>(List.replicate c.regs.toNat false,List.replicate c.regs.toNat false)
 |b+1=>if(reachF c.b).getD b false then(S8 (spI (spQ c b).1 (I8 c.b b).i) (u9 (I8 c.b b).t),spE (spQ c b).2 (I8 c.b b))else spQ c b
theorem b3X(E:List Bool)(b:e8):(spE E b).length=E.length:=by unfold spE;split<;>simp [F8]
theorem kK(c:Code):∀b,(spQ c b).1.length=c.regs.toNat∧(spQ c b).2.length=c.regs.toNat
 |0=>by simp [spQ]
 |b+1=>by
  have ih:=kK c b
  unfold spQ
  split
  ·exact⟨by rw[F8,kJ];exact ih.1,by rw[b3X];exact ih.2⟩
  ·exact ih
def dR:=ZZ.mk (Zq @U8 (Zq @W8 (Zq @dS (Zq @P9 (Zq @M5 (Zq @fP (Zq @eQ (Zq @yV (Zq @w4.av.eq_1 (Zq @l0.av.eq_1 (Zq @p0 (Zq @gV (Zq @w8 (Zq @m7 (Zq @n3 (Zq @aA (Zq @W6 (Zq @l8 (Zq @e8.av.eq_1 (Zq @F9 (Zq @V1 (Zq @O4 (Zq @bF (Zq @j4 (Zq @A7 (Zq @aX (Zq @aE (Zq @Q5 (Zq @List.length_replicate.{0} (Zq @List.length_set.{0} (Zq @j0 @j3)))))))))))))))))))))))))))))))
theorem wA(c:Code)(hc:C8 c):n5 Tryd.prog 36 [.agg c.av] (fun n=> .own n 0 c.regs.toNat) (fun _=>[⟨1,F7 (jC (spQ c c.b.length).1 (spQ c c.b.length).2 c.regs.toNat),0⟩]):=by
 have hr:=hc.r
 have hn:=hc.n
 have C3:=oS c hc.succ (by omega)
 have hlr:=cQ c.b
 simp only[Code.av]at C3
 (refine iY Tryd.func36 rfl (by kernel_rfl) ?_;rw[mV Tryd.ntmps36];simp only[Code.av];simp only[List.replicate_succ,List.replicate_zero,List.cons_append,List.nil_append,List.length_cons,List.length_nil,Nat.reduceAdd,Nat.reduceSub];refine w5 ?_)
 repeat' (first|refine Za ?_|(with_reducible constructor<;>first|intro N hN mk hmk|intro N hN|intro h)|refine Zc C3 ?_|refine Zt (Zq dR.d hlr) ?_|fail)
 refine v7 (fun b=>⟨[.Z,.ptr 0 0 0,.Z,.own 1 0 c.regs.toNat,.own 2 0 c.regs.toNat,.fn 54 [],.Z,.Z,.Z,.Z,.Z,.Z,.Z,.Z,.Z,.Z,.Z,.Z,.c5 false (F7 (reachF c.b)),.v (.int .i64 c.b.length),.v (.int .i64 b),.Z,.Z,.Z,.Z,.Z,.Z,.Z,.Z,.Z,.Z,.Z,.Z,.Z,.Z,.Z,.Z,.Z,.Z,.Z,.Z,.Z,.Z,.Z,.Z,.Z,.Z,.Z,.Z,.Z,.Z,.Z,.Z,.Z,.Z,.Z,.Z,.Z,.Z,.Z,.Z,.Z,.Z,.Z,.Z,.Z,.Z,.Z,.Z,.Z,.Z,.Z,.Z,.Z,.Z,.Z,.Z,.Z,.Z,.Z,.Z,.Z,.Z,.Z,.Z,.Z,.Z,.Z,.Z,.Z,.Z,.Z,.Z,.Z,.Z,.Z,.Z,.Z,.Z,.Z,.Z,.Z,.Z,.Z,.Z,.Z,.Z,.Z,.Z,.Z,.Z],[(0,.live ⟨8,[[.v (.int .i64 c.group),.v (.int .i64 c.sub),.v (.int .i64 c.regs),.v (.int .i64 c.I2),.v (.int .i64 c.params),.c5 false (H2 c.o0),.c5 false (Proofs.YtgdoiokalfhjoaaDoor.loops c.loops),.c5 false (y6 c.b)]],0⟩),(1,.live ⟨1,F7 ((spQ c b).1),0⟩),(2,.live ⟨1,F7 ((spQ c b).2),0⟩)],3⟩) c.b.length (Zw [1,3,4,5,18,19,20] [0,32,56] (Zq dR.d hlr) ?_) ?_
 ·rfl
 ·intro b hb
  have hlU:=(kK c b).1
  have hlE:=(kK c b).2
  obtain⟨Y,hY⟩:∃Y,Y=spQ c (b+1):=⟨_,rfl⟩
  rw[←hY]
  by_cases hlt:b<c.b.length
  ·have hy:Y=if(reachF c.b).getD b false then(S8 (spI (spQ c b).1 (I8 c.b b).i) (u9 (I8 c.b b).t),spE (spQ c b).2 (I8 c.b b))else spQ c b:=by rw[hY];rfl
   have hbo:=hc.b _ (bW hlt)
   obtain⟨U,hU⟩:∃U,U=(spQ c b).1:=⟨_,rfl⟩
   obtain⟨E,hE⟩:∃E,E=(spQ c b).2:=⟨_,rfl⟩
   rw[←hU]at hlU hy
   rw[←hE]at hlE hy
   rw[←hU,←hE]
   obtain⟨B,hB⟩:∃B,B=I8 c.b b:=⟨_,rfl⟩
   have hB2:c.b.getD b B0=B:=by rw[hB];rfl
   rw[←hB]at hy hbo
   have hbl:=hbo.l
   have huT:=gB B.t
   have hti:=vO hbo.t
   obtain⟨U',hU'⟩:∃U',U'=spI U B.i:=⟨_,rfl⟩
   have hlU':U'.length=c.regs.toNat:=by rw[hU',kJ,hlU]
   have J1:=oU B.t
   have J7:=tA B.t
   simp only[w4.av]at J1 J7
   have hdl:O3 B.t<c.regs.toNat:=by
    rcases Int.lt_or_le (O3 B.t) 0 with h|h
    ·omega
    ·have:=a6Y hbo.t h;omega
   have P1:=tB U' (u9 B.t) (by omega) (by omega) (fun r h=>by have:=hti r h;omega)
   have P2:=yX E (O3 B.t) (by omega) (by omega)
   have P3:=tB (S8 E [O3 B.t]) (u9 B.t) (by rw[F8];omega) (by omega) (fun r h=>by have:=hti r h;rw[F8];omega)
   rw[hlU']at P1
   rw[hlE]at P2
   rw[F8,hlE]at P3
   rw[←hU']at hy
   repeat' (first|(guard_target=~ AK Tryd.prog _ _ _ _;refine a6O (x:=Go.Code.seq (Go.Code.region 7 _ _) _) ⟨[.Z,.ptr 0 0 0,.Z,.own 1 0 c.regs.toNat,.own 2 0 c.regs.toNat,.fn 54 [],.v (.int .i64 b),.Z,.Z,.Z,.Z,.Z,.Z,.Z,.Z,.Z,.Z,.Z,.c5 false (F7 (reachF c.b)),.v (.int .i64 c.b.length),.v (.int .i64 b),.Z,.Z,.Z,.Z,.Z,.Z,.Z,.Z,.Z,.Z,.Z,.Z,.Z,.Z,.Z,.Z,.Z,.Z,.Z,.Z,.Z,.Z,.Z,.Z,.Z,.Z,.Z,.Z,.Z,.Z,.Z,.Z,.Z,.Z,.Z,.Z,.Z,.Z,.Z,.Z,.Z,.Z,.Z,.Z,.Z,.Z,.Z,.Z,.Z,.Z,.Z,.Z,.Z,.Z,.Z,.Z,.Z,.Z,.Z,.Z,.Z,.Z,.Z,.Z,.Z,.Z,.Z,.Z,.Z,.Z,.Z,.Z,.Z,.Z,.Z,.Z,.Z,.Z,.Z,.Z,.Z,.Z,.Z,.Z,.Z,.Z,.Z,.Z,.Z,.Z],[(0,.live ⟨8,[[.v (.int .i64 c.group),.v (.int .i64 c.sub),.v (.int .i64 c.regs),.v (.int .i64 c.I2),.v (.int .i64 c.params),.c5 false (H2 c.o0),.c5 false (Proofs.YtgdoiokalfhjoaaDoor.loops c.loops),.c5 false (y6 c.b)]],0⟩),(1,.live ⟨1,F7 (U'),0⟩),(2,.live ⟨1,F7 (E),0⟩)],3⟩ ?_ ?_)|refine Za ?_|(with_reducible constructor<;>first|intro N hN mk hmk|intro N hN|intro h)|refine Zc J1 ?_|refine Zc J7 ?_|(refine Zp P1 [1] (Zq dR.d (Zq hB2 (Zq hlU (Zq hlE (Zq hlU' hlr))))) ?_;with_reducible intro _ _)|(refine Zp P3 [2] (Zq dR.d (Zq hB2 (Zq hlU (Zq hlE (Zq hlU' hlr))))) ?_;with_reducible intro _ _)|(refine Zp P2 [2,155] (Zq dR.d (Zq hB2 (Zq hlU (Zq hlE (Zq hlU' hlr))))) ?_;with_reducible intro _ _)|(refine Zw [1,3,4,5,18,19,20,6] [0,1,2] (Zq dR.d (Zq hB2 (Zq hlU (Zq hlE (Zq hlU' hlr))))) ?_;first|rfl|(simp only[*,true_and,and_true,false_and,and_false,decide_true,decide_false,not_true_eq_false,not_false_eq_true];done)|(simp [*];done))|refine Zt (Zq dR.d (Zq hB2 (Zq hlU (Zq hlE (Zq hlU' hlr))))) ?_|fail)
   ·refine Zw [1,3,4,5,18,19,20] [0,1,2] (Zq dR.d (Zq hB2 (Zq hlU (Zq hlE (Zq hlU' hlr))))) ?_
    rw[hy,if_neg (by simp_all),←hU,←hE];rfl
   ·refine v7 (fun i=>⟨[.Z,.ptr 0 0 0,.Z,.own 1 0 c.regs.toNat,.own 2 0 c.regs.toNat,.fn 54 [],.v (.int .i64 b),.Z,.Z,.Z,.Z,.Z,.Z,.Z,.Z,.Z,.Z,.Z,.c5 false (F7 (reachF c.b)),.v (.int .i64 c.b.length),.v (.int .i64 b),.Z,.Z,.Z,.Z,.Z,.Z,.Z,.Z,.Z,.Z,.Z,.c5 false (j5 B.i),.v (.int .i64 B.i.length),.v (.int .i64 i),.Z,.Z,.Z,.Z,.Z,.Z,.Z,.Z,.Z,.Z,.Z,.Z,.Z,.Z,.Z,.Z,.Z,.Z,.Z,.Z,.Z,.Z,.Z,.Z,.Z,.Z,.Z,.Z,.Z,.Z,.Z,.Z,.Z,.Z,.Z,.Z,.Z,.Z,.Z,.Z,.Z,.Z,.Z,.Z,.Z,.Z,.Z,.Z,.Z,.Z,.Z,.Z,.Z,.Z,.Z,.Z,.Z,.Z,.Z,.Z,.Z,.Z,.Z,.Z,.Z,.Z,.Z,.Z,.Z,.Z,.Z,.Z,.Z,.Z,.Z,.Z],[(0,.live ⟨8,[[.v (.int .i64 c.group),.v (.int .i64 c.sub),.v (.int .i64 c.regs),.v (.int .i64 c.I2),.v (.int .i64 c.params),.c5 false (H2 c.o0),.c5 false (Proofs.YtgdoiokalfhjoaaDoor.loops c.loops),.c5 false (y6 c.b)]],0⟩),(1,.live ⟨1,F7 (spI U (B.i.take i)),0⟩),(2,.live ⟨1,F7 (E),0⟩)],3⟩) B.i.length (Zw [1,3,4,5,18,19,20,6,32,33,34] [0,1,2] (Zq dR.d (Zq hB2 (Zq hlU (Zq hlE (Zq hlU' hlr))))) ?_) ?_
    ·rfl
    ·intro k hk
     have hlI:(spI U (B.i.take k)).length=c.regs.toNat:=by rw[kJ,hlU]
     by_cases hlk:k<B.i.length
     ·have hx:=hbo.i (B.i.getD k I0) (by rw[List.getD_eq_getElem?_getD,List.getElem?_eq_getElem hlk];exact List.getElem_mem hlk)
      have hst:=b2d U B.i k hlk
      obtain⟨x,hxx⟩:∃x,B.i.getD k I0=x:=⟨_,rfl⟩
      rw[hxx]at hst hx
      obtain⟨V,hV⟩:∃V,V=spI U (B.i.take k):=⟨_,rfl⟩
      rw[←hV]at hlI hst⊢
      have hu:=fZ x
      have hui:=a7L hx
      have K1:=tE x
      have K2:=rG x
      simp only[l0.av]at K1 K2
      have hdx:Q7 x<c.regs.toNat:=by
       rcases Int.lt_or_le (Q7 x) 0 with h|h
       ·omega
       ·have:=b0w hx h;omega
      have Q1:=tB V (w6 x) (by omega) (by omega) (fun r h=>by have:=hui r h;omega)
      have Q2:=yX (S8 V (w6 x)) (Q7 x) (by rw[F8];omega) (by rw[F8];omega)
      rw[hlI]at Q1
      rw[F8,hlI]at Q2
      repeat' (first|refine Za ?_|(with_reducible constructor<;>first|intro N hN mk hmk|intro N hN|intro h)|refine Zc K1 ?_|refine Zc K2 ?_|(refine Zp Q1 [1] (Zq dR.d (Zq hxx (Zq hB2 (Zq hlU (Zq hlE (Zq hlI hlr)))))) ?_;with_reducible intro _ _)|(refine Zp Q2 [1,115] (Zq dR.d (Zq hxx (Zq hB2 (Zq hlU (Zq hlE (Zq hlI hlr)))))) ?_;with_reducible intro _ _)|refine Zt (Zq dR.d (Zq hxx (Zq hB2 (Zq hlU (Zq hlE (Zq hlI hlr)))))) ?_|fail)
      refine Zw [1,3,4,5,18,19,20,6,32,33,34] [0,1,2] (Zq dR.d (Zq hxx (Zq hB2 (Zq hlU (Zq hlE (Zq hlI hlr)))))) ?_
      rw[hst];rfl
     ·obtain rfl:k=B.i.length:=by omega
      rw[List.take_length,←hU']
      repeat' (first|refine Za ?_|(with_reducible constructor<;>first|intro N hN mk hmk|intro N hN|intro h)|refine Zt (Zq dR.d (Zq hB2 (Zq hlU (Zq hlE (Zq hlU' hlr))))) ?_|fail)
      refine Zw [1,3,4,5,6,18,19,20] [0,1,2] (Zq dR.d (Zq hB2 (Zq hlU (Zq hlE (Zq hlU' hlr))))) ?_
      rfl
   ·
    refine Zw [1,3,4,5,18,19,20] [0,1,2] (Zq dR.d (Zq hB2 (Zq hlU (Zq hlE (Zq hlU' hlr))))) ?_
    rw[hy,if_pos (by simp_all)];unfold spE;rw[if_pos (by assumption)];rfl
   ·
    refine Zw [1,3,4,5,18,19,20] [0,1,2] (Zq dR.d (Zq hB2 (Zq hlU (Zq hlE (Zq hlU' hlr))))) ?_
    rw[hy,if_pos (by simp_all)];unfold spE;rw[if_neg (by assumption)];rfl
  ·obtain rfl:b=c.b.length:=by omega
   obtain⟨U,hU⟩:∃U,U=(spQ c c.b.length).1:=⟨_,rfl⟩
   obtain⟨E,hE⟩:∃E,E=(spQ c c.b.length).2:=⟨_,rfl⟩
   rw[←hU]at hlU
   rw[←hE]at hlE
   rw[←hU,←hE]
   repeat' (first|refine Za ?_|(with_reducible constructor<;>first|intro N hN mk hmk|intro N hN|intro h)|refine Zt (Zq dR.d (Zq hlU (Zq hlE hlr))) ?_|fail)
   refine v7 (fun b=>⟨[.Z,.ptr 0 0 0,.Z,.own 1 0 c.regs.toNat,.own 2 0 c.regs.toNat,.Z,.Z,.Z,.Z,.Z,.Z,.Z,.Z,.Z,.Z,.Z,.Z,.Z,.Z,.Z,.Z,.Z,.Z,.Z,.Z,.Z,.Z,.Z,.Z,.Z,.Z,.Z,.Z,.Z,.Z,.Z,.Z,.Z,.Z,.Z,.Z,.Z,.Z,.Z,.Z,.Z,.Z,.Z,.Z,.Z,.Z,.Z,.Z,.Z,.Z,.Z,.Z,.Z,.Z,.Z,.Z,.Z,.Z,.Z,.Z,.Z,.Z,.Z,.Z,.Z,.Z,.Z,.Z,.Z,.Z,.Z,.Z,.Z,.Z,.Z,.Z,.Z,.Z,.Z,.Z,.Z,.Z,.Z,.Z,.Z,.Z,.v (.int .i64 c.regs.toNat),.v (.int .i64 b),.Z,.Z,.Z,.Z,.Z,.Z,.Z,.Z,.Z,.Z,.Z,.Z,.Z,.Z,.Z,.Z,.Z,.Z],[(0,.live ⟨8,[[.v (.int .i64 c.group),.v (.int .i64 c.sub),.v (.int .i64 c.regs),.v (.int .i64 c.I2),.v (.int .i64 c.params),.c5 false (H2 c.o0),.c5 false (Proofs.YtgdoiokalfhjoaaDoor.loops c.loops),.c5 false (y6 c.b)]],0⟩),(1,.live ⟨1,F7 (jC U E b),0⟩),(2,.live ⟨1,F7 (E),0⟩)],3⟩) c.regs.toNat (Zw [1,3,4,91,92] [0,1,2] (Zq dR.d (Zq hlU (Zq hlE hlr))) ?_) ?_
   ·rw[show jC U E 0=U by exact b5Q U E];rfl
   ·intro k hk
    have hlF:(jC U E k).length=c.regs.toNat:=by rw[b0M,hlU]
    by_cases hlk:k<c.regs.toNat
    ·have hg:=b24 U E (i:=k) (j:=k) (by omega) (Nat.le_refl _)
     have hsu:=a8r U E (i:=k) (by omega)
     obtain⟨F,hF⟩:∃F,F=jC U E k:=⟨_,rfl⟩
     rw[←hF]at hlF hg hsu⊢
     repeat' (first|refine Za ?_|(with_reducible constructor<;>first|intro N hN mk hmk|intro N hN|intro h)|refine Zt (Zq dR.d (Zq hg (Zq hlU (Zq hlE (Zq hlF hlr))))) ?_|fail)
     ·refine Zw [1,3,4,91,92] [0,1,2] (Zq dR.d (Zq hg (Zq hlU (Zq hlE (Zq hlF hlr))))) ?_
      rw[hsu,‹U.getD k false=true›,Bool.true_and];rfl
     ·refine Zw [1,3,4,91,92] [0,1,2] (Zq dR.d (Zq hg (Zq hlU (Zq hlE (Zq hlF hlr))))) ?_
      rw[hsu,‹U.getD k false=false›,Bool.false_and];rfl
    ·obtain rfl:k=c.regs.toNat:=by omega
     obtain⟨F,hF⟩:∃F,F=jC U E c.regs.toNat:=⟨_,rfl⟩
     rw[←hF]at hlF⊢
     repeat' (first|refine Za ?_|(with_reducible constructor<;>first|intro N hN mk hmk|intro N hN|intro h)|refine Zt (Zq dR.d (Zq hlU (Zq hlE hlr))) ?_|fail)
     refine⟨[1],by decide,fun nid=>⟨rfl,?_⟩⟩
     simp (maxSteps:=10000000) (disch:=omega) only[M5,dR.d,hlU,hlE,hlr,c8,n7,b6,e7,n6,y5,AV.plain,Nat.reduceBEq,↓reduceIte,Nat.reduceEqDiff,Nat.reduceAdd,sC]
theorem dB:∀(l:List Int) (s:List Bool) (k:Nat),k<s.length→(∀r∈l,r<s.length)→((S8 s l).getD k false=true↔s.getD k false=true∨(k:Int)∈l)
 |[],s,k,_,_=>by simp [S8]
 |a::l,s,k,hk,h=>by
  show(S8 (if 0≤a then s.set a.toNat true else s) l).getD k false=true↔_
  have ha:=h a (by simp)
  by_cases h0:0≤a
  ·rw[if_pos h0,dB l (s.set a.toNat true) k (by simpa using hk) (by simpa using fun r hr=>h r (by simp [hr])),dA,List.mem_cons]
   by_cases e:a.toNat=k
   ·rw[if_pos ⟨e,hk⟩]
    simp only[true_or,true_iff]
    exact .inr (.inl (by omega))
   ·rw[if_neg (fun hh=>e hh.1)]
    constructor
    ·rintro(g|g)
     ·exact .inl g
     ·exact .inr (.inr g)
    ·rintro(g|g|g)
     ·exact .inl g
     ·omega
     ·exact .inr g
  ·rw[if_neg h0,dB l s k hk (fun r hr=>h r (by simp [hr])),List.mem_cons]
   constructor
   ·rintro(g|g)
    ·exact .inl g
    ·exact .inr (.inr g)
   ·rintro(g|g|g)
    ·exact .inl g
    ·omega
    ·exact .inr g
theorem b2c{r:Int}:∀(L:List l0) (U:List Bool) (k:Nat),(U.length:Int)=r→k<U.length→(∀x∈L,aK r x)→((spI U L).getD k false=true↔U.getD k false=true∨∃x∈L,(k:Int)∈w6 x∨(k:Int)=Q7 x)
 |[],U,k,_,_,_=>by simp [spI]
 |x::L,U,k,hl,hk,h=>by
  have hx:=h x (by simp)
  have hu:∀y∈w6 x,y<U.length:=fun y hy=>by have:=a7L hx y hy;omega
  have hd:∀y∈[Q7 x],y<(S8 U (w6 x)).length:=fun y hy=>by
   rw[List.mem_singleton.1 hy,F8]
   rcases Int.lt_or_le (Q7 x) 0 with g|g
   ·omega
   ·have:=b0w hx g;omega
  show(spI (S8 (S8 U (w6 x)) [Q7 x]) L).getD k false=true↔_
  rw[b2c L _ k (by rw[F8,F8];exact hl) (by rw[F8,F8];exact hk) (fun y hy=>h y (by simp [hy])),dB _ _ k (by rw[F8];exact hk) hd,dB _ _ k hk hu,List.mem_singleton]
  simp only[List.mem_cons,exists_eq_or_imp]
  simp only[or_assoc]
theorem b6a{r n:Int}{b:e8}(h:dQ r n b){E:List Bool}(hE:(E.length:Int)=r)(k:Nat)(hk:k<E.length):(spE E b).getD k false=true↔E.getD k false=true∨((k:Int)=O3 b.t∨b.t.kind=4∧(k:Int)∈u9 b.t):=by
 have hd:∀y∈[O3 b.t],y<E.length:=fun y hy=>by
  rw[List.mem_singleton.1 hy]
  rcases Int.lt_or_le (O3 b.t) 0 with g|g
  ·omega
  ·have:=a6Y h.t g;omega
 have hu:∀y∈u9 b.t,y<(S8 E [O3 b.t]).length:=fun y hy=>by have:=vO h.t y hy;rw[F8];omega
 unfold spE
 split
 ·rename_i h4
  rw[dB _ _ k (by rw[F8];exact hk) hu,dB _ _ k hk hd,List.mem_singleton]
  simp only[h4,true_and,or_assoc]
 ·rename_i h4
  rw[dB _ _ k hk hd,List.mem_singleton]
  simp only[h4,false_and,or_false]
theorem b2e{c:Code}(hc:C8 c)(k:Nat)(hk:k<c.regs.toNat):∀b,b≤c.b.length→
  (
   ((spQ c b).1.getD k false=true↔∃b',b'<b∧gI c.b (b':Int)∧((k:Int)∈u9 (I8 c.b b').t∨∃i∈(I8 c.b b').i,(k:Int)∈w6 i∨(k:Int)=Q7 i))∧
   ((spQ c b).2.getD k false=true↔∃b',b'<b∧gI c.b (b':Int)∧((k:Int)=O3 (I8 c.b b').t∨(I8 c.b b').t.kind=4∧(k:Int)∈u9 (I8 c.b b').t)))
 |0,_=>by
  have:(List.replicate c.regs.toNat false)[k]?.getD false=false:=by
   rw[List.getElem?_replicate];split<;>rfl
  simp [spQ,this]
 |b+1,hb=>by
  have hbo:=hc.b _ (bW (show b<c.b.length by omega))
  have hl1:((spQ c b).1.length:Int)=c.regs:=by have:=(kK c b).1;have:=hc.r;omega
  have hl2:((spQ c b).2.length:Int)=c.regs:=by have:=(kK c b).2;have:=hc.r;omega
  have hk1:k<(spQ c b).1.length:=by have:=hc.r;omega
  have hk2:k<(spQ c b).2.length:=by have:=hc.r;omega
  have hn1:∀to∈u9 (I8 c.b b).t,to<(spI (spQ c b).1 (I8 c.b b).i).length:=fun to hto=>by have:=vO hbo.t to hto;rw[kJ];omega
  obtain⟨ih1,ih2⟩:=b2e hc k hk b (by omega)
  have step:∀{Q:Nat→Prop},(∃b',b'<b+1∧gI c.b (b':Int)∧Q b')↔(∃b',b'<b∧gI c.b (b':Int)∧Q b')∨gI c.b (b:Int)∧Q b:=by
   intro Q
   constructor
   ·rintro⟨b',h1,h2⟩
    rcases Nat.lt_succ_iff_lt_or_eq.1 h1 with h1|rfl
    ·exact .inl ⟨b',h1,h2⟩
    ·exact .inr h2
   ·rintro(⟨b',h1,h2⟩|h2)
    ·exact⟨b',by omega,h2⟩
    ·exact⟨b,by omega,h2⟩
  unfold spQ
  rw[step,step]
  by_cases hr:(reachF c.b).getD b false=true
  ·have hR:=(aF c.b (by omega)).1 hr
   rw[if_pos hr]
   simp only
   constructor
   ·rw[dB _ _ k (by rw[kJ];exact hk1) hn1,b2c _ _ k hl1 hk1 hbo.i,ih1,or_assoc]
    refine or_congr Iff.rfl ?_
    simp only[hR,true_and]
    exact or_comm
   ·rw[b6a hbo hl2 k hk2,ih2]
    simp [hR]
  ·have hR:¬gI c.b (b:Int):=fun h=>hr ((aF c.b (by omega)).2 h)
   rw[if_neg hr,ih1,ih2]
   simp [hR]
theorem b7l{c:Code}(hc:C8 c):jC (spQ c c.b.length).1 (spQ c c.b.length).2 c.regs.toNat=spF c:=by
 have hl:=kK c c.b.length
 apply List.ext_getElem?
 intro k
 unfold jC spF
 rw[hl.1]
 simp only[List.getElem?_map]
 by_cases hk:k<c.regs.toNat
 ·rw[List.getElem?_range hk]
  simp only[Option.map_some,Option.some.injEq]
  rw[if_pos hk]
  obtain⟨h1,h2⟩:=b2e hc k hk c.b.length (Nat.le_refl _)
  rw[Bool.eq_iff_iff]
  simp only[Bool.and_eq_true,Bool.not_eq_true',decide_eq_true_eq]
  refine and_congr h1 ?_
  rw[←Bool.not_eq_true]
  exact not_congr h2
 ·rw[List.getElem?_eq_none (by simp;omega)];rfl
theorem b0r(c:Code)(hc:C8 c):n5 Tryd.prog 36 [.agg c.av] (fun n=> .own n 0 c.regs.toNat) (fun _=>[⟨1,F7 (spF c),0⟩]):=by
 have:=wA c hc
 rw[b7l hc]at this;exact this
end Go.Proofs.YtgdoiokalfhjoaaDoor
end
