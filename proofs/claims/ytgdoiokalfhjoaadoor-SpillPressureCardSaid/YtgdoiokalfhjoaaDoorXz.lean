/- Own work (by an AI agent; no person has read it): part of a proof of the seat YtgdoiokalfhjoaaDoor. -/
import Derived.Test.YtgdoiokalfhjoaaDoorXy
set_option linter.unusedSimpArgs false
set_option linter.unusedVariables false
set_option maxRecDepth 100000
set_option maxHeartbeats 10000000
section
namespace Go.Proofs.YtgdoiokalfhjoaaDoor
open Go.Ab
noncomputable def checkF (c d:Code) (R:List Int):Int:=haveI:=Classical.propDecidable (bU c R)
 if bU c R∧p9 c R=d then 0 else 100
theorem bU.at{c:Code}{R:List Int}(hc:C8 c)(h:bU c R){i:Nat}(hi:i<R.length):0≤R.getD i 0∧R.getD i 0<c.regs∧(spF c).getD (R.getD i 0).toNat false=true∧(0<i→R.getD (i-1) 0<R.getD i 0):=by
 have hm:=V8 hi
 obtain⟨r1,r2⟩:=h.r _ hm
 have h0:=hc.r
 refine⟨r1,r2,(vJ c (by omega)).2 ?_,fun hp=>?_⟩
 ·rw[Int.toNat_of_nonneg r1];exact h.e _ hm
 ·have:=List.pairwise_iff_getElem.1 h.s (i-1) i (by omega) hi (by omega)
  rw[List.getD_eq_getElem?_getD,List.getD_eq_getElem?_getD,List.getElem?_eq_getElem hi,List.getElem?_eq_getElem (by omega)];exact this
def okI(c:Code)(R:List Int)(i:Nat):Prop:=∀k,k<i→0≤R.getD k 0∧R.getD k 0<c.regs∧(spF c).getD (R.getD k 0).toNat false=true∧(0<k→R.getD (k-1) 0<R.getD k 0)
theorem b5Y{c:Code}{R:List Int}(hc:C8 c)(h:okI c R R.length):bU c R:=by
 have h0:=hc.r
 have hm:∀q∈R,0≤q∧q<c.regs∧(spF c).getD q.toNat false=true:=fun q hq=>by
  obtain⟨k,hk,e⟩:=List.getElem_of_mem hq
  obtain⟨h1,h2,h3,_⟩:=h k hk
  have e2:R.getD k 0=q:=by rw[List.getD_eq_getElem?_getD,List.getElem?_eq_getElem hk,Option.getD_some,e]
  rw[e2]at h1 h2 h3
  exact⟨h1,h2,h3⟩
 refine⟨fun q hq=>⟨(hm q hq).1,(hm q hq).2.1⟩,?_,fun q hq=>?_⟩
 ·refine List.pairwise_iff_getElem.2 fun i j hi hj hij=>?_
  have key:∀d,i+d+1<R.length→R.getD i 0<R.getD (i+d+1) 0:=by
   intro d
   induction d with
   |zero=>intro hd;exact(h (i+1) hd).2.2.2 (by omega)
   |succ d ih=>
    intro hd
    have h1:=ih (by omega)
    have h2:=(h (i+d+1+1) (by omega)).2.2.2 (by omega)
    rw[show i+(d+1)+1=i+d+1+1 by omega]
    have h3:R.getD (i+d+1+1-1) 0=R.getD (i+d+1) 0:=rfl
    rw[h3]at h2
    omega
  have:=key (j-i-1) (by omega)
  rw[show i+(j-i-1)+1=j by omega]at this
  rw[List.getD_eq_getElem?_getD,List.getD_eq_getElem?_getD,List.getElem?_eq_getElem hi,List.getElem?_eq_getElem hj]at this
  exact this
 ·obtain⟨h1,h2,h3⟩:=hm q hq
  have:=(vJ c (r:=q.toNat) (by omega)).1 h3
  rw[Int.toNat_of_nonneg h1]at this;exact this
theorem a8d{c d:Code}{R:List Int}(h:¬bU c R):checkF c d R=100:=if_neg fun q=>h q.1
theorem fQ{c d:Code}{R:List Int}(h:bU c R):checkF c d R=if p9 c R=d then 0 else 100:=by
 unfold checkF
 by_cases e:p9 c R=d
 ·rw[if_pos ⟨h,e⟩,if_pos e]
 ·rw[if_neg fun q=>e q.2,if_neg e]
theorem b69(i:Nat):((i:Int)-1).toNat=i-1:=by omega
structure wN (d:Code):Prop where
 a:d.o0.length≤100000
 l:d.loops.length≤100000
 b:d.b.length≤100000
 i:∀x∈d.b,x.i.length≤100000
theorem iR.rT{c:Code}(h:iR c)(l:List Int):wN (p9 c l):=by
 obtain⟨h1,h2,h3⟩:=lH h.s l
 have ha:=h.a
 have hl:=h.l
 have hn:=h1.n
 obtain⟨e1,e2⟩:=a4j c l
 exact⟨by rw[e1];omega,by rw[e2];omega,by omega,fun x hx=>by have:=h3 x hx;omega⟩
def sK:=ZZ.mk (Zq @b69 (Zq @F9 (Zq @V1 (Zq @O4 (Zq @bF (Zq @j4 (Zq @A7 (Zq @U8 (Zq @W8 (Zq @dS (Zq @P9 (Zq @M5 (Zq @j0 @j3)))))))))))))
theorem cZ(c d:Code)(R:List Int)(hc:iR c)(hd:wN d)(hR:R.length≤1000):n5 Tryd.prog 10 [.agg c.av,.agg d.av,.agg [.c5 false (m8 R)]] (fun _=> .v (.int .i64 (checkF c d R))) (fun _=>[]):=by
 have ho:=hc.s.ok
 have hr:=ho.r
 have hn:=ho.n
 have hsl:=hc.s.l
 have hsp:=a1m c
 have J1:=b0r c ho
 simp only[Code.av]at J1
 have hat:=fun i hi h=>bU.at (c:=c) (R:=R) ho h (i:=i) hi
 refine Zf Tryd.func10 Tryd.ntmps10 ?_;simp only[Code.av]
 repeat' (first|refine Za ?_|(with_reducible constructor<;>first|intro N hN mk hmk|intro N hN|intro h)|(refine Y0 J1 ?_ rfl ?_ ?_;(next=>(simp (disch:=omega) only[sK.d,B7,Nat.reduceBEq,AV.plain,Nat.reduceAdd,Nat.reduceLeDiff,Nat.reduceLT,↓reduceIte,sF]<;>first|done|rfl));(next=>(simp only[apply_ite List.length,List.length_cons,List.length_nil]<;>(try split)<;>omega)))|(refine U3 J1 ?_ rfl ?_ ?_;(next=>(simp (disch:=omega) only[sK.d,B7,Nat.reduceBEq,AV.plain,Nat.reduceAdd,Nat.reduceLeDiff,Nat.reduceLT,↓reduceIte,sF]<;>first|done|rfl));(next=>(simp only[apply_ite List.length,List.length_cons,List.length_nil]<;>(try split)<;>omega)))|refine Zt sK.d ?_|fail)
 refine T2 (fun i=>⟨[.Z,.Z,.Z,.ptr 0 0 0,.ptr 1 0 0,.ptr 2 0 0,.v (.int .i64 0),.own 3 0 c.regs.toNat,.Z,.Z,.Z,.Z,.Z,.c5 false (m8 R),.v (.int .i64 R.length),.v (.int .i64 i),.Z,.Z,.Z,.Z,.Z,.Z,.Z,.Z,.Z,.Z,.Z,.Z,.Z,.Z,.Z,.Z,.Z,.Z,.Z,.Z,.Z,.Z,.Z,.Z,.Z,.Z,.Z,.Z,.Z,.Z,.Z,.Z,.Z,.Z,.Z,.Z,.Z,.Z,.Z,.Z,.Z],[(0,.live ⟨8,[[.v (.int .i64 c.group),.v (.int .i64 c.sub),.v (.int .i64 c.regs),.v (.int .i64 c.I2),.v (.int .i64 c.params),.c5 false (H2 c.o0),.c5 false (Proofs.YtgdoiokalfhjoaaDoor.loops c.loops),.c5 false (y6 c.b)]],0⟩),(1,.live ⟨8,[[.v (.int .i64 d.group),.v (.int .i64 d.sub),.v (.int .i64 d.regs),.v (.int .i64 d.I2),.v (.int .i64 d.params),.c5 false (H2 d.o0),.c5 false (Proofs.YtgdoiokalfhjoaaDoor.loops d.loops),.c5 false (y6 d.b)]],0⟩),(2,.live ⟨1,[[.c5 false (m8 R)]],0⟩),(3,.live ⟨1,F7 (spF c),0⟩)],4⟩) (fun ii=>Go.Ab.aP ((fun i=>okI c R i) ii)) R.length (Zw [3,4,5,6,7,13,14,15] [0,8,16,40] sK.d ?_) ?_ ?_
 ·rfl
 ·exact⟨fun k hk=>by omega⟩
 ·intro i hi hI
  have hI:=hI.out
  by_cases hlt:i<R.length
  ·have hai:=hat i hlt
   have hbad:∀{p:Prop},(bU c R→p)→¬p→(100:Int)=checkF c d R:=fun h1 h2=>(a8d fun h=>h2 (h1 h)).symm
   obtain⟨q,hq⟩:∃q,R.getD i 0=q:=⟨_,rfl⟩
   have hnx:=fun h1 h2 h3 h4=>show okI c R (i+1)from fun k hk=>by
    rcases Nat.lt_succ_iff_lt_or_eq.1 hk with h|rfl
    ·exact hI k h
    ·exact⟨h1,h2,h3,h4⟩
   rw[hq]at hai hnx
   obtain⟨sp,hspp⟩:∃sp,sp=spF c:=⟨_,rfl⟩
   rw[←hspp]at hsp hai hnx⊢
   repeat' (first|refine Za ?_|(with_reducible constructor<;>first|intro N hN mk hmk|intro N hN|intro h)|refine Zt (Zq sK.d (Zq hq hsp)) ?_|fail)
   all_goals first
    |(refine hbad (fun h=>(hai h).1) ?_;omega;done)
    |(refine hbad (fun h=>(hai h).2.1) ?_;omega;done)
    |(refine hbad (fun h=>(hai h).2.2.2 (by omega)) ?_;omega;done)
    |(
      refine hbad (fun h=>(hai h).2.2.1) ?_
      have e:(!sp.getD q.toNat false)=true:=by assumption
      rw[Bool.not_eq_true']at e
      rw[e];decide)
    |(
      have e:(!sp.getD q.toNat false)=false:=by assumption
      rw[Bool.not_eq_false']at e
      refine⟨⟨hnx (by omega) (by omega) e (fun _=>by omega)⟩,?_⟩
      refine Zw [3,4,5,6,7,13,14,15] [0,1,2,3] (Zq sK.d (Zq hq hsp)) ?_
      rfl)
  ·obtain rfl:i=R.length:=by omega
   have hS:=b5Y ho hI
   rw[fQ hS]
   have hlen:=hS.len ho
   have K1:=pZ c R ho hS.s hS.r
   have hD2:=iR.rT hc R
   obtain⟨D,hD⟩:∃D,p9 c R=D:=⟨_,rfl⟩
   rw[hD]at K1 hD2⊢
   have K2:=a78 D d hD2.a hd.a hD2.l hd.l hD2.b hd.b hD2.i hd.i
   simp only[Code.av]at K1 K2
   repeat' (first|refine Za ?_|(with_reducible constructor<;>first|intro N hN mk hmk|intro N hN|intro h)|refine Zc K1 ?_|refine Zc K2 ?_|refine Zt (Zq sK.d hsp) ?_|fail)
   ·exact(if_neg (by assumption)).symm
   ·exact(if_pos (Classical.not_not.1 (by assumption))).symm
theorem b2W(c:Code)(o:Option (List Int)):∃D l e,doneT c o=[.agg (Code.av D),.agg [.c5 false (m8 l)],.v (.int .i64 e)]∧doneAV c o=Code.av D++[.c5 false (m8 l),.v (.int .i64 e)]:=by
 cases o with
 |none=>exact⟨mN,[],170,rfl,rfl⟩
 |some l=>exact⟨p9 c l,l,0,rfl,rfl⟩
def b6O:=ZZ.mk (Zq @j0 @j3)
theorem rU(c:Code)(v:Int)(hc:iR c):n5 Tryd.prog 8 [.agg c.av,.v (.int .i64 v)] (fun _=> .agg (doneAV c (runF c v (c.regs.toNat+1) []))) (fun _=>[]):=by
 have J:=b2U c v hc
 obtain⟨D,l,e,e1,e2⟩:=b2W c (runF c v (c.regs.toNat+1) [])
 rw[e1]at J
 rw[e2]
 simp only[Code.av]at J
 refine Zf Tryd.func8 Tryd.ntmps8 ?_;simp only[Code.av]
 repeat' (first|refine Za ?_|(with_reducible constructor<;>first|intro N hN mk hmk|intro N hN|intro h)|refine Zc J ?_|refine Zt b6O.d ?_|fail)
end Go.Proofs.YtgdoiokalfhjoaaDoor
end
