/- Own work (by an AI agent; no person has read it): part of a proof of the seat YtgdoiokalfhjoaaGreatDoor. -/
import Derived.Test.YtgdoiokalfhjoaaGreatDoorYw
set_option linter.unusedSimpArgs false
set_option linter.unusedVariables false
set_option maxRecDepth 100000
set_option maxHeartbeats 10000000
section
namespace Go.Proofs.YtgdoiokalfhjoaaGreatDoor
open Go.Ab
def a60:=ZZ.mk (Zq L5.d (Zq @O3 (Zq @eX (Zq @cA (Zq @L1 (Zq @cB (Zq @e7.av.eq_1 @c2d)))))))
theorem b3t(a b:List e7)(ha:a.length≤100000)(hb:b.length≤100000):e8 Tryz.prog 197 [.a8 false (c6 a),.a8 false (c6 b)] (fun _=> .v (.bool (decide (a=b)))) (fun _=>[]):=by
 have hno:∀{p:Prop},(a=b→p)→¬p→false=decide (a=b):=fun h1 h2=>(decide_eq_false fun h=>h2 (h1 h)).symm
 refine Zf Tryz.func197 Tryz.ntmps197 ?_
 repeat' (first|refine Za ?_|(with_reducible constructor<;>first|intro N hN mk hmk|intro N hN|intro h)|refine Zt a60.d ?_|fail)
 ·refine hno (fun h=>?_) (by assumption)
  rw[h]
 ·refine H4 (fun i=>⟨[.a8 false (c6 a),.a8 false (c6 b),.Z,.Z,.v (.bool false),.Z,.Z,.Z,.Z,.Z,.Z,.a8 false (c6 a),.v (.int .i64 a.length),.v (.int .i64 i),.Z,.Z,.Z,.Z,.Z,.Z,.Z,.Z,.Z,.Z,.Z,.Z],[],0⟩) (fun ii=>Go.Ab.W0 ((fun i=>∀k,k<i→a.getD k I0=b.getD k I0) ii)) a.length (Zw [0,1,4,11,12,13] [] a60.d ?_) ?_ ?_
  ·rfl
  ·exact⟨fun k hk=>by omega⟩
  ·intro i hi hI
   have hI:=hI.out
   by_cases hlt:i<a.length
   ·obtain⟨x,hx⟩:∃x,a.getD i I0=x:=⟨_,rfl⟩
    obtain⟨y,hy⟩:∃y,b.getD i I0=y:=⟨_,rfl⟩
    repeat' (first|refine Za ?_|(with_reducible constructor<;>first|intro N hN mk hmk|intro N hN|intro h)|refine Zt (Zq a60.d (Zq hx hy)) ?_|fail)
    ·refine hno (fun h=>?_) (by assumption)
     exact(nP _ _).1 (by rw[←hx,←hy,h])
    ·refine⟨⟨fun k hk=>?_⟩,?_⟩
     ·rcases Nat.lt_succ_iff_lt_or_eq.1 hk with h1|rfl
      ·exact hI k h1
      ·rw[hx,hy];exact(nP _ _).2 (Classical.not_not.1 (by assumption))
     ·refine Zw [0,1,4,11,12,13] [] (Zq a60.d (Zq hx hy)) ?_
      rfl
   ·obtain rfl:i=a.length:=by omega
    repeat' (first|refine Za ?_|(with_reducible constructor<;>first|intro N hN mk hmk|intro N hN|intro h)|refine Zt a60.d ?_|fail)
    exact(decide_eq_true (S8 I0 (by omega) hI)).symm
def a61:=ZZ.mk (Zq L5.d (Zq @eQ (Zq @oX (Zq @iB (Zq @wF (Zq @b5P @b7H))))))
theorem a9L(a b:List cN)(ha:a.length≤100000)(hb:b.length≤100000):e8 Tryz.prog 198 [.a8 false (y4 a),.a8 false (y4 b)] (fun _=> .v (.bool (decide (a=b)))) (fun _=>[]):=by
 have hno:∀{p:Prop},(a=b→p)→¬p→false=decide (a=b):=fun h1 h2=>(decide_eq_false fun h=>h2 (h1 h)).symm
 refine Zf Tryz.func198 Tryz.ntmps198 ?_
 repeat' (first|refine Za ?_|(with_reducible constructor<;>first|intro N hN mk hmk|intro N hN|intro h)|refine Zt a61.d ?_|fail)
 ·refine hno (fun h=>?_) (by assumption)
  rw[h]
 ·refine H4 (fun i=>⟨[.a8 false (y4 a),.a8 false (y4 b),.Z,.Z,.v (.bool false),.Z,.Z,.Z,.Z,.Z,.Z,.a8 false (y4 a),.v (.int .i64 a.length),.v (.int .i64 i),.Z,.Z,.Z,.Z,.Z,.Z,.Z,.Z,.Z,.Z,.Z,.Z],[],0⟩) (fun ii=>Go.Ab.W0 ((fun i=>∀k,k<i→a.getD k A0=b.getD k A0) ii)) a.length (Zw [0,1,4,11,12,13] [] a61.d ?_) ?_ ?_
  ·rfl
  ·exact⟨fun k hk=>by omega⟩
  ·intro i hi hI
   have hI:=hI.out
   by_cases hlt:i<a.length
   ·obtain⟨x,hx⟩:∃x,a.getD i A0=x:=⟨_,rfl⟩
    obtain⟨y,hy⟩:∃y,b.getD i A0=y:=⟨_,rfl⟩
    repeat' (first|refine Za ?_|(with_reducible constructor<;>first|intro N hN mk hmk|intro N hN|intro h)|refine Zt (Zq a61.d (Zq hx hy)) ?_|fail)
    ·refine hno (fun h=>?_) (by assumption)
     exact(sQ _ _).1 (by rw[←hx,←hy,h])
    ·refine⟨⟨fun k hk=>?_⟩,?_⟩
     ·rcases Nat.lt_succ_iff_lt_or_eq.1 hk with h1|rfl
      ·exact hI k h1
      ·rw[hx,hy];exact(sQ _ _).2 (Classical.not_not.1 (by assumption))
     ·refine Zw [0,1,4,11,12,13] [] (Zq a61.d (Zq hx hy)) ?_
      rfl
   ·obtain rfl:i=a.length:=by omega
    repeat' (first|refine Za ?_|(with_reducible constructor<;>first|intro N hN mk hmk|intro N hN|intro h)|refine Zt a61.d ?_|fail)
    exact(decide_eq_true (S8 A0 (by omega) hI)).symm
def a62:=ZZ.mk (Zq L5.d (Zq @M7 (Zq @fP (Zq @dG (Zq @rC (Zq @b15 @b7I))))))
theorem b3u(a b:List Loop)(ha:a.length≤100000)(hb:b.length≤100000):e8 Tryz.prog 199 [.a8 false (Proofs.YtgdoiokalfhjoaaGreatDoor.loops a),.a8 false (Proofs.YtgdoiokalfhjoaaGreatDoor.loops b)] (fun _=> .v (.bool (decide (a=b)))) (fun _=>[]):=by
 have hno:∀{p:Prop},(a=b→p)→¬p→false=decide (a=b):=fun h1 h2=>(decide_eq_false fun h=>h2 (h1 h)).symm
 refine Zf Tryz.func199 Tryz.ntmps199 ?_
 repeat' (first|refine Za ?_|(with_reducible constructor<;>first|intro N hN mk hmk|intro N hN|intro h)|refine Zt a62.d ?_|fail)
 ·refine hno (fun h=>?_) (by assumption)
  rw[h]
 ·refine H4 (fun i=>⟨[.a8 false (Proofs.YtgdoiokalfhjoaaGreatDoor.loops a),.a8 false (Proofs.YtgdoiokalfhjoaaGreatDoor.loops b),.Z,.Z,.v (.bool false),.Z,.Z,.Z,.Z,.Z,.Z,.a8 false (Proofs.YtgdoiokalfhjoaaGreatDoor.loops a),.v (.int .i64 a.length),.v (.int .i64 i),.Z,.Z,.Z,.Z,.Z,.Z,.Z,.Z,.Z,.Z,.Z,.Z],[],0⟩) (fun ii=>Go.Ab.W0 ((fun i=>∀k,k<i→a.getD k L0_=b.getD k L0_) ii)) a.length (Zw [0,1,4,11,12,13] [] a62.d ?_) ?_ ?_
  ·rfl
  ·exact⟨fun k hk=>by omega⟩
  ·intro i hi hI
   have hI:=hI.out
   by_cases hlt:i<a.length
   ·obtain⟨x,hx⟩:∃x,a.getD i L0_=x:=⟨_,rfl⟩
    obtain⟨y,hy⟩:∃y,b.getD i L0_=y:=⟨_,rfl⟩
    repeat' (first|refine Za ?_|(with_reducible constructor<;>first|intro N hN mk hmk|intro N hN|intro h)|refine Zt (Zq a62.d (Zq hx hy)) ?_|fail)
    ·refine hno (fun h=>?_) (by assumption)
     exact(oB _ _).1 (by rw[←hx,←hy,h])
    ·refine⟨⟨fun k hk=>?_⟩,?_⟩
     ·rcases Nat.lt_succ_iff_lt_or_eq.1 hk with h1|rfl
      ·exact hI k h1
      ·rw[hx,hy];exact(oB _ _).2 (Classical.not_not.1 (by assumption))
     ·refine Zw [0,1,4,11,12,13] [] (Zq a62.d (Zq hx hy)) ?_
      rfl
   ·obtain rfl:i=a.length:=by omega
    repeat' (first|refine Za ?_|(with_reducible constructor<;>first|intro N hN mk hmk|intro N hN|intro h)|refine Zt a62.d ?_|fail)
    exact(decide_eq_true (S8 L0_ (by omega) hI)).symm
def c4R:=ZZ.mk (Zq L5.d (Zq @c2c (Zq @O3 (Zq @L1 (Zq @cB (Zq @b6.av.eq_1 @q9.av.eq_1))))))
theorem b3m(a b:b6)(ha:a.i.length≤100000)(hb:b.i.length≤100000):e8 Tryz.prog 196 [.agg a.av,.agg b.av] (fun _=> .v (.bool (decide (a=b)))) (fun _=>[]):=by
 have J:=b3t a.i b.i ha hb
 refine Zf Tryz.func196 Tryz.ntmps196 ?_;simp only[b6.av,q9.av]
 repeat' (first|refine Za ?_|(with_reducible constructor<;>first|intro N hN mk hmk|intro N hN|intro h)|refine Zc J ?_|refine Zt c4R.d ?_|fail)
 ·refine decide_eq_decide.2 ?_
  rw[a2F,oP]
  exact⟨fun h=>⟨h,by assumption⟩,fun h=>h.1⟩
 ·exact(decide_eq_false fun h=>absurd ((oP _ _).1 (congrArg b6.t h)) (by assumption)).symm
theorem b3s(a b:List b6)(ha:a.length≤100000)(hb:b.length≤100000)(hia:∀x∈a,x.i.length≤100000)(hib:∀x∈b,x.i.length≤100000):e8 Tryz.prog 200 [.a8 false (o0 a),.a8 false (o0 b),.fn 196 []] (fun _=> .v (.bool (decide (a=b)))) (fun _=>[]):=by
 have hno:∀{p:Prop},(a=b→p)→¬p→false=decide (a=b):=fun h1 h2=>(decide_eq_false fun h=>h2 (h1 h)).symm
 refine Zf Tryz.func200 Tryz.ntmps200 ?_
 repeat' (first|refine Za ?_|(with_reducible constructor<;>first|intro N hN mk hmk|intro N hN|intro h)|refine Zt vP.d ?_|fail)
 ·refine hno (fun h=>?_) (by assumption)
  rw[h]
 ·refine H4 (fun i=>⟨[.a8 false (o0 a),.a8 false (o0 b),.fn 196 [],.Z,.Z,.Z,.v (.bool false),.Z,.Z,.Z,.Z,.Z,.Z,.Z,.Z,.a8 false (o0 a),.v (.int .i64 a.length),.v (.int .i64 i),.Z,.Z,.Z,.Z,.Z,.Z,.Z,.Z,.Z,.Z,.Z,.Z,.Z,.Z],[],0⟩) (fun ii=>Go.Ab.W0 ((fun i=>∀k,k<i→a.getD k B0=b.getD k B0) ii)) a.length (Zw [0,1,2,6,15,16,17] [] vP.d ?_) ?_ ?_
  ·rfl
  ·exact⟨fun k hk=>by omega⟩
  ·intro i hi hI
   have hI:=hI.out
   by_cases hlt:i<a.length
   ·have hlb2:i<b.length:=by omega
    have J2:=b3m (a.getD i B0) (b.getD i B0) (hia _ (by rw[List.getD_eq_getElem?_getD,List.getElem?_eq_getElem hlt];exact List.getElem_mem hlt)) (hib _ (by rw[List.getD_eq_getElem?_getD,List.getElem?_eq_getElem hlb2];exact List.getElem_mem hlb2))
    obtain⟨x,hx⟩:∃x,a.getD i B0=x:=⟨_,rfl⟩
    obtain⟨y,hy⟩:∃y,b.getD i B0=y:=⟨_,rfl⟩
    rw[hx,hy]at J2
    simp only[b6.av,q9.av]at J2
    repeat' (first|refine Za ?_|(with_reducible constructor<;>first|intro N hN mk hmk|intro N hN|intro h)|refine Zc J2 ?_|refine Zt (Zq vP.d (Zq hx hy)) ?_|fail)
    ·refine hno (fun h=>?_) (by assumption)
     rw[←hx,←hy,h]
    ·refine⟨⟨fun k hk=>?_⟩,?_⟩
     ·rcases Nat.lt_succ_iff_lt_or_eq.1 hk with h1|rfl
      ·exact hI k h1
      ·rw[hx,hy];exact Classical.not_not.1 (by assumption)
     ·refine Zw [0,1,2,6,15,16,17] [] (Zq vP.d (Zq hx hy)) ?_
      rfl
   ·obtain rfl:i=a.length:=by omega
    repeat' (first|refine Za ?_|(with_reducible constructor<;>first|intro N hN mk hmk|intro N hN|intro h)|refine Zt vP.d ?_|fail)
    exact(decide_eq_true (S8 B0 (by omega) hI)).symm
def c4S:=ZZ.mk (Zq L5.d (Zq @eQ (Zq @oX (Zq @iB (Zq @M7 (Zq @fP (Zq @dG (Zq @D4 (Zq @N7 (Zq @O5 @S6))))))))))
theorem b3e(a b:Code)(ha:a.c9.length≤100000)(hb:b.c9.length≤100000)(hla:a.loops.length≤100000)(hlb:b.loops.length≤100000)(hba:a.b.length≤100000)(hbb:b.b.length≤100000)(hia:∀x∈a.b,x.i.length≤100000)(hib:∀x∈b.b,x.i.length≤100000):
  e8 Tryz.prog 124 [.agg a.av,.agg b.av] (fun _=> .v (.bool (decide (a=b)))) (fun _=>[]):=by
 have J1:=a9L a.c9 b.c9 ha hb
 have J2:=b3u a.loops b.loops hla hlb
 have J3:=b3s a.b b.b hba hbb hia hib
 have hno:∀{p:Prop},(a=b→p)→¬p→false=decide (a=b):=fun h1 h2=>(decide_eq_false fun h=>h2 (h1 h)).symm
 refine Zf Tryz.func124 Tryz.ntmps124 ?_;simp only[Code.av]
 repeat' (first|refine Za ?_|(with_reducible constructor<;>first|intro N hN mk hmk|intro N hN|intro h)|refine Zc J1 ?_|refine Zc J2 ?_|refine Zc J3 ?_|refine Zt c4S.d ?_|fail)
 ·refine decide_eq_decide.2 ⟨fun h=>(wS a b).2 ⟨⟨by omega,by omega,by omega,by omega,by omega,by assumption,by assumption⟩,h⟩,fun h=>by rw[h]⟩
 all_goals
  refine hno (fun h=>?_) (by assumption)
  rw[h]
noncomputable def checkF (c d:Code) (R:List Int):Int:=haveI:=Classical.propDecidable (dY c R)
 if dY c R∧n8 c R=d then 0 else 100
theorem dY.at{c:Code}{R:List Int}(hc:y3 c)(h:dY c R){i:Nat}(hi:i<R.length):0≤R.getD i 0∧R.getD i 0<c.regs∧(spF c).getD (R.getD i 0).toNat false=true∧(0<i→R.getD (i-1) 0<R.getD i 0):=by
 have hm:=L2 hi
 obtain⟨r1,r2⟩:=h.r _ hm
 have h0:=hc.r
 refine⟨r1,r2,(qD c (by omega)).2 ?_,fun hp=>?_⟩
 ·rw[Int.toNat_of_nonneg r1];exact h.e _ hm
 ·have:=List.pairwise_iff_getElem.1 h.s (i-1) i (by omega) hi (by omega)
  rw[List.getD_eq_getElem?_getD,List.getD_eq_getElem?_getD,List.getElem?_eq_getElem hi,List.getElem?_eq_getElem (by omega)];exact this
def okI(c:Code)(R:List Int)(i:Nat):Prop:=∀k,k<i→0≤R.getD k 0∧R.getD k 0<c.regs∧(spF c).getD (R.getD k 0).toNat false=true∧(0<k→R.getD (k-1) 0<R.getD k 0)
theorem c3W{c:Code}{R:List Int}(hc:y3 c)(h:okI c R R.length):dY c R:=by
 have h0:=hc.r
 have hm:∀q∈R,0≤q∧q<c.regs∧(spF c).getD q.toNat false=true:=fun q hq=>by
  obtain⟨k,hk,e⟩:=List.getElem_of_mem hq
  obtain⟨h1,h2,h3,_⟩:=h k hk
  have e2:R.getD k 0=q:=by rw[List.getD_eq_getElem?_getD,List.getElem?_eq_getElem hk,Option.getD_some,e]
  rw[e2]at h1 h2 h3
  exact⟨h1,h2,h3⟩
 refine⟨fun q hq=>⟨(hm q hq).1,(hm q hq).2.1⟩,?_,fun q hq=>?_⟩
 ·refine List.pairwise_iff_getElem.2 fun i j hi hj hij=>?_
  have key:∀d,i+d+1<R.length→R.getD i 0<R.getD (i+d+1) 0:=by
   intro d
   induction d with
   |zero=>intro hd;exact(h (i+1) hd).2.2.2 (by omega)
   |succ d ih=>
    intro hd
    have h1:=ih (by omega)
    have h2:=(h (i+d+1+1) (by omega)).2.2.2 (by omega)
    rw[show i+(d+1)+1=i+d+1+1 by omega]
    have h3:R.getD (i+d+1+1-1) 0=R.getD (i+d+1) 0:=rfl
    rw[h3]at h2
    omega
  have:=key (j-i-1) (by omega)
  rw[show i+(j-i-1)+1=j by omega]at this
  rw[List.getD_eq_getElem?_getD,List.getD_eq_getElem?_getD,List.getElem?_eq_getElem hi,List.getElem?_eq_getElem hj]at this
  exact this
 ·obtain⟨h1,h2,h3⟩:=hm q hq
  have:=(qD c (r:=q.toNat) (by omega)).1 h3
  rw[Int.toNat_of_nonneg h1]at this;exact this
theorem pJ{c d:Code}{R:List Int}(h:¬dY c R):checkF c d R=100:=if_neg fun q=>h q.1
theorem bX{c d:Code}{R:List Int}(h:dY c R):checkF c d R=if n8 c R=d then 0 else 100:=by
 unfold checkF
 by_cases e:n8 c R=d
 ·rw[if_pos ⟨h,e⟩,if_pos e]
 ·rw[if_neg fun q=>e q.2,if_neg e]
theorem c5h(i:Nat):((i:Int)-1).toNat=i-1:=by omega
structure tN (d:Code):Prop where
 a:d.c9.length≤100000
 l:d.loops.length≤100000
 b:d.b.length≤100000
 i:∀x∈d.b,x.i.length≤100000
theorem jJ.a4E{c:Code}(h:jJ c)(l:List Int):tN (n8 c l):=by
 obtain⟨h1,h2,h3⟩:=mC h.s l
 have ha:=h.a
 have hl:=h.l
 have hn:=h1.n
 obtain⟨e1,e2⟩:=rL c l
 exact⟨by rw[e1];omega,by rw[e2];omega,by omega,fun x hx=>by have:=h3 x hx;omega⟩
def vQ:=ZZ.mk (Zq gF.d (Zq @c5h (Zq @B4 (Zq @Q8 (Zq @T6 (Zq @cY (Zq @Y6 @aC)))))))
theorem O1(c d:Code)(R:List Int)(hc:jJ c)(hd:tN d)(hR:R.length≤1000):e8 Tryz.prog 49 [.agg c.av,.agg d.av,.agg [.a8 false (c7 R)]] (fun _=> .v (.int .i64 (checkF c d R))) (fun _=>[]):=by
 have ho:=hc.s.ok
 have hr:=ho.r
 have hn:=ho.n
 have hsl:=hc.s.l
 have hsp:=tJ c
 have J1:=b6d c ho
 simp only[Code.av]at J1
 have hat:=fun i hi h=>dY.at (c:=c) (R:=R) ho h (i:=i) hi
 refine Zf Tryz.func49 Tryz.ntmps49 ?_;simp only[Code.av]
 repeat' (first|refine Za ?_|(with_reducible constructor<;>first|intro N hN mk hmk|intro N hN|intro h)|(refine H5 J1 ?_ rfl ?_ ?_;(next=>(simp (disch:=omega) only[vQ.d,u6,Nat.reduceBEq,AV.plain,Nat.reduceAdd,Nat.reduceLeDiff,Nat.reduceLT,↓reduceIte,sF]<;>first|done|rfl));(next=>(simp only[apply_ite List.length,List.length_cons,List.length_nil]<;>(try split)<;>omega)))|(refine F1 J1 ?_ rfl ?_ ?_;(next=>(simp (disch:=omega) only[vQ.d,u6,Nat.reduceBEq,AV.plain,Nat.reduceAdd,Nat.reduceLeDiff,Nat.reduceLT,↓reduceIte,sF]<;>first|done|rfl));(next=>(simp only[apply_ite List.length,List.length_cons,List.length_nil]<;>(try split)<;>omega)))|refine Zt vQ.d ?_|fail)
 refine H4 (fun i=>⟨[.Z,.Z,.Z,.ptr 0 0 0,.ptr 1 0 0,.ptr 2 0 0,.v (.int .i64 0),.own 3 0 c.regs.toNat,.Z,.Z,.Z,.Z,.Z,.a8 false (c7 R),.v (.int .i64 R.length),.v (.int .i64 i),.Z,.Z,.Z,.Z,.Z,.Z,.Z,.Z,.Z,.Z,.Z,.Z,.Z,.Z,.Z,.Z,.Z,.Z,.Z,.Z,.Z,.Z,.Z,.Z,.Z,.Z,.Z,.Z,.Z,.Z,.Z,.Z,.Z,.Z,.Z,.Z,.Z,.Z,.Z,.Z,.Z],[(0,.live ⟨8,[[.v (.int .i64 c.group),.v (.int .i64 c.sub),.v (.int .i64 c.regs),.v (.int .i64 c.w5),.v (.int .i64 c.params),.a8 false (y4 c.c9),.a8 false (Proofs.YtgdoiokalfhjoaaGreatDoor.loops c.loops),.a8 false (o0 c.b)]],0⟩),(1,.live ⟨8,[[.v (.int .i64 d.group),.v (.int .i64 d.sub),.v (.int .i64 d.regs),.v (.int .i64 d.w5),.v (.int .i64 d.params),.a8 false (y4 d.c9),.a8 false (Proofs.YtgdoiokalfhjoaaGreatDoor.loops d.loops),.a8 false (o0 d.b)]],0⟩),(2,.live ⟨1,[[.a8 false (c7 R)]],0⟩),(3,.live ⟨1,u3 (spF c),0⟩)],4⟩) (fun ii=>Go.Ab.W0 ((fun i=>okI c R i) ii)) R.length (Zw [3,4,5,6,7,13,14,15] [0,8,16,40] vQ.d ?_) ?_ ?_
 ·rfl
 ·exact⟨fun k hk=>by omega⟩
 ·intro i hi hI
  have hI:=hI.out
  by_cases hlt:i<R.length
  ·have hai:=hat i hlt
   have hbad:∀{p:Prop},(dY c R→p)→¬p→(100:Int)=checkF c d R:=fun h1 h2=>(pJ fun h=>h2 (h1 h)).symm
   obtain⟨q,hq⟩:∃q,R.getD i 0=q:=⟨_,rfl⟩
   have hnx:=fun h1 h2 h3 h4=>show okI c R (i+1)from fun k hk=>by
    rcases Nat.lt_succ_iff_lt_or_eq.1 hk with h|rfl
    ·exact hI k h
    ·exact⟨h1,h2,h3,h4⟩
   rw[hq]at hai hnx
   obtain⟨sp,hspp⟩:∃sp,sp=spF c:=⟨_,rfl⟩
   rw[←hspp]at hsp hai hnx⊢
   repeat' (first|refine Za ?_|(with_reducible constructor<;>first|intro N hN mk hmk|intro N hN|intro h)|refine Zt (Zq vQ.d (Zq hq hsp)) ?_|fail)
   all_goals first
    |(refine hbad (fun h=>(hai h).1) ?_;omega;done)
    |(refine hbad (fun h=>(hai h).2.1) ?_;omega;done)
    |(refine hbad (fun h=>(hai h).2.2.2 (by omega)) ?_;omega;done)
    |(
      refine hbad (fun h=>(hai h).2.2.1) ?_
      have e:(!sp.getD q.toNat false)=true:=by assumption
      rw[Bool.not_eq_true']at e
      rw[e];decide)
    |(
      have e:(!sp.getD q.toNat false)=false:=by assumption
      rw[Bool.not_eq_false']at e
      refine⟨⟨hnx (by omega) (by omega) e (fun _=>by omega)⟩,?_⟩
      refine Zw [3,4,5,6,7,13,14,15] [0,1,2,3] (Zq vQ.d (Zq hq hsp)) ?_
      rfl)
  ·obtain rfl:i=R.length:=by omega
   have hS:=c3W ho hI
   rw[bX hS]
   have hlen:=hS.len ho
   have K1:=qT c R ho hS.s hS.r
   have hD2:=jJ.a4E hc R
   obtain⟨D,hD⟩:∃D,n8 c R=D:=⟨_,rfl⟩
   rw[hD]at K1 hD2⊢
   have K2:=b3e D d hD2.a hd.a hD2.l hd.l hD2.b hd.b hD2.i hd.i
   simp only[Code.av]at K1 K2
   repeat' (first|refine Za ?_|(with_reducible constructor<;>first|intro N hN mk hmk|intro N hN|intro h)|refine Zc K1 ?_|refine Zc K2 ?_|refine Zt (Zq vQ.d hsp) ?_|fail)
   ·exact(if_neg (by assumption)).symm
   ·exact(if_pos (Classical.not_not.1 (by assumption))).symm
def rP(n:Int)(k:Nat):Bool:=decide (wB .u16 (b0x .u16 n k) 1=1)
def I8(sp:List Bool)(n:Int):Nat→List Int
 |0=>[]
 |k+1=>if sp.getD k false=true∧rP n k=true then I8 sp n k++[(k:Int)]else I8 sp n k
theorem oC{sp:List Bool}{n q:Int}:∀{k:Nat},q∈I8 sp n k↔0≤q∧q<k∧sp.getD q.toNat false=true∧rP n q.toNat=true
 |0=>⟨fun h=>by simp [I8]at h,fun h=>by omega⟩
 |k+1=>by
  have ih:=oC (sp:=sp) (n:=n) (q:=q) (k:=k)
  unfold I8
  by_cases h:sp.getD k false=true∧rP n k=true
  ·rw[if_pos h,List.mem_append,List.mem_singleton,ih]
   constructor
   ·rintro(⟨h1,h2,h3⟩|rfl)
    ·exact⟨h1,by omega,h3⟩
    ·exact⟨by omega,by omega,by simpa using h.1,by simpa using h.2⟩
   ·rintro⟨h1,h2,h3⟩
    by_cases e:q=k
    ·exact .inr e
    ·exact .inl ⟨h1,by omega,h3⟩
  ·rw[if_neg h,ih]
   refine⟨fun⟨h1,h2,h3⟩=>⟨h1,by omega,h3⟩,fun⟨h1,h2,h3,h4⟩=>⟨h1,?_,h3,h4⟩⟩
   by_cases e:q=k
   ·subst e;exact absurd ⟨by simpa using h3,by simpa using h4⟩ h
   ·omega
theorem a8T(sp:List Bool)(n:Int):∀k,I9 (I8 sp n k)
 |0=>I9.nil
 |k+1=>by
  have ih:=a8T sp n k
  unfold I8
  split
  ·refine List.pairwise_append.2 ⟨ih,by simp,fun a ha b hb=>?_⟩
   have:=(oC.1 ha).2.1
   rw[List.mem_singleton.1 hb];exact this
  ·exact ih
theorem a8O(sp:List Bool)(n:Int):∀k,(I8 sp n k).length≤k
 |0=>by simp [I8]
 |k+1=>by
  have:=a8O sp n k
  unfold I8
  split
  ·simp;omega
  ·omega
noncomputable def someF (c:Code) (n:Int):List Int:=I8 (spF c) n c.regs.toNat
theorem b2z{c:Code}(hc:y3 c)(n:Int):dY c (someF c n):=by
 have h0:=hc.r
 refine⟨fun q hq=>?_,a8T _ _ _,fun q hq=>?_⟩
 ·have:=oC.1 hq;omega
 ·obtain⟨h1,h2,h3,_⟩:=oC.1 hq
  have:=(qD c (r:=q.toNat) (by omega)).1 h3
  rw[Int.toNat_of_nonneg h1]at this;exact this
def vR:=ZZ.mk (Zq L5.d (Zq @I2 (Zq @iM (Zq @m9 (Zq @B4 (Zq @dA (Zq @cV (Zq @N1 (Zq @Q8 (Zq @T6 (Zq @cY (Zq @Y6 @aC))))))))))))
theorem a8A(c:Code)(n:Int)(hc:y3 c):e8 Tryz.prog 47 [.agg c.av,.v (.int .u16 n)] (fun _=> .a8 false (c7 (someF c n))) (fun _=>[]):=by
 have hr:=hc.r
 have hsp:=tJ c
 have J1:=c4b c hc
 simp only[Code.av]at J1
 unfold someF
 generalize spF c=sp at*
 have hsl:=fun k=>a8O sp n k
 refine Zf Tryz.func47 Tryz.ntmps47 ?_;simp only[Code.av]
 repeat' (first|refine Za ?_|(with_reducible constructor<;>first|intro N hN mk hmk|intro N hN|intro h)|refine Zc J1 ?_|refine Zt (Zq vR.d hsp) ?_|fail)
 refine l8 (fun r=>⟨[.Z,.v (.int .u16 n),.ptr 0 0 0,.Z,.Z,.a8 false (u3 sp),.own 1 0 (I8 sp n r).length,.v (.int .i64 r),.Z,.Z,.Z,.Z,.Z,.Z,.Z,.Z,.Z,.Z,.Z,.Z,.Z,.Z,.Z,.Z,.Z,.Z,.Z,.Z,.Z,.Z,.Z,.Z,.Z,.Z,.Z],[(0,.live ⟨8,[[.v (.int .i64 c.group),.v (.int .i64 c.sub),.v (.int .i64 c.regs),.v (.int .i64 c.w5),.v (.int .i64 c.params),.a8 false (y4 c.c9),.a8 false (Proofs.YtgdoiokalfhjoaaGreatDoor.loops c.loops),.a8 false (o0 c.b)]],0⟩),(1,.live ⟨1,c7 (I8 sp n r),0⟩)],2⟩) c.regs.toNat (Zw [1,2,5,6,7] [0,40] (Zq vR.d hsp) ?_) ?_
 ·rfl
 ·intro r hr2
  have hl:=hsl r
  by_cases hlt:r<c.regs.toNat
  ·have hrem:Int.tmod (r:Int) 16=r:=Int.tmod_eq_of_lt (by omega) (by omega)
   have wk:IntKind.u64.wrap (r:Int)=(r:Int):=Z9 (by omega)
   have hs:I8 sp n (r+1)=if sp.getD r false=true∧rP n r=true then I8 sp n r++[(r:Int)]else I8 sp n r:=rfl
   repeat' (first|refine Za ?_|(with_reducible constructor<;>first|intro N hN mk hmk|intro N hN|intro h)|refine Zt (Zq vR.d (Zq hrem (Zq wk hsp))) ?_|fail)
   ·rw[hs,if_pos ⟨by assumption,decide_eq_true (by assumption)⟩]
    refine Zw [1,2,5,6,7] [0,162] (Zq vR.d (Zq hrem (Zq wk hsp))) ?_
    rw[List.length_append];rfl
   ·rw[hs,if_neg fun h=>absurd (of_decide_eq_true h.2) (by assumption)]
    refine Zw [1,2,5,6,7] [0,1] (Zq vR.d (Zq hrem (Zq wk hsp))) ?_
    rfl
   ·have e:sp.getD r false=false:=by assumption
    rw[hs,if_neg fun h=>by rw[e]at h;exact absurd h.1 (by decide)]
    refine Zw [1,2,5,6,7] [0,1] (Zq vR.d (Zq hrem (Zq wk hsp))) ?_
    rfl
  ·obtain rfl:r=c.regs.toNat:=by omega
   repeat' (first|refine Za ?_|(with_reducible constructor<;>first|intro N hN mk hmk|intro N hN|intro h)|refine Zt (Zq vR.d hsp) ?_|fail)
theorem c0o(c:Code)(o:Option (List Int)):∃D l e,doneT c o=[.agg (Code.av D),.agg [.a8 false (c7 l)],.v (.int .i64 e)]∧doneAV c o=Code.av D++[.a8 false (c7 l),.v (.int .i64 e)]:=by
 cases o with
 |none=>exact⟨a7C,[],170,rfl,rfl⟩
 |some l=>exact⟨n8 c l,l,0,rfl,rfl⟩
theorem b2A(c:Code)(v:Int)(hc:jJ c):e8 Tryz.prog 43 [.agg c.av,.v (.int .i64 v)] (fun _=> .agg (doneAV c (runF c v (c.regs.toNat+1) []))) (fun _=>[]):=by
 have J:=c0m c v hc
 obtain⟨D,l,e,e1,e2⟩:=c0o c (runF c v (c.regs.toNat+1) [])
 rw[e1]at J
 rw[e2]
 simp only[Code.av]at J
 refine Zf Tryz.func43 Tryz.ntmps43 ?_;simp only[Code.av]
 repeat' (first|refine Za ?_|(with_reducible constructor<;>first|intro N hN mk hmk|intro N hN|intro h)|refine Zc J ?_|refine Zt L5.d ?_|fail)
def exI:List e7:=[⟨5,1,0,lN 0,O0,O0,O0⟩,⟨3,10,0,lN 1,lN 0,lN 0,O0⟩,⟨8,0,0,O0,lN 0,lN 1,O0⟩]
def exT:q9:=⟨5,0,O0,O0,O0,0,0⟩
def bF:Code:={group:=4,sub:=2,regs:=2,w5:=0,params:=0,c9:=[⟨⟨#[97]⟩,1,1,8⟩],loops:=[],b:=[⟨exI,exT⟩]}
def exD:Code:={group:=4,sub:=2,regs:=5,w5:=1,params:=0,c9:=[⟨⟨#[97]⟩,1,1,8⟩],loops:=[],b:=[⟨[⟨5,1,0,lN 2,O0,O0,O0⟩,⟨12,0,0,O0,lN 2,O0,O0⟩,⟨11,0,0,lN 2,O0,O0,O0⟩,⟨3,10,0,lN 1,lN 2,lN 2,O0⟩,⟨11,0,0,lN 2,O0,O0,O0⟩,⟨8,0,0,O0,lN 2,lN 1,O0⟩],exT⟩]}
theorem lW:jJ bF:=by
 refine⟨⟨⟨⟨by decide,by decide⟩,⟨by decide,by decide⟩,fun x hx=>?_⟩,by decide,fun b hb=>?_⟩,by decide,by decide⟩
 ·rcases List.mem_singleton.1 hx with rfl
  refine⟨fun y hy=>?_,⟨fun h=>absurd h (by decide),fun h=>absurd h (by decide),fun h=>absurd h (by decide),fun h=>absurd rfl h,fun h=>absurd h (by decide),fun h=>absurd h (by decide)⟩,by decide⟩
  have:∀y∈exI,(y.d.k=2→0≤y.d.n∧y.d.n<2)∧(y.a.k=2→0≤y.a.n∧y.a.n<2)∧(y.b.k=2→0≤y.b.n∧y.b.n<2)∧(y.c.k=2→0≤y.c.n∧y.c.n<2):=by decide
  obtain⟨h1,h2,h3,h4⟩:=this y hy
  exact⟨h1,h2,h3,h4⟩
 ·rcases List.mem_singleton.1 hb with rfl
  decide
theorem a3U(r:Int)(h:r=0∨r=1):a9a bF r∧¬b6p bF r:=by
 refine⟨⟨0,by decide,.zero,.inr ?_⟩,?_⟩
 ·rcases h with rfl|rfl
  ·exact⟨⟨5,1,0,lN 0,O0,O0,O0⟩,by decide,by decide⟩
  ·exact⟨⟨3,10,0,lN 1,lN 0,lN 0,O0⟩,by decide,by decide⟩
 ·rintro⟨b,hb,_,h2⟩
  have:b=0:=by have hb:b<1:=hb;omega
  subst this
  rcases h2 with h2|⟨h2,_⟩
  ·have e:F3 (B6 bF.b 0).t= -1:=by decide
   rw[e]at h2;omega
  ·exact absurd h2 (by decide)
theorem b6v:spF bF=[true,true]:=by
 have h0:(spF bF).getD 0 false=true:=(qD bF (r:=0) (by decide)).2 (a3U 0 (.inl rfl))
 have h1:(spF bF).getD 1 false=true:=(qD bF (r:=1) (by decide)).2 (a3U 1 (.inr rfl))
 have hl:(spF bF).length=2:=tJ bF
 generalize spF bF=l at*
 match l,hl with
 |[a,b],_=>
  simp at h0 h1
  rw[h0,h1]
theorem b6u(c:Code)(h1:c.b.length=1)(h2:(B6 c.b 0).t=exT)(h3:atF (B6 c.b 0) [] 0=[]):Lst c [[]] [[]]:=by
 have hz:∀z,([[]]:List (List Int)).getD z []=[]:=fun z=>by
  cases z with
  |zero=>rfl
  |succ z=>cases z<;>rfl
 refine⟨⟨h1.symm,h1.symm,fun z=>by rw[hz];exact⟨RB.nil,I9.nil⟩,fun z=>by rw[hz];exact⟨RB.nil,I9.nil⟩⟩,⟨fun b r h=>by rw[hz]at h;simp at h,fun b r h=>by rw[hz]at h;simp at h⟩,fun b hb _=>?_⟩
 have:b=0:=by omega
 subst this
 rw[h2,hz,h3]
 refine⟨fun r hr=>?_,fun r hr=>hr⟩
 have:cE exT [[]]=[]:=by decide
 rw[this]at hr;exact hr
theorem wT(c:Code)(h1:c.b.length=1)(h2:(B6 c.b 0).t=exT)(h3:atF (B6 c.b 0) [] 0=[]):pressF c=prB [[]] [[]] (B6 c.b 0) 0 0:=by
 have hr:(reachF c.b).getD 0 false=true:=(V2 c.b (by omega)).2 .zero
 unfold pressF
 rw[a4f (b6u c h1 h2 h3),h1]
 show(if(reachF c.b).getD 0 false=true then prB [[]] [[]] (B6 c.b 0) 0 0 else 0)=_
 rw[if_pos hr]
theorem a3T:(liveF bF).1=[[]]:=by rw[a4f (b6u bF rfl rfl (by decide))]
theorem b6q:bestF bF []=0:=by
 unfold bestF;rw[b6v,a3T];decide
theorem b6r:bestF bF [0]=1:=by
 unfold bestF;rw[b6v,a3T];decide
theorem b6s:bestF bF [0,1]= -1:=by
 unfold bestF;rw[b6v,a3T];decide
theorem c1W:pressF bF=2:=by
 rw[wT bF rfl rfl (by decide)];decide
theorem c5a:pressF (n8 bF [0])=2:=by
 rw[wT (n8 bF [0]) rfl rfl (by decide)];decide
theorem c5b:pressF (n8 bF [0,1])=2:=by
 rw[wT (n8 bF [0,1]) rfl rfl (by decide)];decide
theorem c0u:runF bF 2 3 []=some []:=b7W lW.s (by rw[c1W];decide)
theorem c0t:runF bF 1 3 []=none:=by
 have e0:n8 bF []=bF:=rfl
 rw[kY,e0,c1W,b6q,if_pos (by decide),if_neg (by decide),if_neg (by decide)]
 rw[show B5 [] 0=[0] by decide,kY,c5a,b6r,if_pos (by decide),if_neg (by decide),if_neg (by decide)]
 rw[show B5 [0] 1=[0,1] by decide,kY,c5b,b6s,if_pos (by decide),if_neg (by decide),if_pos (by decide)]
theorem sY(l:List Int)(h:∀q∈l,q=0∨q=1)(hs:I9 l):dY bF l:=⟨fun q hq=>by have:=h q hq;show 0≤q∧q<2;omega,hs,fun q hq=>a3U q (h q hq)⟩
theorem c44:checkF bF exD [0]=0:=by
 rw[bX (sY [0] (by decide) (by unfold I9;decide))];exact if_pos (by decide)
theorem c45:checkF bF exD [1]=100:=by
 rw[bX (sY [1] (by decide) (by unfold I9;decide))];exact if_neg (by decide)
theorem c46:checkF bF bF [0]=100:=by
 rw[bX (sY [0] (by decide) (by unfold I9;decide))];exact if_neg (by decide)
theorem c47:checkF bF bF []=0:=by
 rw[bX (sY [] (by decide) (by unfold I9;decide))];exact if_pos rfl
theorem rK:e8 Tryz.prog 104 [] (fun _=> .agg bF.av) (fun _=>[]):=by
 have J0:=fB 0
 have J1:=fB 1
 simp only[E3.av]at J0 J1
 refine Zf Tryz.func104 Tryz.ntmps104 ?_
 repeat' (first|refine Za ?_|(with_reducible constructor<;>first|intro N hN mk hmk|intro N hN|intro h)|refine Zc J0 ?_|refine Zc J1 ?_|refine Zt L5.d ?_|fail)
 all_goals rfl
theorem a8V:e8 Tryz.prog 105 [] (fun _=> .agg exD.av) (fun _=>[]):=by
 have J0:=rK
 have J1:=fB 1
 have J2:=fB 2
 simp only[E3.av]at J1 J2
 have e:bF.av=[.v (.int .i64 4),.v (.int .i64 2),.v (.int .i64 2),.v (.int .i64 0),.v (.int .i64 0),.a8 false (y4 bF.c9),.a8 false [],.a8 false (o0 bF.b)]:=rfl
 rw[e]at J0
 refine Zf Tryz.func105 Tryz.ntmps105 ?_
 repeat' (first|refine Za ?_|(with_reducible constructor<;>first|intro N hN mk hmk|intro N hN|intro h)|refine Zc J0 ?_|refine Zc J1 ?_|refine Zc J2 ?_|refine Zt L5.d ?_|fail)
 all_goals rfl
theorem a4C:e8 Tryz.prog 41 [] (fun _=> .v (.bool true)) (fun _=>[]):=by
 have J0:=rK
 have J1:=a8V
 have J2:=b2A bF 2 lW
 have J3:=b2A bF 1 lW
 have hD:tN exD:=⟨by decide,by decide,by decide,fun x hx=>by rcases List.mem_singleton.1 hx with rfl;decide⟩
 have hS:tN bF:=⟨by decide,by decide,by decide,fun x hx=>by rcases List.mem_singleton.1 hx with rfl;decide⟩
 have K1:=O1 bF exD [0] lW hD (by decide)
 have K2:=O1 bF exD [1] lW hD (by decide)
 have K3:=O1 bF bF [0] lW hS (by decide)
 have K4:=O1 bF bF [] lW hS (by decide)
 have K5:=b4e bF bF hS.a hS.a hS.l hS.l hS.b hS.b hS.i hS.i
 have e2:doneAV bF (runF bF 2 (bF.regs.toNat+1) [])=bF.av++[.a8 false [],.v (.int .i64 0)]:=by
  rw[show bF.regs.toNat+1=3 from rfl,c0u];rfl
 have e1:doneAV bF (runF bF 1 (bF.regs.toNat+1) [])=a7C.av++[.a8 false [],.v (.int .i64 170)]:=by
  rw[show bF.regs.toNat+1=3 from rfl,c0t];rfl
 rw[e2]at J2
 rw[e1]at J3
 rw[c44]at K1
 rw[c45]at K2
 rw[c46]at K3
 rw[c47]at K4
 rw[decide_eq_true (rfl:bF=bF)]at K5
 have eC:a7C.av=[.v (.int .i64 0),.v (.int .i64 0),.v (.int .i64 0),.v (.int .i64 0),.v (.int .i64 0),.a8 false [],.a8 false [],.a8 false []]:=rfl
 obtain⟨A,hA⟩:∃A,A=y4 bF.c9:=⟨_,rfl⟩
 obtain⟨B,hB⟩:∃B,B=o0 bF.b:=⟨_,rfl⟩
 obtain⟨D,hDD⟩:∃D,D=o0 exD.b:=⟨_,rfl⟩
 have eS:bF.av=[.v (.int .i64 4),.v (.int .i64 2),.v (.int .i64 2),.v (.int .i64 0),.v (.int .i64 0),.a8 false A,.a8 false [],.a8 false B]:=by rw[hA,hB];rfl
 have eD:exD.av=[.v (.int .i64 4),.v (.int .i64 2),.v (.int .i64 5),.v (.int .i64 1),.v (.int .i64 0),.a8 false A,.a8 false [],.a8 false D]:=by rw[hA,hDD];rfl
 rw[eS]at J0 J2 J3 K1 K2 K3 K4 K5
 rw[eC]at J3
 rw[eD]at J1 K1 K2
 simp only[List.cons_append,List.nil_append,show c7 []=[]from rfl,show c7 [0]=[[.v (.int .i64 0)]]from rfl,show c7 [1]=[[.v (.int .i64 1)]]from rfl]at J2 J3 K1 K2 K3 K4
 refine Zf Tryz.func41 Tryz.ntmps41 ?_
 repeat' (first|refine Za ?_|(with_reducible constructor<;>first|intro N hN mk hmk|intro N hN|intro h)|refine Zc J0 ?_|refine Zc J1 ?_|refine Zc J2 ?_|refine Zc J3 ?_|(refine H5 K1 ?_ rfl ?_ ?_;(next=>(simp (disch:=omega) only[L5.d,u6,Nat.reduceBEq,AV.plain,Nat.reduceAdd,Nat.reduceLeDiff,Nat.reduceLT,↓reduceIte,sF]<;>first|done|rfl));(next=>(simp only[apply_ite List.length,List.length_cons,List.length_nil]<;>(try split)<;>omega)))|(refine F1 K1 ?_ rfl ?_ ?_;(next=>(simp (disch:=omega) only[L5.d,u6,Nat.reduceBEq,AV.plain,Nat.reduceAdd,Nat.reduceLeDiff,Nat.reduceLT,↓reduceIte,sF]<;>first|done|rfl));(next=>(simp only[apply_ite List.length,List.length_cons,List.length_nil]<;>(try split)<;>omega)))|(refine H5 K2 ?_ rfl ?_ ?_;(next=>(simp (disch:=omega) only[L5.d,u6,Nat.reduceBEq,AV.plain,Nat.reduceAdd,Nat.reduceLeDiff,Nat.reduceLT,↓reduceIte,sF]<;>first|done|rfl));(next=>(simp only[apply_ite List.length,List.length_cons,List.length_nil]<;>(try split)<;>omega)))|(refine F1 K2 ?_ rfl ?_ ?_;(next=>(simp (disch:=omega) only[L5.d,u6,Nat.reduceBEq,AV.plain,Nat.reduceAdd,Nat.reduceLeDiff,Nat.reduceLT,↓reduceIte,sF]<;>first|done|rfl));(next=>(simp only[apply_ite List.length,List.length_cons,List.length_nil]<;>(try split)<;>omega)))|(refine H5 K3 ?_ rfl ?_ ?_;(next=>(simp (disch:=omega) only[L5.d,u6,Nat.reduceBEq,AV.plain,Nat.reduceAdd,Nat.reduceLeDiff,Nat.reduceLT,↓reduceIte,sF]<;>first|done|rfl));(next=>(simp only[apply_ite List.length,List.length_cons,List.length_nil]<;>(try split)<;>omega)))|(refine F1 K3 ?_ rfl ?_ ?_;(next=>(simp (disch:=omega) only[L5.d,u6,Nat.reduceBEq,AV.plain,Nat.reduceAdd,Nat.reduceLeDiff,Nat.reduceLT,↓reduceIte,sF]<;>first|done|rfl));(next=>(simp only[apply_ite List.length,List.length_cons,List.length_nil]<;>(try split)<;>omega)))|refine Zc K4 ?_|refine Zc K5 ?_|refine Zt L5.d ?_|fail)
 all_goals first|(exact absurd rfl (by assumption))|omega|(exfalso;simp_all;done)
end Go.Proofs.YtgdoiokalfhjoaaGreatDoor
end
