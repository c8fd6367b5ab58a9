/- Own work (by an AI agent; no person has read it): part of a proof of the seat YtgdoiokalfhjoaaGreatDoor. -/
import Derived.Test.YtgdoiokalfhjoaaGreatDoorXx
set_option linter.unusedSimpArgs false
set_option linter.unusedVariables false
set_option maxRecDepth 100000
set_option maxHeartbeats 10000000
section
namespace Go.Proofs.YtgdoiokalfhjoaaGreatDoor
open Go.Ab
def a8b:=ZZ.mk (Zq I8.d (Zq @Q6 (Zq @fG (Zq @bC (Zq @O3 (Zq @eN (Zq @e8.av.eq_1 @c3a)))))))
theorem b4x(a b:List e8)(ha:a.length≤100000)(hb:b.length≤100000):c9 Tryz.prog 197 [.a6 false (e7 a),.a6 false (e7 b)] (fun _=> .v (.bool (decide (a=b)))) (fun _=>[]):=by
 have hno:∀{p:Prop},(a=b→p)→¬p→false=decide (a=b):=fun h1 h2=>(decide_eq_false fun h=>h2 (h1 h)).symm
 refine Zf Tryz.func197 Tryz.ntmps197 ?_
 repeat' (first|refine Za ?_|(with_reducible constructor<;>first|intro N hN mk hmk|intro N hN|intro h)|refine Zt a8b.d ?_|fail)
 ·refine hno (fun h=>?_) (by assumption)
  rw[h]
 ·refine F8 (fun i=>⟨[.a6 false (e7 a),.a6 false (e7 b),.Z,.Z,.v (.bool false),.Z,.Z,.Z,.Z,.Z,.Z,.a6 false (e7 a),.v (.int .i64 a.length),.v (.int .i64 i),.Z,.Z,.Z,.Z,.Z,.Z,.Z,.Z,.Z,.Z,.Z,.Z],[],0⟩) (fun ii=>Go.Ab.V9 ((fun i=>∀k,k<i→a.getD k I0=b.getD k I0) ii)) a.length (Zw [0,1,4,11,12,13] [] a8b.d ?_) ?_ ?_
  ·rfl
  ·exact⟨fun k hk=>by omega⟩
  ·intro i hi hI
   have hI:=hI.out
   by_cases hlt:i<a.length
   ·obtain⟨x,hx⟩:∃x,a.getD i I0=x:=⟨_,rfl⟩
    obtain⟨y,hy⟩:∃y,b.getD i I0=y:=⟨_,rfl⟩
    repeat' (first|refine Za ?_|(with_reducible constructor<;>first|intro N hN mk hmk|intro N hN|intro h)|refine Zt (Zq a8b.d (Zq hx hy)) ?_|fail)
    ·refine hno (fun h=>?_) (by assumption)
     exact(pN _ _).1 (by rw[←hx,←hy,h])
    ·refine⟨⟨fun k hk=>?_⟩,?_⟩
     ·rcases Nat.lt_succ_iff_lt_or_eq.1 hk with h1|rfl
      ·exact hI k h1
      ·rw[hx,hy];exact(pN _ _).2 (Classical.not_not.1 (by assumption))
     ·refine Zw [0,1,4,11,12,13] [] (Zq a8b.d (Zq hx hy)) ?_
      rfl
   ·obtain rfl:i=a.length:=by omega
    repeat' (first|refine Za ?_|(with_reducible constructor<;>first|intro N hN mk hmk|intro N hN|intro h)|refine Zt a8b.d ?_|fail)
    exact(decide_eq_true (S7 I0 (by omega) hI)).symm
def a8c:=ZZ.mk (Zq I8.d (Zq @fB (Zq @qY (Zq @jG (Zq @xR (Zq @b6R @b8H))))))
theorem b0N(a b:List cQ)(ha:a.length≤100000)(hb:b.length≤100000):c9 Tryz.prog 198 [.a6 false (w6 a),.a6 false (w6 b)] (fun _=> .v (.bool (decide (a=b)))) (fun _=>[]):=by
 have hno:∀{p:Prop},(a=b→p)→¬p→false=decide (a=b):=fun h1 h2=>(decide_eq_false fun h=>h2 (h1 h)).symm
 refine Zf Tryz.func198 Tryz.ntmps198 ?_
 repeat' (first|refine Za ?_|(with_reducible constructor<;>first|intro N hN mk hmk|intro N hN|intro h)|refine Zt a8c.d ?_|fail)
 ·refine hno (fun h=>?_) (by assumption)
  rw[h]
 ·refine F8 (fun i=>⟨[.a6 false (w6 a),.a6 false (w6 b),.Z,.Z,.v (.bool false),.Z,.Z,.Z,.Z,.Z,.Z,.a6 false (w6 a),.v (.int .i64 a.length),.v (.int .i64 i),.Z,.Z,.Z,.Z,.Z,.Z,.Z,.Z,.Z,.Z,.Z,.Z],[],0⟩) (fun ii=>Go.Ab.V9 ((fun i=>∀k,k<i→a.getD k A0=b.getD k A0) ii)) a.length (Zw [0,1,4,11,12,13] [] a8c.d ?_) ?_ ?_
  ·rfl
  ·exact⟨fun k hk=>by omega⟩
  ·intro i hi hI
   have hI:=hI.out
   by_cases hlt:i<a.length
   ·obtain⟨x,hx⟩:∃x,a.getD i A0=x:=⟨_,rfl⟩
    obtain⟨y,hy⟩:∃y,b.getD i A0=y:=⟨_,rfl⟩
    repeat' (first|refine Za ?_|(with_reducible constructor<;>first|intro N hN mk hmk|intro N hN|intro h)|refine Zt (Zq a8c.d (Zq hx hy)) ?_|fail)
    ·refine hno (fun h=>?_) (by assumption)
     exact(uK _ _).1 (by rw[←hx,←hy,h])
    ·refine⟨⟨fun k hk=>?_⟩,?_⟩
     ·rcases Nat.lt_succ_iff_lt_or_eq.1 hk with h1|rfl
      ·exact hI k h1
      ·rw[hx,hy];exact(uK _ _).2 (Classical.not_not.1 (by assumption))
     ·refine Zw [0,1,4,11,12,13] [] (Zq a8c.d (Zq hx hy)) ?_
      rfl
   ·obtain rfl:i=a.length:=by omega
    repeat' (first|refine Za ?_|(with_reducible constructor<;>first|intro N hN mk hmk|intro N hN|intro h)|refine Zt a8c.d ?_|fail)
    exact(decide_eq_true (S7 A0 (by omega) hI)).symm
def a8d:=ZZ.mk (Zq I8.d (Zq @M9 (Zq @gS (Zq @dM (Zq @tL (Zq @b24 @b8I))))))
theorem b4y(a b:List Loop)(ha:a.length≤100000)(hb:b.length≤100000):c9 Tryz.prog 199 [.a6 false (Proofs.YtgdoiokalfhjoaaGreatDoor.loops a),.a6 false (Proofs.YtgdoiokalfhjoaaGreatDoor.loops b)] (fun _=> .v (.bool (decide (a=b)))) (fun _=>[]):=by
 have hno:∀{p:Prop},(a=b→p)→¬p→false=decide (a=b):=fun h1 h2=>(decide_eq_false fun h=>h2 (h1 h)).symm
 refine Zf Tryz.func199 Tryz.ntmps199 ?_
 repeat' (first|refine Za ?_|(with_reducible constructor<;>first|intro N hN mk hmk|intro N hN|intro h)|refine Zt a8d.d ?_|fail)
 ·refine hno (fun h=>?_) (by assumption)
  rw[h]
 ·refine F8 (fun i=>⟨[.a6 false (Proofs.YtgdoiokalfhjoaaGreatDoor.loops a),.a6 false (Proofs.YtgdoiokalfhjoaaGreatDoor.loops b),.Z,.Z,.v (.bool false),.Z,.Z,.Z,.Z,.Z,.Z,.a6 false (Proofs.YtgdoiokalfhjoaaGreatDoor.loops a),.v (.int .i64 a.length),.v (.int .i64 i),.Z,.Z,.Z,.Z,.Z,.Z,.Z,.Z,.Z,.Z,.Z,.Z],[],0⟩) (fun ii=>Go.Ab.V9 ((fun i=>∀k,k<i→a.getD k L0_=b.getD k L0_) ii)) a.length (Zw [0,1,4,11,12,13] [] a8d.d ?_) ?_ ?_
  ·rfl
  ·exact⟨fun k hk=>by omega⟩
  ·intro i hi hI
   have hI:=hI.out
   by_cases hlt:i<a.length
   ·obtain⟨x,hx⟩:∃x,a.getD i L0_=x:=⟨_,rfl⟩
    obtain⟨y,hy⟩:∃y,b.getD i L0_=y:=⟨_,rfl⟩
    repeat' (first|refine Za ?_|(with_reducible constructor<;>first|intro N hN mk hmk|intro N hN|intro h)|refine Zt (Zq a8d.d (Zq hx hy)) ?_|fail)
    ·refine hno (fun h=>?_) (by assumption)
     exact(pX _ _).1 (by rw[←hx,←hy,h])
    ·refine⟨⟨fun k hk=>?_⟩,?_⟩
     ·rcases Nat.lt_succ_iff_lt_or_eq.1 hk with h1|rfl
      ·exact hI k h1
      ·rw[hx,hy];exact(pX _ _).2 (Classical.not_not.1 (by assumption))
     ·refine Zw [0,1,4,11,12,13] [] (Zq a8d.d (Zq hx hy)) ?_
      rfl
   ·obtain rfl:i=a.length:=by omega
    repeat' (first|refine Za ?_|(with_reducible constructor<;>first|intro N hN mk hmk|intro N hN|intro h)|refine Zt a8d.d ?_|fail)
    exact(decide_eq_true (S7 L0_ (by omega) hI)).symm
def c5M:=ZZ.mk (Zq I8.d (Zq @c29 (Zq @Q6 (Zq @O3 (Zq @eN (Zq @b6.av.eq_1 @o6.av.eq_1))))))
theorem b4o(a b:b6)(ha:a.i.length≤100000)(hb:b.i.length≤100000):c9 Tryz.prog 196 [.agg a.av,.agg b.av] (fun _=> .v (.bool (decide (a=b)))) (fun _=>[]):=by
 have J:=b4x a.i b.i ha hb
 refine Zf Tryz.func196 Tryz.ntmps196 ?_;simp only[b6.av,o6.av]
 repeat' (first|refine Za ?_|(with_reducible constructor<;>first|intro N hN mk hmk|intro N hN|intro h)|refine Zc J ?_|refine Zt c5M.d ?_|fail)
 ·refine decide_eq_decide.2 ?_
  rw[a3E,qL]
  exact⟨fun h=>⟨h,by assumption⟩,fun h=>h.1⟩
 ·exact(decide_eq_false fun h=>absurd ((qL _ _).1 (congrArg b6.t h)) (by assumption)).symm
theorem b4w(a b:List b6)(ha:a.length≤100000)(hb:b.length≤100000)(hia:∀x∈a,x.i.length≤100000)(hib:∀x∈b,x.i.length≤100000):c9 Tryz.prog 200 [.a6 false (p7 a),.a6 false (p7 b),.fn 196 []] (fun _=> .v (.bool (decide (a=b)))) (fun _=>[]):=by
 have hno:∀{p:Prop},(a=b→p)→¬p→false=decide (a=b):=fun h1 h2=>(decide_eq_false fun h=>h2 (h1 h)).symm
 refine Zf Tryz.func200 Tryz.ntmps200 ?_
 repeat' (first|refine Za ?_|(with_reducible constructor<;>first|intro N hN mk hmk|intro N hN|intro h)|refine Zt xF.d ?_|fail)
 ·refine hno (fun h=>?_) (by assumption)
  rw[h]
 ·refine F8 (fun i=>⟨[.a6 false (p7 a),.a6 false (p7 b),.fn 196 [],.Z,.Z,.Z,.v (.bool false),.Z,.Z,.Z,.Z,.Z,.Z,.Z,.Z,.a6 false (p7 a),.v (.int .i64 a.length),.v (.int .i64 i),.Z,.Z,.Z,.Z,.Z,.Z,.Z,.Z,.Z,.Z,.Z,.Z,.Z,.Z],[],0⟩) (fun ii=>Go.Ab.V9 ((fun i=>∀k,k<i→a.getD k B0=b.getD k B0) ii)) a.length (Zw [0,1,2,6,15,16,17] [] xF.d ?_) ?_ ?_
  ·rfl
  ·exact⟨fun k hk=>by omega⟩
  ·intro i hi hI
   have hI:=hI.out
   by_cases hlt:i<a.length
   ·have hlb2:i<b.length:=by omega
    have J2:=b4o (a.getD i B0) (b.getD i B0) (hia _ (by rw[List.getD_eq_getElem?_getD,List.getElem?_eq_getElem hlt];exact List.getElem_mem hlt)) (hib _ (by rw[List.getD_eq_getElem?_getD,List.getElem?_eq_getElem hlb2];exact List.getElem_mem hlb2))
    obtain⟨x,hx⟩:∃x,a.getD i B0=x:=⟨_,rfl⟩
    obtain⟨y,hy⟩:∃y,b.getD i B0=y:=⟨_,rfl⟩
    rw[hx,hy]at J2
    simp only[b6.av,o6.av]at J2
    repeat' (first|refine Za ?_|(with_reducible constructor<;>first|intro N hN mk hmk|intro N hN|intro h)|refine Zc J2 ?_|refine Zt (Zq xF.d (Zq hx hy)) ?_|fail)
    ·refine hno (fun h=>?_) (by assumption)
     rw[←hx,←hy,h]
    ·refine⟨⟨fun k hk=>?_⟩,?_⟩
     ·rcases Nat.lt_succ_iff_lt_or_eq.1 hk with h1|rfl
      ·exact hI k h1
      ·rw[hx,hy];exact Classical.not_not.1 (by assumption)
     ·refine Zw [0,1,2,6,15,16,17] [] (Zq xF.d (Zq hx hy)) ?_
      rfl
   ·obtain rfl:i=a.length:=by omega
    repeat' (first|refine Za ?_|(with_reducible constructor<;>first|intro N hN mk hmk|intro N hN|intro h)|refine Zt xF.d ?_|fail)
    exact(decide_eq_true (S7 B0 (by omega) hI)).symm
def c5N:=ZZ.mk (Zq I8.d (Zq @fB (Zq @qY (Zq @jG (Zq @M9 (Zq @gS (Zq @dM (Zq @y7 (Zq @H8 (Zq @K0 @S5))))))))))
theorem b4h(a b:Code)(ha:a.c6.length≤100000)(hb:b.c6.length≤100000)(hla:a.loops.length≤100000)(hlb:b.loops.length≤100000)(hba:a.b.length≤100000)(hbb:b.b.length≤100000)(hia:∀x∈a.b,x.i.length≤100000)(hib:∀x∈b.b,x.i.length≤100000):
  c9 Tryz.prog 124 [.agg a.av,.agg b.av] (fun _=> .v (.bool (decide (a=b)))) (fun _=>[]):=by
 have J1:=b0N a.c6 b.c6 ha hb
 have J2:=b4y a.loops b.loops hla hlb
 have J3:=b4w a.b b.b hba hbb hia hib
 have hno:∀{p:Prop},(a=b→p)→¬p→false=decide (a=b):=fun h1 h2=>(decide_eq_false fun h=>h2 (h1 h)).symm
 refine Zf Tryz.func124 Tryz.ntmps124 ?_;simp only[Code.av]
 repeat' (first|refine Za ?_|(with_reducible constructor<;>first|intro N hN mk hmk|intro N hN|intro h)|refine Zc J1 ?_|refine Zc J2 ?_|refine Zc J3 ?_|refine Zt c5N.d ?_|fail)
 ·refine decide_eq_decide.2 ⟨fun h=>(yE a b).2 ⟨⟨by omega,by omega,by omega,by omega,by omega,by assumption,by assumption⟩,h⟩,fun h=>by rw[h]⟩
 all_goals
  refine hno (fun h=>?_) (by assumption)
  rw[h]
noncomputable def checkF (c d:Code) (R:List Int):Int:=haveI:=Classical.propDecidable (cS c R)
 if cS c R∧m9 c R=d then 0 else 100
theorem cS.at{c:Code}{R:List Int}(hc:u9 c)(h:cS c R){i:Nat}(hi:i<R.length):0≤R.getD i 0∧R.getD i 0<c.regs∧(spF c).getD (R.getD i 0).toNat false=true∧(0<i→R.getD (i-1) 0<R.getD i 0):=by
 have hm:=F6 hi
 obtain⟨r1,r2⟩:=h.r _ hm
 have h0:=hc.r
 refine⟨r1,r2,(sH c (by omega)).2 ?_,fun hp=>?_⟩
 ·rw[Int.toNat_of_nonneg r1];exact h.e _ hm
 ·have:=List.pairwise_iff_getElem.1 h.s (i-1) i (by omega) hi (by omega)
  rw[List.getD_eq_getElem?_getD,List.getD_eq_getElem?_getD,List.getElem?_eq_getElem hi,List.getElem?_eq_getElem (by omega)];exact this
def okI(c:Code)(R:List Int)(i:Nat):Prop:=∀k,k<i→0≤R.getD k 0∧R.getD k 0<c.regs∧(spF c).getD (R.getD k 0).toNat false=true∧(0<k→R.getD (k-1) 0<R.getD k 0)
theorem b8w{c:Code}{R:List Int}(hc:u9 c)(h:okI c R R.length):cS c R:=by
 have h0:=hc.r
 have hm:∀q∈R,0≤q∧q<c.regs∧(spF c).getD q.toNat false=true:=fun q hq=>by
  obtain⟨k,hk,e⟩:=List.getElem_of_mem hq
  obtain⟨h1,h2,h3,_⟩:=h k hk
  have e2:R.getD k 0=q:=by rw[List.getD_eq_getElem?_getD,List.getElem?_eq_getElem hk,Option.getD_some,e]
  rw[e2]at h1 h2 h3
  exact⟨h1,h2,h3⟩
 refine⟨fun q hq=>⟨(hm q hq).1,(hm q hq).2.1⟩,?_,fun q hq=>?_⟩
 ·refine List.pairwise_iff_getElem.2 fun i j hi hj hij=>?_
  have key:∀d,i+d+1<R.length→R.getD i 0<R.getD (i+d+1) 0:=by
   intro d
   induction d with
   |zero=>intro hd;exact(h (i+1) hd).2.2.2 (by omega)
   |succ d ih=>
    intro hd
    have h1:=ih (by omega)
    have h2:=(h (i+d+1+1) (by omega)).2.2.2 (by omega)
    rw[show i+(d+1)+1=i+d+1+1 by omega]
    have h3:R.getD (i+d+1+1-1) 0=R.getD (i+d+1) 0:=rfl
    rw[h3]at h2
    omega
  have:=key (j-i-1) (by omega)
  rw[show i+(j-i-1)+1=j by omega]at this
  rw[List.getD_eq_getElem?_getD,List.getD_eq_getElem?_getD,List.getElem?_eq_getElem hi,List.getElem?_eq_getElem hj]at this
  exact this
 ·obtain⟨h1,h2,h3⟩:=hm q hq
  have:=(sH c (r:=q.toNat) (by omega)).1 h3
  rw[Int.toNat_of_nonneg h1]at this;exact this
theorem a3I{c d:Code}{R:List Int}(h:¬cS c R):checkF c d R=100:=if_neg fun q=>h q.1
theorem dL{c d:Code}{R:List Int}(h:cS c R):checkF c d R=if m9 c R=d then 0 else 100:=by
 unfold checkF
 by_cases e:m9 c R=d
 ·rw[if_pos ⟨h,e⟩,if_pos e]
 ·rw[if_neg fun q=>e q.2,if_neg e]
theorem c6g(i:Nat):((i:Int)-1).toNat=i-1:=by omega
structure vF (d:Code):Prop where
 a:d.c6.length≤100000
 l:d.loops.length≤100000
 b:d.b.length≤100000
 i:∀x∈d.b,x.i.length≤100000
theorem gK.mY{c:Code}(h:gK c)(l:List Int):vF (m9 c l):=by
 obtain⟨h1,h2,h3⟩:=jW h.s l
 have ha:=h.a
 have hl:=h.l
 have hn:=h1.n
 obtain⟨e1,e2⟩:=a9Y c l
 exact⟨by rw[e1];omega,by rw[e2];omega,by omega,fun x hx=>by have:=h3 x hx;omega⟩
def kE:=ZZ.mk (Zq iJ.d (Zq @c6g (Zq @y9 (Zq @K7 (Zq @K6 (Zq @aG (Zq @Y8 @aH)))))))
theorem a9D(c d:Code)(R:List Int)(hc:gK c)(hd:vF d)(hR:R.length≤1000):c9 Tryz.prog 50 [.agg c.av,.agg d.av,.agg [.a6 false (b7 R)]] (fun _=> .v (.int .i64 (checkF c d R))) (fun _=>[]):=by
 have ho:=hc.s.ok
 have hr:=ho.r
 have hn:=ho.n
 have hsl:=hc.s.l
 have hsp:=mU c
 have J1:=b1o c ho
 simp only[Code.av]at J1
 have hat:=fun i hi h=>cS.at (c:=c) (R:=R) ho h (i:=i) hi
 refine Zf Tryz.func50 Tryz.ntmps50 ?_;simp only[Code.av]
 repeat' (first|refine Za ?_|(with_reducible constructor<;>first|intro N hN mk hmk|intro N hN|intro h)|refine Zc J1 ?_|refine Zt kE.d ?_|fail)
 refine F8 (fun i=>⟨[.Z,.Z,.Z,.ptr 0 0 0,.ptr 1 0 0,.ptr 2 0 0,.v (.int .i64 0),.a6 false (o8 (spF c)),.v (.int .i64 i),.Z,.Z,.Z,.Z,.Z,.Z,.Z,.Z,.Z,.Z,.Z,.Z,.Z,.Z,.Z,.Z,.Z,.Z,.Z,.Z,.Z,.Z,.Z,.Z,.Z,.Z,.Z,.Z,.Z,.Z,.Z,.Z,.Z,.Z,.Z,.Z,.Z,.Z,.Z,.Z,.Z,.Z,.Z,.Z,.Z,.Z,.Z,.Z,.Z,.Z,.Z,.Z,.Z,.Z,.Z,.Z,.Z,.Z,.Z,.Z,.Z],[(0,.live ⟨8,[[.v (.int .i64 c.group),.v (.int .i64 c.sub),.v (.int .i64 c.regs),.v (.int .i64 c.u7),.v (.int .i64 c.params),.a6 false (w6 c.c6),.a6 false (Proofs.YtgdoiokalfhjoaaGreatDoor.loops c.loops),.a6 false (p7 c.b)]],0⟩),(1,.live ⟨8,[[.v (.int .i64 d.group),.v (.int .i64 d.sub),.v (.int .i64 d.regs),.v (.int .i64 d.u7),.v (.int .i64 d.params),.a6 false (w6 d.c6),.a6 false (Proofs.YtgdoiokalfhjoaaGreatDoor.loops d.loops),.a6 false (p7 d.b)]],0⟩),(2,.live ⟨1,[[.a6 false (b7 R)]],0⟩)],3⟩) (fun ii=>Go.Ab.V9 ((fun i=>okI c R i) ii)) R.length (Zw [3,4,5,6,7,8] [0,8,16] kE.d ?_) ?_ ?_
 ·rfl
 ·exact⟨fun k hk=>by omega⟩
 ·intro i hi hI
  have hI:=hI.out
  by_cases hlt:i<R.length
  ·have hai:=hat i hlt
   have hbad:∀{p:Prop},(cS c R→p)→¬p→(100:Int)=checkF c d R:=fun h1 h2=>(a3I fun h=>h2 (h1 h)).symm
   obtain⟨q,hq⟩:∃q,R.getD i 0=q:=⟨_,rfl⟩
   have hnx:=fun h1 h2 h3 h4=>show okI c R (i+1)from fun k hk=>by
    rcases Nat.lt_succ_iff_lt_or_eq.1 hk with h|rfl
    ·exact hI k h
    ·exact⟨h1,h2,h3,h4⟩
   rw[hq]at hai hnx
   obtain⟨sp,hspp⟩:∃sp,sp=spF c:=⟨_,rfl⟩
   rw[←hspp]at hsp hai hnx⊢
   repeat' (first|refine Za ?_|(with_reducible constructor<;>first|intro N hN mk hmk|intro N hN|intro h)|refine Zt (Zq kE.d (Zq hq hsp)) ?_|fail)
   all_goals first
    |(refine hbad (fun h=>(hai h).1) ?_;omega;done)
    |(refine hbad (fun h=>(hai h).2.1) ?_;omega;done)
    |(refine hbad (fun h=>(hai h).2.2.2 (by omega)) ?_;omega;done)
    |(
      refine hbad (fun h=>(hai h).2.2.1) ?_
      have e:(!sp.getD q.toNat false)=true:=by assumption
      rw[Bool.not_eq_true']at e
      rw[e];decide)
    |(
      have e:(!sp.getD q.toNat false)=false:=by assumption
      rw[Bool.not_eq_false']at e
      refine⟨⟨hnx (by omega) (by omega) e (fun _=>by omega)⟩,?_⟩
      refine Zw [3,4,5,6,7,8] [0,1,2] (Zq kE.d (Zq hq hsp)) ?_
      rfl)
  ·obtain rfl:i=R.length:=by omega
   have hS:=b8w ho hI
   rw[dL hS]
   have hlen:=hS.len ho
   have K1:=gV c R (by omega) hc.a hc.l (fun b hb=>by have:=hsl b hb;omega) (by omega) (by omega) (fun q hq=>(hS.r q hq).1)
   have hD2:=gK.mY hc R
   obtain⟨D,hD⟩:∃D,m9 c R=D:=⟨_,rfl⟩
   rw[hD]at K1 hD2⊢
   have K2:=rY D d hD2.a hd.a hD2.l hd.l hD2.b hd.b hD2.i hd.i
   simp only[Code.av]at K1 K2
   repeat' (first|refine Za ?_|(with_reducible constructor<;>first|intro N hN mk hmk|intro N hN|intro h)|refine Zc K1 ?_|refine Zc K2 ?_|refine Zt (Zq kE.d hsp) ?_|fail)
   ·exact(if_neg (by assumption)).symm
   ·exact(if_pos (Classical.not_not.1 (by assumption))).symm
theorem Y9(c d:Code)(R:List Int)(hc:gK c)(hd:vF d)(hR:R.length≤1000):c9 Tryz.prog 49 [.agg c.av,.agg d.av,.agg [.a6 false (b7 R)]] (fun _=> .v (.int .i64 (checkF c d R))) (fun _=>[]):=by
 have ho:=hc.s.ok
 have hr:=ho.r
 have hn:=ho.n
 have hsl:=hc.s.l
 have hsp:=mU c
 have J1:=b7c c ho
 simp only[Code.av]at J1
 have hat:=fun i hi h=>cS.at (c:=c) (R:=R) ho h (i:=i) hi
 refine Zf Tryz.func49 Tryz.ntmps49 ?_;simp only[Code.av]
 repeat' (first|refine Za ?_|(with_reducible constructor<;>first|intro N hN mk hmk|intro N hN|intro h)|(refine M8 J1 ?_ rfl ?_ ?_;(next=>(simp (disch:=omega) only[kE.d,v8,Nat.reduceBEq,AV.plain,Nat.reduceAdd,Nat.reduceLeDiff,Nat.reduceLT,↓reduceIte,sF]<;>first|done|rfl));(next=>(simp only[apply_ite List.length,List.length_cons,List.length_nil]<;>(try split)<;>omega)))|(refine H9 J1 ?_ rfl ?_ ?_;(next=>(simp (disch:=omega) only[kE.d,v8,Nat.reduceBEq,AV.plain,Nat.reduceAdd,Nat.reduceLeDiff,Nat.reduceLT,↓reduceIte,sF]<;>first|done|rfl));(next=>(simp only[apply_ite List.length,List.length_cons,List.length_nil]<;>(try split)<;>omega)))|refine Zt kE.d ?_|fail)
 refine F8 (fun i=>⟨[.Z,.Z,.Z,.ptr 0 0 0,.ptr 1 0 0,.ptr 2 0 0,.v (.int .i64 0),.own 3 0 c.regs.toNat,.Z,.Z,.Z,.Z,.Z,.a6 false (b7 R),.v (.int .i64 R.length),.v (.int .i64 i),.Z,.Z,.Z,.Z,.Z,.Z,.Z,.Z,.Z,.Z,.Z,.Z,.Z,.Z,.Z,.Z,.Z,.Z,.Z,.Z,.Z,.Z,.Z,.Z,.Z,.Z,.Z,.Z,.Z,.Z,.Z,.Z,.Z,.Z,.Z,.Z,.Z,.Z,.Z,.Z,.Z],[(0,.live ⟨8,[[.v (.int .i64 c.group),.v (.int .i64 c.sub),.v (.int .i64 c.regs),.v (.int .i64 c.u7),.v (.int .i64 c.params),.a6 false (w6 c.c6),.a6 false (Proofs.YtgdoiokalfhjoaaGreatDoor.loops c.loops),.a6 false (p7 c.b)]],0⟩),(1,.live ⟨8,[[.v (.int .i64 d.group),.v (.int .i64 d.sub),.v (.int .i64 d.regs),.v (.int .i64 d.u7),.v (.int .i64 d.params),.a6 false (w6 d.c6),.a6 false (Proofs.YtgdoiokalfhjoaaGreatDoor.loops d.loops),.a6 false (p7 d.b)]],0⟩),(2,.live ⟨1,[[.a6 false (b7 R)]],0⟩),(3,.live ⟨1,o8 (spF c),0⟩)],4⟩) (fun ii=>Go.Ab.V9 ((fun i=>okI c R i) ii)) R.length (Zw [3,4,5,6,7,13,14,15] [0,8,16,40] kE.d ?_) ?_ ?_
 ·rfl
 ·exact⟨fun k hk=>by omega⟩
 ·intro i hi hI
  have hI:=hI.out
  by_cases hlt:i<R.length
  ·have hai:=hat i hlt
   have hbad:∀{p:Prop},(cS c R→p)→¬p→(100:Int)=checkF c d R:=fun h1 h2=>(a3I fun h=>h2 (h1 h)).symm
   obtain⟨q,hq⟩:∃q,R.getD i 0=q:=⟨_,rfl⟩
   have hnx:=fun h1 h2 h3 h4=>show okI c R (i+1)from fun k hk=>by
    rcases Nat.lt_succ_iff_lt_or_eq.1 hk with h|rfl
    ·exact hI k h
    ·exact⟨h1,h2,h3,h4⟩
   rw[hq]at hai hnx
   obtain⟨sp,hspp⟩:∃sp,sp=spF c:=⟨_,rfl⟩
   rw[←hspp]at hsp hai hnx⊢
   repeat' (first|refine Za ?_|(with_reducible constructor<;>first|intro N hN mk hmk|intro N hN|intro h)|refine Zt (Zq kE.d (Zq hq hsp)) ?_|fail)
   all_goals first
    |(refine hbad (fun h=>(hai h).1) ?_;omega;done)
    |(refine hbad (fun h=>(hai h).2.1) ?_;omega;done)
    |(refine hbad (fun h=>(hai h).2.2.2 (by omega)) ?_;omega;done)
    |(
      refine hbad (fun h=>(hai h).2.2.1) ?_
      have e:(!sp.getD q.toNat false)=true:=by assumption
      rw[Bool.not_eq_true']at e
      rw[e];decide)
    |(
      have e:(!sp.getD q.toNat false)=false:=by assumption
      rw[Bool.not_eq_false']at e
      refine⟨⟨hnx (by omega) (by omega) e (fun _=>by omega)⟩,?_⟩
      refine Zw [3,4,5,6,7,13,14,15] [0,1,2,3] (Zq kE.d (Zq hq hsp)) ?_
      rfl)
  ·obtain rfl:i=R.length:=by omega
   have hS:=b8w ho hI
   rw[dL hS]
   have hlen:=hS.len ho
   have K1:=tC c R ho hS.s hS.r
   have hD2:=gK.mY hc R
   obtain⟨D,hD⟩:∃D,m9 c R=D:=⟨_,rfl⟩
   rw[hD]at K1 hD2⊢
   have K2:=b4h D d hD2.a hd.a hD2.l hd.l hD2.b hd.b hD2.i hd.i
   simp only[Code.av]at K1 K2
   repeat' (first|refine Za ?_|(with_reducible constructor<;>first|intro N hN mk hmk|intro N hN|intro h)|refine Zc K1 ?_|refine Zc K2 ?_|refine Zt (Zq kE.d hsp) ?_|fail)
   ·exact(if_neg (by assumption)).symm
   ·exact(if_pos (Classical.not_not.1 (by assumption))).symm
def c1k(n:Int)(k:Nat):Bool:=decide (a4J .u16 (c49 .u16 n k) 1=1)
def eH(sp:List Bool)(n:Int):Nat→List Int
 |0=>[]
 |k+1=>if sp.getD k false=true∧c1k n k=true then eH sp n k++[(k:Int)]else eH sp n k
theorem pY{sp:List Bool}{n q:Int}:∀{k:Nat},q∈eH sp n k↔0≤q∧q<k∧sp.getD q.toNat false=true∧c1k n q.toNat=true
 |0=>⟨fun h=>by simp [eH]at h,fun h=>by omega⟩
 |k+1=>by
  have ih:=pY (sp:=sp) (n:=n) (q:=q) (k:=k)
  unfold eH
  by_cases h:sp.getD k false=true∧c1k n k=true
  ·rw[if_pos h,List.mem_append,List.mem_singleton,ih]
   constructor
   ·rintro(⟨h1,h2,h3⟩|rfl)
    ·exact⟨h1,by omega,h3⟩
    ·exact⟨by omega,by omega,by simpa using h.1,by simpa using h.2⟩
   ·rintro⟨h1,h2,h3⟩
    by_cases e:q=k
    ·exact .inr e
    ·exact .inl ⟨h1,by omega,h3⟩
  ·rw[if_neg h,ih]
   refine⟨fun⟨h1,h2,h3⟩=>⟨h1,by omega,h3⟩,fun⟨h1,h2,h3,h4⟩=>⟨h1,?_,h3,h4⟩⟩
   by_cases e:q=k
   ·subst e;exact absurd ⟨by simpa using h3,by simpa using h4⟩ h
   ·omega
theorem a90(sp:List Bool)(n:Int):∀k,I5 (eH sp n k)
 |0=>I5.nil
 |k+1=>by
  have ih:=a90 sp n k
  unfold eH
  split
  ·refine List.pairwise_append.2 ⟨ih,by simp,fun a ha b hb=>?_⟩
   have:=(pY.1 ha).2.1
   rw[List.mem_singleton.1 hb];exact this
  ·exact ih
theorem a9W(sp:List Bool)(n:Int):∀k,(eH sp n k).length≤k
 |0=>by simp [eH]
 |k+1=>by
  have:=a9W sp n k
  unfold eH
  split
  ·simp;omega
  ·omega
noncomputable def someF (c:Code) (n:Int):List Int:=eH (spF c) n c.regs.toNat
theorem b3C{c:Code}(hc:u9 c)(n:Int):cS c (someF c n):=by
 have h0:=hc.r
 refine⟨fun q hq=>?_,a90 _ _ _,fun q hq=>?_⟩
 ·have:=pY.1 hq;omega
 ·obtain⟨h1,h2,h3,_⟩:=pY.1 hq
  have:=(sH c (r:=q.toNat) (by omega)).1 h3
  rw[Int.toNat_of_nonneg h1]at this;exact this
def sY:=ZZ.mk (Zq I8.d (Zq @H3 (Zq @fH (Zq @j8 (Zq @y9 (Zq @dH (Zq @dA (Zq @U8 (Zq @K7 (Zq @K6 (Zq @aG (Zq @Y8 @aH))))))))))))
theorem a9H(c:Code)(n:Int)(hc:u9 c):c9 Tryz.prog 47 [.agg c.av,.v (.int .u16 n)] (fun _=> .a6 false (b7 (someF c n))) (fun _=>[]):=by
 have hr:=hc.r
 have hsp:=mU c
 have J1:=b1o c hc
 simp only[Code.av]at J1
 unfold someF
 generalize spF c=sp at*
 have hsl:=fun k=>a9W sp n k
 refine Zf Tryz.func47 Tryz.ntmps47 ?_;simp only[Code.av]
 repeat' (first|refine Za ?_|(with_reducible constructor<;>first|intro N hN mk hmk|intro N hN|intro h)|refine Zc J1 ?_|refine Zt (Zq sY.d hsp) ?_|fail)
 refine c8 (fun r=>⟨[.Z,.v (.int .u16 n),.ptr 0 0 0,.Z,.Z,.a6 false (o8 sp),.own 1 0 (eH sp n r).length,.v (.int .i64 r),.Z,.Z,.Z,.Z,.Z,.Z,.Z,.Z,.Z,.Z,.Z,.Z,.Z,.Z,.Z,.Z,.Z,.Z,.Z,.Z,.Z,.Z,.Z,.Z,.Z,.Z,.Z],[(0,.live ⟨8,[[.v (.int .i64 c.group),.v (.int .i64 c.sub),.v (.int .i64 c.regs),.v (.int .i64 c.u7),.v (.int .i64 c.params),.a6 false (w6 c.c6),.a6 false (Proofs.YtgdoiokalfhjoaaGreatDoor.loops c.loops),.a6 false (p7 c.b)]],0⟩),(1,.live ⟨1,b7 (eH sp n r),0⟩)],2⟩) c.regs.toNat (Zw [1,2,5,6,7] [0,40] (Zq sY.d hsp) ?_) ?_
 ·rfl
 ·intro r hr2
  have hl:=hsl r
  by_cases hlt:r<c.regs.toNat
  ·have hrem:Int.tmod (r:Int) 16=r:=Int.tmod_eq_of_lt (by omega) (by omega)
   have wk:IntKind.u64.wrap (r:Int)=(r:Int):=bF (by omega)
   have hs:eH sp n (r+1)=if sp.getD r false=true∧c1k n r=true then eH sp n r++[(r:Int)]else eH sp n r:=rfl
   repeat' (first|refine Za ?_|(with_reducible constructor<;>first|intro N hN mk hmk|intro N hN|intro h)|refine Zt (Zq sY.d (Zq hrem (Zq wk hsp))) ?_|fail)
   ·rw[hs,if_pos ⟨by assumption,decide_eq_true (by assumption)⟩]
    refine Zw [1,2,5,6,7] [0,162] (Zq sY.d (Zq hrem (Zq wk hsp))) ?_
    rw[List.length_append];rfl
   ·rw[hs,if_neg fun h=>absurd (of_decide_eq_true h.2) (by assumption)]
    refine Zw [1,2,5,6,7] [0,1] (Zq sY.d (Zq hrem (Zq wk hsp))) ?_
    rfl
   ·have e:sp.getD r false=false:=by assumption
    rw[hs,if_neg fun h=>by rw[e]at h;exact absurd h.1 (by decide)]
    refine Zw [1,2,5,6,7] [0,1] (Zq sY.d (Zq hrem (Zq wk hsp))) ?_
    rfl
  ·obtain rfl:r=c.regs.toNat:=by omega
   repeat' (first|refine Za ?_|(with_reducible constructor<;>first|intro N hN mk hmk|intro N hN|intro h)|refine Zt (Zq sY.d hsp) ?_|fail)
theorem c1n(c:Code)(o:Option (List Int)):∃D l e,doneT c o=[.agg (Code.av D),.agg [.a6 false (b7 l)],.v (.int .i64 e)]∧doneAV c o=Code.av D++[.a6 false (b7 l),.v (.int .i64 e)]:=by
 cases o with
 |none=>exact⟨yD,[],170,rfl,rfl⟩
 |some l=>exact⟨m9 c l,l,0,rfl,rfl⟩
theorem a5M(c:Code)(v:Int)(hc:gK c):c9 Tryz.prog 43 [.agg c.av,.v (.int .i64 v)] (fun _=> .agg (doneAV c (runF c v (c.regs.toNat+1) []))) (fun _=>[]):=by
 have J:=c1l c v hc
 obtain⟨D,l,e,e1,e2⟩:=c1n c (runF c v (c.regs.toNat+1) [])
 rw[e1]at J
 rw[e2]
 simp only[Code.av]at J
 refine Zf Tryz.func43 Tryz.ntmps43 ?_;simp only[Code.av]
 repeat' (first|refine Za ?_|(with_reducible constructor<;>first|intro N hN mk hmk|intro N hN|intro h)|refine Zc J ?_|refine Zt I8.d ?_|fail)
def exI:List e8:=[⟨5,1,0,mR 0,O0,O0,O0⟩,⟨3,10,0,mR 1,mR 0,mR 0,O0⟩,⟨8,0,0,O0,mR 0,mR 1,O0⟩]
def exT:o6:=⟨5,0,O0,O0,O0,0,0⟩
def bO:Code:={group:=4,sub:=2,regs:=2,u7:=0,params:=0,c6:=[⟨⟨#[97]⟩,1,1,8⟩],loops:=[],b:=[⟨exI,exT⟩]}
def exD:Code:={group:=4,sub:=2,regs:=5,u7:=1,params:=0,c6:=[⟨⟨#[97]⟩,1,1,8⟩],loops:=[],b:=[⟨[⟨5,1,0,mR 2,O0,O0,O0⟩,⟨12,0,0,O0,mR 2,O0,O0⟩,⟨11,0,0,mR 2,O0,O0,O0⟩,⟨3,10,0,mR 1,mR 2,mR 2,O0⟩,⟨11,0,0,mR 2,O0,O0,O0⟩,⟨8,0,0,O0,mR 2,mR 1,O0⟩],exT⟩]}
theorem nY:gK bO:=by
 refine⟨⟨⟨⟨by decide,by decide⟩,⟨by decide,by decide⟩,fun x hx=>?_⟩,by decide,fun b hb=>?_⟩,by decide,by decide⟩
 ·rcases List.mem_singleton.1 hx with rfl
  refine⟨fun y hy=>?_,⟨fun h=>absurd h (by decide),fun h=>absurd h (by decide),fun h=>absurd h (by decide),fun h=>absurd rfl h,fun h=>absurd h (by decide),fun h=>absurd h (by decide)⟩,by decide⟩
  have:∀y∈exI,(y.d.k=2→0≤y.d.n∧y.d.n<2)∧(y.a.k=2→0≤y.a.n∧y.a.n<2)∧(y.b.k=2→0≤y.b.n∧y.b.n<2)∧(y.c.k=2→0≤y.c.n∧y.c.n<2):=by decide
  obtain⟨h1,h2,h3,h4⟩:=this y hy
  exact⟨h1,h2,h3,h4⟩
 ·rcases List.mem_singleton.1 hb with rfl
  decide
theorem a4X(r:Int)(h:r=0∨r=1):b0a bO r∧¬b7r bO r:=by
 refine⟨⟨0,by decide,.zero,.inr ?_⟩,?_⟩
 ·rcases h with rfl|rfl
  ·exact⟨⟨5,1,0,mR 0,O0,O0,O0⟩,by decide,by decide⟩
  ·exact⟨⟨3,10,0,mR 1,mR 0,mR 0,O0⟩,by decide,by decide⟩
 ·rintro⟨b,hb,_,h2⟩
  have:b=0:=by have hb:b<1:=hb;omega
  subst this
  rcases h2 with h2|⟨h2,_⟩
  ·have e:B8 (w7 bO.b 0).t= -1:=by decide
   rw[e]at h2;omega
  ·exact absurd h2 (by decide)
theorem b7x:spF bO=[true,true]:=by
 have h0:(spF bO).getD 0 false=true:=(sH bO (r:=0) (by decide)).2 (a4X 0 (.inl rfl))
 have h1:(spF bO).getD 1 false=true:=(sH bO (r:=1) (by decide)).2 (a4X 1 (.inr rfl))
 have hl:(spF bO).length=2:=mU bO
 generalize spF bO=l at*
 match l,hl with
 |[a,b],_=>
  simp at h0 h1
  rw[h0,h1]
theorem b7w(c:Code)(h1:c.b.length=1)(h2:(w7 c.b 0).t=exT)(h3:kV (w7 c.b 0) [] 0=[]):Lst c [[]] [[]]:=by
 have hz:∀z,([[]]:List (List Int)).getD z []=[]:=fun z=>by
  cases z with
  |zero=>rfl
  |succ z=>cases z<;>rfl
 refine⟨⟨h1.symm,h1.symm,fun z=>by rw[hz];exact⟨RB.nil,I5.nil⟩,fun z=>by rw[hz];exact⟨RB.nil,I5.nil⟩⟩,⟨fun b r h=>by rw[hz]at h;simp at h,fun b r h=>by rw[hz]at h;simp at h⟩,fun b hb _=>?_⟩
 have:b=0:=by omega
 subst this
 rw[h2,hz,h3]
 refine⟨fun r hr=>?_,fun r hr=>hr⟩
 have:O1 exT [[]]=[]:=by decide
 rw[this]at hr;exact hr
theorem yH(c:Code)(h1:c.b.length=1)(h2:(w7 c.b 0).t=exT)(h3:kV (w7 c.b 0) [] 0=[]):pressF c=prB [[]] [[]] (w7 c.b 0) 0 0:=by
 have hr:(reachF c.b).getD 0 false=true:=(O5 c.b (by omega)).2 .zero
 unfold pressF
 rw[uV (b7w c h1 h2 h3),h1]
 show(if(reachF c.b).getD 0 false=true then prB [[]] [[]] (w7 c.b 0) 0 0 else 0)=_
 rw[if_pos hr]
theorem a4W:(liveF bO).1=[[]]:=by rw[uV (b7w bO rfl rfl (by decide))]
theorem b7s:bestF bO []=0:=by
 unfold bestF;rw[b7x,a4W];decide
theorem b7t:bestF bO [0]=1:=by
 unfold bestF;rw[b7x,a4W];decide
theorem b7u:bestF bO [0,1]= -1:=by
 unfold bestF;rw[b7x,a4W];decide
theorem c2T:pressF bO=2:=by
 rw[yH bO rfl rfl (by decide)];decide
theorem c57:pressF (m9 bO [0])=2:=by
 rw[yH (m9 bO [0]) rfl rfl (by decide)];decide
theorem c58:pressF (m9 bO [0,1])=2:=by
 rw[yH (m9 bO [0,1]) rfl rfl (by decide)];decide
theorem c1t:runF bO 2 3 []=some []:=b8W nY.s (by rw[c2T];decide)
theorem c1s:runF bO 1 3 []=none:=by
 have e0:m9 bO []=bO:=rfl
 rw[mS,e0,c2T,b7s,if_pos (by decide),if_neg (by decide),if_neg (by decide)]
 rw[show y5 [] 0=[0] by decide,mS,c57,b7t,if_pos (by decide),if_neg (by decide),if_neg (by decide)]
 rw[show y5 [0] 1=[0,1] by decide,mS,c58,b7u,if_pos (by decide),if_neg (by decide),if_pos (by decide)]
theorem uR(l:List Int)(h:∀q∈l,q=0∨q=1)(hs:I5 l):cS bO l:=⟨fun q hq=>by have:=h q hq;show 0≤q∧q<2;omega,hs,fun q hq=>a4X q (h q hq)⟩
theorem c51:checkF bO exD [0]=0:=by
 rw[dL (uR [0] (by decide) (by unfold I5;decide))];exact if_pos (by decide)
theorem c52:checkF bO exD [1]=100:=by
 rw[dL (uR [1] (by decide) (by unfold I5;decide))];exact if_neg (by decide)
theorem c53:checkF bO bO [0]=100:=by
 rw[dL (uR [0] (by decide) (by unfold I5;decide))];exact if_neg (by decide)
theorem c54:checkF bO bO []=0:=by
 rw[dL (uR [] (by decide) (by unfold I5;decide))];exact if_pos rfl
theorem tV:c9 Tryz.prog 104 [] (fun _=> .agg bO.av) (fun _=>[]):=by
 have J0:=fM 0
 have J1:=fM 1
 simp only[E3.av]at J0 J1
 refine Zf Tryz.func104 Tryz.ntmps104 ?_
 repeat' (first|refine Za ?_|(with_reducible constructor<;>first|intro N hN mk hmk|intro N hN|intro h)|refine Zc J0 ?_|refine Zc J1 ?_|refine Zt I8.d ?_|fail)
 all_goals rfl
theorem a92:c9 Tryz.prog 105 [] (fun _=> .agg exD.av) (fun _=>[]):=by
 have J0:=tV
 have J1:=fM 1
 have J2:=fM 2
 simp only[E3.av]at J1 J2
 have e:bO.av=[.v (.int .i64 4),.v (.int .i64 2),.v (.int .i64 2),.v (.int .i64 0),.v (.int .i64 0),.a6 false (w6 bO.c6),.a6 false [],.a6 false (p7 bO.b)]:=rfl
 rw[e]at J0
 refine Zf Tryz.func105 Tryz.ntmps105 ?_
 repeat' (first|refine Za ?_|(with_reducible constructor<;>first|intro N hN mk hmk|intro N hN|intro h)|refine Zc J0 ?_|refine Zc J1 ?_|refine Zc J2 ?_|refine Zt I8.d ?_|fail)
 all_goals rfl
theorem qE:c9 Tryz.prog 41 [] (fun _=> .v (.bool true)) (fun _=>[]):=by
 have J0:=tV
 have J1:=a92
 have J2:=a5M bO 2 nY
 have J3:=a5M bO 1 nY
 have hD:vF exD:=⟨by decide,by decide,by decide,fun x hx=>by rcases List.mem_singleton.1 hx with rfl;decide⟩
 have hS:vF bO:=⟨by decide,by decide,by decide,fun x hx=>by rcases List.mem_singleton.1 hx with rfl;decide⟩
 have K1:=Y9 bO exD [0] nY hD (by decide)
 have K2:=Y9 bO exD [1] nY hD (by decide)
 have K3:=Y9 bO bO [0] nY hS (by decide)
 have K4:=Y9 bO bO [] nY hS (by decide)
 have K5:=rY bO bO hS.a hS.a hS.l hS.l hS.b hS.b hS.i hS.i
 have e2:doneAV bO (runF bO 2 (bO.regs.toNat+1) [])=bO.av++[.a6 false [],.v (.int .i64 0)]:=by
  rw[show bO.regs.toNat+1=3 from rfl,c1t];rfl
 have e1:doneAV bO (runF bO 1 (bO.regs.toNat+1) [])=yD.av++[.a6 false [],.v (.int .i64 170)]:=by
  rw[show bO.regs.toNat+1=3 from rfl,c1s];rfl
 rw[e2]at J2
 rw[e1]at J3
 rw[c51]at K1
 rw[c52]at K2
 rw[c53]at K3
 rw[c54]at K4
 rw[decide_eq_true (rfl:bO=bO)]at K5
 have eC:yD.av=[.v (.int .i64 0),.v (.int .i64 0),.v (.int .i64 0),.v (.int .i64 0),.v (.int .i64 0),.a6 false [],.a6 false [],.a6 false []]:=rfl
 obtain⟨A,hA⟩:∃A,A=w6 bO.c6:=⟨_,rfl⟩
 obtain⟨B,hB⟩:∃B,B=p7 bO.b:=⟨_,rfl⟩
 obtain⟨D,hDD⟩:∃D,D=p7 exD.b:=⟨_,rfl⟩
 have eS:bO.av=[.v (.int .i64 4),.v (.int .i64 2),.v (.int .i64 2),.v (.int .i64 0),.v (.int .i64 0),.a6 false A,.a6 false [],.a6 false B]:=by rw[hA,hB];rfl
 have eD:exD.av=[.v (.int .i64 4),.v (.int .i64 2),.v (.int .i64 5),.v (.int .i64 1),.v (.int .i64 0),.a6 false A,.a6 false [],.a6 false D]:=by rw[hA,hDD];rfl
 rw[eS]at J0 J2 J3 K1 K2 K3 K4 K5
 rw[eC]at J3
 rw[eD]at J1 K1 K2
 simp only[List.cons_append,List.nil_append,show b7 []=[]from rfl,show b7 [0]=[[.v (.int .i64 0)]]from rfl,show b7 [1]=[[.v (.int .i64 1)]]from rfl]at J2 J3 K1 K2 K3 K4
 refine Zf Tryz.func41 Tryz.ntmps41 ?_
 repeat' (first|refine Za ?_|(with_reducible constructor<;>first|intro N hN mk hmk|intro N hN|intro h)|refine Zc J0 ?_|refine Zc J1 ?_|refine Zc J2 ?_|refine Zc J3 ?_|(refine M8 K1 ?_ rfl ?_ ?_;(next=>(simp (disch:=omega) only[I8.d,v8,Nat.reduceBEq,AV.plain,Nat.reduceAdd,Nat.reduceLeDiff,Nat.reduceLT,↓reduceIte,sF]<;>first|done|rfl));(next=>(simp only[apply_ite List.length,List.length_cons,List.length_nil]<;>(try split)<;>omega)))|(refine H9 K1 ?_ rfl ?_ ?_;(next=>(simp (disch:=omega) only[I8.d,v8,Nat.reduceBEq,AV.plain,Nat.reduceAdd,Nat.reduceLeDiff,Nat.reduceLT,↓reduceIte,sF]<;>first|done|rfl));(next=>(simp only[apply_ite List.length,List.length_cons,List.length_nil]<;>(try split)<;>omega)))|(refine M8 K2 ?_ rfl ?_ ?_;(next=>(simp (disch:=omega) only[I8.d,v8,Nat.reduceBEq,AV.plain,Nat.reduceAdd,Nat.reduceLeDiff,Nat.reduceLT,↓reduceIte,sF]<;>first|done|rfl));(next=>(simp only[apply_ite List.length,List.length_cons,List.length_nil]<;>(try split)<;>omega)))|(refine H9 K2 ?_ rfl ?_ ?_;(next=>(simp (disch:=omega) only[I8.d,v8,Nat.reduceBEq,AV.plain,Nat.reduceAdd,Nat.reduceLeDiff,Nat.reduceLT,↓reduceIte,sF]<;>first|done|rfl));(next=>(simp only[apply_ite List.length,List.length_cons,List.length_nil]<;>(try split)<;>omega)))|(refine M8 K3 ?_ rfl ?_ ?_;(next=>(simp (disch:=omega) only[I8.d,v8,Nat.reduceBEq,AV.plain,Nat.reduceAdd,Nat.reduceLeDiff,Nat.reduceLT,↓reduceIte,sF]<;>first|done|rfl));(next=>(simp only[apply_ite List.length,List.length_cons,List.length_nil]<;>(try split)<;>omega)))|(refine H9 K3 ?_ rfl ?_ ?_;(next=>(simp (disch:=omega) only[I8.d,v8,Nat.reduceBEq,AV.plain,Nat.reduceAdd,Nat.reduceLeDiff,Nat.reduceLT,↓reduceIte,sF]<;>first|done|rfl));(next=>(simp only[apply_ite List.length,List.length_cons,List.length_nil]<;>(try split)<;>omega)))|refine Zc K4 ?_|refine Zc K5 ?_|refine Zt I8.d ?_|fail)
 all_goals first|(exact absurd rfl (by assumption))|omega|(exfalso;simp_all;done)
end Go.Proofs.YtgdoiokalfhjoaaGreatDoor
end
