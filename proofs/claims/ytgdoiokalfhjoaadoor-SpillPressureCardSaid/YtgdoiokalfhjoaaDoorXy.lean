/- Own work (by an AI agent; no person has read it): part of a proof of the seat YtgdoiokalfhjoaaDoor. -/
import Derived.Test.YtgdoiokalfhjoaaDoorXx
set_option linter.unusedSimpArgs false
set_option linter.unusedVariables false
set_option maxRecDepth 100000
set_option maxHeartbeats 10000000
section
namespace Go.Proofs.YtgdoiokalfhjoaaDoor
open Go.Ab
def a2E:=ZZ.mk (Zq @p0 (Zq @gV (Zq @w8 (Zq @m7 (Zq @l0.av.eq_1 (Zq @j0 @j3))))))
theorem a8p(a b:List l0)(ha:a.length≤100000)(hb:b.length≤100000):n5 Tryd.prog 56 [.c5 false (j5 a),.c5 false (j5 b)] (fun _=> .v (.bool (decide (a=b)))) (fun _=>[]):=by
 have hno:∀{p:Prop},(a=b→p)→¬p→false=decide (a=b):=fun h1 h2=>(decide_eq_false fun h=>h2 (h1 h)).symm
 refine Zf Tryd.func56 Tryd.ntmps56 ?_
 repeat' (first|refine Za ?_|(with_reducible constructor<;>first|intro N hN mk hmk|intro N hN|intro h)|refine Zt (Zq a2E.d (Zq a6 a0b)) ?_|fail)
 ·refine hno (fun h=>?_) (by assumption)
  rw[h]
 ·refine T2 (fun i=>⟨[.c5 false (j5 a),.c5 false (j5 b),.Z,.Z,.v (.bool false),.Z,.Z,.Z,.Z,.Z,.Z,.c5 false (j5 a),.v (.int .i64 a.length),.v (.int .i64 i),.Z,.Z,.Z,.Z,.Z,.Z,.Z,.Z,.Z,.Z,.Z,.Z],[],0⟩) (fun ii=>Go.Ab.aP ((fun i=>∀k,k<i→a.getD k I0=b.getD k I0) ii)) a.length (Zw [0,1,4,11,12,13] [] (Zq a2E.d (Zq a6 a0b)) ?_) ?_ ?_
  ·rfl
  ·exact⟨fun k hk=>by omega⟩
  ·intro i hi hI
   have hI:=hI.out
   by_cases hlt:i<a.length
   ·obtain⟨x,hx⟩:∃x,a.getD i I0=x:=⟨_,rfl⟩
    obtain⟨y,hy⟩:∃y,b.getD i I0=y:=⟨_,rfl⟩
    repeat' (first|refine Za ?_|(with_reducible constructor<;>first|intro N hN mk hmk|intro N hN|intro h)|refine Zt (Zq a2E.d (Zq hx (Zq hy (Zq a6 a0b)))) ?_|fail)
    ·refine hno (fun h=>?_) (by assumption)
     exact(mW _ _).1 (by rw[←hx,←hy,h])
    ·refine⟨⟨fun k hk=>?_⟩,?_⟩
     ·rcases Nat.lt_succ_iff_lt_or_eq.1 hk with h1|rfl
      ·exact hI k h1
      ·rw[hx,hy];exact(mW _ _).2 (Classical.not_not.1 (by assumption))
     ·refine Zw [0,1,4,11,12,13] [] (Zq a2E.d (Zq hx (Zq hy (Zq a6 a0b)))) ?_
      rfl
   ·obtain rfl:i=a.length:=by omega
    repeat' (first|refine Za ?_|(with_reducible constructor<;>first|intro N hN mk hmk|intro N hN|intro h)|refine Zt (Zq a2E.d (Zq a6 a0b)) ?_|fail)
    exact(decide_eq_true (U0 I0 (by omega) hI)).symm
def yN:=ZZ.mk (Zq @A6 (Zq @J8 (Zq @j0 @j3)))
theorem a45(a b:List dG)(ha:a.length≤100000)(hb:b.length≤100000):n5 Tryd.prog 57 [.c5 false (H2 a),.c5 false (H2 b)] (fun _=> .v (.bool (decide (a=b)))) (fun _=>[]):=by
 have hno:∀{p:Prop},(a=b→p)→¬p→false=decide (a=b):=fun h1 h2=>(decide_eq_false fun h=>h2 (h1 h)).symm
 refine Zf Tryd.func57 Tryd.ntmps57 ?_
 repeat' (first|refine Za ?_|(with_reducible constructor<;>first|intro N hN mk hmk|intro N hN|intro h)|refine Zt (Zq yN.d (Zq I3 (Zq cL (Zq oN a0c)))) ?_|fail)
 ·refine hno (fun h=>?_) (by assumption)
  rw[h]
 ·refine T2 (fun i=>⟨[.c5 false (H2 a),.c5 false (H2 b),.Z,.Z,.v (.bool false),.Z,.Z,.Z,.Z,.Z,.Z,.c5 false (H2 a),.v (.int .i64 a.length),.v (.int .i64 i),.Z,.Z,.Z,.Z,.Z,.Z,.Z,.Z,.Z,.Z,.Z,.Z],[],0⟩) (fun ii=>Go.Ab.aP ((fun i=>∀k,k<i→a.getD k A0=b.getD k A0) ii)) a.length (Zw [0,1,4,11,12,13] [] (Zq yN.d (Zq I3 (Zq cL (Zq oN a0c)))) ?_) ?_ ?_
  ·rfl
  ·exact⟨fun k hk=>by omega⟩
  ·intro i hi hI
   have hI:=hI.out
   by_cases hlt:i<a.length
   ·obtain⟨x,hx⟩:∃x,a.getD i A0=x:=⟨_,rfl⟩
    obtain⟨y,hy⟩:∃y,b.getD i A0=y:=⟨_,rfl⟩
    repeat' (first|refine Za ?_|(with_reducible constructor<;>first|intro N hN mk hmk|intro N hN|intro h)|refine Zt (Zq yN.d (Zq hx (Zq hy (Zq I3 (Zq cL (Zq oN a0c)))))) ?_|fail)
    ·refine hno (fun h=>?_) (by assumption)
     exact(rD _ _).1 (by rw[←hx,←hy,h])
    ·refine⟨⟨fun k hk=>?_⟩,?_⟩
     ·rcases Nat.lt_succ_iff_lt_or_eq.1 hk with h1|rfl
      ·exact hI k h1
      ·rw[hx,hy];exact(rD _ _).2 (Classical.not_not.1 (by assumption))
     ·refine Zw [0,1,4,11,12,13] [] (Zq yN.d (Zq hx (Zq hy (Zq I3 (Zq cL (Zq oN a0c)))))) ?_
      rfl
   ·obtain rfl:i=a.length:=by omega
    repeat' (first|refine Za ?_|(with_reducible constructor<;>first|intro N hN mk hmk|intro N hN|intro h)|refine Zt (Zq yN.d (Zq I3 (Zq cL (Zq oN a0c)))) ?_|fail)
    exact(decide_eq_true (U0 A0 (by omega) hI)).symm
def yO:=ZZ.mk (Zq @V2 (Zq @kC (Zq @n9 (Zq @j0 @j3))))
theorem a8q(a b:List Loop)(ha:a.length≤100000)(hb:b.length≤100000):n5 Tryd.prog 58 [.c5 false (Proofs.YtgdoiokalfhjoaaDoor.loops a),.c5 false (Proofs.YtgdoiokalfhjoaaDoor.loops b)] (fun _=> .v (.bool (decide (a=b)))) (fun _=>[]):=by
 have hno:∀{p:Prop},(a=b→p)→¬p→false=decide (a=b):=fun h1 h2=>(decide_eq_false fun h=>h2 (h1 h)).symm
 refine Zf Tryd.func58 Tryd.ntmps58 ?_
 repeat' (first|refine Za ?_|(with_reducible constructor<;>first|intro N hN mk hmk|intro N hN|intro h)|refine Zt (Zq yO.d (Zq bN (Zq kB a0d))) ?_|fail)
 ·refine hno (fun h=>?_) (by assumption)
  rw[h]
 ·refine T2 (fun i=>⟨[.c5 false (Proofs.YtgdoiokalfhjoaaDoor.loops a),.c5 false (Proofs.YtgdoiokalfhjoaaDoor.loops b),.Z,.Z,.v (.bool false),.Z,.Z,.Z,.Z,.Z,.Z,.c5 false (Proofs.YtgdoiokalfhjoaaDoor.loops a),.v (.int .i64 a.length),.v (.int .i64 i),.Z,.Z,.Z,.Z,.Z,.Z,.Z,.Z,.Z,.Z,.Z,.Z],[],0⟩) (fun ii=>Go.Ab.aP ((fun i=>∀k,k<i→a.getD k L0_=b.getD k L0_) ii)) a.length (Zw [0,1,4,11,12,13] [] (Zq yO.d (Zq bN (Zq kB a0d))) ?_) ?_ ?_
  ·rfl
  ·exact⟨fun k hk=>by omega⟩
  ·intro i hi hI
   have hI:=hI.out
   by_cases hlt:i<a.length
   ·obtain⟨x,hx⟩:∃x,a.getD i L0_=x:=⟨_,rfl⟩
    obtain⟨y,hy⟩:∃y,b.getD i L0_=y:=⟨_,rfl⟩
    repeat' (first|refine Za ?_|(with_reducible constructor<;>first|intro N hN mk hmk|intro N hN|intro h)|refine Zt (Zq yO.d (Zq hx (Zq hy (Zq bN (Zq kB a0d))))) ?_|fail)
    ·refine hno (fun h=>?_) (by assumption)
     exact(nF _ _).1 (by rw[←hx,←hy,h])
    ·refine⟨⟨fun k hk=>?_⟩,?_⟩
     ·rcases Nat.lt_succ_iff_lt_or_eq.1 hk with h1|rfl
      ·exact hI k h1
      ·rw[hx,hy];exact(nF _ _).2 (Classical.not_not.1 (by assumption))
     ·refine Zw [0,1,4,11,12,13] [] (Zq yO.d (Zq hx (Zq hy (Zq bN (Zq kB a0d))))) ?_
      rfl
   ·obtain rfl:i=a.length:=by omega
    repeat' (first|refine Za ?_|(with_reducible constructor<;>first|intro N hN mk hmk|intro N hN|intro h)|refine Zt (Zq yO.d (Zq bN (Zq kB a0d))) ?_|fail)
    exact(decide_eq_true (U0 L0_ (by omega) hI)).symm
def b6M:=ZZ.mk (Zq @p0 (Zq @m7 (Zq @e8.av.eq_1 (Zq @w4.av.eq_1 (Zq @j0 @j3)))))
theorem a8i(a b:e8)(ha:a.i.length≤100000)(hb:b.i.length≤100000):n5 Tryd.prog 55 [.agg a.av,.agg b.av] (fun _=> .v (.bool (decide (a=b)))) (fun _=>[]):=by
 have J:=a8p a.i b.i ha hb
 refine Zf Tryd.func55 Tryd.ntmps55 ?_;simp only[e8.av,w4.av]
 repeat' (first|refine Za ?_|(with_reducible constructor<;>first|intro N hN mk hmk|intro N hN|intro h)|refine Zc J ?_|refine Zt (Zq b6M.d (Zq b4w a6)) ?_|fail)
 ·refine decide_eq_decide.2 ?_
  rw[yU,oE]
  exact⟨fun h=>⟨h,by assumption⟩,fun h=>h.1⟩
 ·exact(decide_eq_false fun h=>absurd ((oE _ _).1 (congrArg e8.t h)) (by assumption)).symm
def a2F:=ZZ.mk (Zq @n3 (Zq @aA (Zq @W6 (Zq @l8 (Zq @e8.av.eq_1 (Zq @w4.av.eq_1 (Zq @j0 @j3)))))))
theorem a8o(a b:List e8)(ha:a.length≤100000)(hb:b.length≤100000)(hia:∀x∈a,x.i.length≤100000)(hib:∀x∈b,x.i.length≤100000):n5 Tryd.prog 59 [.c5 false (y6 a),.c5 false (y6 b),.fn 55 []] (fun _=> .v (.bool (decide (a=b)))) (fun _=>[]):=by
 have hno:∀{p:Prop},(a=b→p)→¬p→false=decide (a=b):=fun h1 h2=>(decide_eq_false fun h=>h2 (h1 h)).symm
 refine Zf Tryd.func59 Tryd.ntmps59 ?_
 repeat' (first|refine Za ?_|(with_reducible constructor<;>first|intro N hN mk hmk|intro N hN|intro h)|refine Zt (Zq a2F.d a7) ?_|fail)
 ·refine hno (fun h=>?_) (by assumption)
  rw[h]
 ·refine T2 (fun i=>⟨[.c5 false (y6 a),.c5 false (y6 b),.fn 55 [],.Z,.Z,.Z,.v (.bool false),.Z,.Z,.Z,.Z,.Z,.Z,.Z,.Z,.c5 false (y6 a),.v (.int .i64 a.length),.v (.int .i64 i),.Z,.Z,.Z,.Z,.Z,.Z,.Z,.Z,.Z,.Z,.Z,.Z,.Z,.Z],[],0⟩) (fun ii=>Go.Ab.aP ((fun i=>∀k,k<i→a.getD k B0=b.getD k B0) ii)) a.length (Zw [0,1,2,6,15,16,17] [] (Zq a2F.d a7) ?_) ?_ ?_
  ·rfl
  ·exact⟨fun k hk=>by omega⟩
  ·intro i hi hI
   have hI:=hI.out
   by_cases hlt:i<a.length
   ·have hlb2:i<b.length:=by omega
    have J2:=a8i (a.getD i B0) (b.getD i B0) (hia _ (by rw[List.getD_eq_getElem?_getD,List.getElem?_eq_getElem hlt];exact List.getElem_mem hlt)) (hib _ (by rw[List.getD_eq_getElem?_getD,List.getElem?_eq_getElem hlb2];exact List.getElem_mem hlb2))
    obtain⟨x,hx⟩:∃x,a.getD i B0=x:=⟨_,rfl⟩
    obtain⟨y,hy⟩:∃y,b.getD i B0=y:=⟨_,rfl⟩
    rw[hx,hy]at J2
    simp only[e8.av,w4.av]at J2
    repeat' (first|refine Za ?_|(with_reducible constructor<;>first|intro N hN mk hmk|intro N hN|intro h)|refine Zc J2 ?_|refine Zt (Zq a2F.d (Zq hx (Zq hy a7))) ?_|fail)
    ·refine hno (fun h=>?_) (by assumption)
     rw[←hx,←hy,h]
    ·refine⟨⟨fun k hk=>?_⟩,?_⟩
     ·rcases Nat.lt_succ_iff_lt_or_eq.1 hk with h1|rfl
      ·exact hI k h1
      ·rw[hx,hy];exact Classical.not_not.1 (by assumption)
     ·refine Zw [0,1,2,6,15,16,17] [] (Zq a2F.d (Zq hx (Zq hy a7))) ?_
      rfl
   ·obtain rfl:i=a.length:=by omega
    repeat' (first|refine Za ?_|(with_reducible constructor<;>first|intro N hN mk hmk|intro N hN|intro h)|refine Zt (Zq a2F.d a7) ?_|fail)
    exact(decide_eq_true (U0 B0 (by omega) hI)).symm
def b6N:=ZZ.mk (Zq yO.d (Zq yN.d (Zq @n3 (Zq @W6 @l8))))
theorem a78(a b:Code)(ha:a.o0.length≤100000)(hb:b.o0.length≤100000)(hla:a.loops.length≤100000)(hlb:b.loops.length≤100000)(hba:a.b.length≤100000)(hbb:b.b.length≤100000)(hia:∀x∈a.b,x.i.length≤100000)(hib:∀x∈b.b,x.i.length≤100000):
  n5 Tryd.prog 37 [.agg a.av,.agg b.av] (fun _=> .v (.bool (decide (a=b)))) (fun _=>[]):=by
 have J1:=a45 a.o0 b.o0 ha hb
 have J2:=a8q a.loops b.loops hla hlb
 have J3:=a8o a.b b.b hba hbb hia hib
 have hno:∀{p:Prop},(a=b→p)→¬p→false=decide (a=b):=fun h1 h2=>(decide_eq_false fun h=>h2 (h1 h)).symm
 refine Zf Tryd.func37 Tryd.ntmps37 ?_;simp only[Code.av]
 repeat' (first|refine Za ?_|(with_reducible constructor<;>first|intro N hN mk hmk|intro N hN|intro h)|refine Zc J1 ?_|refine Zc J2 ?_|refine Zc J3 ?_|refine Zt (Zq b6N.d (Zq I3 a7)) ?_|fail)
 ·refine decide_eq_decide.2 ⟨fun h=>(tH a b).2 ⟨⟨by omega,by omega,by omega,by omega,by omega,by assumption,by assumption⟩,h⟩,fun h=>by rw[h]⟩
 all_goals
  refine hno (fun h=>?_) (by assumption)
  rw[h]
end Go.Proofs.YtgdoiokalfhjoaaDoor
end
