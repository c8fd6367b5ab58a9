/- Own work (by an AI agent; no person has read it): part of a proof of the seat YtgdoiokalfhjoaaDoor. -/
import Derived.Test.YtgdoiokalfhjoaaDoorXbm
set_option maxRecDepth 100000
set_option linter.unusedSimpArgs false
set_option linter.unusedVariables false
set_option maxHeartbeats 10000000
section
namespace Go.Proofs.YtgdoiokalfhjoaaDoor
open Go.Ab
open Go.ChangeShapes Go.WideShapes Go.ChangeAt Go.RowKit
theorem lP:false=Rows.spillPressureRow.goesBy Tryd.pinned.checked.prog:=by kernel_rfl
theorem pO:Rows.spillPressureRow.wfByText (OpenSpec.ofChange Rows.spillPressureSpec)=true:=by kernel_rfl
theorem lQ:Tryd.pinned.checked.prog.mainIs=some (true,Rows.spillPressureCard.stood.harness.2.toList):=by kernel_rfl
theorem pM:Tryd.pinned.checked.prog.funcNamed Rows.spillPressureRow.func=some 3:=by kernel_rfl
theorem nQ:([24,5].all fun u=> !Tryd.prog.wantsStandIn u)=true:=by kernel_rfl
theorem kR(t:TypeId)(hm:t∈[24,5]):Tryd.pinned.checked.prog.wantsStandIn t=false:=
 (show Tryd.prog.wantsStandIn t=false by simpa using List.all_eq_true.1 nQ t hm)
end Go.Proofs.YtgdoiokalfhjoaaDoor
end
section
namespace Go.Proofs.YtgdoiokalfhjoaaDoor
open Go.Ab
def a9X:=ZZ.mk (Zq @F9 (Zq @n3 (Zq @j0 @j3)))
theorem a1n(L:List Int)(hL:B5 L)(n:Int)(hn:0≤n∧n<256):n5 Tryd.prog 3 [.agg [.c5 false (fF L)],.v (.int .u8 n)] (fun _=> .v (.bool true)) (fun _=>[]):=by
 have CE:=a1k
 have CM:=b3q L hL
 have hT:=b5X L hL
 generalize nH L=c at*
 have ho:=hT.s.ok
 have hn18:=ho.n
 have hr:=ho.r
 have hr12:=hT.s.r
 obtain⟨k,hk⟩:∃k,Int.tmod n 9=k:=⟨_,rfl⟩
 have hk9:0≤k∧k<9:=by rw[x6 _ _ hn.1]at hk;omega
 have F1:=mK c ho
 obtain⟨p1,p2,p3,p4⟩:=a5D ho
 have F2:=gO c (liveF c).1 (liveF c).2 ho (by omega) p1 p2 p3 p4
 obtain⟨I,hI⟩:∃I,I=(liveF c).1:=⟨_,rfl⟩
 obtain⟨O,hO⟩:∃O,O=(liveF c).2:=⟨_,rfl⟩
 have hpr:prF c (liveF c).1 (liveF c).2 c.b.length=pressF c:=rfl
 rw[hpr]at F2
 rw[←hI,←hO]at F1 F2
 have R1:=rU c k hT
 have R2:=rU c (k+1) hT
 have hz:=fun h=>a4f hT.s (v:=k) (n:=c.regs.toNat) h
 have hp:=fun m h=>b3S (c:=c) (v:=k) (n:=c.regs.toNat+1) (m:=m) h
 have hl:=fun m h=>kI (c:=c) (v:=k) (n:=c.regs.toNat+1) (m:=m) (bU.nil c) h
 have hm:=fun m h=>a4d (c:=c) (v:=k) (n:=c.regs.toNat+1) (m:=m) (bU.nil c) h
 have hDc:=hT.r
 have K0:=a0f c c hDc.a hDc.a hDc.l hDc.l hDc.b hDc.b hDc.i hDc.i
 rw[decide_eq_true (rfl:c=c)]at K0
 by_cases h1:pressF c≤k
 ·rw[hz h1]at R1
  obtain⟨D',l',e',hDr',hl',he'⟩:=a3d c hT (runF c (k+1) (c.regs.toNat+1) []) b15
  rw[he']at R2
  have e1:doneAV c (some [])=c.av++[.c5 false (m8 []),.v (.int .i64 0)]:=rfl
  rw[e1]at R1
  simp only[Code.av,List.cons_append,List.nil_append]at CM F1 F2 R1 R2 K0
  generalize pressF c=pr at*
  have h2:(pr≤k)=True:=eq_true h1
  refine Zf Tryd.func3 Tryd.ntmps3 ?_
  repeat' (first|refine Za ?_|(with_reducible constructor<;>first|intro N hN mk hmk|intro N hN|intro h)|refine Zc CE ?_|refine Zc CM ?_|refine Zc F1 ?_|refine Zc F2 ?_|refine Zc R1 ?_|refine Zc R2 ?_|refine Zc K0 ?_|refine Zt (Zq a9X.d (Zq Tryd.results3 (Zq h2 (Zq hk u5)))) ?_|fail)
  all_goals first|(exfalso;omega)|skip
 ·have h2:(pressF c≤k)=False:=eq_false h1
  cases hrun:runF c k (c.regs.toNat+1) []with
  |none=>
   rw[hrun]at R1
   obtain⟨D',l',e',hDr',hl',he'⟩:=a3d c hT (runF c (k+1) (c.regs.toNat+1) []) b15
   rw[he']at R2
   have e1:doneAV c none=mN.av++[.c5 false (m8 []),.v (.int .i64 170)]:=rfl
   have e2:y6 mN.b=[]:=rfl
   rw[e1]at R1
   simp only[Code.av,List.cons_append,List.nil_append]at CM F1 F2 R1 R2 K0
   rw[e2]at R1
   generalize pressF c=pr at*
   refine Zf Tryd.func3 Tryd.ntmps3 ?_
   repeat' (first|refine Za ?_|(with_reducible constructor<;>first|intro N hN mk hmk|intro N hN|intro h)|refine Zc CE ?_|refine Zc CM ?_|refine Zc F1 ?_|refine Zc F2 ?_|refine Zc R1 ?_|refine Zc R2 ?_|refine Zc K0 ?_|refine Zt (Zq a9X.d (Zq Tryd.results3 (Zq h2 (Zq hk u5)))) ?_|fail)
   all_goals first|(exfalso;omega)|skip
  |some m=>
   obtain⟨m',hm',hml⟩:=hm m hrun
   obtain⟨_,g2,_,g4⟩:=hl m hrun
   have g5:=hp m hrun h1
   have g6:=g2.len ho
   obtain⟨_,g7,_,_⟩:=kI (bU.nil c) hm'
   have g8:=g7.len ho
   rw[hrun]at R1
   rw[hm']at R2
   have e1:∀q,doneAV c (some q)=(p9 c q).av++[.c5 false (m8 q),.v (.int .i64 0)]:=fun q=>rfl
   rw[e1]at R1 R2
   obtain⟨d1,d2,d3⟩:=lH hT.s m
   have hDR:=hT.rT m
   have hck:=fQ (d:=p9 c m) g2
   rw[if_pos rfl]at hck
   obtain⟨D,hD⟩:∃D,p9 c m=D:=⟨_,rfl⟩
   obtain⟨D',hD'⟩:∃D',p9 c m'=D':=⟨_,rfl⟩
   rw[hD]at R1 d1 d2 d3 hDR hck g4
   rw[hD']at R2
   have P0:=cZ c D m hT hDR (by omega)
   rw[hck]at P0
   have F3:=mK D d1
   obtain⟨q1,q2,q3,q4⟩:=a5D d1
   have F4:=gO D (liveF D).1 (liveF D).2 d1 d2 q1 q2 q3 q4
   have hpr:prF D (liveF D).1 (liveF D).2 D.b.length=pressF D:=rfl
   rw[hpr]at F4
   obtain⟨I',hI'⟩:∃I',I'=(liveF D).1:=⟨_,rfl⟩
   obtain⟨O',hO'⟩:∃O',O'=(liveF D).2:=⟨_,rfl⟩
   rw[←hI',←hO']at F3 F4
   have h3:(pressF D≤k)=True:=eq_true g4
   have h4:((m'.length:Int)≤m.length)=True:=eq_true (by omega)
   have h5:((0:Int)<m.length)=True:=eq_true (by omega)
   simp only[Code.av,List.cons_append,List.nil_append]at CM F1 F2 R1 R2 K0 P0 F3 F4
   generalize pressF c=pr at*
   generalize pressF D=pr' at*
   refine Zf Tryd.func3 Tryd.ntmps3 ?_
   repeat' (first|refine Za ?_|(with_reducible constructor<;>first|intro N hN mk hmk|intro N hN|intro h)|refine Zc CE ?_|refine Zc CM ?_|refine Zc F1 ?_|refine Zc F2 ?_|refine Zc F3 ?_|refine Zc F4 ?_|refine Zc R1 ?_|refine Zc R2 ?_|refine Zc P0 ?_|refine Zc K0 ?_|refine Zt (Zq a9X.d (Zq Tryd.results3 (Zq h2 (Zq h3 (Zq h4 (Zq h5 (Zq hk u5))))))) ?_|fail)
   all_goals first|(exfalso;omega)|skip
end Go.Proofs.YtgdoiokalfhjoaaDoor
end
