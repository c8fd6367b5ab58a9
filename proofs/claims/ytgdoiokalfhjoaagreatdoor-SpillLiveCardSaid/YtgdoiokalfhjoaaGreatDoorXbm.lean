/- Own work (by an AI agent; no person has read it): part of a proof of the seat YtgdoiokalfhjoaaGreatDoor. -/
import Derived.Test.YtgdoiokalfhjoaaGreatDoorXt
import Derived.Test.YtgdoiokalfhjoaaGreatDoorXbh
set_option maxRecDepth 100000
set_option linter.unusedSimpArgs false
set_option linter.unusedVariables false
set_option maxHeartbeats 10000000
section
namespace Go.Proofs.YtgdoiokalfhjoaaGreatDoor
open Go.Ab
open Go.ChangeShapes Go.WideShapes Go.ChangeAt Go.RowKit
theorem a0p:false=Rows.spillLiveRow.goesBy Tryz.pinned.checked.prog:=by kernel_rfl
theorem a5J:Rows.spillLiveRow.wfByText (OpenSpec.ofChange Rows.spillLiveSpec)=true:=by kernel_rfl
theorem a0q:Tryz.pinned.checked.prog.mainIs=some (true,Rows.spillLiveCard.stood.harness.2.toList):=by kernel_rfl
theorem a5H:Tryz.pinned.checked.prog.funcNamed Rows.spillLiveRow.func=some 11:=by kernel_rfl
theorem a0Y:([24,25].all fun u=> !Tryz.prog.wantsStandIn u)=true:=by kernel_rfl
theorem uD(t:TypeId)(hm:t∈[24,25]):Tryz.pinned.checked.prog.wantsStandIn t=false:=
 (show Tryz.prog.wantsStandIn t=false by simpa using List.all_eq_true.1 a0Y t hm)
end Go.Proofs.YtgdoiokalfhjoaaGreatDoor
end
section
namespace Go.Proofs.YtgdoiokalfhjoaaGreatDoor
open Go.Ab
theorem a5K{c:Code}(hc:u9 c){l:List Int}(hl:∀q∈l,0≤q∧q<c.regs){k:Nat}(hk:k<c.b.length)(hr:cR c.b (k:Int)):
  (liveF (m9 c l)).1.getD k []=nD l ((liveF c).1.getD k [])∧∀r∈(liveF (m9 c l)).2.getD k [],r∉l:=by
 by_cases h:l=[]
 ·subst h
  refine⟨?_,fun r _=>by simp⟩
  show(liveF c).1.getD k []=_
  unfold nD
  rw[List.filter_eq_self.2 (fun r _=>by simp)]
 ·rw[a0R hc hl h]
  refine⟨cG l _ k,fun r hm hrl=>?_⟩
  have hm:r∈(outS c l (liveF c).1).getD k []:=hm
  rw[b3p hk hr]at hm
  rcases lG hc (eP hc) hk hm with⟨_,h2,_⟩|⟨j,_,h2⟩
  ·exact h2 hrl
  ·have:=hl r hrl;omega
theorem c2b{l a:List Int}{i:Nat}(hi:i<a.length)(h:a.getD i 0∈l):nD l (a.take (i+1))=nD l (a.take i):=by
 rw[w4 a i 0 hi];unfold nD;rw[List.filter_append,List.filter_cons,if_neg (by simpa using h)];simp
theorem c4V{l a:List Int}{i:Nat}(hi:i<a.length)(h:¬a.getD i 0∈l):nD l (a.take (i+1))=nD l (a.take i)++[a.getD i 0]:=by
 rw[w4 a i 0 hi];unfold nD;rw[List.filter_append,List.filter_cons,if_pos (by simpa using h)];rfl
theorem c2a(l a:List Int):(nD l a).length≤a.length:=List.length_filter_le _ _
def dJ:=ZZ.mk (Zq sY.d (Zq b0j.d (Zq @V5 (Zq @fA (Zq @H8 (Zq @K0 @S5))))))
theorem b82(L:List Int)(hL:y8 L)(n:Int):c9 Tryz.prog 11 [.agg [.a6 false (fW L)],.v (.int .u16 n)] (fun _=> .v (.bool true)) (fun _=>[]):=by
 have CE:=qE
 have CM:=b27 L hL
 have hT:=b8i L hL
 generalize nK L=c at*
 have ho:=hT.s.ok
 have hn:=ho.n
 have hr:=ho.r
 have hsl:=hT.s.l
 have hSm:=b3C ho n
 have M1:=a9H c n ho
 obtain⟨l,hS⟩:∃l,l=someF c n:=⟨_,rfl⟩
 rw[←hS]at hSm M1
 have hSl:=hSm.len ho
 have M2:=gV c l (by omega) hT.a hT.l (fun b hb=>by have:=hsl b hb;omega) (by omega) (by omega) (fun q hq=>(hSm.r q hq).1)
 have hDR:=hT.mY l
 have hck:=dL (d:=m9 c l) hSm
 rw[if_pos rfl]at hck
 have hlv:=fun k hk hr=>a5K ho (l:=l) hSm.r (k:=k) hk hr
 obtain⟨d1,d2,d3⟩:=jW hT.s l
 have hdl:(m9 c l).b.length=c.b.length:=by unfold m9;split<;>simp
 obtain⟨D,hD⟩:∃D,m9 c l=D:=⟨_,rfl⟩
 rw[hD]at M2 hDR hck d1 d2 d3 hlv hdl
 have P3:=Y9 c D l hT hDR (by omega)
 rw[hck]at P3
 have F1:=pD c ho
 have F2:=pD D d1
 have F3:=mP c ho.succ (by omega)
 obtain⟨_,_,e1,e2⟩:=a5t ho
 obtain⟨_,_,e3,e4⟩:=a5t d1
 have b1:=fun z=>(pW ho z).1
 have b2:=fun z=>pW d1 z
 obtain⟨I,hI⟩:∃I,I=(liveF c).1:=⟨_,rfl⟩
 obtain⟨O,hO⟩:∃O,O=(liveF c).2:=⟨_,rfl⟩
 obtain⟨I',hI'⟩:∃I',I'=(liveF D).1:=⟨_,rfl⟩
 obtain⟨O',hO'⟩:∃O',O'=(liveF D).2:=⟨_,rfl⟩
 rw[←hI,←hO]at F1
 rw[←hI',←hO']at F2
 rw[←hI',←hI,←hO']at hlv
 rw[←hI]at e1 b1
 rw[←hI']at e3 b2
 rw[←hO']at e4 b2
 rw[hdl]at e3 e4
 have hrl:=T0 c.b
 simp only[Code.av]at CM M1 M2 P3 F1 F2 F3
 refine Zf Tryz.func11 Tryz.ntmps11 ?_
 repeat' (first|refine Za ?_|(with_reducible constructor<;>first|intro N hN mk hmk|intro N hN|intro h)|refine Zc CE ?_|refine Zc CM ?_|refine Zc M1 ?_|refine Zc M2 ?_|refine Zc P3 ?_|refine Zc F1 ?_|refine Zc F2 ?_|refine Zc F3 ?_|refine Zt dJ.d ?_|fail)
 all_goals first
  |omega
  |skip
 refine c8 (fun k=>⟨[.Z,.Z,.Z,.Z,.Z,.v (.bool true),.ptr 0 0 0,.a6 false (b7 l),.Z,.ptr 1 0 0,.ptr 2 0 0,.a6 false (o8 (reachF c.b)),.v (.int .i64 k),.Z,.Z,.Z,.Z,.Z,.Z,.Z,.Z,.Z,.Z,.Z,.Z,.Z,.Z,.Z,.Z,.Z,.Z,.Z,.Z,.Z,.Z,.Z,.Z,.Z,.Z,.Z,.Z,.Z,.Z,.Z,.Z,.Z,.Z,.Z,.Z,.Z,.Z,.Z,.Z,.Z,.Z,.Z,.Z,.Z,.Z,.Z,.Z,.Z,.Z,.Z,.Z,.Z,.Z,.Z,.Z,.Z,.Z,.Z,.Z,.Z,.Z,.Z,.Z,.Z,.Z,.Z,.Z,.Z,.Z,.Z,.Z,.Z,.Z,.Z,.Z,.Z,.Z,.Z,.Z,.Z,.Z,.Z,.Z,.Z,.Z,.Z,.Z,.Z,.Z,.Z,.Z,.Z,.Z,.Z,.Z,.Z,.Z,.Z,.Z,.Z,.Z,.Z,.Z,.Z,.Z,.Z,.Z,.Z,.Z,.Z,.Z,.Z,.Z,.Z,.Z,.Z,.Z,.Z,.Z,.Z,.Z,.Z,.Z,.Z],[(0,.live ⟨8,[[.v (.int .i64 c.group),.v (.int .i64 c.sub),.v (.int .i64 c.regs),.v (.int .i64 c.u7),.v (.int .i64 c.params),.a6 false (w6 c.c6),.a6 false (Proofs.YtgdoiokalfhjoaaGreatDoor.loops c.loops),.a6 false (p7 c.b)]],0⟩),(1,.live ⟨2,[[.a6 false (lists I),.a6 false (lists O)]],0⟩),(2,.live ⟨2,[[.a6 false (lists I'),.a6 false (lists O')]],0⟩)],3⟩) c.b.length (Zw [5,6,7,9,10,11,12] [64,248,256] dJ.d ?_) ?_
 ·rfl
 ·intro k hk
  by_cases hlt:k<c.b.length
  ·have hra:=O5 c.b hlt
   obtain⟨rb,hrb⟩:∃rb,(reachF c.b).getD k false=rb:=⟨_,rfl⟩
   rw[hrb]at hra
   repeat' (first|refine Za ?_|(with_reducible constructor<;>first|intro N hN mk hmk|intro N hN|intro h)|refine Zt (Zq dJ.d (Zq hrb (Zq hrl (Zq e1 (Zq e3 e4))))) ?_|fail)
   ·refine Zw [5,6,7,9,10,11,12] [0,1,2] (Zq dJ.d (Zq hrb (Zq hrl (Zq e1 (Zq e3 e4))))) ?_
    rfl
   ·have hrb2:(!rb)=false:=by assumption
    rw[Bool.not_eq_false']at hrb2
    have hR:=hra.1 hrb2
    obtain⟨g1,g2⟩:=hlv k hlt hR
    have hA1:=b1 k
    have hA2:=b2 k
    obtain⟨A,hA⟩:∃A,I.getD k []=A:=⟨_,rfl⟩
    obtain⟨A',hA'⟩:∃A',I'.getD k []=A':=⟨_,rfl⟩
    obtain⟨Q,hQ⟩:∃Q,O'.getD k []=Q:=⟨_,rfl⟩
    rw[hA]at hA1 g1
    rw[hA',hQ]at hA2
    rw[hA']at g1
    rw[hQ]at g2
    refine c8 (fun i=>⟨[.Z,.Z,.Z,.Z,.Z,.v (.bool true),.ptr 0 0 0,.a6 false (b7 l),.Z,.ptr 1 0 0,.ptr 2 0 0,.a6 false (o8 (reachF c.b)),.v (.int .i64 k),.own 3 0 (nD l (A.take i)).length,.v (.int .i64 i),.Z,.Z,.Z,.Z,.Z,.Z,.Z,.Z,.Z,.Z,.Z,.Z,.Z,.Z,.Z,.Z,.Z,.Z,.Z,.Z,.Z,.Z,.Z,.Z,.Z,.Z,.Z,.Z,.Z,.Z,.Z,.Z,.Z,.Z,.Z,.Z,.Z,.Z,.Z,.Z,.Z,.Z,.Z,.Z,.Z,.Z,.Z,.Z,.Z,.Z,.Z,.Z,.Z,.Z,.Z,.Z,.Z,.Z,.Z,.Z,.Z,.Z,.Z,.Z,.Z,.Z,.Z,.Z,.Z,.Z,.Z,.Z,.Z,.Z,.Z,.Z,.Z,.Z,.Z,.Z,.Z,.Z,.Z,.Z,.Z,.Z,.Z,.Z,.Z,.Z,.Z,.Z,.Z,.Z,.Z,.Z,.Z,.Z,.Z,.Z,.Z,.Z,.Z,.Z,.Z,.Z,.Z,.Z,.Z,.Z,.Z,.Z,.Z,.Z,.Z,.Z,.Z,.Z,.Z,.Z,.Z,.Z,.Z],[(0,.live ⟨8,[[.v (.int .i64 c.group),.v (.int .i64 c.sub),.v (.int .i64 c.regs),.v (.int .i64 c.u7),.v (.int .i64 c.params),.a6 false (w6 c.c6),.a6 false (Proofs.YtgdoiokalfhjoaaGreatDoor.loops c.loops),.a6 false (p7 c.b)]],0⟩),(1,.live ⟨2,[[.a6 false (lists I),.a6 false (lists O)]],0⟩),(2,.live ⟨2,[[.a6 false (lists I'),.a6 false (lists O')]],0⟩),(3,.live ⟨1,b7 (nD l (A.take i)),0⟩)],4⟩) A.length (Zw [5,6,7,9,10,11,12,13,14] [0,1,2,83] (Zq dJ.d (Zq hrb (Zq hrl (Zq e1 (Zq e3 e4))))) ?_) ?_
    ·rfl
    ·intro i hi
     have hol:=c2a l (A.take i)
     have htl:(A.take i).length≤i:=by rw[List.length_take];omega
     by_cases hil:i<A.length
     ·have K1:=jX l (A.getD i 0) (by omega)
      repeat' (first|refine Za ?_|(with_reducible constructor<;>first|intro N hN mk hmk|intro N hN|intro h)|refine Zc K1 ?_|refine Zt (Zq dJ.d (Zq hA (Zq hrb (Zq hrl (Zq e1 (Zq e3 e4)))))) ?_|fail)
      ·rw[c4V hil (by assumption),List.length_append]
       refine Zw [5,6,7,9,10,11,12,13,14] [0,1,2,236] (Zq dJ.d (Zq hA (Zq hrb (Zq hrl (Zq e1 (Zq e3 e4)))))) ?_
       rfl
      ·rw[c2b hil (Classical.not_not.1 (by assumption))]
       refine Zw [5,6,7,9,10,11,12,13,14] [0,1,2,3] (Zq dJ.d (Zq hA (Zq hrb (Zq hrl (Zq e1 (Zq e3 e4)))))) ?_
       rfl
     ·obtain rfl:i=A.length:=by omega
      rw[List.take_length,←g1]
      repeat' (first|refine Za ?_|(with_reducible constructor<;>first|intro N hN mk hmk|intro N hN|intro h)|refine Zt (Zq dJ.d (Zq hA (Zq hrb (Zq hrl (Zq e1 (Zq e3 e4)))))) ?_|fail)
      refine c8 (fun j=>⟨[.Z,.Z,.Z,.Z,.Z,.v (.bool true),.ptr 0 0 0,.a6 false (b7 l),.Z,.ptr 1 0 0,.ptr 2 0 0,.a6 false (o8 (reachF c.b)),.v (.int .i64 k),.own 3 0 A'.length,.Z,.v (.int .i64 j),.Z,.Z,.Z,.Z,.Z,.Z,.Z,.Z,.Z,.Z,.Z,.Z,.Z,.Z,.Z,.Z,.Z,.Z,.Z,.Z,.Z,.Z,.Z,.Z,.Z,.Z,.Z,.Z,.Z,.Z,.Z,.Z,.Z,.Z,.Z,.Z,.Z,.Z,.Z,.Z,.Z,.Z,.Z,.Z,.Z,.Z,.Z,.Z,.Z,.Z,.Z,.Z,.Z,.Z,.Z,.Z,.Z,.Z,.Z,.Z,.Z,.Z,.Z,.Z,.Z,.Z,.Z,.Z,.Z,.Z,.Z,.Z,.Z,.Z,.Z,.Z,.Z,.Z,.Z,.Z,.Z,.Z,.Z,.Z,.Z,.Z,.Z,.Z,.Z,.Z,.Z,.Z,.Z,.Z,.Z,.Z,.Z,.Z,.Z,.Z,.Z,.Z,.Z,.Z,.Z,.Z,.Z,.Z,.Z,.Z,.Z,.Z,.Z,.Z,.Z,.Z,.Z,.Z,.Z,.Z,.Z,.Z],[(0,.live ⟨8,[[.v (.int .i64 c.group),.v (.int .i64 c.sub),.v (.int .i64 c.regs),.v (.int .i64 c.u7),.v (.int .i64 c.params),.a6 false (w6 c.c6),.a6 false (Proofs.YtgdoiokalfhjoaaGreatDoor.loops c.loops),.a6 false (p7 c.b)]],0⟩),(1,.live ⟨2,[[.a6 false (lists I),.a6 false (lists O)]],0⟩),(2,.live ⟨2,[[.a6 false (lists I'),.a6 false (lists O')]],0⟩),(3,.live ⟨1,b7 A',0⟩)],4⟩) Q.length (Zw [5,6,7,9,10,11,12,13,15] [0,1,2,3] (Zq dJ.d (Zq hA (Zq hrb (Zq hrl (Zq e1 (Zq e3 e4)))))) ?_) ?_
      ·rfl
      ·intro j hj
       by_cases hjl:j<Q.length
       ·have K1:=jX l (Q.getD j 0) (by omega)
        rw[decide_eq_false (g2 _ (F6 hjl))]at K1
        repeat' (first|refine Za ?_|(with_reducible constructor<;>first|intro N hN mk hmk|intro N hN|intro h)|refine Zc K1 ?_|refine Zt (Zq dJ.d (Zq hQ (Zq hA' (Zq hrb (Zq hrl (Zq e1 (Zq e3 e4))))))) ?_|fail)
        refine Zw [5,6,7,9,10,11,12,13,15] [0,1,2,3] (Zq dJ.d (Zq hQ (Zq hA' (Zq hrb (Zq hrl (Zq e1 (Zq e3 e4))))))) ?_
        rfl
       ·obtain rfl:j=Q.length:=by omega
        have K2:=a9G A' A' (by omega)
        rw[show b8X A' A'=true from decide_eq_true rfl]at K2
        repeat' (first|refine Za ?_|(with_reducible constructor<;>first|intro N hN mk hmk|intro N hN|intro h)|(refine cX K2 rfl ?_ rfl ?_;(next=>(simp (disch:=omega) only[dJ.d,hQ,hA',hrb,hrl,e1,e3,e4,v8,Nat.reduceBEq,AV.plain,Nat.reduceAdd,Nat.reduceLeDiff,Nat.reduceLT,↓reduceIte,sF]<;>first|done|rfl)))|(refine bX K2 rfl ?_ rfl ?_;(next=>(simp (disch:=omega) only[dJ.d,hQ,hA',hrb,hrl,e1,e3,e4,v8,Nat.reduceBEq,AV.plain,Nat.reduceAdd,Nat.reduceLeDiff,Nat.reduceLT,↓reduceIte,sF]<;>first|done|rfl)))|refine Zt (Zq dJ.d (Zq hQ (Zq hA' (Zq hrb (Zq hrl (Zq e1 (Zq e3 e4))))))) ?_|fail)
        all_goals first
         |exact absurd trivial (by assumption)
         |(
           refine Zw [5,6,7,9,10,11,12] [0,1,2] (Zq dJ.d (Zq hQ (Zq hA' (Zq hrb (Zq hrl (Zq e1 (Zq e3 e4))))))) ?_
           rfl)
  ·obtain rfl:k=c.b.length:=by omega
   repeat' (first|refine Za ?_|(with_reducible constructor<;>first|intro N hN mk hmk|intro N hN|intro h)|refine Zt (Zq dJ.d (Zq hrl (Zq e1 (Zq e3 e4)))) ?_|fail)
end Go.Proofs.YtgdoiokalfhjoaaGreatDoor
end
