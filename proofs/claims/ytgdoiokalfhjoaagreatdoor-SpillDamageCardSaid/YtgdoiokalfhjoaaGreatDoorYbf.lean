/- Own work (by an AI agent; no person has read it): part of a proof of the seat YtgdoiokalfhjoaaGreatDoor. -/
import Derived.Test.YtgdoiokalfhjoaaGreatDoorYbd
import Derived.Test.YtgdoiokalfhjoaaGreatDoorYbe
set_option linter.unusedSimpArgs false
set_option linter.unusedVariables false
set_option maxRecDepth 100000
set_option maxHeartbeats 10000000
section
namespace Go.Proofs.YtgdoiokalfhjoaaGreatDoor
open Go.Ab
theorem c0U(L:List Int)(hL:y9 L):e8 Tryz.prog 42 [.agg [.a8 false (eR L)]] (fun _=> .agg (lL L).av) (fun _=>[]):=by
 have C0:=p0 L 0 (by omega) hL
 have C1:=p0 L 1 (by omega) hL
 have C2:=p0 L 2 (by omega) hL
 have h0:=j0 hL (show(0:Int)≤0 by omega)
 have h1:=j0 hL (show(0:Int)≤1 by omega)
 have h2:=j0 hL (show(0:Int)≤2 by omega)
 obtain⟨M0,hM⟩:∃M,M=X1 L:=⟨_,rfl⟩
 have hMK:=b2v L hL
 have hXM:=fun i=>b2I L hL i (b2v L hL i)
 obtain⟨Y,hY⟩:∃Y,Y=(fin (decide (0<(a7 L 2%3).toNat)) (jG (X1 L) (a7 L 2%3).toNat)).code:=⟨_,rfl⟩
 rw[show lL L=Y from hY.symm]
 rw[←hM]at hMK hY hXM
 unfold X1 at hM
 simp only[Int.zero_add,Int.reduceAdd]at C0 C1 C2
 generalize a7 L 0=x0 at*
 generalize a7 L 1=x1 at*
 generalize a7 L 2=x2 at*
 have hg:=c0z x0 h0.1
 have hgb:=b6O x0 h0.1
 obtain⟨z1,hz1⟩:∃z1,x1%3=z1:=⟨_,rfl⟩
 have hzb:0≤z1∧z1≤2:=by omega
 refine Zf Tryz.func42 Tryz.ntmps42 ?_
 repeat' (first|(guard_target=~ AK Tryz.prog _ _ _ _;refine mY (x:=Go.Code.seq (Go.Code.region 3 _ _) _) ⟨[.Z,.Z,.ptr 1 0 0,.ptr 0 0 0,.Z,.Z,.Z,.Z,.Z,.Z,.Z,.Z,.Z,.Z,.Z,.Z,.Z,.Z,.Z,.Z,.Z,.Z,.Z,.Z,.Z,.Z,.Z,.Z,.Z,.Z,.Z,.Z,.Z,.Z,.Z,.Z,.Z,.Z,.Z,.Z,.Z,.Z,.Z,.Z,.Z,.Z,.Z,.Z,.Z,.Z,.Z,.Z,.Z,.Z,.Z,.Z,.Z,.Z,.Z,.Z,.Z,.Z,.Z,.Z,.Z,.Z,.Z,.Z,.Z,.Z,.Z,.Z,.Z,.Z,.Z,.Z,.Z,.Z,.Z,.Z,.Z,.Z,.Z,.Z,.Z,.Z,.Z,.Z,.Z,.Z,.Z,.Z,.Z,.Z,.Z,.Z,.Z,.Z,.Z,.Z,.Z,.Z,.Z,.Z,.Z,.Z,.Z,.Z,.Z,.Z,.Z,.Z,.Z,.Z,.Z,.Z,.Z,.Z,.Z,.Z,.Z,.Z,.Z,.Z,.Z,.Z,.Z,.Z,.Z,.Z,.Z,.Z,.Z,.Z,.Z,.Z,.Z,.Z,.Z,.Z,.Z,.Z,.Z,.Z,.Z,.Z,.Z,.Z,.Z,.Z,.Z,.Z,.Z],[(0,.live ⟨10,[[.a8 false (eR L),.v (.int .i64 2),.v (.int .i64 (U7 x0)),.v (.int .i64 (qJ (U7 x0) z1.toNat 1)),.v (.int .i64 6),.v (.int .i64 0),.v (.int .i64 3),.a8 false (y4 dV),.a8 true [],.a8 true []]],0⟩),(1,.live l7)],2⟩ ?_ ?_)|refine Zl ?_|(with_reducible constructor<;>first|intro N hN mk hmk|intro N hN|intro h)|refine Zc a2D ?_|refine Ze C0 ?_|refine Ze C1 ?_|refine Ze C2 ?_|(refine Zw [2,3] [0,1] (Zq S4.d (Zq hg hz1)) ?_;first|rfl|(simp only[*,true_and,and_true,false_and,and_false,decide_true,decide_false,not_true_eq_false,not_false_eq_true];done)|(simp [*];done))|refine Zt (Zq S4.d (Zq hg hz1)) ?_|fail)
 ·refine H4 (fun i=>⟨[.Z,.Z,.ptr 1 0 0,.ptr 0 0 0,.v (.int .i64 (z1-i)),.Z,.Z,.Z,.Z,.Z,.Z,.Z,.Z,.Z,.Z,.Z,.Z,.Z,.Z,.Z,.Z,.Z,.Z,.Z,.Z,.Z,.Z,.Z,.Z,.Z,.Z,.Z,.Z,.Z,.Z,.Z,.Z,.Z,.Z,.Z,.Z,.Z,.Z,.Z,.Z,.Z,.Z,.Z,.Z,.Z,.Z,.Z,.Z,.Z,.Z,.Z,.Z,.Z,.Z,.Z,.Z,.Z,.Z,.Z,.Z,.Z,.Z,.Z,.Z,.Z,.Z,.Z,.Z,.Z,.Z,.Z,.Z,.Z,.Z,.Z,.Z,.Z,.Z,.Z,.Z,.Z,.Z,.Z,.Z,.Z,.Z,.Z,.Z,.Z,.Z,.Z,.Z,.Z,.Z,.Z,.Z,.Z,.Z,.Z,.Z,.Z,.Z,.Z,.Z,.Z,.Z,.Z,.Z,.Z,.Z,.Z,.Z,.Z,.Z,.Z,.Z,.Z,.Z,.Z,.Z,.Z,.Z,.Z,.Z,.Z,.Z,.Z,.Z,.Z,.Z,.Z,.Z,.Z,.Z,.Z,.Z,.Z,.Z,.Z,.Z,.Z,.Z,.Z,.Z,.Z,.Z,.Z,.Z],[(0,.live ⟨10,[[.a8 false (eR L),.v (.int .i64 2),.v (.int .i64 (U7 x0)),.v (.int .i64 (2^i)),.v (.int .i64 6),.v (.int .i64 0),.v (.int .i64 3),.a8 false (y4 dV),.a8 true [],.a8 true []]],0⟩),(1,.live l7)],2⟩) (fun ii=>Go.Ab.W0 ((fun i=>qJ (U7 x0) z1.toNat 1=qJ (U7 x0) (z1.toNat-i) (2^i)) ii)) z1.toNat (Zw [2,3,4] [40,8] (Zq S4.d (Zq hg hz1)) ?_) ?_ ?_
  ·simp only[Int.natCast_zero,Int.sub_zero,Int.pow_zero,l7]
  ·exact⟨by simp⟩
  ·intro i hi hI
   have hI:qJ (U7 x0) z1.toNat 1=qJ (U7 x0) (z1.toNat-i) (2^i):=hI.out
   have hpb:=c1m i (by omega)
   obtain⟨p,hp⟩:∃p:Int,p=2^i:=⟨_,rfl⟩
   rw[Int.pow_succ,←hp]
   rw[←hp]at hpb hI
   repeat' (first|refine Zl ?_|(with_reducible constructor<;>first|intro N hN mk hmk|intro N hN|intro h)|refine Zc a2D ?_|refine Ze C0 ?_|refine Ze C1 ?_|refine Ze C2 ?_|refine Zt (Zq S4.d (Zq hg hz1)) ?_|fail)
   ·refine⟨⟨?_⟩,?_⟩
    ·rw[hI,show z1.toNat-i=(z1.toNat-(i+1))+1 by omega,qJ,if_pos h,Int.pow_succ,←hp,Int.mul_comm]
    ·refine Zw [2,3,4] [0,1] (Zq S4.d (Zq hg hz1)) ?_
     simp only[show z1- ↑(i+1)=z1- ↑i-1 by omega,Int.mul_comm p 2]
   ·refine Zw [2,3] [0,1] (Zq S4.d (Zq hg hz1)) ?_
    rw[hI,a8X _ _ _ (.inr h)]
   ·refine Zw [2,3] [0,1] (Zq S4.d (Zq hg hz1)) ?_
    rw[hI,a8X _ _ _ (.inl (by omega))]
 ·obtain⟨z2,hz2⟩:∃z2,x2%3=z2:=⟨_,rfl⟩
  rw[hz2]at hY⊢
  have hzb2:0≤z2∧z2≤2:=by omega
  obtain⟨XR,hXR⟩:∃XR:Nat→List Row,XR=fun i=>a9c (decide (0<i)) (jG M0 i):=⟨_,rfl⟩
  clear C0 C1 C2
  refine l8 (fun i=>⟨[.Z,.Z,.ptr (XR i).length 0 0,.ptr 0 0 0,.Z,.v (.int .i64 (z2-i)),.Z,.Z,.Z,.Z,.Z,.Z,.Z,.Z,.Z,.Z,.Z,.Z,.Z,.Z,.Z,.Z,.Z,.Z,.Z,.Z,.Z,.Z,.Z,.Z,.Z,.Z,.Z,.Z,.Z,.Z,.Z,.Z,.Z,.Z,.Z,.Z,.Z,.Z,.Z,.Z,.Z,.Z,.Z,.Z,.Z,.Z,.Z,.Z,.Z,.Z,.Z,.Z,.Z,.Z,.Z,.Z,.Z,.Z,.Z,.Z,.Z,.Z,.Z,.Z,.Z,.Z,.Z,.Z,.Z,.Z,.Z,.Z,.Z,.Z,.Z,.Z,.Z,.Z,.Z,.Z,.Z,.Z,.Z,.Z,.Z,.Z,.Z,.Z,.Z,.Z,.Z,.Z,.Z,.Z,.Z,.Z,.Z,.Z,.Z,.Z,.Z,.Z,.Z,.Z,.Z,.Z,.Z,.Z,.Z,.Z,.Z,.Z,.Z,.Z,.Z,.Z,.Z,.Z,.Z,.Z,.Z,.Z,.Z,.Z,.Z,.Z,.Z,.Z,.Z,.Z,.Z,.Z,.Z,.Z,.Z,.Z,.Z,.Z,.Z,.Z,.Z,.Z,.Z,.Z,.Z,.Z,.Z],e9 0 (XR i++[l7]),((XR i).length+1)⟩) z2.toNat (Zw [2,3,5] [0,1] (Zq S4.d (Zq hg hz1)) ?_) ?_
  ·rw[hXR];simp only[jG,hM,a9c,X4,e9,l7,Nat.lt_irrefl,decide_false,Bool.false_eq_true,if_false,hz1,List.cons_append,List.nil_append,List.length_cons,List.length_nil,Nat.zero_add,Int.natCast_zero,Int.sub_zero]
  ·intro i hi
   obtain⟨S,hS⟩:∃S,S=jG M0 i:=⟨_,rfl⟩
   have hK:=hMK i
   rw[←hS]at hK
   obtain⟨XS,hXS⟩:∃XS,XS=XR i:=⟨_,rfl⟩
   obtain⟨XT,hXT⟩:∃XT,XT=XR (i+1):=⟨_,rfl⟩
   rw[←hXS,←hXT]
   obtain⟨SA,hSA⟩:∃SA,SA=bD (decide (0<i)) {S with at_:=S.at_+1} (a7 S.L S.at_%3):=⟨_,rfl⟩
   obtain⟨SB,hSB⟩:∃SB,SB=SA.jC:=⟨_,rfl⟩
   obtain⟨SC,hSC⟩:∃SC,SC=SB.fU:=⟨_,rfl⟩
   obtain⟨SD,hSD⟩:∃SD,SD=SA.jD:=⟨_,rfl⟩
   have hKA:=hXM i
   rw[←hS,←hSA]at hKA
   clear hXM
   have hT:XT=SC.rows:=by rw[hXT,hXR,hSC,hSB,hSA,hS];simp only[a9c,show decide (0<i+1)=true from by simp,if_true];rfl
   have hKn:=hK.next
   have hka:=hK.at_
   have hkb:=hK.bs
   have hKB:MK SB (3+200*i+108+41) (6*i+3+3) (i+1):=by rw[hSB];exact hKA.jC
   have hKAn:=hKA.next
   have hKal:=hKA.lo
   have hKab:=hKA.bs
   have hKBb:=hKB.bs
   have hKBa:=hKB.at_
   have hKAa:=hKA.at_
   have hok2:gD (MS.block (MS.loop {SA with at_:=SA.at_+1})) 700000:=(hKAn.loop.block).ok (by omega) (by omega) (by omega)
   have hKD:SD.bs.length≤800:=by
    rw[hSD];unfold MS.jD
    split
    ·have:=((hKAn.loop.block).c6 (by simp [MS.block,j4.l])).bs;omega
    ·show SA.bs.length≤800;omega
   have hRG:(0<i→XS=S.rows∧SA=MS.region {S with at_:=S.at_+1} (a7 S.L S.at_%3))∧(¬0<i→XS=X4 L 3 (U7 x0) (qJ (U7 x0) (x1%3).toNat 1) 6 0 3 dV∧SA=MS.fD ⟨L,3+1,U7 x0,qJ (U7 x0) (x1%3).toNat 1,6,0,3,dV,.nil,[],.nil,Q6⟩ (a7 L 3%3)∧gD ⟨L,3+1,U7 x0,qJ (U7 x0) (x1%3).toNat 1,6,0,3,dV,.nil,[],.nil,Q6⟩ 600000):=by
    refine⟨fun hi0=>⟨?_,?_⟩,fun hi0=>?_⟩
    ·rw[hXS,hXR];simp only[a9c,decide_eq_true hi0,if_true,←hS]
    ·rw[hSA];unfold bD;rw[if_pos (by simpa using hi0)]
    ·obtain rfl:i=0:=by omega
     have hS2:S=M0:=hS
     rw[hS2,hM]at hSA hKn
     refine⟨by rw[hXS,hXR];simp only[jG,a9c,Nat.lt_irrefl,decide_false,Bool.false_eq_true,if_false,hM],by rw[hSA];rfl,hKn.ok (by omega) (by omega) (by omega)⟩
   have G1:∀K:Exit→LS→Prop,AK (md:=false) Tryz.prog (pD (cR Tryz.f42) [1,1,1,1,0,1,0,0,1,0,0,0]) [] ⟨[.Z,.Z,.ptr XS.length 0 0,.ptr 0 0 0,.Z,.v (.int .i64 (z2-i)),.Z,.Z,.Z,.Z,.Z,.Z,.Z,.Z,.Z,.Z,.Z,.Z,.Z,.Z,.Z,.Z,.Z,.Z,.Z,.Z,.Z,.Z,.Z,.Z,.Z,.Z,.Z,.Z,.Z,.Z,.Z,.Z,.Z,.Z,.Z,.Z,.Z,.Z,.Z,.Z,.Z,.Z,.Z,.Z,.Z,.Z,.Z,.Z,.Z,.Z,.Z,.Z,.Z,.Z,.Z,.Z,.Z,.Z,.Z,.Z,.Z,.Z,.Z,.Z,.Z,.Z,.Z,.Z,.Z,.Z,.Z,.Z,.Z,.Z,.Z,.Z,.Z,.Z,.Z,.Z,.Z,.Z,.Z,.Z,.Z,.Z,.Z,.Z,.Z,.Z,.Z,.Z,.Z,.Z,.Z,.Z,.Z,.Z,.Z,.Z,.Z,.Z,.Z,.Z,.Z,.Z,.Z,.Z,.Z,.Z,.Z,.Z,.Z,.Z,.Z,.Z,.Z,.Z,.Z,.Z,.Z,.Z,.Z,.Z,.Z,.Z,.Z,.Z,.Z,.Z,.Z,.Z,.Z,.Z,.Z,.Z,.Z,.Z,.Z,.Z,.Z,.Z,.Z,.Z,.Z,.Z,.Z],e9 0 (XS++[l7]),XS.length+1+8+8⟩ (O9 (fun s'=>∃a:Unit,Go.Ab.W0 True∧N3 s' ⟨[.Z,.Z,.ptr SA.rows.length 0 0,.ptr 0 0 0,.Z,.v (.int .i64 (z2-i)),.Z,.Z,.Z,.Z,.Z,.Z,.Z,.Z,.Z,.Z,.Z,.Z,.Z,.Z,.Z,.Z,.Z,.Z,.Z,.Z,.Z,.Z,.Z,.Z,.Z,.Z,.Z,.Z,.Z,.Z,.Z,.Z,.Z,.Z,.Z,.Z,.Z,.Z,.Z,.Z,.Z,.Z,.Z,.Z,.Z,.Z,.Z,.Z,.Z,.Z,.Z,.Z,.Z,.Z,.Z,.Z,.Z,.Z,.Z,.Z,.Z,.Z,.Z,.Z,.Z,.Z,.Z,.Z,.Z,.Z,.Z,.Z,.Z,.Z,.Z,.Z,.Z,.Z,.Z,.Z,.Z,.Z,.Z,.Z,.Z,.Z,.Z,.Z,.Z,.Z,.Z,.Z,.Z,.Z,.Z,.Z,.Z,.Z,.Z,.Z,.Z,.Z,.Z,.Z,.Z,.Z,.Z,.Z,.Z,.Z,.Z,.Z,.Z,.Z,.Z,.Z,.Z,.Z,.Z,.Z,.Z,.Z,.Z,.Z,.Z,.Z,.Z,.Z,.Z,.Z,.Z,.Z,.Z,.Z,.Z,.Z,.Z,.Z,.Z,.Z,.Z,.Z,.Z,.Z,.Z,.Z,.Z],e9 0 (SA.rows++[l7]),SA.rows.length+1⟩) K):=by
    intro K
    by_cases hi0:0<i
    ·rw[(hRG.1 hi0).1]
     exact a8h S SA hK.L (by omega) (hKn.ok (by omega) (by omega) (by omega)) (by omega) (hRG.1 hi0).2
    ·obtain⟨e1,e2,e3⟩:=hRG.2 hi0
     rw[e1]
     exact a4g L 3 _ _ 6 0 3 dV SA hL (by omega) e3 e2
   have G4:∀K:Exit→LS→Prop,AK (md:=false) Tryz.prog (pD (cR Tryz.f42) [1,1,1,1,1,0]) [] ⟨[.Z,.Z,.ptr XS.length 0 0,.ptr 0 0 0,.Z,.Z,.Z,.Z,.Z,.Z,.Z,.Z,.Z,.Z,.Z,.Z,.Z,.Z,.Z,.Z,.Z,.Z,.Z,.Z,.Z,.Z,.Z,.Z,.Z,.Z,.Z,.Z,.Z,.Z,.Z,.Z,.Z,.Z,.Z,.Z,.Z,.Z,.Z,.Z,.Z,.Z,.Z,.Z,.Z,.Z,.Z,.Z,.Z,.Z,.Z,.Z,.Z,.Z,.Z,.Z,.Z,.Z,.Z,.Z,.Z,.Z,.Z,.Z,.Z,.Z,.Z,.Z,.Z,.Z,.Z,.Z,.Z,.Z,.Z,.Z,.Z,.Z,.Z,.Z,.Z,.Z,.Z,.Z,.Z,.Z,.Z,.Z,.Z,.Z,.Z,.Z,.Z,.Z,.Z,.Z,.Z,.Z,.Z,.Z,.Z,.Z,.Z,.Z,.Z,.Z,.Z,.Z,.Z,.Z,.Z,.Z,.Z,.Z,.Z,.Z,.Z,.Z,.Z,.Z,.Z,.Z,.Z,.Z,.Z,.Z,.Z,.Z,.Z,.Z,.Z,.Z,.Z,.Z,.Z,.Z,.Z,.Z,.Z,.Z,.Z,.Z,.Z,.Z,.Z,.Z,.Z,.Z,.Z],e9 0 (XS++[l7]),XS.length+1+8+8⟩ (O9 (fun s'=>∃a:Unit,Go.Ab.W0 True∧N3 s' ⟨[.Z,.Z,.ptr SA.rows.length 0 0,.ptr 0 0 0,.Z,.Z,.Z,.Z,.Z,.Z,.Z,.Z,.Z,.Z,.Z,.Z,.Z,.Z,.Z,.Z,.Z,.Z,.Z,.Z,.Z,.Z,.Z,.Z,.Z,.Z,.Z,.Z,.Z,.Z,.Z,.Z,.Z,.Z,.Z,.Z,.Z,.Z,.Z,.Z,.Z,.Z,.Z,.Z,.Z,.Z,.Z,.Z,.Z,.Z,.Z,.Z,.Z,.Z,.Z,.Z,.Z,.Z,.Z,.Z,.Z,.Z,.Z,.Z,.Z,.Z,.Z,.Z,.Z,.Z,.Z,.Z,.Z,.Z,.Z,.Z,.Z,.Z,.Z,.Z,.Z,.Z,.Z,.Z,.Z,.Z,.Z,.Z,.Z,.Z,.Z,.Z,.Z,.Z,.Z,.Z,.Z,.Z,.Z,.Z,.Z,.Z,.Z,.Z,.Z,.Z,.Z,.Z,.Z,.Z,.Z,.Z,.Z,.Z,.Z,.Z,.Z,.Z,.Z,.Z,.Z,.Z,.Z,.Z,.Z,.Z,.Z,.Z,.Z,.Z,.Z,.Z,.Z,.Z,.Z,.Z,.Z,.Z,.Z,.Z,.Z,.Z,.Z,.Z,.Z,.Z,.Z,.Z,.Z],e9 0 (SA.rows++[l7]),SA.rows.length+1⟩) K):=by
    intro K
    by_cases hi0:0<i
    ·rw[(hRG.1 hi0).1]
     exact a4h S SA hK.L (by omega) (hKn.ok (by omega) (by omega) (by omega)) (by omega) (hRG.1 hi0).2
    ·obtain⟨e1,e2,e3⟩:=hRG.2 hi0
     rw[e1]
     exact zW L 3 _ _ 6 0 3 dV SA hL (by omega) e3 e2
   have G2:∀K:Exit→LS→Prop,AK (md:=false) Tryz.prog (pD (cR Tryz.f42) [1,1,1,1,0,1,0,0,1,0,0,1,0]) [] ⟨[.Z,.Z,.ptr SA.rows.length 0 0,.ptr 0 0 0,.Z,.v (.int .i64 (z2-i)),.Z,.Z,.Z,.Z,.Z,.Z,.Z,.Z,.Z,.Z,.Z,.Z,.Z,.Z,.Z,.Z,.Z,.Z,.Z,.Z,.Z,.Z,.Z,.Z,.Z,.Z,.Z,.Z,.Z,.Z,.Z,.Z,.Z,.Z,.Z,.Z,.Z,.Z,.Z,.Z,.Z,.Z,.Z,.Z,.Z,.Z,.Z,.Z,.Z,.Z,.Z,.Z,.Z,.Z,.Z,.Z,.Z,.Z,.Z,.Z,.Z,.Z,.Z,.Z,.Z,.Z,.Z,.Z,.Z,.Z,.Z,.Z,.Z,.Z,.Z,.Z,.Z,.Z,.Z,.Z,.Z,.Z,.Z,.Z,.Z,.Z,.Z,.Z,.Z,.Z,.Z,.Z,.Z,.Z,.Z,.Z,.Z,.Z,.Z,.Z,.Z,.Z,.Z,.Z,.Z,.Z,.Z,.Z,.Z,.Z,.Z,.Z,.Z,.Z,.Z,.Z,.Z,.Z,.Z,.Z,.Z,.Z,.Z,.Z,.Z,.Z,.Z,.Z,.Z,.Z,.Z,.Z,.Z,.Z,.Z,.Z,.Z,.Z,.Z,.Z,.Z,.Z,.Z,.Z,.Z,.Z,.Z],e9 0 (SA.rows++[l7]),SA.rows.length+1⟩ (O9 (fun s'=>∃a:Unit,Go.Ab.W0 True∧N3 s' ⟨[.Z,.Z,.ptr SB.rows.length 0 0,.ptr 0 0 0,.Z,.v (.int .i64 (z2-i)),.Z,.Z,.Z,.Z,.Z,.Z,.Z,.Z,.Z,.Z,.Z,.Z,.Z,.Z,.Z,.Z,.Z,.Z,.Z,.Z,.Z,.Z,.Z,.Z,.Z,.Z,.Z,.Z,.Z,.Z,.Z,.Z,.Z,.Z,.Z,.Z,.Z,.Z,.Z,.Z,.Z,.Z,.Z,.Z,.Z,.Z,.Z,.Z,.Z,.Z,.Z,.Z,.Z,.Z,.Z,.Z,.Z,.Z,.Z,.Z,.Z,.Z,.Z,.Z,.Z,.Z,.Z,.Z,.Z,.Z,.Z,.Z,.Z,.Z,.Z,.Z,.Z,.Z,.Z,.Z,.Z,.Z,.Z,.Z,.Z,.Z,.Z,.Z,.Z,.Z,.Z,.Z,.Z,.Z,.Z,.Z,.Z,.Z,.Z,.Z,.Z,.Z,.Z,.Z,.Z,.Z,.Z,.Z,.Z,.Z,.Z,.Z,.Z,.Z,.Z,.Z,.Z,.Z,.Z,.Z,.Z,.Z,.Z,.Z,.Z,.Z,.Z,.Z,.Z,.Z,.Z,.Z,.Z,.Z,.Z,.Z,.Z,.Z,.Z,.Z,.Z,.Z,.Z,.Z,.Z,.Z,.Z],e9 0 (SB.rows++[l7]),SB.rows.length+1⟩) K):=fun K=>b3W SA SB hKA.L (by omega) (hKAn.ok (by omega) (by omega) (by omega)) (by omega) (by omega) hok2 hSB
   have G5:∀K:Exit→LS→Prop,AK (md:=false) Tryz.prog (pD (cR Tryz.f42) [1,1,1,1,1,1,0]) [] ⟨[.Z,.Z,.ptr SA.rows.length 0 0,.ptr 0 0 0,.Z,.Z,.Z,.Z,.Z,.Z,.Z,.Z,.Z,.Z,.Z,.Z,.Z,.Z,.Z,.Z,.Z,.Z,.Z,.Z,.Z,.Z,.Z,.Z,.Z,.Z,.Z,.Z,.Z,.Z,.Z,.Z,.Z,.Z,.Z,.Z,.Z,.Z,.Z,.Z,.Z,.Z,.Z,.Z,.Z,.Z,.Z,.Z,.Z,.Z,.Z,.Z,.Z,.Z,.Z,.Z,.Z,.Z,.Z,.Z,.Z,.Z,.Z,.Z,.Z,.Z,.Z,.Z,.Z,.Z,.Z,.Z,.Z,.Z,.Z,.Z,.Z,.Z,.Z,.Z,.Z,.Z,.Z,.Z,.Z,.Z,.Z,.Z,.Z,.Z,.Z,.Z,.Z,.Z,.Z,.Z,.Z,.Z,.Z,.Z,.Z,.Z,.Z,.Z,.Z,.Z,.Z,.Z,.Z,.Z,.Z,.Z,.Z,.Z,.Z,.Z,.Z,.Z,.Z,.Z,.Z,.Z,.Z,.Z,.Z,.Z,.Z,.Z,.Z,.Z,.Z,.Z,.Z,.Z,.Z,.Z,.Z,.Z,.Z,.Z,.Z,.Z,.Z,.Z,.Z,.Z,.Z,.Z,.Z],e9 0 (SA.rows++[l7]),SA.rows.length+1⟩ (O9 (fun s'=>∃a:Unit,Go.Ab.W0 True∧N3 s' ⟨[.Z,.Z,.ptr SD.rows.length 0 0,.ptr 0 0 0,.Z,.Z,.Z,.Z,.Z,.Z,.Z,.Z,.Z,.Z,.Z,.Z,.Z,.Z,.Z,.Z,.Z,.Z,.Z,.Z,.Z,.Z,.Z,.Z,.Z,.Z,.Z,.Z,.Z,.Z,.Z,.Z,.Z,.Z,.Z,.Z,.Z,.Z,.Z,.Z,.Z,.Z,.Z,.Z,.Z,.Z,.Z,.Z,.Z,.Z,.Z,.Z,.Z,.Z,.Z,.Z,.Z,.Z,.Z,.Z,.Z,.Z,.Z,.Z,.Z,.Z,.Z,.Z,.Z,.Z,.Z,.Z,.Z,.Z,.Z,.Z,.Z,.Z,.Z,.Z,.Z,.Z,.Z,.Z,.Z,.Z,.Z,.Z,.Z,.Z,.Z,.Z,.Z,.Z,.Z,.Z,.Z,.Z,.Z,.Z,.Z,.Z,.Z,.Z,.Z,.Z,.Z,.Z,.Z,.Z,.Z,.Z,.Z,.Z,.Z,.Z,.Z,.Z,.Z,.Z,.Z,.Z,.Z,.Z,.Z,.Z,.Z,.Z,.Z,.Z,.Z,.Z,.Z,.Z,.Z,.Z,.Z,.Z,.Z,.Z,.Z,.Z,.Z,.Z,.Z,.Z,.Z,.Z,.Z],e9 0 (SD.rows++[l7]),SD.rows.length+1⟩) K):=fun K=>a98 SA SD hKA.L (by omega) (hKAn.ok (by omega) (by omega) (by omega)) (by omega) (by omega) hok2 hSD
   have G3:∀K:Exit→LS→Prop,AK (md:=false) Tryz.prog (pD (cR Tryz.f42) [1,1,1,1,0,1,0,0,1,0,0,1,1]) [] ⟨[.Z,.Z,.ptr SB.rows.length 0 0,.ptr 0 0 0,.Z,.v (.int .i64 (z2-i)),.Z,.Z,.Z,.Z,.Z,.Z,.Z,.Z,.Z,.Z,.Z,.Z,.Z,.Z,.Z,.Z,.Z,.Z,.Z,.Z,.Z,.Z,.Z,.Z,.Z,.Z,.Z,.Z,.Z,.Z,.Z,.Z,.Z,.Z,.Z,.Z,.Z,.Z,.Z,.Z,.Z,.Z,.Z,.Z,.Z,.Z,.Z,.Z,.Z,.Z,.Z,.Z,.Z,.Z,.Z,.Z,.Z,.Z,.Z,.Z,.Z,.Z,.Z,.Z,.Z,.Z,.Z,.Z,.Z,.Z,.Z,.Z,.Z,.Z,.Z,.Z,.Z,.Z,.Z,.Z,.Z,.Z,.Z,.Z,.Z,.Z,.Z,.Z,.Z,.Z,.Z,.Z,.Z,.Z,.Z,.Z,.Z,.Z,.Z,.Z,.Z,.Z,.Z,.Z,.Z,.Z,.Z,.Z,.Z,.Z,.Z,.Z,.Z,.Z,.Z,.Z,.Z,.Z,.Z,.Z,.Z,.Z,.Z,.Z,.Z,.Z,.Z,.Z,.Z,.Z,.Z,.Z,.Z,.Z,.Z,.Z,.Z,.Z,.Z,.Z,.Z,.Z,.Z,.Z,.Z,.Z,.Z],e9 0 (SB.rows++[l7]),SB.rows.length+1⟩ (O9 (fun s'=>∃a:Unit,Go.Ab.W0 True∧N3 s' ⟨[.Z,.Z,.ptr XT.length 0 0,.ptr 0 0 0,.Z,.v (.int .i64 (z2-i)),.Z,.Z,.Z,.Z,.Z,.Z,.Z,.Z,.Z,.Z,.Z,.Z,.Z,.Z,.Z,.Z,.Z,.Z,.Z,.Z,.Z,.Z,.Z,.Z,.Z,.Z,.Z,.Z,.Z,.Z,.Z,.Z,.Z,.Z,.Z,.Z,.Z,.Z,.Z,.Z,.Z,.Z,.Z,.Z,.Z,.Z,.Z,.Z,.Z,.Z,.Z,.Z,.Z,.Z,.Z,.Z,.Z,.Z,.Z,.Z,.Z,.Z,.Z,.Z,.Z,.Z,.Z,.Z,.Z,.Z,.Z,.Z,.Z,.Z,.Z,.Z,.Z,.Z,.Z,.Z,.Z,.Z,.Z,.Z,.Z,.Z,.Z,.Z,.Z,.Z,.Z,.Z,.Z,.Z,.Z,.Z,.Z,.Z,.Z,.Z,.Z,.Z,.Z,.Z,.Z,.Z,.Z,.Z,.Z,.Z,.Z,.Z,.Z,.Z,.Z,.Z,.Z,.Z,.Z,.Z,.Z,.Z,.Z,.Z,.Z,.Z,.Z,.Z,.Z,.Z,.Z,.Z,.Z,.Z,.Z,.Z,.Z,.Z,.Z,.Z,.Z,.Z,.Z,.Z,.Z,.Z,.Z],e9 0 (XT++[l7]),XT.length+1⟩) K):=fun K=>by
    rw[hT]
    exact a97 SB SC hKB.L (by omega) (by omega) hSC (by omega)
   have GE:=b7k SD hKD
   have hYD:i=z2.toNat→Y=MS.code {SD with t:=jS}:=fun e=>by
    rw[hY,hSD,hSA,hS,e];rfl
   clear hKD hok2 hRG hKAn hKn hT hKA hK hKB hSA hSB hSC hSD hXS hXT hXR hM hMK
   repeat' (first|(guard_target=~ AK Tryz.prog (Go.Code.seq (Go.Code.region 23 _ _) _) _ _ _;refine gI [2,3] ?_;exact(by rw[hYD (by omega)];exact GE))|(guard_target=~ AK Tryz.prog (Go.Code.seq (Go.Code.region 19 _ _) _) _ _ _;refine gI [2,3] ?_;refine jN (fun _:Unit=>_) (fun _=>Go.Ab.W0 True) (G5 _) ?_;(with_reducible intro _ _))|(guard_target=~ AK Tryz.prog (Go.Code.region 18 _ _) _ _ _;refine gI [2,3] ?_;refine jN (fun _:Unit=>_) (fun _=>Go.Ab.W0 True) (G4 _) ?_;(with_reducible intro _ _))|(guard_target=~ AK Tryz.prog (Go.Code.seq (Go.Code.region 14 _ _) _) _ _ _;refine gI [2,3,5] ?_;refine jN (fun _:Unit=>_) (fun _=>Go.Ab.W0 True) (G3 _) ?_;(with_reducible intro _ _))|(guard_target=~ AK Tryz.prog (Go.Code.seq (Go.Code.region 11 _ _) _) _ _ _;refine gI [2,3,5] ?_;refine jN (fun _:Unit=>_) (fun _=>Go.Ab.W0 True) (G2 _) ?_;(with_reducible intro _ _))|(guard_target=~ AK Tryz.prog (Go.Code.region 10 _ _) _ _ _;refine gI [2,3,5] ?_;refine jN (fun _:Unit=>_) (fun _=>Go.Ab.W0 True) (G1 _) ?_;(with_reducible intro _ _))|refine Za ?_|(with_reducible constructor<;>first|intro N hN mk hmk|intro N hN|intro h)|refine Zt (Zq S4.d (Zq hg hz1)) ?_|fail)
   rw[show z2-((i+1:Nat):Int)=z2- ↑i-1 by omega]
   exact b0N [2,3,5] (fun p hp=>by have:=b2b _ 0 p hp;simpa using this) rfl
end Go.Proofs.YtgdoiokalfhjoaaGreatDoor
end
