/- Own work (by an AI agent; no person has read it): part of a proof of the seat YtgdoiokalfhjoaaDoor. -/
import Derived.Test.YtgdoiokalfhjoaaDoorXr
set_option linter.unusedSimpArgs false
set_option linter.unusedVariables false
set_option maxRecDepth 100000
set_option maxHeartbeats 10000000
section
namespace Go.Proofs.YtgdoiokalfhjoaaDoor
open Go.Ab
def qW:=ZZ.mk (Zq @E3 (Zq @I1 (Zq @Z1 (Zq @I1 (Zq @x8 (Zq @y7 (Zq @n3 (Zq @p0 (Zq @w8 (Zq @m7 (Zq @l8 (Zq @n9 (Zq @y8 (Zq @s6 (Zq @r8 (Zq @z8 (Zq @q9 (Zq @A2 (Zq @A1 (Zq @z7 (Zq @z6 (Zq @s5 (Zq @j0 (Zq @j3 (Zq @A6 (Zq @J8 (Zq @y4 (Zq @y0 @x6))))))))))))))))))))))))))))
def N8:=ZZ.mk (Zq qW.d (Zq @B1 (Zq @O0.eq_1 @c7)))
theorem a89(L:List Int)(at_ g su re sl pa:Int)(ar:List dG)(bs:List e8)(t:w4)(n:Int)(hn:0≤n∧n≤2)(h:fL ⟨L,at_,g,su,re,sl,pa,ar,.nil,bs,.nil,t⟩ 600000)(hb:bs.length+2≤900):y9 Tryd.prog 15 [.ptr 0 0 0,.v (.int .i64 n)] (MS.rows ⟨L,at_,g,su,re,sl,pa,ar,.nil,bs,.nil,t⟩) 1 (fun _:Unit=>True) (fun _=> .Q0 []) (fun _=>MS.O6 ⟨L,at_,g,su,re,sl,pa,ar,.nil,(bs++[⟨[],t⟩]),.nil,T0⟩ n):=by
 obtain⟨hL,h0,hb0,hi,ha,hal⟩:=h
 simp only at hL h0 ha hal
 clear hb0 hi
 have CB0:=E9 ⟨L,at_,g,su,re,sl,pa,ar,.nil,bs,.nil,t⟩ (by show bs.length≤1000;omega)
 obtain⟨last,hlast⟩:∃last:Int,last=((bs.length+1:Nat):Int)+n:=⟨_,rfl⟩
 obtain⟨SI,hSI⟩:∃SI,SI=MS.eL last ⟨L,at_,g,su,re,sl,pa,ar,.nil,(bs++[⟨[],t⟩]),.nil,T0⟩:=⟨_,rfl⟩
 have hR:MS.O6 ⟨L,at_,g,su,re,sl,pa,ar,.nil,(bs++[⟨[],t⟩]),.nil,T0⟩ n=(SI n.toNat).j5.rows:=by rw[hSI,hlast];unfold MS.O6 MS.eM;simp only[List.length_append,List.length_cons,List.length_nil,Nat.zero_add,Nat.reduceAdd]
 obtain⟨R,hR2⟩:∃R:List Row,R=MS.O6 ⟨L,at_,g,su,re,sl,pa,ar,.nil,(bs++[⟨[],t⟩]),.nil,T0⟩ n:=⟨_,rfl⟩
 rw[←hR2]
 rw[hR]at hR2
 clear hR
 simp only[MS.rows,MS.block,X8,c7,j8.cell,j8.rows,j8.l,j8.k,r6.cell,r6.rows,r6.l,List.cons_append,List.nil_append,List.append_nil]at CB0
 simp only[MS.rows,X8,j8.cell,j8.rows,j8.l,j8.k,r6.cell,r6.rows,r6.l,List.cons_append,List.nil_append,List.append_nil];refine Zf Tryd.func15 Tryd.ntmps15 ?_
 repeat' (first|refine Zl ?_|(with_reducible constructor<;>first|intro N hN mk hmk|intro N hN|intro h)|(refine Zp CB0 [0,1] qW.d ?_;with_reducible intro _ _)|refine Zt qW.d ?_|fail)
 refine v7 (fun i=>⟨[.ptr 0 0 0,.Z,.Z,.Z,.Z,.v (.int .i64 (((bs.length+1:Nat):Int)+n)),.v (.int .i64 (SI i).bs.length),.Z,.Z,.Z,.Z,.Z,.Z,.Z,.Z,.Z,.Z,.Z,.Z,.Z,.Z,.Z,.Z,.Z,.Z,.Z,.Z,.Z,.Z,.Z,.Z,.Z,.Z,.Z,.Z,.Z,.Z,.Z,.Z,.Z,.Z,.Z,.Z,.Z,.Z,.Z,.Z,.Z,.Z,.Z,.Z,.Z,.Z,.Z,.Z,.Z,.Z,.Z,.Z,.Z,.Z,.Z,.Z,.Z,.Z,.Z,.Z,.Z,.Z,.Z,.Z,.Z,.Z,.Z,.Z,.Z,.Z],U9 (SI i).rows,((SI i).rows.length+1)⟩) n.toNat (Zw [0,5,6] [0,16] qW.d ?_) ?_
 ·rw[hSI];simp only[MS.eL,MS.rows,U9,j7,E3,Z1,c7,j8.cell,j8.rows,j8.l,j8.k,r6.cell,r6.rows,r6.l,List.cons_append,List.nil_append,List.append_nil,List.length_cons,List.length_nil,Nat.reduceAdd,Int.natCast_zero,Int.add_zero]
 intro i hi2
 clear CB0
 obtain⟨a,bs',e,e1,e2,e3⟩:=T7 last ⟨L,at_,g,su,re,sl,pa,ar,.nil,(bs++[⟨[],t⟩]),.nil,T0⟩ hL h0.1 rfl rfl i
 have e0:=e
 rw[←hSI]at e0
 have ej:SI (i+1)=(SI i).fI last:=by rw[hSI];rfl
 have e1:at_≤a:=e1
 have e2:a≤at_+37*i:=e2
 simp only[List.length_append,List.length_cons,List.length_nil]at e3
 obtain⟨a1,ii,f,f1,f2,f3⟩:=J9 ⟨L,a,g,su,re,sl,pa,ar,.nil,bs',.nil,T0⟩ hL (by show 0≤a;omega)
 have f1:a+1≤a1:=f1
 have f2:a1≤a+33:=f2
 have f3:ii.l.length≤0+8:=f3
 have CI:=aU ⟨L,a,g,su,re,sl,pa,ar,.nil,bs',.nil,T0⟩ ⟨hL,by show 0≤a∧a≤_;omega,by show bs'.length≤_;omega,by show((0:Nat):Int)≤_;omega,ha,hal⟩
 rw[f]at CI
 simp only at CI f
 have CN1:=o9 L a1 (by omega) hL
 have CR:=Y4 L (a1+1) (by omega) hL
 have CN2:=o9 L (a1+1+1) (by omega) hL
 have CN3:=o9 L (a1+1+1+1) (by omega) hL
 have hx1:=j6 hL (show 0≤a1 by omega)
 have hx2:=j6 hL (show 0≤a1+1+1 by omega)
 have hx3:=j6 hL (show 0≤a1+1+1+1 by omega)
 have CB1:=E9 ⟨L,a1+1,g,su,re,sl,pa,ar,.nil,bs',ii,Q8 (bs'.length+1)⟩ (by show bs'.length≤_;omega)
 have CB2:=E9 ⟨L,a1+1+1+1+1,g,su,re,sl,pa,ar,.nil,bs',ii,E5 (G9 L (a1+1)) (bs'.length+1+a8 L (a1+1+1)%(last-bs'.length)) (bs'.length+1+a8 L (a1+1+1+1)%(last-bs'.length))⟩ (by show bs'.length≤_;omega)
 have er1:¬a8 L a1%2=0→(SI (i+1)).rows=(MS.block ⟨L,a1+1,g,su,re,sl,pa,ar,.nil,bs',ii,Q8 (bs'.length+1)⟩).rows:=fun hp=>by rw[ej,e0];unfold MS.fI;simp only;rw[f];simp only;rw[if_neg hp]
 have er2:a8 L a1%2=0→(SI (i+1)).rows=(MS.block ⟨L,a1+1+1+1+1,g,su,re,sl,pa,ar,.nil,bs',ii,E5 (G9 L (a1+1)) (bs'.length+1+a8 L (a1+1+1)%(last-bs'.length)) (bs'.length+1+a8 L (a1+1+1+1)%(last-bs'.length))⟩).rows:=fun hp=>by rw[ej,e0];unfold MS.fI;simp only;rw[f];simp only;rw[if_pos hp]
 have hR3:i=n.toNat→R=(MS.rows ⟨L,a1,g,su,re,sl,pa,ar,.nil,bs',ii,T0⟩):=fun hp=>by rw[hR2,←hp,e0,f]
 have elen:(SI (i+1)).bs.length=bs'.length+1:=by
  rw[hSI]
  obtain⟨_,_,e',_,_,e4⟩:=T7 last ⟨L,at_,g,su,re,sl,pa,ar,.nil,(bs++[⟨[],t⟩]),.nil,T0⟩ hL h0.1 rfl rfl (i+1)
  rw[e']
  simp only[List.length_append,List.length_cons,List.length_nil]at e4⊢
  omega
 obtain⟨R1,hR1⟩:∃R1,R1=(SI (i+1)).rows:=⟨_,rfl⟩
 rw[←hR1]at er1 er2⊢
 rw[elen,e0]
 clear f ej e e0 hSI hR2 elen hR1
 subst hlast
 generalize a8 L a1=x1 at*
 generalize a8 L (a1+1+1)=x2 at*
 generalize a8 L (a1+1+1+1)=x3 at*
 generalize G9 L (a1+1)=d at*
 obtain⟨dk,dn,dv⟩:=d
 cases ii
 all_goals simp only[MS.rows,MS.block,U9,j7,E3,H8.av,Q8,E5,O0,c7,j8.cell,j8.rows,j8.l,j8.k,r6.cell,r6.rows,r6.l,List.cons_append,List.nil_append,List.append_nil,List.length_cons,List.length_nil,Nat.reduceAdd]at CI CR CB1 CB2 er1 er2 hR3⊢
 all_goals simp only[w4.av]at CB1 CB2
 all_goals have hq2:=cT x2 (((bs.length+1:Nat):Int)+n-bs'.length) hx2.1
 all_goals have hq3:=cT x3 (((bs.length+1:Nat):Int)+n-bs'.length) hx3.1
 all_goals by_cases hp:x1%2=0
 ·repeat' (first|refine Zl ?_|(with_reducible constructor<;>first|intro N hN mk hmk|intro N hN|intro h)|(refine Zp CI [0,1] (Zq N8.d hp) ?_;with_reducible intro _ _)|refine Ze CN1 ?_|refine Ze CR ?_|refine Ze CN2 ?_|refine Ze CN3 ?_|(refine Zp CB2 [0,35] (Zq N8.d hp) ?_;with_reducible intro _ _)|refine Zt (Zq N8.d hp) ?_|fail)
  ·refine Zw [0,5,6] [0,435] (Zq N8.d hp) ?_
   rw[er2 hp]
   simp only[j7,List.cons_append,List.nil_append,List.length_cons,List.length_nil,Nat.reduceAdd,show((bs'.length+1:Nat):Int)=bs'.length+1 from rfl]
  ·rw[hR3 (by omega)]
   refine Zr (()) [0,35] (Zq N8.d hp) ?_
   trivial
 ·repeat' (first|refine Zl ?_|(with_reducible constructor<;>first|intro N hN mk hmk|intro N hN|intro h)|(refine Zp CI [0,1] (Zq N8.d hp) ?_;with_reducible intro _ _)|refine Ze CN1 ?_|(refine Zp CB1 [0,35] (Zq N8.d hp) ?_;with_reducible intro _ _)|refine Zt (Zq N8.d hp) ?_|fail)
  ·refine Zw [0,5,6] [0,187] (Zq N8.d hp) ?_
   rw[er1 hp]
   simp only[j7,List.cons_append,List.nil_append,List.length_cons,List.length_nil,Nat.reduceAdd,show((bs'.length+1:Nat):Int)=bs'.length+1 from rfl]
  ·rw[hR3 (by omega)]
   refine Zr (()) [0,35] (Zq N8.d hp) ?_
   trivial
 ·repeat' (first|refine Zl ?_|(with_reducible constructor<;>first|intro N hN mk hmk|intro N hN|intro h)|(refine Zp CI [0,1] (Zq N8.d hp) ?_;with_reducible intro _ _)|refine Ze CN1 ?_|refine Ze CR ?_|refine Ze CN2 ?_|refine Ze CN3 ?_|(refine Zp CB2 [0,35,36] (Zq N8.d hp) ?_;with_reducible intro _ _)|refine Zt (Zq N8.d hp) ?_|fail)
  ·refine Zw [0,5,6] [0,435] (Zq N8.d hp) ?_
   rw[er2 hp]
   simp only[j7,List.cons_append,List.nil_append,List.length_cons,List.length_nil,Nat.reduceAdd,show((bs'.length+1:Nat):Int)=bs'.length+1 from rfl]
  ·rw[hR3 (by omega)]
   refine Zr (()) [0,35,36] (Zq N8.d hp) ?_
   trivial
 ·repeat' (first|refine Zl ?_|(with_reducible constructor<;>first|intro N hN mk hmk|intro N hN|intro h)|(refine Zp CI [0,1] (Zq N8.d hp) ?_;with_reducible intro _ _)|refine Ze CN1 ?_|(refine Zp CB1 [0,35,36] (Zq N8.d hp) ?_;with_reducible intro _ _)|refine Zt (Zq N8.d hp) ?_|fail)
  ·refine Zw [0,5,6] [0,187] (Zq N8.d hp) ?_
   rw[er1 hp]
   simp only[j7,List.cons_append,List.nil_append,List.length_cons,List.length_nil,Nat.reduceAdd,show((bs'.length+1:Nat):Int)=bs'.length+1 from rfl]
  ·rw[hR3 (by omega)]
   refine Zr (()) [0,35,36] (Zq N8.d hp) ?_
   trivial
def qX:=ZZ.mk (Zq @E3 (Zq @I1 (Zq @Z1 (Zq @I1 (Zq @x8 (Zq @y7 (Zq @n3 (Zq @p0 (Zq @w8 (Zq @m7 (Zq @l8 (Zq @n9 (Zq @y8 (Zq @s6 (Zq @r8 (Zq @z8 (Zq @q9 (Zq @A2 (Zq @A1 (Zq @z7 (Zq @z6 (Zq @s5 (Zq @j0 (Zq @j3 (Zq @A6 (Zq @J8 (Zq @y4 (Zq @y0 @x6))))))))))))))))))))))))))))
def N9:=ZZ.mk (Zq qX.d (Zq @B1 (Zq @O0.eq_1 @c7)))
theorem a9a(L:List Int)(at_ g su re sl pa:Int)(ar:List dG)(li:List l0)(bs:List e8)(t:w4)(n:Int)(hn:0≤n∧n≤2)(h:fL ⟨L,at_,g,su,re,sl,pa,ar,.nil,bs,.own li,t⟩ 600000)(hb:bs.length+2≤900):y9 Tryd.prog 15 [.ptr 0 0 0,.v (.int .i64 n)] (MS.rows ⟨L,at_,g,su,re,sl,pa,ar,.nil,bs,.own li,t⟩) 1 (fun _:Unit=>True) (fun _=> .Q0 []) (fun _=>MS.O6 ⟨L,at_,g,su,re,sl,pa,ar,.nil,(bs++[⟨li,t⟩]),.nil,T0⟩ n):=by
 obtain⟨hL,h0,hb0,hi,ha,hal⟩:=h
 simp only at hL h0 ha hal
 clear hb0 hi
 have CB0:=E9 ⟨L,at_,g,su,re,sl,pa,ar,.nil,bs,.own li,t⟩ (by show bs.length≤1000;omega)
 obtain⟨last,hlast⟩:∃last:Int,last=((bs.length+1:Nat):Int)+n:=⟨_,rfl⟩
 obtain⟨SI,hSI⟩:∃SI,SI=MS.eL last ⟨L,at_,g,su,re,sl,pa,ar,.nil,(bs++[⟨li,t⟩]),.nil,T0⟩:=⟨_,rfl⟩
 have hR:MS.O6 ⟨L,at_,g,su,re,sl,pa,ar,.nil,(bs++[⟨li,t⟩]),.nil,T0⟩ n=(SI n.toNat).j5.rows:=by rw[hSI,hlast];unfold MS.O6 MS.eM;simp only[List.length_append,List.length_cons,List.length_nil,Nat.zero_add,Nat.reduceAdd]
 obtain⟨R,hR2⟩:∃R:List Row,R=MS.O6 ⟨L,at_,g,su,re,sl,pa,ar,.nil,(bs++[⟨li,t⟩]),.nil,T0⟩ n:=⟨_,rfl⟩
 rw[←hR2]
 rw[hR]at hR2
 clear hR
 simp only[MS.rows,MS.block,X8,c7,j8.cell,j8.rows,j8.l,j8.k,r6.cell,r6.rows,r6.l,List.cons_append,List.nil_append,List.append_nil]at CB0
 simp only[MS.rows,X8,j8.cell,j8.rows,j8.l,j8.k,r6.cell,r6.rows,r6.l,List.cons_append,List.nil_append,List.append_nil];refine Zf Tryd.func15 Tryd.ntmps15 ?_
 repeat' (first|refine Zl ?_|(with_reducible constructor<;>first|intro N hN mk hmk|intro N hN|intro h)|(refine Zp CB0 [0,1,2] qX.d ?_;with_reducible intro _ _)|refine Zt qX.d ?_|fail)
 refine v7 (fun i=>⟨[.ptr 0 0 0,.Z,.Z,.Z,.Z,.v (.int .i64 (((bs.length+1:Nat):Int)+n)),.v (.int .i64 (SI i).bs.length),.Z,.Z,.Z,.Z,.Z,.Z,.Z,.Z,.Z,.Z,.Z,.Z,.Z,.Z,.Z,.Z,.Z,.Z,.Z,.Z,.Z,.Z,.Z,.Z,.Z,.Z,.Z,.Z,.Z,.Z,.Z,.Z,.Z,.Z,.Z,.Z,.Z,.Z,.Z,.Z,.Z,.Z,.Z,.Z,.Z,.Z,.Z,.Z,.Z,.Z,.Z,.Z,.Z,.Z,.Z,.Z,.Z,.Z,.Z,.Z,.Z,.Z,.Z,.Z,.Z,.Z,.Z,.Z,.Z,.Z],U9 (SI i).rows,((SI i).rows.length+1)⟩) n.toNat (Zw [0,5,6] [0,16] qX.d ?_) ?_
 ·rw[hSI];simp only[MS.eL,MS.rows,U9,j7,E3,Z1,c7,j8.cell,j8.rows,j8.l,j8.k,r6.cell,r6.rows,r6.l,List.cons_append,List.nil_append,List.append_nil,List.length_cons,List.length_nil,Nat.reduceAdd,Int.natCast_zero,Int.add_zero]
 intro i hi2
 clear CB0
 obtain⟨a,bs',e,e1,e2,e3⟩:=T7 last ⟨L,at_,g,su,re,sl,pa,ar,.nil,(bs++[⟨li,t⟩]),.nil,T0⟩ hL h0.1 rfl rfl i
 have e0:=e
 rw[←hSI]at e0
 have ej:SI (i+1)=(SI i).fI last:=by rw[hSI];rfl
 have e1:at_≤a:=e1
 have e2:a≤at_+37*i:=e2
 simp only[List.length_append,List.length_cons,List.length_nil]at e3
 obtain⟨a1,ii,f,f1,f2,f3⟩:=J9 ⟨L,a,g,su,re,sl,pa,ar,.nil,bs',.nil,T0⟩ hL (by show 0≤a;omega)
 have f1:a+1≤a1:=f1
 have f2:a1≤a+33:=f2
 have f3:ii.l.length≤0+8:=f3
 have CI:=aU ⟨L,a,g,su,re,sl,pa,ar,.nil,bs',.nil,T0⟩ ⟨hL,by show 0≤a∧a≤_;omega,by show bs'.length≤_;omega,by show((0:Nat):Int)≤_;omega,ha,hal⟩
 rw[f]at CI
 simp only at CI f
 have CN1:=o9 L a1 (by omega) hL
 have CR:=Y4 L (a1+1) (by omega) hL
 have CN2:=o9 L (a1+1+1) (by omega) hL
 have CN3:=o9 L (a1+1+1+1) (by omega) hL
 have hx1:=j6 hL (show 0≤a1 by omega)
 have hx2:=j6 hL (show 0≤a1+1+1 by omega)
 have hx3:=j6 hL (show 0≤a1+1+1+1 by omega)
 have CB1:=E9 ⟨L,a1+1,g,su,re,sl,pa,ar,.nil,bs',ii,Q8 (bs'.length+1)⟩ (by show bs'.length≤_;omega)
 have CB2:=E9 ⟨L,a1+1+1+1+1,g,su,re,sl,pa,ar,.nil,bs',ii,E5 (G9 L (a1+1)) (bs'.length+1+a8 L (a1+1+1)%(last-bs'.length)) (bs'.length+1+a8 L (a1+1+1+1)%(last-bs'.length))⟩ (by show bs'.length≤_;omega)
 have er1:¬a8 L a1%2=0→(SI (i+1)).rows=(MS.block ⟨L,a1+1,g,su,re,sl,pa,ar,.nil,bs',ii,Q8 (bs'.length+1)⟩).rows:=fun hp=>by rw[ej,e0];unfold MS.fI;simp only;rw[f];simp only;rw[if_neg hp]
 have er2:a8 L a1%2=0→(SI (i+1)).rows=(MS.block ⟨L,a1+1+1+1+1,g,su,re,sl,pa,ar,.nil,bs',ii,E5 (G9 L (a1+1)) (bs'.length+1+a8 L (a1+1+1)%(last-bs'.length)) (bs'.length+1+a8 L (a1+1+1+1)%(last-bs'.length))⟩).rows:=fun hp=>by rw[ej,e0];unfold MS.fI;simp only;rw[f];simp only;rw[if_pos hp]
 have hR3:i=n.toNat→R=(MS.rows ⟨L,a1,g,su,re,sl,pa,ar,.nil,bs',ii,T0⟩):=fun hp=>by rw[hR2,←hp,e0,f]
 have elen:(SI (i+1)).bs.length=bs'.length+1:=by
  rw[hSI]
  obtain⟨_,_,e',_,_,e4⟩:=T7 last ⟨L,at_,g,su,re,sl,pa,ar,.nil,(bs++[⟨li,t⟩]),.nil,T0⟩ hL h0.1 rfl rfl (i+1)
  rw[e']
  simp only[List.length_append,List.length_cons,List.length_nil]at e4⊢
  omega
 obtain⟨R1,hR1⟩:∃R1,R1=(SI (i+1)).rows:=⟨_,rfl⟩
 rw[←hR1]at er1 er2⊢
 rw[elen,e0]
 clear f ej e e0 hSI hR2 elen hR1
 subst hlast
 generalize a8 L a1=x1 at*
 generalize a8 L (a1+1+1)=x2 at*
 generalize a8 L (a1+1+1+1)=x3 at*
 generalize G9 L (a1+1)=d at*
 obtain⟨dk,dn,dv⟩:=d
 cases ii
 all_goals simp only[MS.rows,MS.block,U9,j7,E3,H8.av,Q8,E5,O0,c7,j8.cell,j8.rows,j8.l,j8.k,r6.cell,r6.rows,r6.l,List.cons_append,List.nil_append,List.append_nil,List.length_cons,List.length_nil,Nat.reduceAdd]at CI CR CB1 CB2 er1 er2 hR3⊢
 all_goals simp only[w4.av]at CB1 CB2
 all_goals have hq2:=cT x2 (((bs.length+1:Nat):Int)+n-bs'.length) hx2.1
 all_goals have hq3:=cT x3 (((bs.length+1:Nat):Int)+n-bs'.length) hx3.1
 all_goals by_cases hp:x1%2=0
 ·repeat' (first|refine Zl ?_|(with_reducible constructor<;>first|intro N hN mk hmk|intro N hN|intro h)|(refine Zp CI [0,1] (Zq N9.d hp) ?_;with_reducible intro _ _)|refine Ze CN1 ?_|refine Ze CR ?_|refine Ze CN2 ?_|refine Ze CN3 ?_|(refine Zp CB2 [0,35] (Zq N9.d hp) ?_;with_reducible intro _ _)|refine Zt (Zq N9.d hp) ?_|fail)
  ·refine Zw [0,5,6] [0,435] (Zq N9.d hp) ?_
   rw[er2 hp]
   simp only[j7,List.cons_append,List.nil_append,List.length_cons,List.length_nil,Nat.reduceAdd,show((bs'.length+1:Nat):Int)=bs'.length+1 from rfl]
  ·rw[hR3 (by omega)]
   refine Zr (()) [0,35] (Zq N9.d hp) ?_
   trivial
 ·repeat' (first|refine Zl ?_|(with_reducible constructor<;>first|intro N hN mk hmk|intro N hN|intro h)|(refine Zp CI [0,1] (Zq N9.d hp) ?_;with_reducible intro _ _)|refine Ze CN1 ?_|(refine Zp CB1 [0,35] (Zq N9.d hp) ?_;with_reducible intro _ _)|refine Zt (Zq N9.d hp) ?_|fail)
  ·refine Zw [0,5,6] [0,187] (Zq N9.d hp) ?_
   rw[er1 hp]
   simp only[j7,List.cons_append,List.nil_append,List.length_cons,List.length_nil,Nat.reduceAdd,show((bs'.length+1:Nat):Int)=bs'.length+1 from rfl]
  ·rw[hR3 (by omega)]
   refine Zr (()) [0,35] (Zq N9.d hp) ?_
   trivial
 ·repeat' (first|refine Zl ?_|(with_reducible constructor<;>first|intro N hN mk hmk|intro N hN|intro h)|(refine Zp CI [0,1] (Zq N9.d hp) ?_;with_reducible intro _ _)|refine Ze CN1 ?_|refine Ze CR ?_|refine Ze CN2 ?_|refine Ze CN3 ?_|(refine Zp CB2 [0,35,36] (Zq N9.d hp) ?_;with_reducible intro _ _)|refine Zt (Zq N9.d hp) ?_|fail)
  ·refine Zw [0,5,6] [0,435] (Zq N9.d hp) ?_
   rw[er2 hp]
   simp only[j7,List.cons_append,List.nil_append,List.length_cons,List.length_nil,Nat.reduceAdd,show((bs'.length+1:Nat):Int)=bs'.length+1 from rfl]
  ·rw[hR3 (by omega)]
   refine Zr (()) [0,35,36] (Zq N9.d hp) ?_
   trivial
 ·repeat' (first|refine Zl ?_|(with_reducible constructor<;>first|intro N hN mk hmk|intro N hN|intro h)|(refine Zp CI [0,1] (Zq N9.d hp) ?_;with_reducible intro _ _)|refine Ze CN1 ?_|(refine Zp CB1 [0,35,36] (Zq N9.d hp) ?_;with_reducible intro _ _)|refine Zt (Zq N9.d hp) ?_|fail)
  ·refine Zw [0,5,6] [0,187] (Zq N9.d hp) ?_
   rw[er1 hp]
   simp only[j7,List.cons_append,List.nil_append,List.length_cons,List.length_nil,Nat.reduceAdd,show((bs'.length+1:Nat):Int)=bs'.length+1 from rfl]
  ·rw[hR3 (by omega)]
   refine Zr (()) [0,35,36] (Zq N9.d hp) ?_
   trivial
end Go.Proofs.YtgdoiokalfhjoaaDoor
end
