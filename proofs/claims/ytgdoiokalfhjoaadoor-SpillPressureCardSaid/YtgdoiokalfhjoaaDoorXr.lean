/- Own work (by an AI agent; no person has read it): part of a proof of the seat YtgdoiokalfhjoaaDoor. -/
import Derived.Test.YtgdoiokalfhjoaaDoorXp
import Derived.Test.YtgdoiokalfhjoaaDoorXq
set_option linter.unusedSimpArgs false
set_option linter.unusedVariables false
set_option maxRecDepth 100000
set_option maxHeartbeats 10000000
section
namespace Go.Proofs.YtgdoiokalfhjoaaDoor
open Go.Ab
theorem fL.mono{S:MS}{n m:Int}(h:fL S n)(hnm:n≤m):fL S m:=⟨h.L,⟨h.at_.1,by have:=h.at_;omega⟩,h.bs,by have:=h.il;omega,h.ar,h.al⟩
theorem b3c(S:MS)(h:fL S 800000):y9 Tryd.prog 42 [.ptr 0 0 0] S.rows 1 (fun _:Unit=>True) (fun _=> .Q0 []) (fun _=>S.inst.rows):=by
 have hx:0≤a8 S.L S.at_%16∧a8 S.L S.at_%16<16:=by omega
 obtain⟨L,at_,g,su,re,sl,pa,ar,lo,bs,ii,t⟩:=S
 have h9:=h.mono (show(800000:Int)≤900000 by omega)
 simp only at hx
 have cs:a8 L at_%16<3∨(¬a8 L at_%16<3∧a8 L at_%16<7)∨a8 L at_%16=7∨a8 L at_%16=8∨a8 L at_%16=9∨a8 L at_%16=10∨a8 L at_%16=11∨a8 L at_%16=12∨a8 L at_%16=13∨14≤a8 L at_%16:=by omega
 rcases cs with c|c|c|c|c|c|c|c|c|c
 ·exact b1e L at_ g su re sl pa ar lo ii bs t h9 c
 ·exact b1f L at_ g su re sl pa ar lo ii bs t h9 c
 ·exact b1g L at_ g su re sl pa ar lo ii bs t h9 c
 ·exact b1h L at_ g su re sl pa ar lo ii bs t h9 c
 ·exact b1i L at_ g su re sl pa ar lo ii bs t h9 c
 ·exact b1j L at_ g su re sl pa ar lo ii bs t h9 c
 ·exact b1k L at_ g su re sl pa ar lo ii bs t h9 c
 ·exact b1l L at_ g su re sl pa ar lo ii bs t h c
 ·exact b1m L at_ g su re sl pa ar lo ii bs t h c
 ·exact b1n L at_ g su re sl pa ar lo ii bs t h c
theorem a7w(l:List l0):(j8.own l).l=l:=rfl
theorem pA(S:MS):∃a l,S.inst=⟨S.L,a,S.g,S.su,S.re,S.sl,S.pa,S.ar,S.lo,S.bs,.own l,S.t⟩∧S.at_+1≤a∧a≤S.at_+8∧S.i.l.length+1≤l.length∧l.length≤S.i.l.length+2∧∀x∈S.i.l,x∈l:=by
 by_cases h:a8 S.L S.at_%16<12
 ·have e:S.inst={S with at_:=fU S.L S.at_}.put (X4 S.L S.at_):=by unfold MS.inst;simp only;rw[if_pos h]
  refine⟨_,_,by rw[e];rfl,?_,?_,by simp,by simp,fun x hx=>by simp [hx]⟩
  ·unfold fU;simp only;(repeat' split)<;>omega
  ·unfold fU;simp only;(repeat' split)<;>omega
 ·have e:S.inst=(fun S2:MS=>{S2 with at_:=if a8 S.L S.at_%16=12 then S2.at_+1+1 else S2.at_+1}.put (fV S.L (a8 S.L S.at_%16) S2.at_ (pn {S with at_:=S.at_+1} (decide (¬a8 S.L S.at_%16=12))) (G9 S.L (S.at_+1+1)))) ((MS.place {S with at_:=S.at_+1} (decide (¬a8 S.L S.at_%16=12)))):=by
   unfold MS.inst;simp only;rw[if_neg h]
  refine⟨_,_,by rw[e];rfl,?_,?_,by simp [MS.place,MS.put,a7w]<;>omega,by simp [MS.place,MS.put,a7w]<;>omega,fun x hx=>by simp [MS.place,MS.put,a7w,hx]⟩
  ·simp only[MS.place,MS.put];split<;>omega
  ·simp only[MS.place,MS.put];split<;>omega
def MS.iter(S:MS):Nat→MS
 |0=>S
 |i+1=>(S.iter i).inst
def MS.j5(S:MS):MS:=MS.iter {S with at_:=S.at_+1} (a8 S.L S.at_%5).toNat
theorem zO(S:MS):∀i:Nat,∃a ii,S.iter i=⟨S.L,a,S.g,S.su,S.re,S.sl,S.pa,S.ar,S.lo,S.bs,ii,S.t⟩∧S.at_≤a∧a≤S.at_+8*i∧ii.l.length≤S.i.l.length+2*i:=by
 intro i
 induction i with
 |zero=>exact⟨S.at_,S.i,rfl,by omega,by omega,by omega⟩
 |succ i ih=>
  obtain⟨a,ii,e,h1,h2,h3⟩:=ih
  obtain⟨a',l,e',g1,g2,g3,g4,_⟩:=pA (S.iter i)
  rw[e]at e' g1 g2 g3 g4
  have g1:a+1≤a':=g1
  have g2:a'≤a+8:=g2
  have g4:l.length≤ii.l.length+2:=g4
  refine⟨a',.own l,?_,?_,?_,?_⟩
  ·simp only[MS.iter,e,e']
  ·omega
  ·omega
  ·simp only[a7w];omega
def U9(rs:List Row):List (Nat×RS):=j7 0 rs++[(rs.length,.u3 99 [.ptr 0 0 0])]
def MS.b1o(S:MS):List Row:=S.j5.rows
def cG:=ZZ.mk (Zq @I1 (Zq @x8 (Zq @y7 (Zq @n3 (Zq @p0 (Zq @w8 (Zq @m7 (Zq @l8 (Zq @n9 (Zq @y8 (Zq @s6 (Zq @r8 (Zq @z8 (Zq @q9 (Zq @A2 (Zq @A1 (Zq @z7 (Zq @z6 (Zq @s5 (Zq @j0 (Zq @j3 (Zq @A6 (Zq @J8 (Zq @y4 (Zq @y0 @x6)))))))))))))))))))))))))
theorem b3d(L:List Int)(at_ g su re sl pa:Int)(ar:List dG)(lo:r6)(ii:j8)(bs:List e8)(t:w4)(h:fL ⟨L,at_,g,su,re,sl,pa,ar,lo,bs,ii,t⟩ 700000):y9 Tryd.prog 20 [.ptr 0 0 0] (MS.rows ⟨L,at_,g,su,re,sl,pa,ar,lo,bs,ii,t⟩) 1 (fun _:Unit=>True) (fun _=> .Q0 []) (fun _=>(MS.b1o ⟨L,at_,g,su,re,sl,pa,ar,lo,bs,ii,t⟩)):=by
 obtain⟨hL,h0,hb,hi,ha,hal⟩:=h
 dsimp only at hL h0 hb hi ha hal
 have hx:=j6 hL h0.1
 have C1:=o9 L at_ (by omega) hL
 have hR:MS.b1o ⟨L,at_,g,su,re,sl,pa,ar,lo,bs,ii,t⟩=(MS.iter ⟨L,at_+1,g,su,re,sl,pa,ar,lo,bs,ii,t⟩ (a8 L at_%5).toNat).rows:=rfl
 rw[hR];clear hR
 generalize a8 L at_=x at*
 obtain⟨n,hn⟩:∃n,x%5=n:=⟨_,rfl⟩
 rw[hn]
 have hn5:0≤n∧n<5:=by omega
 obtain⟨SI,hSI⟩:∃SI,SI=MS.iter ⟨L,at_+1,g,su,re,sl,pa,ar,lo,bs,ii,t⟩:=⟨_,rfl⟩
 obtain⟨R,hR⟩:∃R:List Row,R=(SI n.toNat).rows:=⟨_,rfl⟩
 rw[←hSI,←hR]
 have IT:=fun i:Nat=>zO ⟨L,at_+1,g,su,re,sl,pa,ar,lo,bs,ii,t⟩ i
 have INO:=fun a i2=>b3c ⟨L,a,g,su,re,sl,pa,ar,lo,bs,i2,t⟩
 have INF:=fun a i2=>pA ⟨L,a,g,su,re,sl,pa,ar,lo,bs,i2,t⟩
 have hil:(ii.l.length:Int)≤700000:=hi
 rcases lo with _|ll<;>rcases ii with _|li
 all_goals
  simp only[MS.rows,j8.cell,j8.rows,j8.l,j8.k,r6.cell,r6.rows,r6.l,List.cons_append,List.nil_append,List.append_nil];refine Zf Tryd.func20 Tryd.ntmps20 ?_
  repeat' (first|refine Zl ?_|(with_reducible constructor<;>first|intro N hN mk hmk|intro N hN|intro h)|refine Ze C1 ?_|refine Zt (Zq cG.d (Zq hn ha)) ?_|fail)
  (first|(refine v7 (fun i=>⟨[.ptr 0 0 0,.Z,.v (.int .i64 (n-i)),.Z,.Z,.Z,.Z,.Z,.Z,.Z,.Z,.Z],U9 (SI i).rows,((SI i).rows.length+1)⟩) n.toNat (Zw [0,2] [0,1,2,3] (Zq cG.d (Zq hn ha)) ?_) ?_)|(refine v7 (fun i=>⟨[.ptr 0 0 0,.Z,.v (.int .i64 (n-i)),.Z,.Z,.Z,.Z,.Z,.Z,.Z,.Z,.Z],U9 (SI i).rows,((SI i).rows.length+1)⟩) n.toNat (Zw [0,2] [0,1,2] (Zq cG.d (Zq hn ha)) ?_) ?_)|(refine v7 (fun i=>⟨[.ptr 0 0 0,.Z,.v (.int .i64 (n-i)),.Z,.Z,.Z,.Z,.Z,.Z,.Z,.Z,.Z],U9 (SI i).rows,((SI i).rows.length+1)⟩) n.toNat (Zw [0,2] [0,1] (Zq cG.d (Zq hn ha)) ?_) ?_))
  ·rw[hSI];simp only[MS.iter,MS.rows,U9,j7,j8.cell,j8.rows,j8.l,j8.k,r6.cell,r6.rows,r6.l,List.cons_append,List.nil_append,List.append_nil,List.length_cons,List.length_nil,Nat.reduceAdd,Int.natCast_zero,Int.sub_zero]
  intro i hi2
  obtain⟨a,ii,e,e1,e2,e3⟩:=IT i
  dsimp only at e1 e2 e3
  have e0:=e
  rw[←hSI]at e0
  have ej:SI (i+1)=(SI i).inst:=by rw[hSI];rfl
  rw[ej,e0]
  have CI:=INO a ii ⟨hL,by show 0≤a∧a≤_;omega,hb,by show(ii.l.length:Int)≤_;omega,ha,hal⟩
  obtain⟨a',l,e',g1,g2,g3,g4,_⟩:=INF a ii
  rw[e']at CI⊢
  clear e' ej hSI e C1 IT INO INF
  cases ii
  all_goals simp only[MS.rows,U9,j7,j8.cell,j8.rows,j8.l,j8.k,r6.cell,r6.rows,r6.l,List.cons_append,List.nil_append,List.append_nil,List.length_cons,List.length_nil,Nat.reduceAdd]at CI⊢
  ·repeat' (first|refine Za ?_|(with_reducible constructor<;>first|intro N hN mk hmk|intro N hN|intro h)|(refine Zp CI [0,1,2] (Zq cG.d ha) ?_;with_reducible intro _ _)|(refine Zp CI [0,1] (Zq cG.d ha) ?_;with_reducible intro _ _)|refine Zt (Zq cG.d ha) ?_|fail)
   ·(first|(refine Zw [0,2] [0,28,29,30] (Zq cG.d ha) ?_)|(refine Zw [0,2] [0,27,28] (Zq cG.d ha) ?_))
    simp only[show n- ↑(i+1)=n- ↑i-1 by omega]
   ·obtain rfl:i=n.toNat:=by omega
    rw[hR,e0]
    simp only[MS.rows,j8.cell,j8.rows,j8.l,j8.k,r6.cell,r6.rows,r6.l,List.cons_append,List.nil_append,List.append_nil]
    (first|(refine Zr (()) [0,1,2] (Zq cG.d ha) ?_)|(refine Zr (()) [0,1] (Zq cG.d ha) ?_))
    trivial
  ·repeat' (first|refine Za ?_|(with_reducible constructor<;>first|intro N hN mk hmk|intro N hN|intro h)|(refine Zp CI [0,1,2,3] (Zq cG.d ha) ?_;with_reducible intro _ _)|(refine Zp CI [0,1,2] (Zq cG.d ha) ?_;with_reducible intro _ _)|refine Zt (Zq cG.d ha) ?_|fail)
   ·(first|(refine Zw [0,2] [0,29,30,31] (Zq cG.d ha) ?_)|(refine Zw [0,2] [0,28,29] (Zq cG.d ha) ?_))
    simp only[show n- ↑(i+1)=n- ↑i-1 by omega]
   ·obtain rfl:i=n.toNat:=by omega
    rw[hR,e0]
    simp only[MS.rows,j8.cell,j8.rows,j8.l,j8.k,r6.cell,r6.rows,r6.l,List.cons_append,List.nil_append,List.append_nil]
    (first|(refine Zr (()) [0,1,2,3] (Zq cG.d ha) ?_)|(refine Zr (()) [0,1,2] (Zq cG.d ha) ?_))
    trivial
theorem aU(S:MS)(h:fL S 700000):y9 Tryd.prog 20 [.ptr 0 0 0] S.rows 1 (fun _:Unit=>True) (fun _=> .Q0 []) (fun _=>S.j5.rows):=by
 obtain⟨L,at_,g,su,re,sl,pa,ar,lo,bs,ii,t⟩:=S
 exact b3d L at_ g su re sl pa ar lo ii bs t h
theorem J9(S:MS)(hL:B5 S.L)(h0:0≤S.at_):∃a ii,S.j5=⟨S.L,a,S.g,S.su,S.re,S.sl,S.pa,S.ar,S.lo,S.bs,ii,S.t⟩∧S.at_+1≤a∧a≤S.at_+33∧ii.l.length≤S.i.l.length+8:=by
 have hx:=j6 hL h0
 obtain⟨a,ii,e,h1,h2,h3⟩:=zO {S with at_:=S.at_+1} (a8 S.L S.at_%5).toNat
 have h1:S.at_+1≤a:=h1
 have h2:a≤S.at_+1+8*(a8 S.L S.at_%5).toNat:=h2
 have h3:ii.l.length≤S.i.l.length+2*(a8 S.L S.at_%5).toNat:=h3
 exact⟨a,ii,e,h1,by omega,by omega⟩
theorem jP(bs:List e8)(l:List l0)(t:w4):y6 bs++[.c5 false (j5 l)::t.av]=y6 (bs++[⟨l,t⟩]):=by simp [y6,e8.av]
theorem E3:T0.av=[.v (.int .i64 0),.v (.int .i64 0),.v (.int .i64 0),.v (.int .i64 0),.v (.int .i32 0),.v (.int .i64 0),.v (.int .i64 0),.v (.int .i32 0),.v (.int .i64 0),.v (.int .i64 0),.v (.int .i32 0),.v (.int .i64 0),.v (.int .i64 0)]:=rfl
theorem B1(t:w4)(a b c d e f g h i j k m n:Int):u2 t.av 0 [.v (.int .i64 a),.v (.int .i64 b),.v (.int .i64 c),.v (.int .i64 d),.v (.int .i32 e),.v (.int .i64 f),.v (.int .i64 g),.v (.int .i32 h),.v (.int .i64 i),.v (.int .i64 j),.v (.int .i32 k),.v (.int .i64 m),.v (.int .i64 n)]=(⟨a,b,⟨c,d,e⟩,⟨f,g,h⟩,⟨i,j,k⟩,m,n⟩:w4).av:=rfl
def MS.block(S:MS):MS:={S with bs:=S.bs++[⟨S.i.l,S.t⟩],i:= .nil,t:=T0}
theorem dZ(l:List e8):(y6 l).take l.length=y6 l:=by rw[←n3,List.take_length]
theorem a7X(l:List e8)(b:e8):(l++[b]).length=l.length+1:=by simp
theorem gL(l:List e8)(b:e8):(y6 (l++[b])).take (l.length+1)=y6 (l++[b]):=by rw[←a7X l b,dZ]
theorem c7(l:List e8)(b:e8):(l++[b]).length=l.length+1:=by simp
def X8(L:List Int)(at_ g su re sl pa:Int)(ar:List dG):List Row:=[⟨10,[[.c5 false (fF L),.v (.int .i64 at_),.v (.int .i64 g),.v (.int .i64 su),.v (.int .i64 re),.v (.int .i64 sl),.v (.int .i64 pa),.c5 false (H2 ar),.c5 true [],.c5 true []]],0⟩]
def lZ:=ZZ.mk (Zq @E3 (Zq @c7 (Zq @W6 (Zq @rE (Zq @jP (Zq @gL (Zq @dZ (Zq @I1 (Zq @x8 (Zq @y7 (Zq @n3 (Zq @p0 (Zq @w8 (Zq @m7 (Zq @l8 (Zq @n9 (Zq @y8 (Zq @s6 (Zq @r8 (Zq @z8 (Zq @q9 (Zq @A2 (Zq @A1 (Zq @z7 (Zq @z6 (Zq @s5 (Zq @j0 (Zq @j3 (Zq @A6 (Zq @J8 (Zq @y4 (Zq @y0 @x6))))))))))))))))))))))))))))))))
theorem b0l(L:List Int)(at_ g su re sl pa:Int)(ar:List dG)(bs:List e8)(t:w4)(hb:bs.length≤1000):y9 Tryd.prog 17 [.ptr 0 0 0] (MS.rows ⟨L,at_,g,su,re,sl,pa,ar,.nil,bs,.nil,t⟩) 1 (fun _:Unit=>True) (fun _=> .Q0 []) (fun _=>(MS.block ⟨L,at_,g,su,re,sl,pa,ar,.nil,bs,.nil,t⟩).rows):=by
 simp only[MS.rows,MS.block,j8.cell,j8.rows,j8.l,j8.k,r6.cell,r6.rows,r6.l,List.cons_append,List.nil_append,List.append_nil];refine Zf Tryd.func17 Tryd.ntmps17 ?_
 refine eX 1 bs.length 0 (x:= .c5 true []) (y:= .c5 false (j5 [])) (ids:=[]) rfl (by simp only[x8];rfl) (by simp (maxSteps:=10000000) (disch:=omega) only[lZ.d,w9,bL,D7,L4,B6,x7,AV.kept,e9,u1,D8,N5,B9,B2,n4,AV.J6,x4,E6,AV.plain,rd,B7,b8,bK,stepC,AV.o3,AV.cF,AV.J5,AV.Z0,AV.scalar,cX,D0,M6,M9,N0,M8,A9,M4,cY,D3,M7,L1,s8,cV,u7,I9,I6,bS,K8,u4,TD.isRow,D6,u0,u6,s9,T1,Value.oneCell',↓reduceIte,Int.reduceNe,Int.reduceEq,Nat.reduceAdd,Nat.reduceLT,Nat.reduceLeDiff,Nat.reduceSub,Nat.reduceMul,Nat.reduceBEq,Nat.reduceEqDiff,reduceCtorEq,Int.reduceToNat,←decide_not,←Bool.decide_and,sA,sN]<;>first|done|rfl) (by first|rfl|(simp (maxSteps:=10000000) (disch:=omega) only[b8,lZ.d,w9,bL,D7,L4,B6,x7,AV.kept,e9,u1,D8,N5,B9,B2,n4,AV.J6,x4,E6,AV.plain,rd,B7,b8,bK,stepC,AV.o3,AV.cF,AV.J5,AV.Z0,AV.scalar,cX,D0,M6,M9,N0,M8,A9,M4,cY,D3,M7,L1,s8,cV,u7,I9,I6,bS,K8,u4,TD.isRow,D6,u0,u6,s9,T1,Value.oneCell',↓reduceIte,Int.reduceNe,Int.reduceEq,Nat.reduceAdd,Nat.reduceLT,Nat.reduceLeDiff,Nat.reduceSub,Nat.reduceMul,Nat.reduceBEq,Nat.reduceEqDiff,reduceCtorEq,Int.reduceToNat,←decide_not,←Bool.decide_and,sA,sN]<;>first|done|rfl)) ?_;simp (maxSteps:=10000000) (disch:=omega) only[u1,E7,T1,lZ.d,w9,bL,D7,L4,B6,x7,AV.kept,e9,u1,D8,N5,B9,B2,n4,AV.J6,x4,E6,AV.plain,rd,B7,b8,bK,stepC,AV.o3,AV.cF,AV.J5,AV.Z0,AV.scalar,cX,D0,M6,M9,N0,M8,A9,M4,cY,D3,M7,L1,s8,cV,u7,I9,I6,bS,K8,u4,TD.isRow,D6,u0,u6,s9,T1,Value.oneCell',↓reduceIte,Int.reduceNe,Int.reduceEq,Nat.reduceAdd,Nat.reduceLT,Nat.reduceLeDiff,Nat.reduceSub,Nat.reduceMul,Nat.reduceBEq,Nat.reduceEqDiff,reduceCtorEq,Int.reduceToNat,←decide_not,←Bool.decide_and,sA,sN]
 repeat' (first|refine Za ?_|(with_reducible constructor<;>first|intro N hN mk hmk|intro N hN|intro h)|refine Zt lZ.d ?_|fail)
 refine Zr (()) [0,72] lZ.d ?_
 trivial
def mA:=ZZ.mk (Zq @E3 (Zq @c7 (Zq @W6 (Zq @rE (Zq @jP (Zq @gL (Zq @dZ (Zq @I1 (Zq @x8 (Zq @y7 (Zq @n3 (Zq @p0 (Zq @w8 (Zq @m7 (Zq @l8 (Zq @n9 (Zq @y8 (Zq @s6 (Zq @r8 (Zq @z8 (Zq @q9 (Zq @A2 (Zq @A1 (Zq @z7 (Zq @z6 (Zq @s5 (Zq @j0 (Zq @j3 (Zq @A6 (Zq @J8 (Zq @y4 (Zq @y0 @x6))))))))))))))))))))))))))))))))
theorem b0m(L:List Int)(at_ g su re sl pa:Int)(ar:List dG)(li:List l0)(bs:List e8)(t:w4)(hb:bs.length≤1000):y9 Tryd.prog 17 [.ptr 0 0 0] (MS.rows ⟨L,at_,g,su,re,sl,pa,ar,.nil,bs,.own li,t⟩) 1 (fun _:Unit=>True) (fun _=> .Q0 []) (fun _=>(MS.block ⟨L,at_,g,su,re,sl,pa,ar,.nil,bs,.own li,t⟩).rows):=by
 simp only[MS.rows,MS.block,j8.cell,j8.rows,j8.l,j8.k,r6.cell,r6.rows,r6.l,List.cons_append,List.nil_append,List.append_nil];refine Zf Tryd.func17 Tryd.ntmps17 ?_
 refine eX 1 bs.length 0 (x:= .own 2 0 li.length) (y:= .c5 false (j5 li)) (ids:=[(2,li.length)]) rfl (by simp only[x8];rfl) (by simp (maxSteps:=10000000) (disch:=omega) only[mA.d,w9,bL,D7,L4,B6,x7,AV.kept,e9,u1,D8,N5,B9,B2,n4,AV.J6,x4,E6,AV.plain,rd,B7,b8,bK,stepC,AV.o3,AV.cF,AV.J5,AV.Z0,AV.scalar,cX,D0,M6,M9,N0,M8,A9,M4,cY,D3,M7,L1,s8,cV,u7,I9,I6,bS,K8,u4,TD.isRow,D6,u0,u6,s9,T1,Value.oneCell',↓reduceIte,Int.reduceNe,Int.reduceEq,Nat.reduceAdd,Nat.reduceLT,Nat.reduceLeDiff,Nat.reduceSub,Nat.reduceMul,Nat.reduceBEq,Nat.reduceEqDiff,reduceCtorEq,Int.reduceToNat,←decide_not,←Bool.decide_and,sA,sN]<;>first|done|rfl) (by first|rfl|(simp (maxSteps:=10000000) (disch:=omega) only[b8,mA.d,w9,bL,D7,L4,B6,x7,AV.kept,e9,u1,D8,N5,B9,B2,n4,AV.J6,x4,E6,AV.plain,rd,B7,b8,bK,stepC,AV.o3,AV.cF,AV.J5,AV.Z0,AV.scalar,cX,D0,M6,M9,N0,M8,A9,M4,cY,D3,M7,L1,s8,cV,u7,I9,I6,bS,K8,u4,TD.isRow,D6,u0,u6,s9,T1,Value.oneCell',↓reduceIte,Int.reduceNe,Int.reduceEq,Nat.reduceAdd,Nat.reduceLT,Nat.reduceLeDiff,Nat.reduceSub,Nat.reduceMul,Nat.reduceBEq,Nat.reduceEqDiff,reduceCtorEq,Int.reduceToNat,←decide_not,←Bool.decide_and,sA,sN]<;>first|done|rfl)) ?_;simp (maxSteps:=10000000) (disch:=omega) only[u1,E7,T1,mA.d,w9,bL,D7,L4,B6,x7,AV.kept,e9,u1,D8,N5,B9,B2,n4,AV.J6,x4,E6,AV.plain,rd,B7,b8,bK,stepC,AV.o3,AV.cF,AV.J5,AV.Z0,AV.scalar,cX,D0,M6,M9,N0,M8,A9,M4,cY,D3,M7,L1,s8,cV,u7,I9,I6,bS,K8,u4,TD.isRow,D6,u0,u6,s9,T1,Value.oneCell',↓reduceIte,Int.reduceNe,Int.reduceEq,Nat.reduceAdd,Nat.reduceLT,Nat.reduceLeDiff,Nat.reduceSub,Nat.reduceMul,Nat.reduceBEq,Nat.reduceEqDiff,reduceCtorEq,Int.reduceToNat,←decide_not,←Bool.decide_and,sA,sN]
 repeat' (first|refine Za ?_|(with_reducible constructor<;>first|intro N hN mk hmk|intro N hN|intro h)|refine Zt mA.d ?_|fail)
 refine Zr (()) [0,72] mA.d ?_
 trivial
def mB:=ZZ.mk (Zq @E3 (Zq @c7 (Zq @W6 (Zq @rE (Zq @jP (Zq @gL (Zq @dZ (Zq @I1 (Zq @x8 (Zq @y7 (Zq @n3 (Zq @p0 (Zq @w8 (Zq @m7 (Zq @l8 (Zq @n9 (Zq @y8 (Zq @s6 (Zq @r8 (Zq @z8 (Zq @q9 (Zq @A2 (Zq @A1 (Zq @z7 (Zq @z6 (Zq @s5 (Zq @j0 (Zq @j3 (Zq @A6 (Zq @J8 (Zq @y4 (Zq @y0 @x6))))))))))))))))))))))))))))))))
theorem b0n(L:List Int)(at_ g su re sl pa:Int)(ar:List dG)(ll:List Loop)(bs:List e8)(t:w4)(hb:bs.length≤1000):y9 Tryd.prog 17 [.ptr 0 0 0] (MS.rows ⟨L,at_,g,su,re,sl,pa,ar,.own ll,bs,.nil,t⟩) 1 (fun _:Unit=>True) (fun _=> .Q0 []) (fun _=>(MS.block ⟨L,at_,g,su,re,sl,pa,ar,.own ll,bs,.nil,t⟩).rows):=by
 simp only[MS.rows,MS.block,j8.cell,j8.rows,j8.l,j8.k,r6.cell,r6.rows,r6.l,List.cons_append,List.nil_append,List.append_nil];refine Zf Tryd.func17 Tryd.ntmps17 ?_
 refine eX 1 bs.length 0 (x:= .c5 true []) (y:= .c5 false (j5 [])) (ids:=[]) rfl (by simp only[x8];rfl) (by simp (maxSteps:=10000000) (disch:=omega) only[mB.d,w9,bL,D7,L4,B6,x7,AV.kept,e9,u1,D8,N5,B9,B2,n4,AV.J6,x4,E6,AV.plain,rd,B7,b8,bK,stepC,AV.o3,AV.cF,AV.J5,AV.Z0,AV.scalar,cX,D0,M6,M9,N0,M8,A9,M4,cY,D3,M7,L1,s8,cV,u7,I9,I6,bS,K8,u4,TD.isRow,D6,u0,u6,s9,T1,Value.oneCell',↓reduceIte,Int.reduceNe,Int.reduceEq,Nat.reduceAdd,Nat.reduceLT,Nat.reduceLeDiff,Nat.reduceSub,Nat.reduceMul,Nat.reduceBEq,Nat.reduceEqDiff,reduceCtorEq,Int.reduceToNat,←decide_not,←Bool.decide_and,sA,sN]<;>first|done|rfl) (by first|rfl|(simp (maxSteps:=10000000) (disch:=omega) only[b8,mB.d,w9,bL,D7,L4,B6,x7,AV.kept,e9,u1,D8,N5,B9,B2,n4,AV.J6,x4,E6,AV.plain,rd,B7,b8,bK,stepC,AV.o3,AV.cF,AV.J5,AV.Z0,AV.scalar,cX,D0,M6,M9,N0,M8,A9,M4,cY,D3,M7,L1,s8,cV,u7,I9,I6,bS,K8,u4,TD.isRow,D6,u0,u6,s9,T1,Value.oneCell',↓reduceIte,Int.reduceNe,Int.reduceEq,Nat.reduceAdd,Nat.reduceLT,Nat.reduceLeDiff,Nat.reduceSub,Nat.reduceMul,Nat.reduceBEq,Nat.reduceEqDiff,reduceCtorEq,Int.reduceToNat,←decide_not,←Bool.decide_and,sA,sN]<;>first|done|rfl)) ?_;simp (maxSteps:=10000000) (disch:=omega) only[u1,E7,T1,mB.d,w9,bL,D7,L4,B6,x7,AV.kept,e9,u1,D8,N5,B9,B2,n4,AV.J6,x4,E6,AV.plain,rd,B7,b8,bK,stepC,AV.o3,AV.cF,AV.J5,AV.Z0,AV.scalar,cX,D0,M6,M9,N0,M8,A9,M4,cY,D3,M7,L1,s8,cV,u7,I9,I6,bS,K8,u4,TD.isRow,D6,u0,u6,s9,T1,Value.oneCell',↓reduceIte,Int.reduceNe,Int.reduceEq,Nat.reduceAdd,Nat.reduceLT,Nat.reduceLeDiff,Nat.reduceSub,Nat.reduceMul,Nat.reduceBEq,Nat.reduceEqDiff,reduceCtorEq,Int.reduceToNat,←decide_not,←Bool.decide_and,sA,sN]
 repeat' (first|refine Za ?_|(with_reducible constructor<;>first|intro N hN mk hmk|intro N hN|intro h)|refine Zt mB.d ?_|fail)
 refine Zr (()) [0,72,2] mB.d ?_
 trivial
def mC:=ZZ.mk (Zq @E3 (Zq @c7 (Zq @W6 (Zq @rE (Zq @jP (Zq @gL (Zq @dZ (Zq @I1 (Zq @x8 (Zq @y7 (Zq @n3 (Zq @p0 (Zq @w8 (Zq @m7 (Zq @l8 (Zq @n9 (Zq @y8 (Zq @s6 (Zq @r8 (Zq @z8 (Zq @q9 (Zq @A2 (Zq @A1 (Zq @z7 (Zq @z6 (Zq @s5 (Zq @j0 (Zq @j3 (Zq @A6 (Zq @J8 (Zq @y4 (Zq @y0 @x6))))))))))))))))))))))))))))))))
theorem b0o(L:List Int)(at_ g su re sl pa:Int)(ar:List dG)(ll:List Loop)(li:List l0)(bs:List e8)(t:w4)(hb:bs.length≤1000):y9 Tryd.prog 17 [.ptr 0 0 0] (MS.rows ⟨L,at_,g,su,re,sl,pa,ar,.own ll,bs,.own li,t⟩) 1 (fun _:Unit=>True) (fun _=> .Q0 []) (fun _=>(MS.block ⟨L,at_,g,su,re,sl,pa,ar,.own ll,bs,.own li,t⟩).rows):=by
 simp only[MS.rows,MS.block,j8.cell,j8.rows,j8.l,j8.k,r6.cell,r6.rows,r6.l,List.cons_append,List.nil_append,List.append_nil];refine Zf Tryd.func17 Tryd.ntmps17 ?_
 refine eX 1 bs.length 0 (x:= .own 2 0 li.length) (y:= .c5 false (j5 li)) (ids:=[(2,li.length)]) rfl (by simp only[x8];rfl) (by simp (maxSteps:=10000000) (disch:=omega) only[mC.d,w9,bL,D7,L4,B6,x7,AV.kept,e9,u1,D8,N5,B9,B2,n4,AV.J6,x4,E6,AV.plain,rd,B7,b8,bK,stepC,AV.o3,AV.cF,AV.J5,AV.Z0,AV.scalar,cX,D0,M6,M9,N0,M8,A9,M4,cY,D3,M7,L1,s8,cV,u7,I9,I6,bS,K8,u4,TD.isRow,D6,u0,u6,s9,T1,Value.oneCell',↓reduceIte,Int.reduceNe,Int.reduceEq,Nat.reduceAdd,Nat.reduceLT,Nat.reduceLeDiff,Nat.reduceSub,Nat.reduceMul,Nat.reduceBEq,Nat.reduceEqDiff,reduceCtorEq,Int.reduceToNat,←decide_not,←Bool.decide_and,sA,sN]<;>first|done|rfl) (by first|rfl|(simp (maxSteps:=10000000) (disch:=omega) only[b8,mC.d,w9,bL,D7,L4,B6,x7,AV.kept,e9,u1,D8,N5,B9,B2,n4,AV.J6,x4,E6,AV.plain,rd,B7,b8,bK,stepC,AV.o3,AV.cF,AV.J5,AV.Z0,AV.scalar,cX,D0,M6,M9,N0,M8,A9,M4,cY,D3,M7,L1,s8,cV,u7,I9,I6,bS,K8,u4,TD.isRow,D6,u0,u6,s9,T1,Value.oneCell',↓reduceIte,Int.reduceNe,Int.reduceEq,Nat.reduceAdd,Nat.reduceLT,Nat.reduceLeDiff,Nat.reduceSub,Nat.reduceMul,Nat.reduceBEq,Nat.reduceEqDiff,reduceCtorEq,Int.reduceToNat,←decide_not,←Bool.decide_and,sA,sN]<;>first|done|rfl)) ?_;simp (maxSteps:=10000000) (disch:=omega) only[u1,E7,T1,mC.d,w9,bL,D7,L4,B6,x7,AV.kept,e9,u1,D8,N5,B9,B2,n4,AV.J6,x4,E6,AV.plain,rd,B7,b8,bK,stepC,AV.o3,AV.cF,AV.J5,AV.Z0,AV.scalar,cX,D0,M6,M9,N0,M8,A9,M4,cY,D3,M7,L1,s8,cV,u7,I9,I6,bS,K8,u4,TD.isRow,D6,u0,u6,s9,T1,Value.oneCell',↓reduceIte,Int.reduceNe,Int.reduceEq,Nat.reduceAdd,Nat.reduceLT,Nat.reduceLeDiff,Nat.reduceSub,Nat.reduceMul,Nat.reduceBEq,Nat.reduceEqDiff,reduceCtorEq,Int.reduceToNat,←decide_not,←Bool.decide_and,sA,sN]
 repeat' (first|refine Za ?_|(with_reducible constructor<;>first|intro N hN mk hmk|intro N hN|intro h)|refine Zt mC.d ?_|fail)
 refine Zr (()) [0,72,3] mC.d ?_
 trivial
theorem E9(S:MS)(hb:S.bs.length≤1000):y9 Tryd.prog 17 [.ptr 0 0 0] S.rows 1 (fun _:Unit=>True) (fun _=> .Q0 []) (fun _=>S.block.rows):=by
 obtain⟨L,at_,g,su,re,sl,pa,ar,lo,bs,ii,t⟩:=S
 cases lo with
 |nil=>cases ii with
  |nil=>exact b0l L at_ g su re sl pa ar bs t hb
  |own li=>exact b0m L at_ g su re sl pa ar li bs t hb
 |own ll=>cases ii with
  |nil=>exact b0n L at_ g su re sl pa ar ll bs t hb
  |own li=>exact b0o L at_ g su re sl pa ar ll li bs t hb
def b36:=ZZ.mk (Zq @E3 (Zq @Z1 (Zq @I1 (Zq @x8 (Zq @y7 (Zq @n3 (Zq @p0 (Zq @w8 (Zq @m7 (Zq @l8 (Zq @n9 (Zq @y8 (Zq @s6 (Zq @r8 (Zq @z8 (Zq @q9 (Zq @A2 (Zq @A1 (Zq @z7 (Zq @z6 (Zq @s5 (Zq @j0 (Zq @j3 (Zq @A6 (Zq @J8 (Zq @y4 (Zq @y0 @x6)))))))))))))))))))))))))))
theorem a7Y(L:List Int)(at_ g su re sl pa:Int)(ar:List dG):y9 Tryd.prog 17 [.ptr 0 0 0] (X8 L at_ g su re sl pa ar) 1 (fun _:Unit=>True) (fun _=> .Q0 []) (fun _=>MS.rows ⟨L,at_,g,su,re,sl,pa,ar,.nil,[],.nil,T0⟩):=by
 simp only[MS.rows,X8,j8.cell,j8.rows,j8.l,j8.k,r6.cell,r6.rows,r6.l,List.cons_append,List.nil_append,List.append_nil];refine Zf Tryd.func17 Tryd.ntmps17 ?_
 repeat' (first|refine Za ?_|(with_reducible constructor<;>first|intro N hN mk hmk|intro N hN|intro h)|refine Zt b36.d ?_|fail)
 refine Zr (()) [0,72] b36.d ?_
 trivial
theorem cT(x d:Int)(h:0≤x):0≤x%d∧x%d≤x:=by
 by_cases hd:d=0
 ·subst hd;simp;exact h
 ·refine⟨Int.emod_nonneg x hd,?_⟩
  have h1:=Int.emod_add_mul_ediv x d
  rcases Int.lt_or_gt_of_ne hd with g|g
  ·have h2:x / d≤0:=by
    have:=Int.ediv_nonpos_of_nonneg_of_nonpos h (Int.le_of_lt g)
    exact this
   have h3:0≤d*(x / d):=Int.mul_nonneg_of_nonpos_of_nonpos (Int.le_of_lt g) h2
   omega
  ·have h2:0≤x / d:=Int.ediv_nonneg h (Int.le_of_lt g)
   have h3:0≤d*(x / d):=Int.mul_nonneg (Int.le_of_lt g) h2
   omega
def Q8(b:Int):w4:=⟨1,0,O0,O0,O0,b,0⟩
def E5(a:H8)(x y:Int):w4:=⟨2,0,O0,a,O0,x,y⟩
def MS.fI(last:Int)(S:MS):MS:=
 (fun(S1:MS)=>(if a8 S1.L S1.at_%2=0 then
   {S1 with at_:=S1.at_+1+1+1+1,t:=E5 (G9 S1.L (S1.at_+1)) (S.bs.length+1+a8 S1.L (S1.at_+1+1)%(last-S.bs.length)) (S.bs.length+1+a8 S1.L (S1.at_+1+1+1)%(last-S.bs.length))}
  else{S1 with at_:=S1.at_+1,t:=Q8 (S.bs.length+1)}).block) S.j5
def MS.eL(last:Int)(S:MS):Nat→MS
 |0=>S
 |i+1=>(S.eL last i).fI last
def MS.eM(S:MS)(n:Int):MS:=(S.eL (S.bs.length+n) n.toNat).j5
def MS.region(S:MS)(n:Int):MS:=S.block.eM n
theorem a88(last:Int)(S:MS)(hL:B5 S.L)(h0:0≤S.at_):∃a b,S.fI last=⟨S.L,a,S.g,S.su,S.re,S.sl,S.pa,S.ar,S.lo,S.bs++[b],.nil,T0⟩∧S.at_+1≤a∧a≤S.at_+37:=by
 obtain⟨a,ii,e,h1,h2,h3⟩:=J9 S hL h0
 unfold MS.fI
 rw[e]
 simp only
 split
 ·exact⟨a+1+1+1+1,_,rfl,by omega,by omega⟩
 ·exact⟨a+1,_,rfl,by omega,by omega⟩
theorem T7(last:Int)(S:MS)(hL:B5 S.L)(h0:0≤S.at_)(hi:S.i= .nil)(ht:S.t=T0):∀i:Nat,∃a bs,S.eL last i=⟨S.L,a,S.g,S.su,S.re,S.sl,S.pa,S.ar,S.lo,bs,.nil,T0⟩∧S.at_≤a∧a≤S.at_+37*i∧bs.length=S.bs.length+i:=by
 intro i
 induction i with
 |zero=>exact⟨S.at_,S.bs,by rw[←hi,←ht];rfl,by omega,by omega,by omega⟩
 |succ i ih=>
  obtain⟨a,bs,e,h1,h2,h3⟩:=ih
  obtain⟨a',b,e',g1,g2⟩:=a88 last (S.eL last i) (by rw[e];exact hL) (by rw[e];show 0≤a;omega)
  rw[e]at e' g1 g2
  have g1:a+1≤a':=g1
  have g2:a'≤a+37:=g2
  refine⟨a',bs++[b],?_,by omega,by omega,by simp;omega⟩
  simp only[MS.eL,e,e']
def MS.O6(S:MS)(n:Int):List Row:=(S.eM n).rows
def a0v:=ZZ.mk (Zq @E3 (Zq @I1 (Zq @Z1 (Zq @I1 (Zq @x8 (Zq @y7 (Zq @n3 (Zq @p0 (Zq @w8 (Zq @m7 (Zq @l8 (Zq @n9 (Zq @y8 (Zq @s6 (Zq @r8 (Zq @z8 (Zq @q9 (Zq @A2 (Zq @A1 (Zq @z7 (Zq @z6 (Zq @s5 (Zq @j0 (Zq @j3 (Zq @A6 (Zq @J8 (Zq @y4 (Zq @y0 @x6))))))))))))))))))))))))))))
def U6:=ZZ.mk (Zq a0v.d (Zq @B1 (Zq @O0.eq_1 @c7)))
theorem b1Z(L:List Int)(at_ g su re sl pa:Int)(ar:List dG)(n:Int)(hn:0≤n∧n≤2)(h:fL ⟨L,at_,g,su,re,sl,pa,ar,.nil,[],.nil,T0⟩ 600000)(hb:0+2≤900):y9 Tryd.prog 15 [.ptr 0 0 0,.v (.int .i64 n)] (X8 L at_ g su re sl pa ar) 1 (fun _:Unit=>True) (fun _=> .Q0 []) (fun _=>MS.O6 ⟨L,at_,g,su,re,sl,pa,ar,.nil,[],.nil,T0⟩ n):=by
 obtain⟨hL,h0,hb0,hi,ha,hal⟩:=h
 simp only at hL h0 ha hal
 clear hb0 hi
 have CB0:=a7Y L at_ g su re sl pa ar
 obtain⟨last,hlast⟩:∃last:Int,last=((0:Nat):Int)+n:=⟨_,rfl⟩
 obtain⟨SI,hSI⟩:∃SI,SI=MS.eL last ⟨L,at_,g,su,re,sl,pa,ar,.nil,[],.nil,T0⟩:=⟨_,rfl⟩
 have hR:MS.O6 ⟨L,at_,g,su,re,sl,pa,ar,.nil,[],.nil,T0⟩ n=(SI n.toNat).j5.rows:=by rw[hSI,hlast];unfold MS.O6 MS.eM;simp only[List.length_append,List.length_cons,List.length_nil,Nat.zero_add,Nat.reduceAdd]
 obtain⟨R,hR2⟩:∃R:List Row,R=MS.O6 ⟨L,at_,g,su,re,sl,pa,ar,.nil,[],.nil,T0⟩ n:=⟨_,rfl⟩
 rw[←hR2]
 rw[hR]at hR2
 clear hR
 simp only[MS.rows,MS.block,X8,c7,j8.cell,j8.rows,j8.l,j8.k,r6.cell,r6.rows,r6.l,List.cons_append,List.nil_append,List.append_nil]at CB0
 simp only[MS.rows,X8,j8.cell,j8.rows,j8.l,j8.k,r6.cell,r6.rows,r6.l,List.cons_append,List.nil_append,List.append_nil];refine Zf Tryd.func15 Tryd.ntmps15 ?_
 repeat' (first|refine Zl ?_|(with_reducible constructor<;>first|intro N hN mk hmk|intro N hN|intro h)|(refine Zp CB0 [0] a0v.d ?_;with_reducible intro _ _)|refine Zt a0v.d ?_|fail)
 refine v7 (fun i=>⟨[.ptr 0 0 0,.Z,.Z,.Z,.Z,.v (.int .i64 (((0:Nat):Int)+n)),.v (.int .i64 (SI i).bs.length),.Z,.Z,.Z,.Z,.Z,.Z,.Z,.Z,.Z,.Z,.Z,.Z,.Z,.Z,.Z,.Z,.Z,.Z,.Z,.Z,.Z,.Z,.Z,.Z,.Z,.Z,.Z,.Z,.Z,.Z,.Z,.Z,.Z,.Z,.Z,.Z,.Z,.Z,.Z,.Z,.Z,.Z,.Z,.Z,.Z,.Z,.Z,.Z,.Z,.Z,.Z,.Z,.Z,.Z,.Z,.Z,.Z,.Z,.Z,.Z,.Z,.Z,.Z,.Z,.Z,.Z,.Z,.Z,.Z,.Z],U9 (SI i).rows,((SI i).rows.length+1)⟩) n.toNat (Zw [0,5,6] [0,16] a0v.d ?_) ?_
 ·rw[hSI];simp only[MS.eL,MS.rows,U9,j7,E3,Z1,c7,j8.cell,j8.rows,j8.l,j8.k,r6.cell,r6.rows,r6.l,List.cons_append,List.nil_append,List.append_nil,List.length_cons,List.length_nil,Nat.reduceAdd,Int.natCast_zero,Int.add_zero]
 intro i hi2
 clear CB0
 obtain⟨a,bs',e,e1,e2,e3⟩:=T7 last ⟨L,at_,g,su,re,sl,pa,ar,.nil,[],.nil,T0⟩ hL h0.1 rfl rfl i
 have e0:=e
 rw[←hSI]at e0
 have ej:SI (i+1)=(SI i).fI last:=by rw[hSI];rfl
 have e1:at_≤a:=e1
 have e2:a≤at_+37*i:=e2
 simp only[List.length_append,List.length_cons,List.length_nil]at e3
 obtain⟨a1,ii,f,f1,f2,f3⟩:=J9 ⟨L,a,g,su,re,sl,pa,ar,.nil,bs',.nil,T0⟩ hL (by show 0≤a;omega)
 have f1:a+1≤a1:=f1
 have f2:a1≤a+33:=f2
 have f3:ii.l.length≤0+8:=f3
 have CI:=aU ⟨L,a,g,su,re,sl,pa,ar,.nil,bs',.nil,T0⟩ ⟨hL,by show 0≤a∧a≤_;omega,by show bs'.length≤_;omega,by show((0:Nat):Int)≤_;omega,ha,hal⟩
 rw[f]at CI
 simp only at CI f
 have CN1:=o9 L a1 (by omega) hL
 have CR:=Y4 L (a1+1) (by omega) hL
 have CN2:=o9 L (a1+1+1) (by omega) hL
 have CN3:=o9 L (a1+1+1+1) (by omega) hL
 have hx1:=j6 hL (show 0≤a1 by omega)
 have hx2:=j6 hL (show 0≤a1+1+1 by omega)
 have hx3:=j6 hL (show 0≤a1+1+1+1 by omega)
 have CB1:=E9 ⟨L,a1+1,g,su,re,sl,pa,ar,.nil,bs',ii,Q8 (bs'.length+1)⟩ (by show bs'.length≤_;omega)
 have CB2:=E9 ⟨L,a1+1+1+1+1,g,su,re,sl,pa,ar,.nil,bs',ii,E5 (G9 L (a1+1)) (bs'.length+1+a8 L (a1+1+1)%(last-bs'.length)) (bs'.length+1+a8 L (a1+1+1+1)%(last-bs'.length))⟩ (by show bs'.length≤_;omega)
 have er1:¬a8 L a1%2=0→(SI (i+1)).rows=(MS.block ⟨L,a1+1,g,su,re,sl,pa,ar,.nil,bs',ii,Q8 (bs'.length+1)⟩).rows:=fun hp=>by rw[ej,e0];unfold MS.fI;simp only;rw[f];simp only;rw[if_neg hp]
 have er2:a8 L a1%2=0→(SI (i+1)).rows=(MS.block ⟨L,a1+1+1+1+1,g,su,re,sl,pa,ar,.nil,bs',ii,E5 (G9 L (a1+1)) (bs'.length+1+a8 L (a1+1+1)%(last-bs'.length)) (bs'.length+1+a8 L (a1+1+1+1)%(last-bs'.length))⟩).rows:=fun hp=>by rw[ej,e0];unfold MS.fI;simp only;rw[f];simp only;rw[if_pos hp]
 have hR3:i=n.toNat→R=(MS.rows ⟨L,a1,g,su,re,sl,pa,ar,.nil,bs',ii,T0⟩):=fun hp=>by rw[hR2,←hp,e0,f]
 have elen:(SI (i+1)).bs.length=bs'.length+1:=by
  rw[hSI]
  obtain⟨_,_,e',_,_,e4⟩:=T7 last ⟨L,at_,g,su,re,sl,pa,ar,.nil,[],.nil,T0⟩ hL h0.1 rfl rfl (i+1)
  rw[e']
  simp only[List.length_append,List.length_cons,List.length_nil]at e4⊢
  omega
 obtain⟨R1,hR1⟩:∃R1,R1=(SI (i+1)).rows:=⟨_,rfl⟩
 rw[←hR1]at er1 er2⊢
 rw[elen,e0]
 clear f ej e e0 hSI hR2 elen hR1
 subst hlast
 generalize a8 L a1=x1 at*
 generalize a8 L (a1+1+1)=x2 at*
 generalize a8 L (a1+1+1+1)=x3 at*
 generalize G9 L (a1+1)=d at*
 obtain⟨dk,dn,dv⟩:=d
 cases ii
 all_goals simp only[MS.rows,MS.block,U9,j7,E3,H8.av,Q8,E5,O0,c7,j8.cell,j8.rows,j8.l,j8.k,r6.cell,r6.rows,r6.l,List.cons_append,List.nil_append,List.append_nil,List.length_cons,List.length_nil,Nat.reduceAdd]at CI CR CB1 CB2 er1 er2 hR3⊢
 all_goals simp only[w4.av]at CB1 CB2
 all_goals have hq2:=cT x2 (((0:Nat):Int)+n-bs'.length) hx2.1
 all_goals have hq3:=cT x3 (((0:Nat):Int)+n-bs'.length) hx3.1
 all_goals by_cases hp:x1%2=0
 ·repeat' (first|refine Zl ?_|(with_reducible constructor<;>first|intro N hN mk hmk|intro N hN|intro h)|(refine Zp CI [0,1] (Zq U6.d hp) ?_;with_reducible intro _ _)|refine Ze CN1 ?_|refine Ze CR ?_|refine Ze CN2 ?_|refine Ze CN3 ?_|(refine Zp CB2 [0,35] (Zq U6.d hp) ?_;with_reducible intro _ _)|refine Zt (Zq U6.d hp) ?_|fail)
  ·refine Zw [0,5,6] [0,435] (Zq U6.d hp) ?_
   rw[er2 hp]
   simp only[j7,List.cons_append,List.nil_append,List.length_cons,List.length_nil,Nat.reduceAdd,show((bs'.length+1:Nat):Int)=bs'.length+1 from rfl]
  ·rw[hR3 (by omega)]
   refine Zr (()) [0,35] (Zq U6.d hp) ?_
   trivial
 ·repeat' (first|refine Zl ?_|(with_reducible constructor<;>first|intro N hN mk hmk|intro N hN|intro h)|(refine Zp CI [0,1] (Zq U6.d hp) ?_;with_reducible intro _ _)|refine Ze CN1 ?_|(refine Zp CB1 [0,35] (Zq U6.d hp) ?_;with_reducible intro _ _)|refine Zt (Zq U6.d hp) ?_|fail)
  ·refine Zw [0,5,6] [0,187] (Zq U6.d hp) ?_
   rw[er1 hp]
   simp only[j7,List.cons_append,List.nil_append,List.length_cons,List.length_nil,Nat.reduceAdd,show((bs'.length+1:Nat):Int)=bs'.length+1 from rfl]
  ·rw[hR3 (by omega)]
   refine Zr (()) [0,35] (Zq U6.d hp) ?_
   trivial
 ·repeat' (first|refine Zl ?_|(with_reducible constructor<;>first|intro N hN mk hmk|intro N hN|intro h)|(refine Zp CI [0,1] (Zq U6.d hp) ?_;with_reducible intro _ _)|refine Ze CN1 ?_|refine Ze CR ?_|refine Ze CN2 ?_|refine Ze CN3 ?_|(refine Zp CB2 [0,35,36] (Zq U6.d hp) ?_;with_reducible intro _ _)|refine Zt (Zq U6.d hp) ?_|fail)
  ·refine Zw [0,5,6] [0,435] (Zq U6.d hp) ?_
   rw[er2 hp]
   simp only[j7,List.cons_append,List.nil_append,List.length_cons,List.length_nil,Nat.reduceAdd,show((bs'.length+1:Nat):Int)=bs'.length+1 from rfl]
  ·rw[hR3 (by omega)]
   refine Zr (()) [0,35,36] (Zq U6.d hp) ?_
   trivial
 ·repeat' (first|refine Zl ?_|(with_reducible constructor<;>first|intro N hN mk hmk|intro N hN|intro h)|(refine Zp CI [0,1] (Zq U6.d hp) ?_;with_reducible intro _ _)|refine Ze CN1 ?_|(refine Zp CB1 [0,35,36] (Zq U6.d hp) ?_;with_reducible intro _ _)|refine Zt (Zq U6.d hp) ?_|fail)
  ·refine Zw [0,5,6] [0,187] (Zq U6.d hp) ?_
   rw[er1 hp]
   simp only[j7,List.cons_append,List.nil_append,List.length_cons,List.length_nil,Nat.reduceAdd,show((bs'.length+1:Nat):Int)=bs'.length+1 from rfl]
  ·rw[hR3 (by omega)]
   refine Zr (()) [0,35,36] (Zq U6.d hp) ?_
   trivial
end Go.Proofs.YtgdoiokalfhjoaaDoor
end
