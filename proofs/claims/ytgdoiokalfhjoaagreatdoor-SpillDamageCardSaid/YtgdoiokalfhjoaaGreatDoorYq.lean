/- Own work (by an AI agent; no person has read it): part of a proof of the seat YtgdoiokalfhjoaaGreatDoor. -/
import Derived.Test.YtgdoiokalfhjoaaGreatDoorYo
import Derived.Test.YtgdoiokalfhjoaaGreatDoorYp
set_option linter.unusedSimpArgs false
set_option linter.unusedVariables false
set_option maxRecDepth 100000
set_option maxHeartbeats 10000000
section
namespace Go.Proofs.YtgdoiokalfhjoaaGreatDoor
open Go.Ab
theorem gD.mono{S:MS}{n m:Int}(h:gD S n)(hnm:n≤m):gD S m:=⟨h.L,⟨h.at_.1,by have:=h.at_;omega⟩,h.bs,by have:=h.il;omega,h.ar,h.al⟩
theorem c0G(S:MS)(h:gD S 800000):y6 Tryz.prog 185 [.ptr 0 0 0] S.rows 1 (fun _:Unit=>True) (fun _=> .O2 []) (fun _=>S.inst.rows):=by
 have hx:0≤a7 S.L S.at_%16∧a7 S.L S.at_%16<16:=by omega
 obtain⟨L,at_,g,su,re,sl,pa,ar,lo,bs,ii,t⟩:=S
 have h9:=h.mono (show(800000:Int)≤900000 by omega)
 simp only at hx
 have cs:a7 L at_%16<3∨(¬a7 L at_%16<3∧a7 L at_%16<7)∨a7 L at_%16=7∨a7 L at_%16=8∨a7 L at_%16=9∨a7 L at_%16=10∨a7 L at_%16=11∨a7 L at_%16=12∨a7 L at_%16=13∨14≤a7 L at_%16:=by omega
 rcases cs with c|c|c|c|c|c|c|c|c|c
 ·exact b6Z L at_ g su re sl pa ar lo ii bs t h9 c
 ·exact b60 L at_ g su re sl pa ar lo ii bs t h9 c
 ·exact b61 L at_ g su re sl pa ar lo ii bs t h9 c
 ·exact b62 L at_ g su re sl pa ar lo ii bs t h9 c
 ·exact b63 L at_ g su re sl pa ar lo ii bs t h9 c
 ·exact b64 L at_ g su re sl pa ar lo ii bs t h9 c
 ·exact b65 L at_ g su re sl pa ar lo ii bs t h9 c
 ·exact b66 L at_ g su re sl pa ar lo ii bs t h c
 ·exact b67 L at_ g su re sl pa ar lo ii bs t h c
 ·exact b68 L at_ g su re sl pa ar lo ii bs t h c
theorem b2o(l:List e7):(j4.own l).l=l:=rfl
theorem pO(S:MS):∃a l,S.inst=⟨S.L,a,S.g,S.su,S.re,S.sl,S.pa,S.ar,S.lo,S.bs,.own l,S.t⟩∧S.at_+1≤a∧a≤S.at_+8∧S.i.l.length+1≤l.length∧l.length≤S.i.l.length+2∧∀x∈S.i.l,x∈l:=by
 by_cases h:a7 S.L S.at_%16<12
 ·have e:S.inst={S with at_:=gQ S.L S.at_}.put (W9 S.L S.at_):=by unfold MS.inst;simp only;rw[if_pos h]
  refine⟨_,_,by rw[e];rfl,?_,?_,by simp,by simp,fun x hx=>by simp [hx]⟩
  ·unfold gQ;simp only;(repeat' split)<;>omega
  ·unfold gQ;simp only;(repeat' split)<;>omega
 ·have e:S.inst=(fun S2:MS=>{S2 with at_:=if a7 S.L S.at_%16=12 then S2.at_+1+1 else S2.at_+1}.put (gR S.L (a7 S.L S.at_%16) S2.at_ (pn {S with at_:=S.at_+1} (decide (¬a7 S.L S.at_%16=12))) (E7 S.L (S.at_+1+1)))) ((MS.place {S with at_:=S.at_+1} (decide (¬a7 S.L S.at_%16=12)))):=by
   unfold MS.inst;simp only;rw[if_neg h]
  refine⟨_,_,by rw[e];rfl,?_,?_,by simp [MS.place,MS.put,b2o]<;>omega,by simp [MS.place,MS.put,b2o]<;>omega,fun x hx=>by simp [MS.place,MS.put,b2o,hx]⟩
  ·simp only[MS.place,MS.put];split<;>omega
  ·simp only[MS.place,MS.put];split<;>omega
def MS.iter(S:MS):Nat→MS
 |0=>S
 |i+1=>(S.iter i).inst
def MS.c6(S:MS):MS:=MS.iter {S with at_:=S.at_+1} (a7 S.L S.at_%5).toNat
theorem a26(S:MS):∀i:Nat,∃a ii,S.iter i=⟨S.L,a,S.g,S.su,S.re,S.sl,S.pa,S.ar,S.lo,S.bs,ii,S.t⟩∧S.at_≤a∧a≤S.at_+8*i∧ii.l.length≤S.i.l.length+2*i:=by
 intro i
 induction i with
 |zero=>exact⟨S.at_,S.i,rfl,by omega,by omega,by omega⟩
 |succ i ih=>
  obtain⟨a,ii,e,h1,h2,h3⟩:=ih
  obtain⟨a',l,e',g1,g2,g3,g4,_⟩:=pO (S.iter i)
  rw[e]at e' g1 g2 g3 g4
  have g1:a+1≤a':=g1
  have g2:a'≤a+8:=g2
  have g4:l.length≤ii.l.length+2:=g4
  refine⟨a',.own l,?_,?_,?_,?_⟩
  ·simp only[MS.iter,e,e']
  ·omega
  ·omega
  ·simp only[b2o];omega
def U6(rs:List Row):List (Nat×RS):=e9 0 rs++[(rs.length,.u5 99 [.ptr 0 0 0])]
def MS.b69(S:MS):List Row:=S.c6.rows
def H8:=ZZ.mk (Zq a3E.d (Zq @eQ (Zq @oX (Zq @a2E (Zq @oY @cH)))))
theorem c0H(L:List Int)(at_ g su re sl pa:Int)(ar:List cN)(lo:r9)(ii:j4)(bs:List b6)(t:q9)(h:gD ⟨L,at_,g,su,re,sl,pa,ar,lo,bs,ii,t⟩ 700000):y6 Tryz.prog 113 [.ptr 0 0 0] (MS.rows ⟨L,at_,g,su,re,sl,pa,ar,lo,bs,ii,t⟩) 1 (fun _:Unit=>True) (fun _=> .O2 []) (fun _=>(MS.b69 ⟨L,at_,g,su,re,sl,pa,ar,lo,bs,ii,t⟩)):=by
 obtain⟨hL,h0,hb,hi,ha,hal⟩:=h
 dsimp only at hL h0 hb hi ha hal
 have hx:=j0 hL h0.1
 have C1:=p0 L at_ (by omega) hL
 have hR:MS.b69 ⟨L,at_,g,su,re,sl,pa,ar,lo,bs,ii,t⟩=(MS.iter ⟨L,at_+1,g,su,re,sl,pa,ar,lo,bs,ii,t⟩ (a7 L at_%5).toNat).rows:=rfl
 rw[hR];clear hR
 generalize a7 L at_=x at*
 obtain⟨n,hn⟩:∃n,x%5=n:=⟨_,rfl⟩
 rw[hn]
 have hn5:0≤n∧n<5:=by omega
 obtain⟨SI,hSI⟩:∃SI,SI=MS.iter ⟨L,at_+1,g,su,re,sl,pa,ar,lo,bs,ii,t⟩:=⟨_,rfl⟩
 obtain⟨R,hR⟩:∃R:List Row,R=(SI n.toNat).rows:=⟨_,rfl⟩
 rw[←hSI,←hR]
 have IT:=fun i:Nat=>a26 ⟨L,at_+1,g,su,re,sl,pa,ar,lo,bs,ii,t⟩ i
 have INO:=fun a i2=>c0G ⟨L,a,g,su,re,sl,pa,ar,lo,bs,i2,t⟩
 have INF:=fun a i2=>pO ⟨L,a,g,su,re,sl,pa,ar,lo,bs,i2,t⟩
 have hil:(ii.l.length:Int)≤700000:=hi
 rcases lo with _|ll<;>rcases ii with _|li
 all_goals
  simp only[MS.rows,j4.cell,j4.rows,j4.l,j4.k,r9.cell,r9.rows,r9.l,List.cons_append,List.nil_append,List.append_nil];refine Zf Tryz.func113 Tryz.ntmps113 ?_
  repeat' (first|refine Zl ?_|(with_reducible constructor<;>first|intro N hN mk hmk|intro N hN|intro h)|refine Ze C1 ?_|refine Zt (Zq H8.d (Zq hn ha)) ?_|fail)
  (first|(refine l8 (fun i=>⟨[.ptr 0 0 0,.Z,.v (.int .i64 (n-i)),.Z,.Z,.Z,.Z,.Z,.Z,.Z,.Z,.Z],U6 (SI i).rows,((SI i).rows.length+1)⟩) n.toNat (Zw [0,2] [0,1,2,3] (Zq H8.d (Zq hn ha)) ?_) ?_)|(refine l8 (fun i=>⟨[.ptr 0 0 0,.Z,.v (.int .i64 (n-i)),.Z,.Z,.Z,.Z,.Z,.Z,.Z,.Z,.Z],U6 (SI i).rows,((SI i).rows.length+1)⟩) n.toNat (Zw [0,2] [0,1,2] (Zq H8.d (Zq hn ha)) ?_) ?_)|(refine l8 (fun i=>⟨[.ptr 0 0 0,.Z,.v (.int .i64 (n-i)),.Z,.Z,.Z,.Z,.Z,.Z,.Z,.Z,.Z],U6 (SI i).rows,((SI i).rows.length+1)⟩) n.toNat (Zw [0,2] [0,1] (Zq H8.d (Zq hn ha)) ?_) ?_))
  ·rw[hSI];simp only[MS.iter,MS.rows,U6,e9,j4.cell,j4.rows,j4.l,j4.k,r9.cell,r9.rows,r9.l,List.cons_append,List.nil_append,List.append_nil,List.length_cons,List.length_nil,Nat.reduceAdd,Int.natCast_zero,Int.sub_zero]
  intro i hi2
  obtain⟨a,ii,e,e1,e2,e3⟩:=IT i
  dsimp only at e1 e2 e3
  have e0:=e
  rw[←hSI]at e0
  have ej:SI (i+1)=(SI i).inst:=by rw[hSI];rfl
  rw[ej,e0]
  have CI:=INO a ii ⟨hL,by show 0≤a∧a≤_;omega,hb,by show(ii.l.length:Int)≤_;omega,ha,hal⟩
  obtain⟨a',l,e',g1,g2,g3,g4,_⟩:=INF a ii
  rw[e']at CI⊢
  clear e' ej hSI e C1 IT INO INF
  cases ii
  all_goals simp only[MS.rows,U6,e9,j4.cell,j4.rows,j4.l,j4.k,r9.cell,r9.rows,r9.l,List.cons_append,List.nil_append,List.append_nil,List.length_cons,List.length_nil,Nat.reduceAdd]at CI⊢
  ·repeat' (first|refine Za ?_|(with_reducible constructor<;>first|intro N hN mk hmk|intro N hN|intro h)|(refine Zp CI [0,1,2] (Zq H8.d ha) ?_;with_reducible intro _ _)|(refine Zp CI [0,1] (Zq H8.d ha) ?_;with_reducible intro _ _)|refine Zt (Zq H8.d ha) ?_|fail)
   ·(first|(refine Zw [0,2] [0,28,29,30] (Zq H8.d ha) ?_)|(refine Zw [0,2] [0,27,28] (Zq H8.d ha) ?_))
    simp only[show n- ↑(i+1)=n- ↑i-1 by omega]
   ·obtain rfl:i=n.toNat:=by omega
    rw[hR,e0]
    simp only[MS.rows,j4.cell,j4.rows,j4.l,j4.k,r9.cell,r9.rows,r9.l,List.cons_append,List.nil_append,List.append_nil]
    (first|(refine Zr (()) [0,1,2] (Zq H8.d ha) ?_)|(refine Zr (()) [0,1] (Zq H8.d ha) ?_))
    trivial
  ·repeat' (first|refine Za ?_|(with_reducible constructor<;>first|intro N hN mk hmk|intro N hN|intro h)|(refine Zp CI [0,1,2,3] (Zq H8.d ha) ?_;with_reducible intro _ _)|(refine Zp CI [0,1,2] (Zq H8.d ha) ?_;with_reducible intro _ _)|refine Zt (Zq H8.d ha) ?_|fail)
   ·(first|(refine Zw [0,2] [0,29,30,31] (Zq H8.d ha) ?_)|(refine Zw [0,2] [0,28,29] (Zq H8.d ha) ?_))
    simp only[show n- ↑(i+1)=n- ↑i-1 by omega]
   ·obtain rfl:i=n.toNat:=by omega
    rw[hR,e0]
    simp only[MS.rows,j4.cell,j4.rows,j4.l,j4.k,r9.cell,r9.rows,r9.l,List.cons_append,List.nil_append,List.append_nil]
    (first|(refine Zr (()) [0,1,2,3] (Zq H8.d ha) ?_)|(refine Zr (()) [0,1,2] (Zq H8.d ha) ?_))
    trivial
theorem aW(S:MS)(h:gD S 700000):y6 Tryz.prog 113 [.ptr 0 0 0] S.rows 1 (fun _:Unit=>True) (fun _=> .O2 []) (fun _=>S.c6.rows):=by
 obtain⟨L,at_,g,su,re,sl,pa,ar,lo,bs,ii,t⟩:=S
 exact c0H L at_ g su re sl pa ar lo ii bs t h
theorem H2(S:MS)(hL:y9 S.L)(h0:0≤S.at_):∃a ii,S.c6=⟨S.L,a,S.g,S.su,S.re,S.sl,S.pa,S.ar,S.lo,S.bs,ii,S.t⟩∧S.at_+1≤a∧a≤S.at_+33∧ii.l.length≤S.i.l.length+8:=by
 have hx:=j0 hL h0
 obtain⟨a,ii,e,h1,h2,h3⟩:=a26 {S with at_:=S.at_+1} (a7 S.L S.at_%5).toNat
 have h1:S.at_+1≤a:=h1
 have h2:a≤S.at_+1+8*(a7 S.L S.at_%5).toNat:=h2
 have h3:ii.l.length≤S.i.l.length+2*(a7 S.L S.at_%5).toNat:=h3
 exact⟨a,ii,e,h1,by omega,by omega⟩
theorem kH(bs:List b6)(l:List e7)(t:q9):o0 bs++[.a8 false (c6 l)::t.av]=o0 (bs++[⟨l,t⟩]):=by simp [o0,b6.av]
theorem E4:Q6.av=[.v (.int .i64 0),.v (.int .i64 0),.v (.int .i64 0),.v (.int .i64 0),.v (.int .i32 0),.v (.int .i64 0),.v (.int .i64 0),.v (.int .i32 0),.v (.int .i64 0),.v (.int .i64 0),.v (.int .i32 0),.v (.int .i64 0),.v (.int .i64 0)]:=rfl
theorem A1(t:q9)(a b c d e f g h i j k m n:Int):o6 t.av 0 [.v (.int .i64 a),.v (.int .i64 b),.v (.int .i64 c),.v (.int .i64 d),.v (.int .i32 e),.v (.int .i64 f),.v (.int .i64 g),.v (.int .i32 h),.v (.int .i64 i),.v (.int .i64 j),.v (.int .i32 k),.v (.int .i64 m),.v (.int .i64 n)]=(⟨a,b,⟨c,d,e⟩,⟨f,g,h⟩,⟨i,j,k⟩,m,n⟩:q9).av:=rfl
def MS.block(S:MS):MS:={S with bs:=S.bs++[⟨S.i.l,S.t⟩],i:= .nil,t:=Q6}
theorem aB(l:List b6):(o0 l).take l.length=o0 l:=by rw[←D4,List.take_length]
theorem b24(l:List b6)(b:b6):(l++[b]).length=l.length+1:=by simp
theorem iD(l:List b6)(b:b6):(o0 (l++[b])).take (l.length+1)=o0 (l++[b]):=by rw[←b24 l b,aB]
theorem b9(l:List b6)(b:b6):(l++[b]).length=l.length+1:=by simp
def X4(L:List Int)(at_ g su re sl pa:Int)(ar:List cN):List Row:=[⟨10,[[.a8 false (eR L),.v (.int .i64 at_),.v (.int .i64 g),.v (.int .i64 su),.v (.int .i64 re),.v (.int .i64 sl),.v (.int .i64 pa),.a8 false (y4 ar),.a8 true [],.a8 true []]],0⟩]
def mR:=ZZ.mk (Zq H8.d (Zq @E4 (Zq @b9 (Zq @N7 (Zq @nC (Zq @kH (Zq @iD @aB)))))))
theorem b57(L:List Int)(at_ g su re sl pa:Int)(ar:List cN)(bs:List b6)(t:q9)(hb:bs.length≤1000):y6 Tryz.prog 110 [.ptr 0 0 0] (MS.rows ⟨L,at_,g,su,re,sl,pa,ar,.nil,bs,.nil,t⟩) 1 (fun _:Unit=>True) (fun _=> .O2 []) (fun _=>(MS.block ⟨L,at_,g,su,re,sl,pa,ar,.nil,bs,.nil,t⟩).rows):=by
 simp only[MS.rows,MS.block,j4.cell,j4.rows,j4.l,j4.k,r9.cell,r9.rows,r9.l,List.cons_append,List.nil_append,List.append_nil];refine Zf Tryz.func110 Tryz.ntmps110 ?_
 refine aZ 1 bs.length 0 (x:= .a8 true []) (y:= .a8 false (c6 [])) (ids:=[]) rfl (by simp only[U2];rfl) (by simp (maxSteps:=10000000) (disch:=omega) only[mR.d,l9,P7,s9,A2,p7,o3,AV.kept,b7,n4,u0,B3,p9,o9,b8,AV.y8,m8,v8,AV.plain,rd,u6,a6,P6,stepC,AV.e6,AV.S9,AV.w6,AV.L8,AV.scalar,T8,s6,A6,A9,B1,A8,o8,A5,U0,s7,A7,z8,j3,T7,l0,y7,y5,Q0,z6,j8,TD.isRow,s8,j7,j9,j6,F4,Value.oneCell',↓reduceIte,Int.reduceNe,Int.reduceEq,Nat.reduceAdd,Nat.reduceLT,Nat.reduceLeDiff,Nat.reduceSub,Nat.reduceMul,Nat.reduceBEq,Nat.reduceEqDiff,reduceCtorEq,Int.reduceToNat,←decide_not,←Bool.decide_and,sA,sN]<;>first|done|rfl) (by first|rfl|(simp (maxSteps:=10000000) (disch:=omega) only[a6,mR.d,l9,P7,s9,A2,p7,o3,AV.kept,b7,n4,u0,B3,p9,o9,b8,AV.y8,m8,v8,AV.plain,rd,u6,a6,P6,stepC,AV.e6,AV.S9,AV.w6,AV.L8,AV.scalar,T8,s6,A6,A9,B1,A8,o8,A5,U0,s7,A7,z8,j3,T7,l0,y7,y5,Q0,z6,j8,TD.isRow,s8,j7,j9,j6,F4,Value.oneCell',↓reduceIte,Int.reduceNe,Int.reduceEq,Nat.reduceAdd,Nat.reduceLT,Nat.reduceLeDiff,Nat.reduceSub,Nat.reduceMul,Nat.reduceBEq,Nat.reduceEqDiff,reduceCtorEq,Int.reduceToNat,←decide_not,←Bool.decide_and,sA,sN]<;>first|done|rfl)) ?_;simp (maxSteps:=10000000) (disch:=omega) only[n4,y0,F4,mR.d,l9,P7,s9,A2,p7,o3,AV.kept,b7,n4,u0,B3,p9,o9,b8,AV.y8,m8,v8,AV.plain,rd,u6,a6,P6,stepC,AV.e6,AV.S9,AV.w6,AV.L8,AV.scalar,T8,s6,A6,A9,B1,A8,o8,A5,U0,s7,A7,z8,j3,T7,l0,y7,y5,Q0,z6,j8,TD.isRow,s8,j7,j9,j6,F4,Value.oneCell',↓reduceIte,Int.reduceNe,Int.reduceEq,Nat.reduceAdd,Nat.reduceLT,Nat.reduceLeDiff,Nat.reduceSub,Nat.reduceMul,Nat.reduceBEq,Nat.reduceEqDiff,reduceCtorEq,Int.reduceToNat,←decide_not,←Bool.decide_and,sA,sN]
 repeat' (first|refine Za ?_|(with_reducible constructor<;>first|intro N hN mk hmk|intro N hN|intro h)|refine Zt mR.d ?_|fail)
 refine Zr (()) [0,72] mR.d ?_
 trivial
def mS:=ZZ.mk (Zq H8.d (Zq @E4 (Zq @b9 (Zq @N7 (Zq @nC (Zq @kH (Zq @iD @aB)))))))
theorem b58(L:List Int)(at_ g su re sl pa:Int)(ar:List cN)(li:List e7)(bs:List b6)(t:q9)(hb:bs.length≤1000):y6 Tryz.prog 110 [.ptr 0 0 0] (MS.rows ⟨L,at_,g,su,re,sl,pa,ar,.nil,bs,.own li,t⟩) 1 (fun _:Unit=>True) (fun _=> .O2 []) (fun _=>(MS.block ⟨L,at_,g,su,re,sl,pa,ar,.nil,bs,.own li,t⟩).rows):=by
 simp only[MS.rows,MS.block,j4.cell,j4.rows,j4.l,j4.k,r9.cell,r9.rows,r9.l,List.cons_append,List.nil_append,List.append_nil];refine Zf Tryz.func110 Tryz.ntmps110 ?_
 refine aZ 1 bs.length 0 (x:= .own 2 0 li.length) (y:= .a8 false (c6 li)) (ids:=[(2,li.length)]) rfl (by simp only[U2];rfl) (by simp (maxSteps:=10000000) (disch:=omega) only[mS.d,l9,P7,s9,A2,p7,o3,AV.kept,b7,n4,u0,B3,p9,o9,b8,AV.y8,m8,v8,AV.plain,rd,u6,a6,P6,stepC,AV.e6,AV.S9,AV.w6,AV.L8,AV.scalar,T8,s6,A6,A9,B1,A8,o8,A5,U0,s7,A7,z8,j3,T7,l0,y7,y5,Q0,z6,j8,TD.isRow,s8,j7,j9,j6,F4,Value.oneCell',↓reduceIte,Int.reduceNe,Int.reduceEq,Nat.reduceAdd,Nat.reduceLT,Nat.reduceLeDiff,Nat.reduceSub,Nat.reduceMul,Nat.reduceBEq,Nat.reduceEqDiff,reduceCtorEq,Int.reduceToNat,←decide_not,←Bool.decide_and,sA,sN]<;>first|done|rfl) (by first|rfl|(simp (maxSteps:=10000000) (disch:=omega) only[a6,mS.d,l9,P7,s9,A2,p7,o3,AV.kept,b7,n4,u0,B3,p9,o9,b8,AV.y8,m8,v8,AV.plain,rd,u6,a6,P6,stepC,AV.e6,AV.S9,AV.w6,AV.L8,AV.scalar,T8,s6,A6,A9,B1,A8,o8,A5,U0,s7,A7,z8,j3,T7,l0,y7,y5,Q0,z6,j8,TD.isRow,s8,j7,j9,j6,F4,Value.oneCell',↓reduceIte,Int.reduceNe,Int.reduceEq,Nat.reduceAdd,Nat.reduceLT,Nat.reduceLeDiff,Nat.reduceSub,Nat.reduceMul,Nat.reduceBEq,Nat.reduceEqDiff,reduceCtorEq,Int.reduceToNat,←decide_not,←Bool.decide_and,sA,sN]<;>first|done|rfl)) ?_;simp (maxSteps:=10000000) (disch:=omega) only[n4,y0,F4,mS.d,l9,P7,s9,A2,p7,o3,AV.kept,b7,n4,u0,B3,p9,o9,b8,AV.y8,m8,v8,AV.plain,rd,u6,a6,P6,stepC,AV.e6,AV.S9,AV.w6,AV.L8,AV.scalar,T8,s6,A6,A9,B1,A8,o8,A5,U0,s7,A7,z8,j3,T7,l0,y7,y5,Q0,z6,j8,TD.isRow,s8,j7,j9,j6,F4,Value.oneCell',↓reduceIte,Int.reduceNe,Int.reduceEq,Nat.reduceAdd,Nat.reduceLT,Nat.reduceLeDiff,Nat.reduceSub,Nat.reduceMul,Nat.reduceBEq,Nat.reduceEqDiff,reduceCtorEq,Int.reduceToNat,←decide_not,←Bool.decide_and,sA,sN]
 repeat' (first|refine Za ?_|(with_reducible constructor<;>first|intro N hN mk hmk|intro N hN|intro h)|refine Zt mS.d ?_|fail)
 refine Zr (()) [0,72] mS.d ?_
 trivial
def mT:=ZZ.mk (Zq H8.d (Zq @E4 (Zq @b9 (Zq @N7 (Zq @nC (Zq @kH (Zq @iD @aB)))))))
theorem b59(L:List Int)(at_ g su re sl pa:Int)(ar:List cN)(ll:List Loop)(bs:List b6)(t:q9)(hb:bs.length≤1000):y6 Tryz.prog 110 [.ptr 0 0 0] (MS.rows ⟨L,at_,g,su,re,sl,pa,ar,.own ll,bs,.nil,t⟩) 1 (fun _:Unit=>True) (fun _=> .O2 []) (fun _=>(MS.block ⟨L,at_,g,su,re,sl,pa,ar,.own ll,bs,.nil,t⟩).rows):=by
 simp only[MS.rows,MS.block,j4.cell,j4.rows,j4.l,j4.k,r9.cell,r9.rows,r9.l,List.cons_append,List.nil_append,List.append_nil];refine Zf Tryz.func110 Tryz.ntmps110 ?_
 refine aZ 1 bs.length 0 (x:= .a8 true []) (y:= .a8 false (c6 [])) (ids:=[]) rfl (by simp only[U2];rfl) (by simp (maxSteps:=10000000) (disch:=omega) only[mT.d,l9,P7,s9,A2,p7,o3,AV.kept,b7,n4,u0,B3,p9,o9,b8,AV.y8,m8,v8,AV.plain,rd,u6,a6,P6,stepC,AV.e6,AV.S9,AV.w6,AV.L8,AV.scalar,T8,s6,A6,A9,B1,A8,o8,A5,U0,s7,A7,z8,j3,T7,l0,y7,y5,Q0,z6,j8,TD.isRow,s8,j7,j9,j6,F4,Value.oneCell',↓reduceIte,Int.reduceNe,Int.reduceEq,Nat.reduceAdd,Nat.reduceLT,Nat.reduceLeDiff,Nat.reduceSub,Nat.reduceMul,Nat.reduceBEq,Nat.reduceEqDiff,reduceCtorEq,Int.reduceToNat,←decide_not,←Bool.decide_and,sA,sN]<;>first|done|rfl) (by first|rfl|(simp (maxSteps:=10000000) (disch:=omega) only[a6,mT.d,l9,P7,s9,A2,p7,o3,AV.kept,b7,n4,u0,B3,p9,o9,b8,AV.y8,m8,v8,AV.plain,rd,u6,a6,P6,stepC,AV.e6,AV.S9,AV.w6,AV.L8,AV.scalar,T8,s6,A6,A9,B1,A8,o8,A5,U0,s7,A7,z8,j3,T7,l0,y7,y5,Q0,z6,j8,TD.isRow,s8,j7,j9,j6,F4,Value.oneCell',↓reduceIte,Int.reduceNe,Int.reduceEq,Nat.reduceAdd,Nat.reduceLT,Nat.reduceLeDiff,Nat.reduceSub,Nat.reduceMul,Nat.reduceBEq,Nat.reduceEqDiff,reduceCtorEq,Int.reduceToNat,←decide_not,←Bool.decide_and,sA,sN]<;>first|done|rfl)) ?_;simp (maxSteps:=10000000) (disch:=omega) only[n4,y0,F4,mT.d,l9,P7,s9,A2,p7,o3,AV.kept,b7,n4,u0,B3,p9,o9,b8,AV.y8,m8,v8,AV.plain,rd,u6,a6,P6,stepC,AV.e6,AV.S9,AV.w6,AV.L8,AV.scalar,T8,s6,A6,A9,B1,A8,o8,A5,U0,s7,A7,z8,j3,T7,l0,y7,y5,Q0,z6,j8,TD.isRow,s8,j7,j9,j6,F4,Value.oneCell',↓reduceIte,Int.reduceNe,Int.reduceEq,Nat.reduceAdd,Nat.reduceLT,Nat.reduceLeDiff,Nat.reduceSub,Nat.reduceMul,Nat.reduceBEq,Nat.reduceEqDiff,reduceCtorEq,Int.reduceToNat,←decide_not,←Bool.decide_and,sA,sN]
 repeat' (first|refine Za ?_|(with_reducible constructor<;>first|intro N hN mk hmk|intro N hN|intro h)|refine Zt mT.d ?_|fail)
 refine Zr (()) [0,72,2] mT.d ?_
 trivial
def mU:=ZZ.mk (Zq H8.d (Zq @E4 (Zq @b9 (Zq @N7 (Zq @nC (Zq @kH (Zq @iD @aB)))))))
theorem b6a(L:List Int)(at_ g su re sl pa:Int)(ar:List cN)(ll:List Loop)(li:List e7)(bs:List b6)(t:q9)(hb:bs.length≤1000):y6 Tryz.prog 110 [.ptr 0 0 0] (MS.rows ⟨L,at_,g,su,re,sl,pa,ar,.own ll,bs,.own li,t⟩) 1 (fun _:Unit=>True) (fun _=> .O2 []) (fun _=>(MS.block ⟨L,at_,g,su,re,sl,pa,ar,.own ll,bs,.own li,t⟩).rows):=by
 simp only[MS.rows,MS.block,j4.cell,j4.rows,j4.l,j4.k,r9.cell,r9.rows,r9.l,List.cons_append,List.nil_append,List.append_nil];refine Zf Tryz.func110 Tryz.ntmps110 ?_
 refine aZ 1 bs.length 0 (x:= .own 2 0 li.length) (y:= .a8 false (c6 li)) (ids:=[(2,li.length)]) rfl (by simp only[U2];rfl) (by simp (maxSteps:=10000000) (disch:=omega) only[mU.d,l9,P7,s9,A2,p7,o3,AV.kept,b7,n4,u0,B3,p9,o9,b8,AV.y8,m8,v8,AV.plain,rd,u6,a6,P6,stepC,AV.e6,AV.S9,AV.w6,AV.L8,AV.scalar,T8,s6,A6,A9,B1,A8,o8,A5,U0,s7,A7,z8,j3,T7,l0,y7,y5,Q0,z6,j8,TD.isRow,s8,j7,j9,j6,F4,Value.oneCell',↓reduceIte,Int.reduceNe,Int.reduceEq,Nat.reduceAdd,Nat.reduceLT,Nat.reduceLeDiff,Nat.reduceSub,Nat.reduceMul,Nat.reduceBEq,Nat.reduceEqDiff,reduceCtorEq,Int.reduceToNat,←decide_not,←Bool.decide_and,sA,sN]<;>first|done|rfl) (by first|rfl|(simp (maxSteps:=10000000) (disch:=omega) only[a6,mU.d,l9,P7,s9,A2,p7,o3,AV.kept,b7,n4,u0,B3,p9,o9,b8,AV.y8,m8,v8,AV.plain,rd,u6,a6,P6,stepC,AV.e6,AV.S9,AV.w6,AV.L8,AV.scalar,T8,s6,A6,A9,B1,A8,o8,A5,U0,s7,A7,z8,j3,T7,l0,y7,y5,Q0,z6,j8,TD.isRow,s8,j7,j9,j6,F4,Value.oneCell',↓reduceIte,Int.reduceNe,Int.reduceEq,Nat.reduceAdd,Nat.reduceLT,Nat.reduceLeDiff,Nat.reduceSub,Nat.reduceMul,Nat.reduceBEq,Nat.reduceEqDiff,reduceCtorEq,Int.reduceToNat,←decide_not,←Bool.decide_and,sA,sN]<;>first|done|rfl)) ?_;simp (maxSteps:=10000000) (disch:=omega) only[n4,y0,F4,mU.d,l9,P7,s9,A2,p7,o3,AV.kept,b7,n4,u0,B3,p9,o9,b8,AV.y8,m8,v8,AV.plain,rd,u6,a6,P6,stepC,AV.e6,AV.S9,AV.w6,AV.L8,AV.scalar,T8,s6,A6,A9,B1,A8,o8,A5,U0,s7,A7,z8,j3,T7,l0,y7,y5,Q0,z6,j8,TD.isRow,s8,j7,j9,j6,F4,Value.oneCell',↓reduceIte,Int.reduceNe,Int.reduceEq,Nat.reduceAdd,Nat.reduceLT,Nat.reduceLeDiff,Nat.reduceSub,Nat.reduceMul,Nat.reduceBEq,Nat.reduceEqDiff,reduceCtorEq,Int.reduceToNat,←decide_not,←Bool.decide_and,sA,sN]
 repeat' (first|refine Za ?_|(with_reducible constructor<;>first|intro N hN mk hmk|intro N hN|intro h)|refine Zt mU.d ?_|fail)
 refine Zr (()) [0,72,3] mU.d ?_
 trivial
theorem D8(S:MS)(hb:S.bs.length≤1000):y6 Tryz.prog 110 [.ptr 0 0 0] S.rows 1 (fun _:Unit=>True) (fun _=> .O2 []) (fun _=>S.block.rows):=by
 obtain⟨L,at_,g,su,re,sl,pa,ar,lo,bs,ii,t⟩:=S
 cases lo with
 |nil=>cases ii with
  |nil=>exact b57 L at_ g su re sl pa ar bs t hb
  |own li=>exact b58 L at_ g su re sl pa ar li bs t hb
 |own ll=>cases ii with
  |nil=>exact b59 L at_ g su re sl pa ar ll bs t hb
  |own li=>exact b6a L at_ g su re sl pa ar ll li bs t hb
def aL:=ZZ.mk (Zq H8.d (Zq @E4 @gK))
theorem b28(L:List Int)(at_ g su re sl pa:Int)(ar:List cN):y6 Tryz.prog 110 [.ptr 0 0 0] (X4 L at_ g su re sl pa ar) 1 (fun _:Unit=>True) (fun _=> .O2 []) (fun _=>MS.rows ⟨L,at_,g,su,re,sl,pa,ar,.nil,[],.nil,Q6⟩):=by
 simp only[MS.rows,X4,j4.cell,j4.rows,j4.l,j4.k,r9.cell,r9.rows,r9.l,List.cons_append,List.nil_append,List.append_nil];refine Zf Tryz.func110 Tryz.ntmps110 ?_
 repeat' (first|refine Za ?_|(with_reducible constructor<;>first|intro N hN mk hmk|intro N hN|intro h)|refine Zt aL.d ?_|fail)
 refine Zr (()) [0,72] aL.d ?_
 trivial
theorem cZ(x d:Int)(h:0≤x):0≤x%d∧x%d≤x:=by
 by_cases hd:d=0
 ·subst hd;simp;exact h
 ·refine⟨Int.emod_nonneg x hd,?_⟩
  have h1:=Int.emod_add_mul_ediv x d
  rcases Int.lt_or_gt_of_ne hd with g|g
  ·have h2:x / d≤0:=by
    have:=Int.ediv_nonpos_of_nonneg_of_nonpos h (Int.le_of_lt g)
    exact this
   have h3:0≤d*(x / d):=Int.mul_nonneg_of_nonpos_of_nonpos (Int.le_of_lt g) h2
   omega
  ·have h2:0≤x / d:=Int.ediv_nonneg h (Int.le_of_lt g)
   have h3:0≤d*(x / d):=Int.mul_nonneg (Int.le_of_lt g) h2
   omega
def O6(b:Int):q9:=⟨1,0,O0,O0,O0,b,0⟩
def D6(a:E3)(x y:Int):q9:=⟨2,0,O0,a,O0,x,y⟩
def MS.fZ(last:Int)(S:MS):MS:=
 (fun(S1:MS)=>(if a7 S1.L S1.at_%2=0 then
   {S1 with at_:=S1.at_+1+1+1+1,t:=D6 (E7 S1.L (S1.at_+1)) (S.bs.length+1+a7 S1.L (S1.at_+1+1)%(last-S.bs.length)) (S.bs.length+1+a7 S1.L (S1.at_+1+1+1)%(last-S.bs.length))}
  else{S1 with at_:=S1.at_+1,t:=O6 (S.bs.length+1)}).block) S.c6
def MS.fC(last:Int)(S:MS):Nat→MS
 |0=>S
 |i+1=>(S.fC last i).fZ last
def MS.fD(S:MS)(n:Int):MS:=(S.fC (S.bs.length+n) n.toNat).c6
def MS.region(S:MS)(n:Int):MS:=S.block.fD n
theorem b4h(last:Int)(S:MS)(hL:y9 S.L)(h0:0≤S.at_):∃a b,S.fZ last=⟨S.L,a,S.g,S.su,S.re,S.sl,S.pa,S.ar,S.lo,S.bs++[b],.nil,Q6⟩∧S.at_+1≤a∧a≤S.at_+37:=by
 obtain⟨a,ii,e,h1,h2,h3⟩:=H2 S hL h0
 unfold MS.fZ
 rw[e]
 simp only
 split
 ·exact⟨a+1+1+1+1,_,rfl,by omega,by omega⟩
 ·exact⟨a+1,_,rfl,by omega,by omega⟩
theorem S3(last:Int)(S:MS)(hL:y9 S.L)(h0:0≤S.at_)(hi:S.i= .nil)(ht:S.t=Q6):∀i:Nat,∃a bs,S.fC last i=⟨S.L,a,S.g,S.su,S.re,S.sl,S.pa,S.ar,S.lo,bs,.nil,Q6⟩∧S.at_≤a∧a≤S.at_+37*i∧bs.length=S.bs.length+i:=by
 intro i
 induction i with
 |zero=>exact⟨S.at_,S.bs,by rw[←hi,←ht];rfl,by omega,by omega,by omega⟩
 |succ i ih=>
  obtain⟨a,bs,e,h1,h2,h3⟩:=ih
  obtain⟨a',b,e',g1,g2⟩:=b4h last (S.fC last i) (by rw[e];exact hL) (by rw[e];show 0≤a;omega)
  rw[e]at e' g1 g2
  have g1:a+1≤a':=g1
  have g2:a'≤a+37:=g2
  refine⟨a',bs++[b],?_,by omega,by omega,by simp;omega⟩
  simp only[MS.fC,e,e']
def MS.M9(S:MS)(n:Int):List Row:=(S.fD n).rows
def U4:=ZZ.mk (Zq aL.d (Zq @A1 (Zq @O0.eq_1 @b9)))
theorem b7Q(L:List Int)(at_ g su re sl pa:Int)(ar:List cN)(n:Int)(hn:0≤n∧n≤2)(h:gD ⟨L,at_,g,su,re,sl,pa,ar,.nil,[],.nil,Q6⟩ 600000)(hb:0+2≤900):y6 Tryz.prog 108 [.ptr 0 0 0,.v (.int .i64 n)] (X4 L at_ g su re sl pa ar) 1 (fun _:Unit=>True) (fun _=> .O2 []) (fun _=>MS.M9 ⟨L,at_,g,su,re,sl,pa,ar,.nil,[],.nil,Q6⟩ n):=by
 obtain⟨hL,h0,hb0,hi,ha,hal⟩:=h
 simp only at hL h0 ha hal
 clear hb0 hi
 have CB0:=b28 L at_ g su re sl pa ar
 obtain⟨last,hlast⟩:∃last:Int,last=((0:Nat):Int)+n:=⟨_,rfl⟩
 obtain⟨SI,hSI⟩:∃SI,SI=MS.fC last ⟨L,at_,g,su,re,sl,pa,ar,.nil,[],.nil,Q6⟩:=⟨_,rfl⟩
 have hR:MS.M9 ⟨L,at_,g,su,re,sl,pa,ar,.nil,[],.nil,Q6⟩ n=(SI n.toNat).c6.rows:=by rw[hSI,hlast];unfold MS.M9 MS.fD;simp only[List.length_append,List.length_cons,List.length_nil,Nat.zero_add,Nat.reduceAdd]
 obtain⟨R,hR2⟩:∃R:List Row,R=MS.M9 ⟨L,at_,g,su,re,sl,pa,ar,.nil,[],.nil,Q6⟩ n:=⟨_,rfl⟩
 rw[←hR2]
 rw[hR]at hR2
 clear hR
 simp only[MS.rows,MS.block,X4,b9,j4.cell,j4.rows,j4.l,j4.k,r9.cell,r9.rows,r9.l,List.cons_append,List.nil_append,List.append_nil]at CB0
 simp only[MS.rows,X4,j4.cell,j4.rows,j4.l,j4.k,r9.cell,r9.rows,r9.l,List.cons_append,List.nil_append,List.append_nil];refine Zf Tryz.func108 Tryz.ntmps108 ?_
 repeat' (first|refine Zl ?_|(with_reducible constructor<;>first|intro N hN mk hmk|intro N hN|intro h)|(refine Zp CB0 [0] aL.d ?_;with_reducible intro _ _)|refine Zt aL.d ?_|fail)
 refine l8 (fun i=>⟨[.ptr 0 0 0,.Z,.Z,.Z,.Z,.v (.int .i64 (((0:Nat):Int)+n)),.v (.int .i64 (SI i).bs.length),.Z,.Z,.Z,.Z,.Z,.Z,.Z,.Z,.Z,.Z,.Z,.Z,.Z,.Z,.Z,.Z,.Z,.Z,.Z,.Z,.Z,.Z,.Z,.Z,.Z,.Z,.Z,.Z,.Z,.Z,.Z,.Z,.Z,.Z,.Z,.Z,.Z,.Z,.Z,.Z,.Z,.Z,.Z,.Z,.Z,.Z,.Z,.Z,.Z,.Z,.Z,.Z,.Z,.Z,.Z,.Z,.Z,.Z,.Z,.Z,.Z,.Z,.Z,.Z,.Z,.Z,.Z,.Z,.Z,.Z],U6 (SI i).rows,((SI i).rows.length+1)⟩) n.toNat (Zw [0,5,6] [0,16] aL.d ?_) ?_
 ·rw[hSI];simp only[MS.fC,MS.rows,U6,e9,E4,gK,b9,j4.cell,j4.rows,j4.l,j4.k,r9.cell,r9.rows,r9.l,List.cons_append,List.nil_append,List.append_nil,List.length_cons,List.length_nil,Nat.reduceAdd,Int.natCast_zero,Int.add_zero]
 intro i hi2
 clear CB0
 obtain⟨a,bs',e,e1,e2,e3⟩:=S3 last ⟨L,at_,g,su,re,sl,pa,ar,.nil,[],.nil,Q6⟩ hL h0.1 rfl rfl i
 have e0:=e
 rw[←hSI]at e0
 have ej:SI (i+1)=(SI i).fZ last:=by rw[hSI];rfl
 have e1:at_≤a:=e1
 have e2:a≤at_+37*i:=e2
 simp only[List.length_append,List.length_cons,List.length_nil]at e3
 obtain⟨a1,ii,f,f1,f2,f3⟩:=H2 ⟨L,a,g,su,re,sl,pa,ar,.nil,bs',.nil,Q6⟩ hL (by show 0≤a;omega)
 have f1:a+1≤a1:=f1
 have f2:a1≤a+33:=f2
 have f3:ii.l.length≤0+8:=f3
 have CI:=aW ⟨L,a,g,su,re,sl,pa,ar,.nil,bs',.nil,Q6⟩ ⟨hL,by show 0≤a∧a≤_;omega,by show bs'.length≤_;omega,by show((0:Nat):Int)≤_;omega,ha,hal⟩
 rw[f]at CI
 simp only at CI f
 have CN1:=p0 L a1 (by omega) hL
 have CR:=X9 L (a1+1) (by omega) hL
 have CN2:=p0 L (a1+1+1) (by omega) hL
 have CN3:=p0 L (a1+1+1+1) (by omega) hL
 have hx1:=j0 hL (show 0≤a1 by omega)
 have hx2:=j0 hL (show 0≤a1+1+1 by omega)
 have hx3:=j0 hL (show 0≤a1+1+1+1 by omega)
 have CB1:=D8 ⟨L,a1+1,g,su,re,sl,pa,ar,.nil,bs',ii,O6 (bs'.length+1)⟩ (by show bs'.length≤_;omega)
 have CB2:=D8 ⟨L,a1+1+1+1+1,g,su,re,sl,pa,ar,.nil,bs',ii,D6 (E7 L (a1+1)) (bs'.length+1+a7 L (a1+1+1)%(last-bs'.length)) (bs'.length+1+a7 L (a1+1+1+1)%(last-bs'.length))⟩ (by show bs'.length≤_;omega)
 have er1:¬a7 L a1%2=0→(SI (i+1)).rows=(MS.block ⟨L,a1+1,g,su,re,sl,pa,ar,.nil,bs',ii,O6 (bs'.length+1)⟩).rows:=fun hp=>by rw[ej,e0];unfold MS.fZ;simp only;rw[f];simp only;rw[if_neg hp]
 have er2:a7 L a1%2=0→(SI (i+1)).rows=(MS.block ⟨L,a1+1+1+1+1,g,su,re,sl,pa,ar,.nil,bs',ii,D6 (E7 L (a1+1)) (bs'.length+1+a7 L (a1+1+1)%(last-bs'.length)) (bs'.length+1+a7 L (a1+1+1+1)%(last-bs'.length))⟩).rows:=fun hp=>by rw[ej,e0];unfold MS.fZ;simp only;rw[f];simp only;rw[if_pos hp]
 have hR3:i=n.toNat→R=(MS.rows ⟨L,a1,g,su,re,sl,pa,ar,.nil,bs',ii,Q6⟩):=fun hp=>by rw[hR2,←hp,e0,f]
 have elen:(SI (i+1)).bs.length=bs'.length+1:=by
  rw[hSI]
  obtain⟨_,_,e',_,_,e4⟩:=S3 last ⟨L,at_,g,su,re,sl,pa,ar,.nil,[],.nil,Q6⟩ hL h0.1 rfl rfl (i+1)
  rw[e']
  simp only[List.length_append,List.length_cons,List.length_nil]at e4⊢
  omega
 obtain⟨R1,hR1⟩:∃R1,R1=(SI (i+1)).rows:=⟨_,rfl⟩
 rw[←hR1]at er1 er2⊢
 rw[elen,e0]
 clear f ej e e0 hSI hR2 elen hR1
 subst hlast
 generalize a7 L a1=x1 at*
 generalize a7 L (a1+1+1)=x2 at*
 generalize a7 L (a1+1+1+1)=x3 at*
 generalize E7 L (a1+1)=d at*
 obtain⟨dk,dn,dv⟩:=d
 cases ii
 all_goals simp only[MS.rows,MS.block,U6,e9,E4,E3.av,O6,D6,O0,b9,j4.cell,j4.rows,j4.l,j4.k,r9.cell,r9.rows,r9.l,List.cons_append,List.nil_append,List.append_nil,List.length_cons,List.length_nil,Nat.reduceAdd]at CI CR CB1 CB2 er1 er2 hR3⊢
 all_goals simp only[q9.av]at CB1 CB2
 all_goals have hq2:=cZ x2 (((0:Nat):Int)+n-bs'.length) hx2.1
 all_goals have hq3:=cZ x3 (((0:Nat):Int)+n-bs'.length) hx3.1
 all_goals by_cases hp:x1%2=0
 ·repeat' (first|refine Zl ?_|(with_reducible constructor<;>first|intro N hN mk hmk|intro N hN|intro h)|(refine Zp CI [0,1] (Zq U4.d hp) ?_;with_reducible intro _ _)|refine Ze CN1 ?_|refine Ze CR ?_|refine Ze CN2 ?_|refine Ze CN3 ?_|(refine Zp CB2 [0,35] (Zq U4.d hp) ?_;with_reducible intro _ _)|refine Zt (Zq U4.d hp) ?_|fail)
  ·refine Zw [0,5,6] [0,435] (Zq U4.d hp) ?_
   rw[er2 hp]
   simp only[e9,List.cons_append,List.nil_append,List.length_cons,List.length_nil,Nat.reduceAdd,show((bs'.length+1:Nat):Int)=bs'.length+1 from rfl]
  ·rw[hR3 (by omega)]
   refine Zr (()) [0,35] (Zq U4.d hp) ?_
   trivial
 ·repeat' (first|refine Zl ?_|(with_reducible constructor<;>first|intro N hN mk hmk|intro N hN|intro h)|(refine Zp CI [0,1] (Zq U4.d hp) ?_;with_reducible intro _ _)|refine Ze CN1 ?_|(refine Zp CB1 [0,35] (Zq U4.d hp) ?_;with_reducible intro _ _)|refine Zt (Zq U4.d hp) ?_|fail)
  ·refine Zw [0,5,6] [0,187] (Zq U4.d hp) ?_
   rw[er1 hp]
   simp only[e9,List.cons_append,List.nil_append,List.length_cons,List.length_nil,Nat.reduceAdd,show((bs'.length+1:Nat):Int)=bs'.length+1 from rfl]
  ·rw[hR3 (by omega)]
   refine Zr (()) [0,35] (Zq U4.d hp) ?_
   trivial
 ·repeat' (first|refine Zl ?_|(with_reducible constructor<;>first|intro N hN mk hmk|intro N hN|intro h)|(refine Zp CI [0,1] (Zq U4.d hp) ?_;with_reducible intro _ _)|refine Ze CN1 ?_|refine Ze CR ?_|refine Ze CN2 ?_|refine Ze CN3 ?_|(refine Zp CB2 [0,35,36] (Zq U4.d hp) ?_;with_reducible intro _ _)|refine Zt (Zq U4.d hp) ?_|fail)
  ·refine Zw [0,5,6] [0,435] (Zq U4.d hp) ?_
   rw[er2 hp]
   simp only[e9,List.cons_append,List.nil_append,List.length_cons,List.length_nil,Nat.reduceAdd,show((bs'.length+1:Nat):Int)=bs'.length+1 from rfl]
  ·rw[hR3 (by omega)]
   refine Zr (()) [0,35,36] (Zq U4.d hp) ?_
   trivial
 ·repeat' (first|refine Zl ?_|(with_reducible constructor<;>first|intro N hN mk hmk|intro N hN|intro h)|(refine Zp CI [0,1] (Zq U4.d hp) ?_;with_reducible intro _ _)|refine Ze CN1 ?_|(refine Zp CB1 [0,35,36] (Zq U4.d hp) ?_;with_reducible intro _ _)|refine Zt (Zq U4.d hp) ?_|fail)
  ·refine Zw [0,5,6] [0,187] (Zq U4.d hp) ?_
   rw[er1 hp]
   simp only[e9,List.cons_append,List.nil_append,List.length_cons,List.length_nil,Nat.reduceAdd,show((bs'.length+1:Nat):Int)=bs'.length+1 from rfl]
  ·rw[hR3 (by omega)]
   refine Zr (()) [0,35,36] (Zq U4.d hp) ?_
   trivial
def L9:=ZZ.mk (Zq aL.d (Zq @A1 (Zq @O0.eq_1 @b9)))
theorem b4i(L:List Int)(at_ g su re sl pa:Int)(ar:List cN)(bs:List b6)(t:q9)(n:Int)(hn:0≤n∧n≤2)(h:gD ⟨L,at_,g,su,re,sl,pa,ar,.nil,bs,.nil,t⟩ 600000)(hb:bs.length+2≤900):y6 Tryz.prog 108 [.ptr 0 0 0,.v (.int .i64 n)] (MS.rows ⟨L,at_,g,su,re,sl,pa,ar,.nil,bs,.nil,t⟩) 1 (fun _:Unit=>True) (fun _=> .O2 []) (fun _=>MS.M9 ⟨L,at_,g,su,re,sl,pa,ar,.nil,(bs++[⟨[],t⟩]),.nil,Q6⟩ n):=by
 obtain⟨hL,h0,hb0,hi,ha,hal⟩:=h
 simp only at hL h0 ha hal
 clear hb0 hi
 have CB0:=D8 ⟨L,at_,g,su,re,sl,pa,ar,.nil,bs,.nil,t⟩ (by show bs.length≤1000;omega)
 obtain⟨last,hlast⟩:∃last:Int,last=((bs.length+1:Nat):Int)+n:=⟨_,rfl⟩
 obtain⟨SI,hSI⟩:∃SI,SI=MS.fC last ⟨L,at_,g,su,re,sl,pa,ar,.nil,(bs++[⟨[],t⟩]),.nil,Q6⟩:=⟨_,rfl⟩
 have hR:MS.M9 ⟨L,at_,g,su,re,sl,pa,ar,.nil,(bs++[⟨[],t⟩]),.nil,Q6⟩ n=(SI n.toNat).c6.rows:=by rw[hSI,hlast];unfold MS.M9 MS.fD;simp only[List.length_append,List.length_cons,List.length_nil,Nat.zero_add,Nat.reduceAdd]
 obtain⟨R,hR2⟩:∃R:List Row,R=MS.M9 ⟨L,at_,g,su,re,sl,pa,ar,.nil,(bs++[⟨[],t⟩]),.nil,Q6⟩ n:=⟨_,rfl⟩
 rw[←hR2]
 rw[hR]at hR2
 clear hR
 simp only[MS.rows,MS.block,X4,b9,j4.cell,j4.rows,j4.l,j4.k,r9.cell,r9.rows,r9.l,List.cons_append,List.nil_append,List.append_nil]at CB0
 simp only[MS.rows,X4,j4.cell,j4.rows,j4.l,j4.k,r9.cell,r9.rows,r9.l,List.cons_append,List.nil_append,List.append_nil];refine Zf Tryz.func108 Tryz.ntmps108 ?_
 repeat' (first|refine Zl ?_|(with_reducible constructor<;>first|intro N hN mk hmk|intro N hN|intro h)|(refine Zp CB0 [0,1] aL.d ?_;with_reducible intro _ _)|refine Zt aL.d ?_|fail)
 refine l8 (fun i=>⟨[.ptr 0 0 0,.Z,.Z,.Z,.Z,.v (.int .i64 (((bs.length+1:Nat):Int)+n)),.v (.int .i64 (SI i).bs.length),.Z,.Z,.Z,.Z,.Z,.Z,.Z,.Z,.Z,.Z,.Z,.Z,.Z,.Z,.Z,.Z,.Z,.Z,.Z,.Z,.Z,.Z,.Z,.Z,.Z,.Z,.Z,.Z,.Z,.Z,.Z,.Z,.Z,.Z,.Z,.Z,.Z,.Z,.Z,.Z,.Z,.Z,.Z,.Z,.Z,.Z,.Z,.Z,.Z,.Z,.Z,.Z,.Z,.Z,.Z,.Z,.Z,.Z,.Z,.Z,.Z,.Z,.Z,.Z,.Z,.Z,.Z,.Z,.Z,.Z],U6 (SI i).rows,((SI i).rows.length+1)⟩) n.toNat (Zw [0,5,6] [0,16] aL.d ?_) ?_
 ·rw[hSI];simp only[MS.fC,MS.rows,U6,e9,E4,gK,b9,j4.cell,j4.rows,j4.l,j4.k,r9.cell,r9.rows,r9.l,List.cons_append,List.nil_append,List.append_nil,List.length_cons,List.length_nil,Nat.reduceAdd,Int.natCast_zero,Int.add_zero]
 intro i hi2
 clear CB0
 obtain⟨a,bs',e,e1,e2,e3⟩:=S3 last ⟨L,at_,g,su,re,sl,pa,ar,.nil,(bs++[⟨[],t⟩]),.nil,Q6⟩ hL h0.1 rfl rfl i
 have e0:=e
 rw[←hSI]at e0
 have ej:SI (i+1)=(SI i).fZ last:=by rw[hSI];rfl
 have e1:at_≤a:=e1
 have e2:a≤at_+37*i:=e2
 simp only[List.length_append,List.length_cons,List.length_nil]at e3
 obtain⟨a1,ii,f,f1,f2,f3⟩:=H2 ⟨L,a,g,su,re,sl,pa,ar,.nil,bs',.nil,Q6⟩ hL (by show 0≤a;omega)
 have f1:a+1≤a1:=f1
 have f2:a1≤a+33:=f2
 have f3:ii.l.length≤0+8:=f3
 have CI:=aW ⟨L,a,g,su,re,sl,pa,ar,.nil,bs',.nil,Q6⟩ ⟨hL,by show 0≤a∧a≤_;omega,by show bs'.length≤_;omega,by show((0:Nat):Int)≤_;omega,ha,hal⟩
 rw[f]at CI
 simp only at CI f
 have CN1:=p0 L a1 (by omega) hL
 have CR:=X9 L (a1+1) (by omega) hL
 have CN2:=p0 L (a1+1+1) (by omega) hL
 have CN3:=p0 L (a1+1+1+1) (by omega) hL
 have hx1:=j0 hL (show 0≤a1 by omega)
 have hx2:=j0 hL (show 0≤a1+1+1 by omega)
 have hx3:=j0 hL (show 0≤a1+1+1+1 by omega)
 have CB1:=D8 ⟨L,a1+1,g,su,re,sl,pa,ar,.nil,bs',ii,O6 (bs'.length+1)⟩ (by show bs'.length≤_;omega)
 have CB2:=D8 ⟨L,a1+1+1+1+1,g,su,re,sl,pa,ar,.nil,bs',ii,D6 (E7 L (a1+1)) (bs'.length+1+a7 L (a1+1+1)%(last-bs'.length)) (bs'.length+1+a7 L (a1+1+1+1)%(last-bs'.length))⟩ (by show bs'.length≤_;omega)
 have er1:¬a7 L a1%2=0→(SI (i+1)).rows=(MS.block ⟨L,a1+1,g,su,re,sl,pa,ar,.nil,bs',ii,O6 (bs'.length+1)⟩).rows:=fun hp=>by rw[ej,e0];unfold MS.fZ;simp only;rw[f];simp only;rw[if_neg hp]
 have er2:a7 L a1%2=0→(SI (i+1)).rows=(MS.block ⟨L,a1+1+1+1+1,g,su,re,sl,pa,ar,.nil,bs',ii,D6 (E7 L (a1+1)) (bs'.length+1+a7 L (a1+1+1)%(last-bs'.length)) (bs'.length+1+a7 L (a1+1+1+1)%(last-bs'.length))⟩).rows:=fun hp=>by rw[ej,e0];unfold MS.fZ;simp only;rw[f];simp only;rw[if_pos hp]
 have hR3:i=n.toNat→R=(MS.rows ⟨L,a1,g,su,re,sl,pa,ar,.nil,bs',ii,Q6⟩):=fun hp=>by rw[hR2,←hp,e0,f]
 have elen:(SI (i+1)).bs.length=bs'.length+1:=by
  rw[hSI]
  obtain⟨_,_,e',_,_,e4⟩:=S3 last ⟨L,at_,g,su,re,sl,pa,ar,.nil,(bs++[⟨[],t⟩]),.nil,Q6⟩ hL h0.1 rfl rfl (i+1)
  rw[e']
  simp only[List.length_append,List.length_cons,List.length_nil]at e4⊢
  omega
 obtain⟨R1,hR1⟩:∃R1,R1=(SI (i+1)).rows:=⟨_,rfl⟩
 rw[←hR1]at er1 er2⊢
 rw[elen,e0]
 clear f ej e e0 hSI hR2 elen hR1
 subst hlast
 generalize a7 L a1=x1 at*
 generalize a7 L (a1+1+1)=x2 at*
 generalize a7 L (a1+1+1+1)=x3 at*
 generalize E7 L (a1+1)=d at*
 obtain⟨dk,dn,dv⟩:=d
 cases ii
 all_goals simp only[MS.rows,MS.block,U6,e9,E4,E3.av,O6,D6,O0,b9,j4.cell,j4.rows,j4.l,j4.k,r9.cell,r9.rows,r9.l,List.cons_append,List.nil_append,List.append_nil,List.length_cons,List.length_nil,Nat.reduceAdd]at CI CR CB1 CB2 er1 er2 hR3⊢
 all_goals simp only[q9.av]at CB1 CB2
 all_goals have hq2:=cZ x2 (((bs.length+1:Nat):Int)+n-bs'.length) hx2.1
 all_goals have hq3:=cZ x3 (((bs.length+1:Nat):Int)+n-bs'.length) hx3.1
 all_goals by_cases hp:x1%2=0
 ·repeat' (first|refine Zl ?_|(with_reducible constructor<;>first|intro N hN mk hmk|intro N hN|intro h)|(refine Zp CI [0,1] (Zq L9.d hp) ?_;with_reducible intro _ _)|refine Ze CN1 ?_|refine Ze CR ?_|refine Ze CN2 ?_|refine Ze CN3 ?_|(refine Zp CB2 [0,35] (Zq L9.d hp) ?_;with_reducible intro _ _)|refine Zt (Zq L9.d hp) ?_|fail)
  ·refine Zw [0,5,6] [0,435] (Zq L9.d hp) ?_
   rw[er2 hp]
   simp only[e9,List.cons_append,List.nil_append,List.length_cons,List.length_nil,Nat.reduceAdd,show((bs'.length+1:Nat):Int)=bs'.length+1 from rfl]
  ·rw[hR3 (by omega)]
   refine Zr (()) [0,35] (Zq L9.d hp) ?_
   trivial
 ·repeat' (first|refine Zl ?_|(with_reducible constructor<;>first|intro N hN mk hmk|intro N hN|intro h)|(refine Zp CI [0,1] (Zq L9.d hp) ?_;with_reducible intro _ _)|refine Ze CN1 ?_|(refine Zp CB1 [0,35] (Zq L9.d hp) ?_;with_reducible intro _ _)|refine Zt (Zq L9.d hp) ?_|fail)
  ·refine Zw [0,5,6] [0,187] (Zq L9.d hp) ?_
   rw[er1 hp]
   simp only[e9,List.cons_append,List.nil_append,List.length_cons,List.length_nil,Nat.reduceAdd,show((bs'.length+1:Nat):Int)=bs'.length+1 from rfl]
  ·rw[hR3 (by omega)]
   refine Zr (()) [0,35] (Zq L9.d hp) ?_
   trivial
 ·repeat' (first|refine Zl ?_|(with_reducible constructor<;>first|intro N hN mk hmk|intro N hN|intro h)|(refine Zp CI [0,1] (Zq L9.d hp) ?_;with_reducible intro _ _)|refine Ze CN1 ?_|refine Ze CR ?_|refine Ze CN2 ?_|refine Ze CN3 ?_|(refine Zp CB2 [0,35,36] (Zq L9.d hp) ?_;with_reducible intro _ _)|refine Zt (Zq L9.d hp) ?_|fail)
  ·refine Zw [0,5,6] [0,435] (Zq L9.d hp) ?_
   rw[er2 hp]
   simp only[e9,List.cons_append,List.nil_append,List.length_cons,List.length_nil,Nat.reduceAdd,show((bs'.length+1:Nat):Int)=bs'.length+1 from rfl]
  ·rw[hR3 (by omega)]
   refine Zr (()) [0,35,36] (Zq L9.d hp) ?_
   trivial
 ·repeat' (first|refine Zl ?_|(with_reducible constructor<;>first|intro N hN mk hmk|intro N hN|intro h)|(refine Zp CI [0,1] (Zq L9.d hp) ?_;with_reducible intro _ _)|refine Ze CN1 ?_|(refine Zp CB1 [0,35,36] (Zq L9.d hp) ?_;with_reducible intro _ _)|refine Zt (Zq L9.d hp) ?_|fail)
  ·refine Zw [0,5,6] [0,187] (Zq L9.d hp) ?_
   rw[er1 hp]
   simp only[e9,List.cons_append,List.nil_append,List.length_cons,List.length_nil,Nat.reduceAdd,show((bs'.length+1:Nat):Int)=bs'.length+1 from rfl]
  ·rw[hR3 (by omega)]
   refine Zr (()) [0,35,36] (Zq L9.d hp) ?_
   trivial
def M4:=ZZ.mk (Zq aL.d (Zq @A1 (Zq @O0.eq_1 @b9)))
theorem b4j(L:List Int)(at_ g su re sl pa:Int)(ar:List cN)(li:List e7)(bs:List b6)(t:q9)(n:Int)(hn:0≤n∧n≤2)(h:gD ⟨L,at_,g,su,re,sl,pa,ar,.nil,bs,.own li,t⟩ 600000)(hb:bs.length+2≤900):y6 Tryz.prog 108 [.ptr 0 0 0,.v (.int .i64 n)] (MS.rows ⟨L,at_,g,su,re,sl,pa,ar,.nil,bs,.own li,t⟩) 1 (fun _:Unit=>True) (fun _=> .O2 []) (fun _=>MS.M9 ⟨L,at_,g,su,re,sl,pa,ar,.nil,(bs++[⟨li,t⟩]),.nil,Q6⟩ n):=by
 obtain⟨hL,h0,hb0,hi,ha,hal⟩:=h
 simp only at hL h0 ha hal
 clear hb0 hi
 have CB0:=D8 ⟨L,at_,g,su,re,sl,pa,ar,.nil,bs,.own li,t⟩ (by show bs.length≤1000;omega)
 obtain⟨last,hlast⟩:∃last:Int,last=((bs.length+1:Nat):Int)+n:=⟨_,rfl⟩
 obtain⟨SI,hSI⟩:∃SI,SI=MS.fC last ⟨L,at_,g,su,re,sl,pa,ar,.nil,(bs++[⟨li,t⟩]),.nil,Q6⟩:=⟨_,rfl⟩
 have hR:MS.M9 ⟨L,at_,g,su,re,sl,pa,ar,.nil,(bs++[⟨li,t⟩]),.nil,Q6⟩ n=(SI n.toNat).c6.rows:=by rw[hSI,hlast];unfold MS.M9 MS.fD;simp only[List.length_append,List.length_cons,List.length_nil,Nat.zero_add,Nat.reduceAdd]
 obtain⟨R,hR2⟩:∃R:List Row,R=MS.M9 ⟨L,at_,g,su,re,sl,pa,ar,.nil,(bs++[⟨li,t⟩]),.nil,Q6⟩ n:=⟨_,rfl⟩
 rw[←hR2]
 rw[hR]at hR2
 clear hR
 simp only[MS.rows,MS.block,X4,b9,j4.cell,j4.rows,j4.l,j4.k,r9.cell,r9.rows,r9.l,List.cons_append,List.nil_append,List.append_nil]at CB0
 simp only[MS.rows,X4,j4.cell,j4.rows,j4.l,j4.k,r9.cell,r9.rows,r9.l,List.cons_append,List.nil_append,List.append_nil];refine Zf Tryz.func108 Tryz.ntmps108 ?_
 repeat' (first|refine Zl ?_|(with_reducible constructor<;>first|intro N hN mk hmk|intro N hN|intro h)|(refine Zp CB0 [0,1,2] aL.d ?_;with_reducible intro _ _)|refine Zt aL.d ?_|fail)
 refine l8 (fun i=>⟨[.ptr 0 0 0,.Z,.Z,.Z,.Z,.v (.int .i64 (((bs.length+1:Nat):Int)+n)),.v (.int .i64 (SI i).bs.length),.Z,.Z,.Z,.Z,.Z,.Z,.Z,.Z,.Z,.Z,.Z,.Z,.Z,.Z,.Z,.Z,.Z,.Z,.Z,.Z,.Z,.Z,.Z,.Z,.Z,.Z,.Z,.Z,.Z,.Z,.Z,.Z,.Z,.Z,.Z,.Z,.Z,.Z,.Z,.Z,.Z,.Z,.Z,.Z,.Z,.Z,.Z,.Z,.Z,.Z,.Z,.Z,.Z,.Z,.Z,.Z,.Z,.Z,.Z,.Z,.Z,.Z,.Z,.Z,.Z,.Z,.Z,.Z,.Z,.Z],U6 (SI i).rows,((SI i).rows.length+1)⟩) n.toNat (Zw [0,5,6] [0,16] aL.d ?_) ?_
 ·rw[hSI];simp only[MS.fC,MS.rows,U6,e9,E4,gK,b9,j4.cell,j4.rows,j4.l,j4.k,r9.cell,r9.rows,r9.l,List.cons_append,List.nil_append,List.append_nil,List.length_cons,List.length_nil,Nat.reduceAdd,Int.natCast_zero,Int.add_zero]
 intro i hi2
 clear CB0
 obtain⟨a,bs',e,e1,e2,e3⟩:=S3 last ⟨L,at_,g,su,re,sl,pa,ar,.nil,(bs++[⟨li,t⟩]),.nil,Q6⟩ hL h0.1 rfl rfl i
 have e0:=e
 rw[←hSI]at e0
 have ej:SI (i+1)=(SI i).fZ last:=by rw[hSI];rfl
 have e1:at_≤a:=e1
 have e2:a≤at_+37*i:=e2
 simp only[List.length_append,List.length_cons,List.length_nil]at e3
 obtain⟨a1,ii,f,f1,f2,f3⟩:=H2 ⟨L,a,g,su,re,sl,pa,ar,.nil,bs',.nil,Q6⟩ hL (by show 0≤a;omega)
 have f1:a+1≤a1:=f1
 have f2:a1≤a+33:=f2
 have f3:ii.l.length≤0+8:=f3
 have CI:=aW ⟨L,a,g,su,re,sl,pa,ar,.nil,bs',.nil,Q6⟩ ⟨hL,by show 0≤a∧a≤_;omega,by show bs'.length≤_;omega,by show((0:Nat):Int)≤_;omega,ha,hal⟩
 rw[f]at CI
 simp only at CI f
 have CN1:=p0 L a1 (by omega) hL
 have CR:=X9 L (a1+1) (by omega) hL
 have CN2:=p0 L (a1+1+1) (by omega) hL
 have CN3:=p0 L (a1+1+1+1) (by omega) hL
 have hx1:=j0 hL (show 0≤a1 by omega)
 have hx2:=j0 hL (show 0≤a1+1+1 by omega)
 have hx3:=j0 hL (show 0≤a1+1+1+1 by omega)
 have CB1:=D8 ⟨L,a1+1,g,su,re,sl,pa,ar,.nil,bs',ii,O6 (bs'.length+1)⟩ (by show bs'.length≤_;omega)
 have CB2:=D8 ⟨L,a1+1+1+1+1,g,su,re,sl,pa,ar,.nil,bs',ii,D6 (E7 L (a1+1)) (bs'.length+1+a7 L (a1+1+1)%(last-bs'.length)) (bs'.length+1+a7 L (a1+1+1+1)%(last-bs'.length))⟩ (by show bs'.length≤_;omega)
 have er1:¬a7 L a1%2=0→(SI (i+1)).rows=(MS.block ⟨L,a1+1,g,su,re,sl,pa,ar,.nil,bs',ii,O6 (bs'.length+1)⟩).rows:=fun hp=>by rw[ej,e0];unfold MS.fZ;simp only;rw[f];simp only;rw[if_neg hp]
 have er2:a7 L a1%2=0→(SI (i+1)).rows=(MS.block ⟨L,a1+1+1+1+1,g,su,re,sl,pa,ar,.nil,bs',ii,D6 (E7 L (a1+1)) (bs'.length+1+a7 L (a1+1+1)%(last-bs'.length)) (bs'.length+1+a7 L (a1+1+1+1)%(last-bs'.length))⟩).rows:=fun hp=>by rw[ej,e0];unfold MS.fZ;simp only;rw[f];simp only;rw[if_pos hp]
 have hR3:i=n.toNat→R=(MS.rows ⟨L,a1,g,su,re,sl,pa,ar,.nil,bs',ii,Q6⟩):=fun hp=>by rw[hR2,←hp,e0,f]
 have elen:(SI (i+1)).bs.length=bs'.length+1:=by
  rw[hSI]
  obtain⟨_,_,e',_,_,e4⟩:=S3 last ⟨L,at_,g,su,re,sl,pa,ar,.nil,(bs++[⟨li,t⟩]),.nil,Q6⟩ hL h0.1 rfl rfl (i+1)
  rw[e']
  simp only[List.length_append,List.length_cons,List.length_nil]at e4⊢
  omega
 obtain⟨R1,hR1⟩:∃R1,R1=(SI (i+1)).rows:=⟨_,rfl⟩
 rw[←hR1]at er1 er2⊢
 rw[elen,e0]
 clear f ej e e0 hSI hR2 elen hR1
 subst hlast
 generalize a7 L a1=x1 at*
 generalize a7 L (a1+1+1)=x2 at*
 generalize a7 L (a1+1+1+1)=x3 at*
 generalize E7 L (a1+1)=d at*
 obtain⟨dk,dn,dv⟩:=d
 cases ii
 all_goals simp only[MS.rows,MS.block,U6,e9,E4,E3.av,O6,D6,O0,b9,j4.cell,j4.rows,j4.l,j4.k,r9.cell,r9.rows,r9.l,List.cons_append,List.nil_append,List.append_nil,List.length_cons,List.length_nil,Nat.reduceAdd]at CI CR CB1 CB2 er1 er2 hR3⊢
 all_goals simp only[q9.av]at CB1 CB2
 all_goals have hq2:=cZ x2 (((bs.length+1:Nat):Int)+n-bs'.length) hx2.1
 all_goals have hq3:=cZ x3 (((bs.length+1:Nat):Int)+n-bs'.length) hx3.1
 all_goals by_cases hp:x1%2=0
 ·repeat' (first|refine Zl ?_|(with_reducible constructor<;>first|intro N hN mk hmk|intro N hN|intro h)|(refine Zp CI [0,1] (Zq M4.d hp) ?_;with_reducible intro _ _)|refine Ze CN1 ?_|refine Ze CR ?_|refine Ze CN2 ?_|refine Ze CN3 ?_|(refine Zp CB2 [0,35] (Zq M4.d hp) ?_;with_reducible intro _ _)|refine Zt (Zq M4.d hp) ?_|fail)
  ·refine Zw [0,5,6] [0,435] (Zq M4.d hp) ?_
   rw[er2 hp]
   simp only[e9,List.cons_append,List.nil_append,List.length_cons,List.length_nil,Nat.reduceAdd,show((bs'.length+1:Nat):Int)=bs'.length+1 from rfl]
  ·rw[hR3 (by omega)]
   refine Zr (()) [0,35] (Zq M4.d hp) ?_
   trivial
 ·repeat' (first|refine Zl ?_|(with_reducible constructor<;>first|intro N hN mk hmk|intro N hN|intro h)|(refine Zp CI [0,1] (Zq M4.d hp) ?_;with_reducible intro _ _)|refine Ze CN1 ?_|(refine Zp CB1 [0,35] (Zq M4.d hp) ?_;with_reducible intro _ _)|refine Zt (Zq M4.d hp) ?_|fail)
  ·refine Zw [0,5,6] [0,187] (Zq M4.d hp) ?_
   rw[er1 hp]
   simp only[e9,List.cons_append,List.nil_append,List.length_cons,List.length_nil,Nat.reduceAdd,show((bs'.length+1:Nat):Int)=bs'.length+1 from rfl]
  ·rw[hR3 (by omega)]
   refine Zr (()) [0,35] (Zq M4.d hp) ?_
   trivial
 ·repeat' (first|refine Zl ?_|(with_reducible constructor<;>first|intro N hN mk hmk|intro N hN|intro h)|(refine Zp CI [0,1] (Zq M4.d hp) ?_;with_reducible intro _ _)|refine Ze CN1 ?_|refine Ze CR ?_|refine Ze CN2 ?_|refine Ze CN3 ?_|(refine Zp CB2 [0,35,36] (Zq M4.d hp) ?_;with_reducible intro _ _)|refine Zt (Zq M4.d hp) ?_|fail)
  ·refine Zw [0,5,6] [0,435] (Zq M4.d hp) ?_
   rw[er2 hp]
   simp only[e9,List.cons_append,List.nil_append,List.length_cons,List.length_nil,Nat.reduceAdd,show((bs'.length+1:Nat):Int)=bs'.length+1 from rfl]
  ·rw[hR3 (by omega)]
   refine Zr (()) [0,35,36] (Zq M4.d hp) ?_
   trivial
 ·repeat' (first|refine Zl ?_|(with_reducible constructor<;>first|intro N hN mk hmk|intro N hN|intro h)|(refine Zp CI [0,1] (Zq M4.d hp) ?_;with_reducible intro _ _)|refine Ze CN1 ?_|(refine Zp CB1 [0,35,36] (Zq M4.d hp) ?_;with_reducible intro _ _)|refine Zt (Zq M4.d hp) ?_|fail)
  ·refine Zw [0,5,6] [0,187] (Zq M4.d hp) ?_
   rw[er1 hp]
   simp only[e9,List.cons_append,List.nil_append,List.length_cons,List.length_nil,Nat.reduceAdd,show((bs'.length+1:Nat):Int)=bs'.length+1 from rfl]
  ·rw[hR3 (by omega)]
   refine Zr (()) [0,35,36] (Zq M4.d hp) ?_
   trivial
def M5:=ZZ.mk (Zq aL.d (Zq @A1 (Zq @O0.eq_1 @b9)))
theorem b4k(L:List Int)(at_ g su re sl pa:Int)(ar:List cN)(ll:List Loop)(bs:List b6)(t:q9)(n:Int)(hn:0≤n∧n≤2)(h:gD ⟨L,at_,g,su,re,sl,pa,ar,.own ll,bs,.nil,t⟩ 600000)(hb:bs.length+2≤900):y6 Tryz.prog 108 [.ptr 0 0 0,.v (.int .i64 n)] (MS.rows ⟨L,at_,g,su,re,sl,pa,ar,.own ll,bs,.nil,t⟩) 1 (fun _:Unit=>True) (fun _=> .O2 []) (fun _=>MS.M9 ⟨L,at_,g,su,re,sl,pa,ar,.own ll,(bs++[⟨[],t⟩]),.nil,Q6⟩ n):=by
 obtain⟨hL,h0,hb0,hi,ha,hal⟩:=h
 simp only at hL h0 ha hal
 clear hb0 hi
 have CB0:=D8 ⟨L,at_,g,su,re,sl,pa,ar,.own ll,bs,.nil,t⟩ (by show bs.length≤1000;omega)
 obtain⟨last,hlast⟩:∃last:Int,last=((bs.length+1:Nat):Int)+n:=⟨_,rfl⟩
 obtain⟨SI,hSI⟩:∃SI,SI=MS.fC last ⟨L,at_,g,su,re,sl,pa,ar,.own ll,(bs++[⟨[],t⟩]),.nil,Q6⟩:=⟨_,rfl⟩
 have hR:MS.M9 ⟨L,at_,g,su,re,sl,pa,ar,.own ll,(bs++[⟨[],t⟩]),.nil,Q6⟩ n=(SI n.toNat).c6.rows:=by rw[hSI,hlast];unfold MS.M9 MS.fD;simp only[List.length_append,List.length_cons,List.length_nil,Nat.zero_add,Nat.reduceAdd]
 obtain⟨R,hR2⟩:∃R:List Row,R=MS.M9 ⟨L,at_,g,su,re,sl,pa,ar,.own ll,(bs++[⟨[],t⟩]),.nil,Q6⟩ n:=⟨_,rfl⟩
 rw[←hR2]
 rw[hR]at hR2
 clear hR
 simp only[MS.rows,MS.block,X4,b9,j4.cell,j4.rows,j4.l,j4.k,r9.cell,r9.rows,r9.l,List.cons_append,List.nil_append,List.append_nil]at CB0
 simp only[MS.rows,X4,j4.cell,j4.rows,j4.l,j4.k,r9.cell,r9.rows,r9.l,List.cons_append,List.nil_append,List.append_nil];refine Zf Tryz.func108 Tryz.ntmps108 ?_
 repeat' (first|refine Zl ?_|(with_reducible constructor<;>first|intro N hN mk hmk|intro N hN|intro h)|(refine Zp CB0 [0,1,2] aL.d ?_;with_reducible intro _ _)|refine Zt aL.d ?_|fail)
 refine l8 (fun i=>⟨[.ptr 0 0 0,.Z,.Z,.Z,.Z,.v (.int .i64 (((bs.length+1:Nat):Int)+n)),.v (.int .i64 (SI i).bs.length),.Z,.Z,.Z,.Z,.Z,.Z,.Z,.Z,.Z,.Z,.Z,.Z,.Z,.Z,.Z,.Z,.Z,.Z,.Z,.Z,.Z,.Z,.Z,.Z,.Z,.Z,.Z,.Z,.Z,.Z,.Z,.Z,.Z,.Z,.Z,.Z,.Z,.Z,.Z,.Z,.Z,.Z,.Z,.Z,.Z,.Z,.Z,.Z,.Z,.Z,.Z,.Z,.Z,.Z,.Z,.Z,.Z,.Z,.Z,.Z,.Z,.Z,.Z,.Z,.Z,.Z,.Z,.Z,.Z,.Z],U6 (SI i).rows,((SI i).rows.length+1)⟩) n.toNat (Zw [0,5,6] [0,16,17] aL.d ?_) ?_
 ·rw[hSI];simp only[MS.fC,MS.rows,U6,e9,E4,gK,b9,j4.cell,j4.rows,j4.l,j4.k,r9.cell,r9.rows,r9.l,List.cons_append,List.nil_append,List.append_nil,List.length_cons,List.length_nil,Nat.reduceAdd,Int.natCast_zero,Int.add_zero]
 intro i hi2
 clear CB0
 obtain⟨a,bs',e,e1,e2,e3⟩:=S3 last ⟨L,at_,g,su,re,sl,pa,ar,.own ll,(bs++[⟨[],t⟩]),.nil,Q6⟩ hL h0.1 rfl rfl i
 have e0:=e
 rw[←hSI]at e0
 have ej:SI (i+1)=(SI i).fZ last:=by rw[hSI];rfl
 have e1:at_≤a:=e1
 have e2:a≤at_+37*i:=e2
 simp only[List.length_append,List.length_cons,List.length_nil]at e3
 obtain⟨a1,ii,f,f1,f2,f3⟩:=H2 ⟨L,a,g,su,re,sl,pa,ar,.own ll,bs',.nil,Q6⟩ hL (by show 0≤a;omega)
 have f1:a+1≤a1:=f1
 have f2:a1≤a+33:=f2
 have f3:ii.l.length≤0+8:=f3
 have CI:=aW ⟨L,a,g,su,re,sl,pa,ar,.own ll,bs',.nil,Q6⟩ ⟨hL,by show 0≤a∧a≤_;omega,by show bs'.length≤_;omega,by show((0:Nat):Int)≤_;omega,ha,hal⟩
 rw[f]at CI
 simp only at CI f
 have CN1:=p0 L a1 (by omega) hL
 have CR:=X9 L (a1+1) (by omega) hL
 have CN2:=p0 L (a1+1+1) (by omega) hL
 have CN3:=p0 L (a1+1+1+1) (by omega) hL
 have hx1:=j0 hL (show 0≤a1 by omega)
 have hx2:=j0 hL (show 0≤a1+1+1 by omega)
 have hx3:=j0 hL (show 0≤a1+1+1+1 by omega)
 have CB1:=D8 ⟨L,a1+1,g,su,re,sl,pa,ar,.own ll,bs',ii,O6 (bs'.length+1)⟩ (by show bs'.length≤_;omega)
 have CB2:=D8 ⟨L,a1+1+1+1+1,g,su,re,sl,pa,ar,.own ll,bs',ii,D6 (E7 L (a1+1)) (bs'.length+1+a7 L (a1+1+1)%(last-bs'.length)) (bs'.length+1+a7 L (a1+1+1+1)%(last-bs'.length))⟩ (by show bs'.length≤_;omega)
 have er1:¬a7 L a1%2=0→(SI (i+1)).rows=(MS.block ⟨L,a1+1,g,su,re,sl,pa,ar,.own ll,bs',ii,O6 (bs'.length+1)⟩).rows:=fun hp=>by rw[ej,e0];unfold MS.fZ;simp only;rw[f];simp only;rw[if_neg hp]
 have er2:a7 L a1%2=0→(SI (i+1)).rows=(MS.block ⟨L,a1+1+1+1+1,g,su,re,sl,pa,ar,.own ll,bs',ii,D6 (E7 L (a1+1)) (bs'.length+1+a7 L (a1+1+1)%(last-bs'.length)) (bs'.length+1+a7 L (a1+1+1+1)%(last-bs'.length))⟩).rows:=fun hp=>by rw[ej,e0];unfold MS.fZ;simp only;rw[f];simp only;rw[if_pos hp]
 have hR3:i=n.toNat→R=(MS.rows ⟨L,a1,g,su,re,sl,pa,ar,.own ll,bs',ii,Q6⟩):=fun hp=>by rw[hR2,←hp,e0,f]
 have elen:(SI (i+1)).bs.length=bs'.length+1:=by
  rw[hSI]
  obtain⟨_,_,e',_,_,e4⟩:=S3 last ⟨L,at_,g,su,re,sl,pa,ar,.own ll,(bs++[⟨[],t⟩]),.nil,Q6⟩ hL h0.1 rfl rfl (i+1)
  rw[e']
  simp only[List.length_append,List.length_cons,List.length_nil]at e4⊢
  omega
 obtain⟨R1,hR1⟩:∃R1,R1=(SI (i+1)).rows:=⟨_,rfl⟩
 rw[←hR1]at er1 er2⊢
 rw[elen,e0]
 clear f ej e e0 hSI hR2 elen hR1
 subst hlast
 generalize a7 L a1=x1 at*
 generalize a7 L (a1+1+1)=x2 at*
 generalize a7 L (a1+1+1+1)=x3 at*
 generalize E7 L (a1+1)=d at*
 obtain⟨dk,dn,dv⟩:=d
 cases ii
 all_goals simp only[MS.rows,MS.block,U6,e9,E4,E3.av,O6,D6,O0,b9,j4.cell,j4.rows,j4.l,j4.k,r9.cell,r9.rows,r9.l,List.cons_append,List.nil_append,List.append_nil,List.length_cons,List.length_nil,Nat.reduceAdd]at CI CR CB1 CB2 er1 er2 hR3⊢
 all_goals simp only[q9.av]at CB1 CB2
 all_goals have hq2:=cZ x2 (((bs.length+1:Nat):Int)+n-bs'.length) hx2.1
 all_goals have hq3:=cZ x3 (((bs.length+1:Nat):Int)+n-bs'.length) hx3.1
 all_goals by_cases hp:x1%2=0
 ·repeat' (first|refine Zl ?_|(with_reducible constructor<;>first|intro N hN mk hmk|intro N hN|intro h)|(refine Zp CI [0,1,2] (Zq M5.d hp) ?_;with_reducible intro _ _)|refine Ze CN1 ?_|refine Ze CR ?_|refine Ze CN2 ?_|refine Ze CN3 ?_|(refine Zp CB2 [0,36,37] (Zq M5.d hp) ?_;with_reducible intro _ _)|refine Zt (Zq M5.d hp) ?_|fail)
  ·refine Zw [0,5,6] [0,436,437] (Zq M5.d hp) ?_
   rw[er2 hp]
   simp only[e9,List.cons_append,List.nil_append,List.length_cons,List.length_nil,Nat.reduceAdd,show((bs'.length+1:Nat):Int)=bs'.length+1 from rfl]
  ·rw[hR3 (by omega)]
   refine Zr (()) [0,36,37] (Zq M5.d hp) ?_
   trivial
 ·repeat' (first|refine Zl ?_|(with_reducible constructor<;>first|intro N hN mk hmk|intro N hN|intro h)|(refine Zp CI [0,1,2] (Zq M5.d hp) ?_;with_reducible intro _ _)|refine Ze CN1 ?_|(refine Zp CB1 [0,36,37] (Zq M5.d hp) ?_;with_reducible intro _ _)|refine Zt (Zq M5.d hp) ?_|fail)
  ·refine Zw [0,5,6] [0,188,189] (Zq M5.d hp) ?_
   rw[er1 hp]
   simp only[e9,List.cons_append,List.nil_append,List.length_cons,List.length_nil,Nat.reduceAdd,show((bs'.length+1:Nat):Int)=bs'.length+1 from rfl]
  ·rw[hR3 (by omega)]
   refine Zr (()) [0,36,37] (Zq M5.d hp) ?_
   trivial
 ·repeat' (first|refine Zl ?_|(with_reducible constructor<;>first|intro N hN mk hmk|intro N hN|intro h)|(refine Zp CI [0,1,2] (Zq M5.d hp) ?_;with_reducible intro _ _)|refine Ze CN1 ?_|refine Ze CR ?_|refine Ze CN2 ?_|refine Ze CN3 ?_|(refine Zp CB2 [0,36,37,38] (Zq M5.d hp) ?_;with_reducible intro _ _)|refine Zt (Zq M5.d hp) ?_|fail)
  ·refine Zw [0,5,6] [0,436,437] (Zq M5.d hp) ?_
   rw[er2 hp]
   simp only[e9,List.cons_append,List.nil_append,List.length_cons,List.length_nil,Nat.reduceAdd,show((bs'.length+1:Nat):Int)=bs'.length+1 from rfl]
  ·rw[hR3 (by omega)]
   refine Zr (()) [0,36,37,38] (Zq M5.d hp) ?_
   trivial
 ·repeat' (first|refine Zl ?_|(with_reducible constructor<;>first|intro N hN mk hmk|intro N hN|intro h)|(refine Zp CI [0,1,2] (Zq M5.d hp) ?_;with_reducible intro _ _)|refine Ze CN1 ?_|(refine Zp CB1 [0,36,37,38] (Zq M5.d hp) ?_;with_reducible intro _ _)|refine Zt (Zq M5.d hp) ?_|fail)
  ·refine Zw [0,5,6] [0,188,189] (Zq M5.d hp) ?_
   rw[er1 hp]
   simp only[e9,List.cons_append,List.nil_append,List.length_cons,List.length_nil,Nat.reduceAdd,show((bs'.length+1:Nat):Int)=bs'.length+1 from rfl]
  ·rw[hR3 (by omega)]
   refine Zr (()) [0,36,37,38] (Zq M5.d hp) ?_
   trivial
def M6:=ZZ.mk (Zq aL.d (Zq @A1 (Zq @O0.eq_1 @b9)))
theorem b4l(L:List Int)(at_ g su re sl pa:Int)(ar:List cN)(ll:List Loop)(li:List e7)(bs:List b6)(t:q9)(n:Int)(hn:0≤n∧n≤2)(h:gD ⟨L,at_,g,su,re,sl,pa,ar,.own ll,bs,.own li,t⟩ 600000)(hb:bs.length+2≤900):y6 Tryz.prog 108 [.ptr 0 0 0,.v (.int .i64 n)] (MS.rows ⟨L,at_,g,su,re,sl,pa,ar,.own ll,bs,.own li,t⟩) 1 (fun _:Unit=>True) (fun _=> .O2 []) (fun _=>MS.M9 ⟨L,at_,g,su,re,sl,pa,ar,.own ll,(bs++[⟨li,t⟩]),.nil,Q6⟩ n):=by
 obtain⟨hL,h0,hb0,hi,ha,hal⟩:=h
 simp only at hL h0 ha hal
 clear hb0 hi
 have CB0:=D8 ⟨L,at_,g,su,re,sl,pa,ar,.own ll,bs,.own li,t⟩ (by show bs.length≤1000;omega)
 obtain⟨last,hlast⟩:∃last:Int,last=((bs.length+1:Nat):Int)+n:=⟨_,rfl⟩
 obtain⟨SI,hSI⟩:∃SI,SI=MS.fC last ⟨L,at_,g,su,re,sl,pa,ar,.own ll,(bs++[⟨li,t⟩]),.nil,Q6⟩:=⟨_,rfl⟩
 have hR:MS.M9 ⟨L,at_,g,su,re,sl,pa,ar,.own ll,(bs++[⟨li,t⟩]),.nil,Q6⟩ n=(SI n.toNat).c6.rows:=by rw[hSI,hlast];unfold MS.M9 MS.fD;simp only[List.length_append,List.length_cons,List.length_nil,Nat.zero_add,Nat.reduceAdd]
 obtain⟨R,hR2⟩:∃R:List Row,R=MS.M9 ⟨L,at_,g,su,re,sl,pa,ar,.own ll,(bs++[⟨li,t⟩]),.nil,Q6⟩ n:=⟨_,rfl⟩
 rw[←hR2]
 rw[hR]at hR2
 clear hR
 simp only[MS.rows,MS.block,X4,b9,j4.cell,j4.rows,j4.l,j4.k,r9.cell,r9.rows,r9.l,List.cons_append,List.nil_append,List.append_nil]at CB0
 simp only[MS.rows,X4,j4.cell,j4.rows,j4.l,j4.k,r9.cell,r9.rows,r9.l,List.cons_append,List.nil_append,List.append_nil];refine Zf Tryz.func108 Tryz.ntmps108 ?_
 repeat' (first|refine Zl ?_|(with_reducible constructor<;>first|intro N hN mk hmk|intro N hN|intro h)|(refine Zp CB0 [0,1,2,3] aL.d ?_;with_reducible intro _ _)|refine Zt aL.d ?_|fail)
 refine l8 (fun i=>⟨[.ptr 0 0 0,.Z,.Z,.Z,.Z,.v (.int .i64 (((bs.length+1:Nat):Int)+n)),.v (.int .i64 (SI i).bs.length),.Z,.Z,.Z,.Z,.Z,.Z,.Z,.Z,.Z,.Z,.Z,.Z,.Z,.Z,.Z,.Z,.Z,.Z,.Z,.Z,.Z,.Z,.Z,.Z,.Z,.Z,.Z,.Z,.Z,.Z,.Z,.Z,.Z,.Z,.Z,.Z,.Z,.Z,.Z,.Z,.Z,.Z,.Z,.Z,.Z,.Z,.Z,.Z,.Z,.Z,.Z,.Z,.Z,.Z,.Z,.Z,.Z,.Z,.Z,.Z,.Z,.Z,.Z,.Z,.Z,.Z,.Z,.Z,.Z,.Z],U6 (SI i).rows,((SI i).rows.length+1)⟩) n.toNat (Zw [0,5,6] [0,16,17] aL.d ?_) ?_
 ·rw[hSI];simp only[MS.fC,MS.rows,U6,e9,E4,gK,b9,j4.cell,j4.rows,j4.l,j4.k,r9.cell,r9.rows,r9.l,List.cons_append,List.nil_append,List.append_nil,List.length_cons,List.length_nil,Nat.reduceAdd,Int.natCast_zero,Int.add_zero]
 intro i hi2
 clear CB0
 obtain⟨a,bs',e,e1,e2,e3⟩:=S3 last ⟨L,at_,g,su,re,sl,pa,ar,.own ll,(bs++[⟨li,t⟩]),.nil,Q6⟩ hL h0.1 rfl rfl i
 have e0:=e
 rw[←hSI]at e0
 have ej:SI (i+1)=(SI i).fZ last:=by rw[hSI];rfl
 have e1:at_≤a:=e1
 have e2:a≤at_+37*i:=e2
 simp only[List.length_append,List.length_cons,List.length_nil]at e3
 obtain⟨a1,ii,f,f1,f2,f3⟩:=H2 ⟨L,a,g,su,re,sl,pa,ar,.own ll,bs',.nil,Q6⟩ hL (by show 0≤a;omega)
 have f1:a+1≤a1:=f1
 have f2:a1≤a+33:=f2
 have f3:ii.l.length≤0+8:=f3
 have CI:=aW ⟨L,a,g,su,re,sl,pa,ar,.own ll,bs',.nil,Q6⟩ ⟨hL,by show 0≤a∧a≤_;omega,by show bs'.length≤_;omega,by show((0:Nat):Int)≤_;omega,ha,hal⟩
 rw[f]at CI
 simp only at CI f
 have CN1:=p0 L a1 (by omega) hL
 have CR:=X9 L (a1+1) (by omega) hL
 have CN2:=p0 L (a1+1+1) (by omega) hL
 have CN3:=p0 L (a1+1+1+1) (by omega) hL
 have hx1:=j0 hL (show 0≤a1 by omega)
 have hx2:=j0 hL (show 0≤a1+1+1 by omega)
 have hx3:=j0 hL (show 0≤a1+1+1+1 by omega)
 have CB1:=D8 ⟨L,a1+1,g,su,re,sl,pa,ar,.own ll,bs',ii,O6 (bs'.length+1)⟩ (by show bs'.length≤_;omega)
 have CB2:=D8 ⟨L,a1+1+1+1+1,g,su,re,sl,pa,ar,.own ll,bs',ii,D6 (E7 L (a1+1)) (bs'.length+1+a7 L (a1+1+1)%(last-bs'.length)) (bs'.length+1+a7 L (a1+1+1+1)%(last-bs'.length))⟩ (by show bs'.length≤_;omega)
 have er1:¬a7 L a1%2=0→(SI (i+1)).rows=(MS.block ⟨L,a1+1,g,su,re,sl,pa,ar,.own ll,bs',ii,O6 (bs'.length+1)⟩).rows:=fun hp=>by rw[ej,e0];unfold MS.fZ;simp only;rw[f];simp only;rw[if_neg hp]
 have er2:a7 L a1%2=0→(SI (i+1)).rows=(MS.block ⟨L,a1+1+1+1+1,g,su,re,sl,pa,ar,.own ll,bs',ii,D6 (E7 L (a1+1)) (bs'.length+1+a7 L (a1+1+1)%(last-bs'.length)) (bs'.length+1+a7 L (a1+1+1+1)%(last-bs'.length))⟩).rows:=fun hp=>by rw[ej,e0];unfold MS.fZ;simp only;rw[f];simp only;rw[if_pos hp]
 have hR3:i=n.toNat→R=(MS.rows ⟨L,a1,g,su,re,sl,pa,ar,.own ll,bs',ii,Q6⟩):=fun hp=>by rw[hR2,←hp,e0,f]
 have elen:(SI (i+1)).bs.length=bs'.length+1:=by
  rw[hSI]
  obtain⟨_,_,e',_,_,e4⟩:=S3 last ⟨L,at_,g,su,re,sl,pa,ar,.own ll,(bs++[⟨li,t⟩]),.nil,Q6⟩ hL h0.1 rfl rfl (i+1)
  rw[e']
  simp only[List.length_append,List.length_cons,List.length_nil]at e4⊢
  omega
 obtain⟨R1,hR1⟩:∃R1,R1=(SI (i+1)).rows:=⟨_,rfl⟩
 rw[←hR1]at er1 er2⊢
 rw[elen,e0]
 clear f ej e e0 hSI hR2 elen hR1
 subst hlast
 generalize a7 L a1=x1 at*
 generalize a7 L (a1+1+1)=x2 at*
 generalize a7 L (a1+1+1+1)=x3 at*
 generalize E7 L (a1+1)=d at*
 obtain⟨dk,dn,dv⟩:=d
 cases ii
 all_goals simp only[MS.rows,MS.block,U6,e9,E4,E3.av,O6,D6,O0,b9,j4.cell,j4.rows,j4.l,j4.k,r9.cell,r9.rows,r9.l,List.cons_append,List.nil_append,List.append_nil,List.length_cons,List.length_nil,Nat.reduceAdd]at CI CR CB1 CB2 er1 er2 hR3⊢
 all_goals simp only[q9.av]at CB1 CB2
 all_goals have hq2:=cZ x2 (((bs.length+1:Nat):Int)+n-bs'.length) hx2.1
 all_goals have hq3:=cZ x3 (((bs.length+1:Nat):Int)+n-bs'.length) hx3.1
 all_goals by_cases hp:x1%2=0
 ·repeat' (first|refine Zl ?_|(with_reducible constructor<;>first|intro N hN mk hmk|intro N hN|intro h)|(refine Zp CI [0,1,2] (Zq M6.d hp) ?_;with_reducible intro _ _)|refine Ze CN1 ?_|refine Ze CR ?_|refine Ze CN2 ?_|refine Ze CN3 ?_|(refine Zp CB2 [0,36,37] (Zq M6.d hp) ?_;with_reducible intro _ _)|refine Zt (Zq M6.d hp) ?_|fail)
  ·refine Zw [0,5,6] [0,436,437] (Zq M6.d hp) ?_
   rw[er2 hp]
   simp only[e9,List.cons_append,List.nil_append,List.length_cons,List.length_nil,Nat.reduceAdd,show((bs'.length+1:Nat):Int)=bs'.length+1 from rfl]
  ·rw[hR3 (by omega)]
   refine Zr (()) [0,36,37] (Zq M6.d hp) ?_
   trivial
 ·repeat' (first|refine Zl ?_|(with_reducible constructor<;>first|intro N hN mk hmk|intro N hN|intro h)|(refine Zp CI [0,1,2] (Zq M6.d hp) ?_;with_reducible intro _ _)|refine Ze CN1 ?_|(refine Zp CB1 [0,36,37] (Zq M6.d hp) ?_;with_reducible intro _ _)|refine Zt (Zq M6.d hp) ?_|fail)
  ·refine Zw [0,5,6] [0,188,189] (Zq M6.d hp) ?_
   rw[er1 hp]
   simp only[e9,List.cons_append,List.nil_append,List.length_cons,List.length_nil,Nat.reduceAdd,show((bs'.length+1:Nat):Int)=bs'.length+1 from rfl]
  ·rw[hR3 (by omega)]
   refine Zr (()) [0,36,37] (Zq M6.d hp) ?_
   trivial
 ·repeat' (first|refine Zl ?_|(with_reducible constructor<;>first|intro N hN mk hmk|intro N hN|intro h)|(refine Zp CI [0,1,2] (Zq M6.d hp) ?_;with_reducible intro _ _)|refine Ze CN1 ?_|refine Ze CR ?_|refine Ze CN2 ?_|refine Ze CN3 ?_|(refine Zp CB2 [0,36,37,38] (Zq M6.d hp) ?_;with_reducible intro _ _)|refine Zt (Zq M6.d hp) ?_|fail)
  ·refine Zw [0,5,6] [0,436,437] (Zq M6.d hp) ?_
   rw[er2 hp]
   simp only[e9,List.cons_append,List.nil_append,List.length_cons,List.length_nil,Nat.reduceAdd,show((bs'.length+1:Nat):Int)=bs'.length+1 from rfl]
  ·rw[hR3 (by omega)]
   refine Zr (()) [0,36,37,38] (Zq M6.d hp) ?_
   trivial
 ·repeat' (first|refine Zl ?_|(with_reducible constructor<;>first|intro N hN mk hmk|intro N hN|intro h)|(refine Zp CI [0,1,2] (Zq M6.d hp) ?_;with_reducible intro _ _)|refine Ze CN1 ?_|(refine Zp CB1 [0,36,37,38] (Zq M6.d hp) ?_;with_reducible intro _ _)|refine Zt (Zq M6.d hp) ?_|fail)
  ·refine Zw [0,5,6] [0,188,189] (Zq M6.d hp) ?_
   rw[er1 hp]
   simp only[e9,List.cons_append,List.nil_append,List.length_cons,List.length_nil,Nat.reduceAdd,show((bs'.length+1:Nat):Int)=bs'.length+1 from rfl]
  ·rw[hR3 (by omega)]
   refine Zr (()) [0,36,37,38] (Zq M6.d hp) ?_
   trivial
theorem a3o(S:MS)(n:Int)(hn:0≤n∧n≤2)(h:gD S 600000)(hb:S.bs.length≤800):y6 Tryz.prog 108 [.ptr 0 0 0,.v (.int .i64 n)] S.rows 1 (fun _:Unit=>True) (fun _=> .O2 []) (fun _=>(S.region n).rows):=by
 obtain⟨L,at_,g,su,re,sl,pa,ar,lo,bs,ii,t⟩:=S
 have hb2:bs.length+2≤900:=by have:bs.length≤800:=hb;omega
 clear hb
 cases lo with
 |nil=>cases ii with
  |nil=>exact b4i L at_ g su re sl pa ar bs t n hn h hb2
  |own li=>exact b4j L at_ g su re sl pa ar li bs t n hn h hb2
 |own ll=>cases ii with
  |nil=>exact b4k L at_ g su re sl pa ar ll bs t n hn h hb2
  |own li=>exact b4l L at_ g su re sl pa ar ll li bs t n hn h hb2
theorem yK(L:List Int)(at_ g su re sl pa:Int)(ar:List cN)(n:Int)(hn:0≤n∧n≤2)(h:gD ⟨L,at_,g,su,re,sl,pa,ar,.nil,[],.nil,Q6⟩ 600000):y6 Tryz.prog 108 [.ptr 0 0 0,.v (.int .i64 n)] (X4 L at_ g su re sl pa ar) 1 (fun _:Unit=>True) (fun _=> .O2 []) (fun _=>(MS.fD ⟨L,at_,g,su,re,sl,pa,ar,.nil,[],.nil,Q6⟩ n).rows):=
 b7Q L at_ g su re sl pa ar n hn h (by omega)
end Go.Proofs.YtgdoiokalfhjoaaGreatDoor
end
