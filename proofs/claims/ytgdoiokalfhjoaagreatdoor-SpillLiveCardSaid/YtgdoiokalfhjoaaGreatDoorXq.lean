/- Own work (by an AI agent; no person has read it): part of a proof of the seat YtgdoiokalfhjoaaGreatDoor. -/
import Derived.Test.YtgdoiokalfhjoaaGreatDoorXo
import Derived.Test.YtgdoiokalfhjoaaGreatDoorXp
set_option linter.unusedSimpArgs false
set_option linter.unusedVariables false
set_option maxRecDepth 100000
set_option maxHeartbeats 10000000
section
namespace Go.Proofs.YtgdoiokalfhjoaaGreatDoor
open Go.Ab
theorem iI.mono{S:MS}{n m:Int}(h:iI S n)(hnm:n≤m):iI S m:=⟨h.L,⟨h.at_.1,by have:=h.at_;omega⟩,h.bs,by have:=h.il;omega,h.ar,h.al⟩
theorem c1F(S:MS)(h:iI S 800000):y0 Tryz.prog 185 [.ptr 0 0 0] S.rows 1 (fun _:Unit=>True) (fun _=> .O4 []) (fun _=>S.inst.rows):=by
 have hx:0≤a7 S.L S.at_%16∧a7 S.L S.at_%16<16:=by omega
 obtain⟨L,at_,g,su,re,sl,pa,ar,lo,bs,ii,t⟩:=S
 have h9:=h.mono (show(800000:Int)≤900000 by omega)
 simp only at hx
 have cs:a7 L at_%16<3∨(¬a7 L at_%16<3∧a7 L at_%16<7)∨a7 L at_%16=7∨a7 L at_%16=8∨a7 L at_%16=9∨a7 L at_%16=10∨a7 L at_%16=11∨a7 L at_%16=12∨a7 L at_%16=13∨14≤a7 L at_%16:=by omega
 rcases cs with c|c|c|c|c|c|c|c|c|c
 ·exact b7Z L at_ g su re sl pa ar lo ii bs t h9 c
 ·exact b70 L at_ g su re sl pa ar lo ii bs t h9 c
 ·exact b71 L at_ g su re sl pa ar lo ii bs t h9 c
 ·exact b72 L at_ g su re sl pa ar lo ii bs t h9 c
 ·exact b73 L at_ g su re sl pa ar lo ii bs t h9 c
 ·exact b74 L at_ g su re sl pa ar lo ii bs t h9 c
 ·exact b75 L at_ g su re sl pa ar lo ii bs t h9 c
 ·exact b76 L at_ g su re sl pa ar lo ii bs t h c
 ·exact b77 L at_ g su re sl pa ar lo ii bs t h c
 ·exact b78 L at_ g su re sl pa ar lo ii bs t h c
theorem b3r(l:List e8):(j7.own l).l=l:=rfl
theorem rL(S:MS):∃a l,S.inst=⟨S.L,a,S.g,S.su,S.re,S.sl,S.pa,S.ar,S.lo,S.bs,.own l,S.t⟩∧S.at_+1≤a∧a≤S.at_+8∧S.i.l.length+1≤l.length∧l.length≤S.i.l.length+2∧∀x∈S.i.l,x∈l:=by
 by_cases h:a7 S.L S.at_%16<12
 ·have e:S.inst={S with at_:=iS S.L S.at_}.put (W9 S.L S.at_):=by unfold MS.inst;simp only;rw[if_pos h]
  refine⟨_,_,by rw[e];rfl,?_,?_,by simp,by simp,fun x hx=>by simp [hx]⟩
  ·unfold iS;simp only;(repeat' split)<;>omega
  ·unfold iS;simp only;(repeat' split)<;>omega
 ·have e:S.inst=(fun S2:MS=>{S2 with at_:=if a7 S.L S.at_%16=12 then S2.at_+1+1 else S2.at_+1}.put (iT S.L (a7 S.L S.at_%16) S2.at_ (pn {S with at_:=S.at_+1} (decide (¬a7 S.L S.at_%16=12))) (E8 S.L (S.at_+1+1)))) ((MS.place {S with at_:=S.at_+1} (decide (¬a7 S.L S.at_%16=12)))):=by
   unfold MS.inst;simp only;rw[if_neg h]
  refine⟨_,_,by rw[e];rfl,?_,?_,by simp [MS.place,MS.put,b3r]<;>omega,by simp [MS.place,MS.put,b3r]<;>omega,fun x hx=>by simp [MS.place,MS.put,b3r,hx]⟩
  ·simp only[MS.place,MS.put];split<;>omega
  ·simp only[MS.place,MS.put];split<;>omega
def MS.iter(S:MS):Nat→MS
 |0=>S
 |i+1=>(S.iter i).inst
def MS.e7(S:MS):MS:=MS.iter {S with at_:=S.at_+1} (a7 S.L S.at_%5).toNat
theorem a34(S:MS):∀i:Nat,∃a ii,S.iter i=⟨S.L,a,S.g,S.su,S.re,S.sl,S.pa,S.ar,S.lo,S.bs,ii,S.t⟩∧S.at_≤a∧a≤S.at_+8*i∧ii.l.length≤S.i.l.length+2*i:=by
 intro i
 induction i with
 |zero=>exact⟨S.at_,S.i,rfl,by omega,by omega,by omega⟩
 |succ i ih=>
  obtain⟨a,ii,e,h1,h2,h3⟩:=ih
  obtain⟨a',l,e',g1,g2,g3,g4,_⟩:=rL (S.iter i)
  rw[e]at e' g1 g2 g3 g4
  have g1:a+1≤a':=g1
  have g2:a'≤a+8:=g2
  have g4:l.length≤ii.l.length+2:=g4
  refine⟨a',.own l,?_,?_,?_,?_⟩
  ·simp only[MS.iter,e,e']
  ·omega
  ·omega
  ·simp only[b3r];omega
def U2(rs:List Row):List (Nat×RS):=j0 0 rs++[(rs.length,.s9 99 [.ptr 0 0 0])]
def MS.b79(S:MS):List Row:=S.e7.rows
def I7:=ZZ.mk (Zq a4G.d (Zq @fB (Zq @qY (Zq @a3D (Zq @qZ @qM)))))
theorem c1G(L:List Int)(at_ g su re sl pa:Int)(ar:List cQ)(lo:r7)(ii:j7)(bs:List b6)(t:o6)(h:iI ⟨L,at_,g,su,re,sl,pa,ar,lo,bs,ii,t⟩ 700000):y0 Tryz.prog 113 [.ptr 0 0 0] (MS.rows ⟨L,at_,g,su,re,sl,pa,ar,lo,bs,ii,t⟩) 1 (fun _:Unit=>True) (fun _=> .O4 []) (fun _=>(MS.b79 ⟨L,at_,g,su,re,sl,pa,ar,lo,bs,ii,t⟩)):=by
 obtain⟨hL,h0,hb,hi,ha,hal⟩:=h
 dsimp only at hL h0 hb hi ha hal
 have hx:=j4 hL h0.1
 have C1:=p0 L at_ (by omega) hL
 have hR:MS.b79 ⟨L,at_,g,su,re,sl,pa,ar,lo,bs,ii,t⟩=(MS.iter ⟨L,at_+1,g,su,re,sl,pa,ar,lo,bs,ii,t⟩ (a7 L at_%5).toNat).rows:=rfl
 rw[hR];clear hR
 generalize a7 L at_=x at*
 obtain⟨n,hn⟩:∃n,x%5=n:=⟨_,rfl⟩
 rw[hn]
 have hn5:0≤n∧n<5:=by omega
 obtain⟨SI,hSI⟩:∃SI,SI=MS.iter ⟨L,at_+1,g,su,re,sl,pa,ar,lo,bs,ii,t⟩:=⟨_,rfl⟩
 obtain⟨R,hR⟩:∃R:List Row,R=(SI n.toNat).rows:=⟨_,rfl⟩
 rw[←hSI,←hR]
 have IT:=fun i:Nat=>a34 ⟨L,at_+1,g,su,re,sl,pa,ar,lo,bs,ii,t⟩ i
 have INO:=fun a i2=>c1F ⟨L,a,g,su,re,sl,pa,ar,lo,bs,i2,t⟩
 have INF:=fun a i2=>rL ⟨L,a,g,su,re,sl,pa,ar,lo,bs,i2,t⟩
 have hil:(ii.l.length:Int)≤700000:=hi
 rcases lo with _|ll<;>rcases ii with _|li
 all_goals
  simp only[MS.rows,j7.cell,j7.rows,j7.l,j7.k,r7.cell,r7.rows,r7.l,List.cons_append,List.nil_append,List.append_nil];refine Zf Tryz.func113 Tryz.ntmps113 ?_
  repeat' (first|refine Zl ?_|(with_reducible constructor<;>first|intro N hN mk hmk|intro N hN|intro h)|refine Ze C1 ?_|refine Zt (Zq I7.d (Zq hn ha)) ?_|fail)
  (first|(refine c8 (fun i=>⟨[.ptr 0 0 0,.Z,.v (.int .i64 (n-i)),.Z,.Z,.Z,.Z,.Z,.Z,.Z,.Z,.Z],U2 (SI i).rows,((SI i).rows.length+1)⟩) n.toNat (Zw [0,2] [0,1,2,3] (Zq I7.d (Zq hn ha)) ?_) ?_)|(refine c8 (fun i=>⟨[.ptr 0 0 0,.Z,.v (.int .i64 (n-i)),.Z,.Z,.Z,.Z,.Z,.Z,.Z,.Z,.Z],U2 (SI i).rows,((SI i).rows.length+1)⟩) n.toNat (Zw [0,2] [0,1,2] (Zq I7.d (Zq hn ha)) ?_) ?_)|(refine c8 (fun i=>⟨[.ptr 0 0 0,.Z,.v (.int .i64 (n-i)),.Z,.Z,.Z,.Z,.Z,.Z,.Z,.Z,.Z],U2 (SI i).rows,((SI i).rows.length+1)⟩) n.toNat (Zw [0,2] [0,1] (Zq I7.d (Zq hn ha)) ?_) ?_))
  ·rw[hSI];simp only[MS.iter,MS.rows,U2,j0,j7.cell,j7.rows,j7.l,j7.k,r7.cell,r7.rows,r7.l,List.cons_append,List.nil_append,List.append_nil,List.length_cons,List.length_nil,Nat.reduceAdd,Int.natCast_zero,Int.sub_zero]
  intro i hi2
  obtain⟨a,ii,e,e1,e2,e3⟩:=IT i
  dsimp only at e1 e2 e3
  have e0:=e
  rw[←hSI]at e0
  have ej:SI (i+1)=(SI i).inst:=by rw[hSI];rfl
  rw[ej,e0]
  have CI:=INO a ii ⟨hL,by show 0≤a∧a≤_;omega,hb,by show(ii.l.length:Int)≤_;omega,ha,hal⟩
  obtain⟨a',l,e',g1,g2,g3,g4,_⟩:=INF a ii
  rw[e']at CI⊢
  clear e' ej hSI e C1 IT INO INF
  cases ii
  all_goals simp only[MS.rows,U2,j0,j7.cell,j7.rows,j7.l,j7.k,r7.cell,r7.rows,r7.l,List.cons_append,List.nil_append,List.append_nil,List.length_cons,List.length_nil,Nat.reduceAdd]at CI⊢
  ·repeat' (first|refine Za ?_|(with_reducible constructor<;>first|intro N hN mk hmk|intro N hN|intro h)|(refine Zp CI [0,1,2] (Zq I7.d ha) ?_;with_reducible intro _ _)|(refine Zp CI [0,1] (Zq I7.d ha) ?_;with_reducible intro _ _)|refine Zt (Zq I7.d ha) ?_|fail)
   ·(first|(refine Zw [0,2] [0,28,29,30] (Zq I7.d ha) ?_)|(refine Zw [0,2] [0,27,28] (Zq I7.d ha) ?_))
    simp only[show n- ↑(i+1)=n- ↑i-1 by omega]
   ·obtain rfl:i=n.toNat:=by omega
    rw[hR,e0]
    simp only[MS.rows,j7.cell,j7.rows,j7.l,j7.k,r7.cell,r7.rows,r7.l,List.cons_append,List.nil_append,List.append_nil]
    (first|(refine Zr (()) [0,1,2] (Zq I7.d ha) ?_)|(refine Zr (()) [0,1] (Zq I7.d ha) ?_))
    trivial
  ·repeat' (first|refine Za ?_|(with_reducible constructor<;>first|intro N hN mk hmk|intro N hN|intro h)|(refine Zp CI [0,1,2,3] (Zq I7.d ha) ?_;with_reducible intro _ _)|(refine Zp CI [0,1,2] (Zq I7.d ha) ?_;with_reducible intro _ _)|refine Zt (Zq I7.d ha) ?_|fail)
   ·(first|(refine Zw [0,2] [0,29,30,31] (Zq I7.d ha) ?_)|(refine Zw [0,2] [0,28,29] (Zq I7.d ha) ?_))
    simp only[show n- ↑(i+1)=n- ↑i-1 by omega]
   ·obtain rfl:i=n.toNat:=by omega
    rw[hR,e0]
    simp only[MS.rows,j7.cell,j7.rows,j7.l,j7.k,r7.cell,r7.rows,r7.l,List.cons_append,List.nil_append,List.append_nil]
    (first|(refine Zr (()) [0,1,2,3] (Zq I7.d ha) ?_)|(refine Zr (()) [0,1,2] (Zq I7.d ha) ?_))
    trivial
theorem bD(S:MS)(h:iI S 700000):y0 Tryz.prog 113 [.ptr 0 0 0] S.rows 1 (fun _:Unit=>True) (fun _=> .O4 []) (fun _=>S.e7.rows):=by
 obtain⟨L,at_,g,su,re,sl,pa,ar,lo,bs,ii,t⟩:=S
 exact c1G L at_ g su re sl pa ar lo ii bs t h
theorem I1(S:MS)(hL:y8 S.L)(h0:0≤S.at_):∃a ii,S.e7=⟨S.L,a,S.g,S.su,S.re,S.sl,S.pa,S.ar,S.lo,S.bs,ii,S.t⟩∧S.at_+1≤a∧a≤S.at_+33∧ii.l.length≤S.i.l.length+8:=by
 have hx:=j4 hL h0
 obtain⟨a,ii,e,h1,h2,h3⟩:=a34 {S with at_:=S.at_+1} (a7 S.L S.at_%5).toNat
 have h1:S.at_+1≤a:=h1
 have h2:a≤S.at_+1+8*(a7 S.L S.at_%5).toNat:=h2
 have h3:ii.l.length≤S.i.l.length+2*(a7 S.L S.at_%5).toNat:=h3
 exact⟨a,ii,e,h1,by omega,by omega⟩
theorem lU(bs:List b6)(l:List e8)(t:o6):p7 bs++[.a6 false (e7 l)::t.av]=p7 (bs++[⟨l,t⟩]):=by simp [p7,b6.av]
theorem E4:Q5.av=[.v (.int .i64 0),.v (.int .i64 0),.v (.int .i64 0),.v (.int .i64 0),.v (.int .i32 0),.v (.int .i64 0),.v (.int .i64 0),.v (.int .i32 0),.v (.int .i64 0),.v (.int .i64 0),.v (.int .i32 0),.v (.int .i64 0),.v (.int .i64 0)]:=rfl
theorem z7(t:o6)(a b c d e f g h i j k m n:Int):p8 t.av 0 [.v (.int .i64 a),.v (.int .i64 b),.v (.int .i64 c),.v (.int .i64 d),.v (.int .i32 e),.v (.int .i64 f),.v (.int .i64 g),.v (.int .i32 h),.v (.int .i64 i),.v (.int .i64 j),.v (.int .i32 k),.v (.int .i64 m),.v (.int .i64 n)]=(⟨a,b,⟨c,d,e⟩,⟨f,g,h⟩,⟨i,j,k⟩,m,n⟩:o6).av:=rfl
def MS.block(S:MS):MS:={S with bs:=S.bs++[⟨S.i.l,S.t⟩],i:= .nil,t:=Q5}
theorem bW(l:List b6):(p7 l).take l.length=p7 l:=by rw[←y7,List.take_length]
theorem b4a(l:List b6)(b:b6):(l++[b]).length=l.length+1:=by simp
theorem jH(l:List b6)(b:b6):(p7 (l++[b])).take (l.length+1)=p7 (l++[b]):=by rw[←b4a l b,bW]
theorem b9(l:List b6)(b:b6):(l++[b]).length=l.length+1:=by simp
def X3(L:List Int)(at_ g su re sl pa:Int)(ar:List cQ):List Row:=[⟨10,[[.a6 false (fW L),.v (.int .i64 at_),.v (.int .i64 g),.v (.int .i64 su),.v (.int .i64 re),.v (.int .i64 sl),.v (.int .i64 pa),.a6 false (w6 ar),.a6 true [],.a6 true []]],0⟩]
def oS:=ZZ.mk (Zq I7.d (Zq @E4 (Zq @b9 (Zq @H8 (Zq @pB (Zq @lU (Zq @jH @bW)))))))
theorem b66(L:List Int)(at_ g su re sl pa:Int)(ar:List cQ)(bs:List b6)(t:o6)(hb:bs.length≤1000):y0 Tryz.prog 110 [.ptr 0 0 0] (MS.rows ⟨L,at_,g,su,re,sl,pa,ar,.nil,bs,.nil,t⟩) 1 (fun _:Unit=>True) (fun _=> .O4 []) (fun _=>(MS.block ⟨L,at_,g,su,re,sl,pa,ar,.nil,bs,.nil,t⟩).rows):=by
 simp only[MS.rows,MS.block,j7.cell,j7.rows,j7.l,j7.k,r7.cell,r7.rows,r7.l,List.cons_append,List.nil_append,List.append_nil];refine Zf Tryz.func110 Tryz.ntmps110 ?_
 refine dF 1 bs.length 0 (x:= .a6 true []) (y:= .a6 false (e7 [])) (ids:=[]) rfl (by simp only[Y3];rfl) (by simp (maxSteps:=10000000) (disch:=omega) only[oS.d,n7,T6,u4,B4,s7,o7,AV.kept,b8,n6,u5,D5,s8,s6,c7,AV.A6,n8,x5,AV.plain,rd,v8,a8,T1,stepC,AV.j3,AV.U9,AV.x7,AV.O6,AV.scalar,V7,u0,C8,D3,D4,D0,s5,B9,V8,u1,C9,B3,l0,V6,n4,A4,A3,T7,B2,m8,TD.isRow,u3,l9,n3,l7,H7,Value.oneCell',↓reduceIte,Int.reduceNe,Int.reduceEq,Nat.reduceAdd,Nat.reduceLT,Nat.reduceLeDiff,Nat.reduceSub,Nat.reduceMul,Nat.reduceBEq,Nat.reduceEqDiff,reduceCtorEq,Int.reduceToNat,←decide_not,←Bool.decide_and,sA,sN]<;>first|done|rfl) (by first|rfl|(simp (maxSteps:=10000000) (disch:=omega) only[a8,oS.d,n7,T6,u4,B4,s7,o7,AV.kept,b8,n6,u5,D5,s8,s6,c7,AV.A6,n8,x5,AV.plain,rd,v8,a8,T1,stepC,AV.j3,AV.U9,AV.x7,AV.O6,AV.scalar,V7,u0,C8,D3,D4,D0,s5,B9,V8,u1,C9,B3,l0,V6,n4,A4,A3,T7,B2,m8,TD.isRow,u3,l9,n3,l7,H7,Value.oneCell',↓reduceIte,Int.reduceNe,Int.reduceEq,Nat.reduceAdd,Nat.reduceLT,Nat.reduceLeDiff,Nat.reduceSub,Nat.reduceMul,Nat.reduceBEq,Nat.reduceEqDiff,reduceCtorEq,Int.reduceToNat,←decide_not,←Bool.decide_and,sA,sN]<;>first|done|rfl)) ?_;simp (maxSteps:=10000000) (disch:=omega) only[n6,y3,H7,oS.d,n7,T6,u4,B4,s7,o7,AV.kept,b8,n6,u5,D5,s8,s6,c7,AV.A6,n8,x5,AV.plain,rd,v8,a8,T1,stepC,AV.j3,AV.U9,AV.x7,AV.O6,AV.scalar,V7,u0,C8,D3,D4,D0,s5,B9,V8,u1,C9,B3,l0,V6,n4,A4,A3,T7,B2,m8,TD.isRow,u3,l9,n3,l7,H7,Value.oneCell',↓reduceIte,Int.reduceNe,Int.reduceEq,Nat.reduceAdd,Nat.reduceLT,Nat.reduceLeDiff,Nat.reduceSub,Nat.reduceMul,Nat.reduceBEq,Nat.reduceEqDiff,reduceCtorEq,Int.reduceToNat,←decide_not,←Bool.decide_and,sA,sN]
 repeat' (first|refine Za ?_|(with_reducible constructor<;>first|intro N hN mk hmk|intro N hN|intro h)|refine Zt oS.d ?_|fail)
 refine Zr (()) [0,72] oS.d ?_
 trivial
def oT:=ZZ.mk (Zq I7.d (Zq @E4 (Zq @b9 (Zq @H8 (Zq @pB (Zq @lU (Zq @jH @bW)))))))
theorem b67(L:List Int)(at_ g su re sl pa:Int)(ar:List cQ)(li:List e8)(bs:List b6)(t:o6)(hb:bs.length≤1000):y0 Tryz.prog 110 [.ptr 0 0 0] (MS.rows ⟨L,at_,g,su,re,sl,pa,ar,.nil,bs,.own li,t⟩) 1 (fun _:Unit=>True) (fun _=> .O4 []) (fun _=>(MS.block ⟨L,at_,g,su,re,sl,pa,ar,.nil,bs,.own li,t⟩).rows):=by
 simp only[MS.rows,MS.block,j7.cell,j7.rows,j7.l,j7.k,r7.cell,r7.rows,r7.l,List.cons_append,List.nil_append,List.append_nil];refine Zf Tryz.func110 Tryz.ntmps110 ?_
 refine dF 1 bs.length 0 (x:= .own 2 0 li.length) (y:= .a6 false (e7 li)) (ids:=[(2,li.length)]) rfl (by simp only[Y3];rfl) (by simp (maxSteps:=10000000) (disch:=omega) only[oT.d,n7,T6,u4,B4,s7,o7,AV.kept,b8,n6,u5,D5,s8,s6,c7,AV.A6,n8,x5,AV.plain,rd,v8,a8,T1,stepC,AV.j3,AV.U9,AV.x7,AV.O6,AV.scalar,V7,u0,C8,D3,D4,D0,s5,B9,V8,u1,C9,B3,l0,V6,n4,A4,A3,T7,B2,m8,TD.isRow,u3,l9,n3,l7,H7,Value.oneCell',↓reduceIte,Int.reduceNe,Int.reduceEq,Nat.reduceAdd,Nat.reduceLT,Nat.reduceLeDiff,Nat.reduceSub,Nat.reduceMul,Nat.reduceBEq,Nat.reduceEqDiff,reduceCtorEq,Int.reduceToNat,←decide_not,←Bool.decide_and,sA,sN]<;>first|done|rfl) (by first|rfl|(simp (maxSteps:=10000000) (disch:=omega) only[a8,oT.d,n7,T6,u4,B4,s7,o7,AV.kept,b8,n6,u5,D5,s8,s6,c7,AV.A6,n8,x5,AV.plain,rd,v8,a8,T1,stepC,AV.j3,AV.U9,AV.x7,AV.O6,AV.scalar,V7,u0,C8,D3,D4,D0,s5,B9,V8,u1,C9,B3,l0,V6,n4,A4,A3,T7,B2,m8,TD.isRow,u3,l9,n3,l7,H7,Value.oneCell',↓reduceIte,Int.reduceNe,Int.reduceEq,Nat.reduceAdd,Nat.reduceLT,Nat.reduceLeDiff,Nat.reduceSub,Nat.reduceMul,Nat.reduceBEq,Nat.reduceEqDiff,reduceCtorEq,Int.reduceToNat,←decide_not,←Bool.decide_and,sA,sN]<;>first|done|rfl)) ?_;simp (maxSteps:=10000000) (disch:=omega) only[n6,y3,H7,oT.d,n7,T6,u4,B4,s7,o7,AV.kept,b8,n6,u5,D5,s8,s6,c7,AV.A6,n8,x5,AV.plain,rd,v8,a8,T1,stepC,AV.j3,AV.U9,AV.x7,AV.O6,AV.scalar,V7,u0,C8,D3,D4,D0,s5,B9,V8,u1,C9,B3,l0,V6,n4,A4,A3,T7,B2,m8,TD.isRow,u3,l9,n3,l7,H7,Value.oneCell',↓reduceIte,Int.reduceNe,Int.reduceEq,Nat.reduceAdd,Nat.reduceLT,Nat.reduceLeDiff,Nat.reduceSub,Nat.reduceMul,Nat.reduceBEq,Nat.reduceEqDiff,reduceCtorEq,Int.reduceToNat,←decide_not,←Bool.decide_and,sA,sN]
 repeat' (first|refine Za ?_|(with_reducible constructor<;>first|intro N hN mk hmk|intro N hN|intro h)|refine Zt oT.d ?_|fail)
 refine Zr (()) [0,72] oT.d ?_
 trivial
def oU:=ZZ.mk (Zq I7.d (Zq @E4 (Zq @b9 (Zq @H8 (Zq @pB (Zq @lU (Zq @jH @bW)))))))
theorem b68(L:List Int)(at_ g su re sl pa:Int)(ar:List cQ)(ll:List Loop)(bs:List b6)(t:o6)(hb:bs.length≤1000):y0 Tryz.prog 110 [.ptr 0 0 0] (MS.rows ⟨L,at_,g,su,re,sl,pa,ar,.own ll,bs,.nil,t⟩) 1 (fun _:Unit=>True) (fun _=> .O4 []) (fun _=>(MS.block ⟨L,at_,g,su,re,sl,pa,ar,.own ll,bs,.nil,t⟩).rows):=by
 simp only[MS.rows,MS.block,j7.cell,j7.rows,j7.l,j7.k,r7.cell,r7.rows,r7.l,List.cons_append,List.nil_append,List.append_nil];refine Zf Tryz.func110 Tryz.ntmps110 ?_
 refine dF 1 bs.length 0 (x:= .a6 true []) (y:= .a6 false (e7 [])) (ids:=[]) rfl (by simp only[Y3];rfl) (by simp (maxSteps:=10000000) (disch:=omega) only[oU.d,n7,T6,u4,B4,s7,o7,AV.kept,b8,n6,u5,D5,s8,s6,c7,AV.A6,n8,x5,AV.plain,rd,v8,a8,T1,stepC,AV.j3,AV.U9,AV.x7,AV.O6,AV.scalar,V7,u0,C8,D3,D4,D0,s5,B9,V8,u1,C9,B3,l0,V6,n4,A4,A3,T7,B2,m8,TD.isRow,u3,l9,n3,l7,H7,Value.oneCell',↓reduceIte,Int.reduceNe,Int.reduceEq,Nat.reduceAdd,Nat.reduceLT,Nat.reduceLeDiff,Nat.reduceSub,Nat.reduceMul,Nat.reduceBEq,Nat.reduceEqDiff,reduceCtorEq,Int.reduceToNat,←decide_not,←Bool.decide_and,sA,sN]<;>first|done|rfl) (by first|rfl|(simp (maxSteps:=10000000) (disch:=omega) only[a8,oU.d,n7,T6,u4,B4,s7,o7,AV.kept,b8,n6,u5,D5,s8,s6,c7,AV.A6,n8,x5,AV.plain,rd,v8,a8,T1,stepC,AV.j3,AV.U9,AV.x7,AV.O6,AV.scalar,V7,u0,C8,D3,D4,D0,s5,B9,V8,u1,C9,B3,l0,V6,n4,A4,A3,T7,B2,m8,TD.isRow,u3,l9,n3,l7,H7,Value.oneCell',↓reduceIte,Int.reduceNe,Int.reduceEq,Nat.reduceAdd,Nat.reduceLT,Nat.reduceLeDiff,Nat.reduceSub,Nat.reduceMul,Nat.reduceBEq,Nat.reduceEqDiff,reduceCtorEq,Int.reduceToNat,←decide_not,←Bool.decide_and,sA,sN]<;>first|done|rfl)) ?_;simp (maxSteps:=10000000) (disch:=omega) only[n6,y3,H7,oU.d,n7,T6,u4,B4,s7,o7,AV.kept,b8,n6,u5,D5,s8,s6,c7,AV.A6,n8,x5,AV.plain,rd,v8,a8,T1,stepC,AV.j3,AV.U9,AV.x7,AV.O6,AV.scalar,V7,u0,C8,D3,D4,D0,s5,B9,V8,u1,C9,B3,l0,V6,n4,A4,A3,T7,B2,m8,TD.isRow,u3,l9,n3,l7,H7,Value.oneCell',↓reduceIte,Int.reduceNe,Int.reduceEq,Nat.reduceAdd,Nat.reduceLT,Nat.reduceLeDiff,Nat.reduceSub,Nat.reduceMul,Nat.reduceBEq,Nat.reduceEqDiff,reduceCtorEq,Int.reduceToNat,←decide_not,←Bool.decide_and,sA,sN]
 repeat' (first|refine Za ?_|(with_reducible constructor<;>first|intro N hN mk hmk|intro N hN|intro h)|refine Zt oU.d ?_|fail)
 refine Zr (()) [0,72,2] oU.d ?_
 trivial
def oV:=ZZ.mk (Zq I7.d (Zq @E4 (Zq @b9 (Zq @H8 (Zq @pB (Zq @lU (Zq @jH @bW)))))))
theorem b69(L:List Int)(at_ g su re sl pa:Int)(ar:List cQ)(ll:List Loop)(li:List e8)(bs:List b6)(t:o6)(hb:bs.length≤1000):y0 Tryz.prog 110 [.ptr 0 0 0] (MS.rows ⟨L,at_,g,su,re,sl,pa,ar,.own ll,bs,.own li,t⟩) 1 (fun _:Unit=>True) (fun _=> .O4 []) (fun _=>(MS.block ⟨L,at_,g,su,re,sl,pa,ar,.own ll,bs,.own li,t⟩).rows):=by
 simp only[MS.rows,MS.block,j7.cell,j7.rows,j7.l,j7.k,r7.cell,r7.rows,r7.l,List.cons_append,List.nil_append,List.append_nil];refine Zf Tryz.func110 Tryz.ntmps110 ?_
 refine dF 1 bs.length 0 (x:= .own 2 0 li.length) (y:= .a6 false (e7 li)) (ids:=[(2,li.length)]) rfl (by simp only[Y3];rfl) (by simp (maxSteps:=10000000) (disch:=omega) only[oV.d,n7,T6,u4,B4,s7,o7,AV.kept,b8,n6,u5,D5,s8,s6,c7,AV.A6,n8,x5,AV.plain,rd,v8,a8,T1,stepC,AV.j3,AV.U9,AV.x7,AV.O6,AV.scalar,V7,u0,C8,D3,D4,D0,s5,B9,V8,u1,C9,B3,l0,V6,n4,A4,A3,T7,B2,m8,TD.isRow,u3,l9,n3,l7,H7,Value.oneCell',↓reduceIte,Int.reduceNe,Int.reduceEq,Nat.reduceAdd,Nat.reduceLT,Nat.reduceLeDiff,Nat.reduceSub,Nat.reduceMul,Nat.reduceBEq,Nat.reduceEqDiff,reduceCtorEq,Int.reduceToNat,←decide_not,←Bool.decide_and,sA,sN]<;>first|done|rfl) (by first|rfl|(simp (maxSteps:=10000000) (disch:=omega) only[a8,oV.d,n7,T6,u4,B4,s7,o7,AV.kept,b8,n6,u5,D5,s8,s6,c7,AV.A6,n8,x5,AV.plain,rd,v8,a8,T1,stepC,AV.j3,AV.U9,AV.x7,AV.O6,AV.scalar,V7,u0,C8,D3,D4,D0,s5,B9,V8,u1,C9,B3,l0,V6,n4,A4,A3,T7,B2,m8,TD.isRow,u3,l9,n3,l7,H7,Value.oneCell',↓reduceIte,Int.reduceNe,Int.reduceEq,Nat.reduceAdd,Nat.reduceLT,Nat.reduceLeDiff,Nat.reduceSub,Nat.reduceMul,Nat.reduceBEq,Nat.reduceEqDiff,reduceCtorEq,Int.reduceToNat,←decide_not,←Bool.decide_and,sA,sN]<;>first|done|rfl)) ?_;simp (maxSteps:=10000000) (disch:=omega) only[n6,y3,H7,oV.d,n7,T6,u4,B4,s7,o7,AV.kept,b8,n6,u5,D5,s8,s6,c7,AV.A6,n8,x5,AV.plain,rd,v8,a8,T1,stepC,AV.j3,AV.U9,AV.x7,AV.O6,AV.scalar,V7,u0,C8,D3,D4,D0,s5,B9,V8,u1,C9,B3,l0,V6,n4,A4,A3,T7,B2,m8,TD.isRow,u3,l9,n3,l7,H7,Value.oneCell',↓reduceIte,Int.reduceNe,Int.reduceEq,Nat.reduceAdd,Nat.reduceLT,Nat.reduceLeDiff,Nat.reduceSub,Nat.reduceMul,Nat.reduceBEq,Nat.reduceEqDiff,reduceCtorEq,Int.reduceToNat,←decide_not,←Bool.decide_and,sA,sN]
 repeat' (first|refine Za ?_|(with_reducible constructor<;>first|intro N hN mk hmk|intro N hN|intro h)|refine Zt oV.d ?_|fail)
 refine Zr (()) [0,72,3] oV.d ?_
 trivial
theorem D8(S:MS)(hb:S.bs.length≤1000):y0 Tryz.prog 110 [.ptr 0 0 0] S.rows 1 (fun _:Unit=>True) (fun _=> .O4 []) (fun _=>S.block.rows):=by
 obtain⟨L,at_,g,su,re,sl,pa,ar,lo,bs,ii,t⟩:=S
 cases lo with
 |nil=>cases ii with
  |nil=>exact b66 L at_ g su re sl pa ar bs t hb
  |own li=>exact b67 L at_ g su re sl pa ar li bs t hb
 |own ll=>cases ii with
  |nil=>exact b68 L at_ g su re sl pa ar ll bs t hb
  |own li=>exact b69 L at_ g su re sl pa ar ll li bs t hb
def aR:=ZZ.mk (Zq I7.d (Zq @E4 @iN))
theorem b4b(L:List Int)(at_ g su re sl pa:Int)(ar:List cQ):y0 Tryz.prog 110 [.ptr 0 0 0] (X3 L at_ g su re sl pa ar) 1 (fun _:Unit=>True) (fun _=> .O4 []) (fun _=>MS.rows ⟨L,at_,g,su,re,sl,pa,ar,.nil,[],.nil,Q5⟩):=by
 simp only[MS.rows,X3,j7.cell,j7.rows,j7.l,j7.k,r7.cell,r7.rows,r7.l,List.cons_append,List.nil_append,List.append_nil];refine Zf Tryz.func110 Tryz.ntmps110 ?_
 repeat' (first|refine Za ?_|(with_reducible constructor<;>first|intro N hN mk hmk|intro N hN|intro h)|refine Zt aR.d ?_|fail)
 refine Zr (()) [0,72] aR.d ?_
 trivial
theorem dG(x d:Int)(h:0≤x):0≤x%d∧x%d≤x:=by
 by_cases hd:d=0
 ·subst hd;simp;exact h
 ·refine⟨Int.emod_nonneg x hd,?_⟩
  have h1:=Int.emod_add_mul_ediv x d
  rcases Int.lt_or_gt_of_ne hd with g|g
  ·have h2:x / d≤0:=by
    have:=Int.ediv_nonpos_of_nonneg_of_nonpos h (Int.le_of_lt g)
    exact this
   have h3:0≤d*(x / d):=Int.mul_nonneg_of_nonpos_of_nonpos (Int.le_of_lt g) h2
   omega
  ·have h2:0≤x / d:=Int.ediv_nonneg h (Int.le_of_lt g)
   have h3:0≤d*(x / d):=Int.mul_nonneg (Int.le_of_lt g) h2
   omega
def O9(b:Int):o6:=⟨1,0,O0,O0,O0,b,0⟩
def D6(a:E3)(x y:Int):o6:=⟨2,0,O0,a,O0,x,y⟩
def MS.iD(last:Int)(S:MS):MS:=
 (fun(S1:MS)=>(if a7 S1.L S1.at_%2=0 then
   {S1 with at_:=S1.at_+1+1+1+1,t:=D6 (E8 S1.L (S1.at_+1)) (S.bs.length+1+a7 S1.L (S1.at_+1+1)%(last-S.bs.length)) (S.bs.length+1+a7 S1.L (S1.at_+1+1+1)%(last-S.bs.length))}
  else{S1 with at_:=S1.at_+1,t:=O9 (S.bs.length+1)}).block) S.e7
def MS.fN(last:Int)(S:MS):Nat→MS
 |0=>S
 |i+1=>(S.fN last i).iD last
def MS.fO(S:MS)(n:Int):MS:=(S.fN (S.bs.length+n) n.toNat).e7
def MS.region(S:MS)(n:Int):MS:=S.block.fO n
theorem b5h(last:Int)(S:MS)(hL:y8 S.L)(h0:0≤S.at_):∃a b,S.iD last=⟨S.L,a,S.g,S.su,S.re,S.sl,S.pa,S.ar,S.lo,S.bs++[b],.nil,Q5⟩∧S.at_+1≤a∧a≤S.at_+37:=by
 obtain⟨a,ii,e,h1,h2,h3⟩:=I1 S hL h0
 unfold MS.iD
 rw[e]
 simp only
 split
 ·exact⟨a+1+1+1+1,_,rfl,by omega,by omega⟩
 ·exact⟨a+1,_,rfl,by omega,by omega⟩
theorem Q8(last:Int)(S:MS)(hL:y8 S.L)(h0:0≤S.at_)(hi:S.i= .nil)(ht:S.t=Q5):∀i:Nat,∃a bs,S.fN last i=⟨S.L,a,S.g,S.su,S.re,S.sl,S.pa,S.ar,S.lo,bs,.nil,Q5⟩∧S.at_≤a∧a≤S.at_+37*i∧bs.length=S.bs.length+i:=by
 intro i
 induction i with
 |zero=>exact⟨S.at_,S.bs,by rw[←hi,←ht];rfl,by omega,by omega,by omega⟩
 |succ i ih=>
  obtain⟨a,bs,e,h1,h2,h3⟩:=ih
  obtain⟨a',b,e',g1,g2⟩:=b5h last (S.fN last i) (by rw[e];exact hL) (by rw[e];show 0≤a;omega)
  rw[e]at e' g1 g2
  have g1:a+1≤a':=g1
  have g2:a'≤a+37:=g2
  refine⟨a',bs++[b],?_,by omega,by omega,by simp;omega⟩
  simp only[MS.fN,e,e']
def MS.N3(S:MS)(n:Int):List Row:=(S.fO n).rows
def U0:=ZZ.mk (Zq aR.d (Zq @z7 (Zq @O0.eq_1 @b9)))
theorem b8Q(L:List Int)(at_ g su re sl pa:Int)(ar:List cQ)(n:Int)(hn:0≤n∧n≤2)(h:iI ⟨L,at_,g,su,re,sl,pa,ar,.nil,[],.nil,Q5⟩ 600000)(hb:0+2≤900):y0 Tryz.prog 108 [.ptr 0 0 0,.v (.int .i64 n)] (X3 L at_ g su re sl pa ar) 1 (fun _:Unit=>True) (fun _=> .O4 []) (fun _=>MS.N3 ⟨L,at_,g,su,re,sl,pa,ar,.nil,[],.nil,Q5⟩ n):=by
 obtain⟨hL,h0,hb0,hi,ha,hal⟩:=h
 simp only at hL h0 ha hal
 clear hb0 hi
 have CB0:=b4b L at_ g su re sl pa ar
 obtain⟨last,hlast⟩:∃last:Int,last=((0:Nat):Int)+n:=⟨_,rfl⟩
 obtain⟨SI,hSI⟩:∃SI,SI=MS.fN last ⟨L,at_,g,su,re,sl,pa,ar,.nil,[],.nil,Q5⟩:=⟨_,rfl⟩
 have hR:MS.N3 ⟨L,at_,g,su,re,sl,pa,ar,.nil,[],.nil,Q5⟩ n=(SI n.toNat).e7.rows:=by rw[hSI,hlast];unfold MS.N3 MS.fO;simp only[List.length_append,List.length_cons,List.length_nil,Nat.zero_add,Nat.reduceAdd]
 obtain⟨R,hR2⟩:∃R:List Row,R=MS.N3 ⟨L,at_,g,su,re,sl,pa,ar,.nil,[],.nil,Q5⟩ n:=⟨_,rfl⟩
 rw[←hR2]
 rw[hR]at hR2
 clear hR
 simp only[MS.rows,MS.block,X3,b9,j7.cell,j7.rows,j7.l,j7.k,r7.cell,r7.rows,r7.l,List.cons_append,List.nil_append,List.append_nil]at CB0
 simp only[MS.rows,X3,j7.cell,j7.rows,j7.l,j7.k,r7.cell,r7.rows,r7.l,List.cons_append,List.nil_append,List.append_nil];refine Zf Tryz.func108 Tryz.ntmps108 ?_
 repeat' (first|refine Zl ?_|(with_reducible constructor<;>first|intro N hN mk hmk|intro N hN|intro h)|(refine Zp CB0 [0] aR.d ?_;with_reducible intro _ _)|refine Zt aR.d ?_|fail)
 refine c8 (fun i=>⟨[.ptr 0 0 0,.Z,.Z,.Z,.Z,.v (.int .i64 (((0:Nat):Int)+n)),.v (.int .i64 (SI i).bs.length),.Z,.Z,.Z,.Z,.Z,.Z,.Z,.Z,.Z,.Z,.Z,.Z,.Z,.Z,.Z,.Z,.Z,.Z,.Z,.Z,.Z,.Z,.Z,.Z,.Z,.Z,.Z,.Z,.Z,.Z,.Z,.Z,.Z,.Z,.Z,.Z,.Z,.Z,.Z,.Z,.Z,.Z,.Z,.Z,.Z,.Z,.Z,.Z,.Z,.Z,.Z,.Z,.Z,.Z,.Z,.Z,.Z,.Z,.Z,.Z,.Z,.Z,.Z,.Z,.Z,.Z,.Z,.Z,.Z,.Z],U2 (SI i).rows,((SI i).rows.length+1)⟩) n.toNat (Zw [0,5,6] [0,16] aR.d ?_) ?_
 ·rw[hSI];simp only[MS.fN,MS.rows,U2,j0,E4,iN,b9,j7.cell,j7.rows,j7.l,j7.k,r7.cell,r7.rows,r7.l,List.cons_append,List.nil_append,List.append_nil,List.length_cons,List.length_nil,Nat.reduceAdd,Int.natCast_zero,Int.add_zero]
 intro i hi2
 clear CB0
 obtain⟨a,bs',e,e1,e2,e3⟩:=Q8 last ⟨L,at_,g,su,re,sl,pa,ar,.nil,[],.nil,Q5⟩ hL h0.1 rfl rfl i
 have e0:=e
 rw[←hSI]at e0
 have ej:SI (i+1)=(SI i).iD last:=by rw[hSI];rfl
 have e1:at_≤a:=e1
 have e2:a≤at_+37*i:=e2
 simp only[List.length_append,List.length_cons,List.length_nil]at e3
 obtain⟨a1,ii,f,f1,f2,f3⟩:=I1 ⟨L,a,g,su,re,sl,pa,ar,.nil,bs',.nil,Q5⟩ hL (by show 0≤a;omega)
 have f1:a+1≤a1:=f1
 have f2:a1≤a+33:=f2
 have f3:ii.l.length≤0+8:=f3
 have CI:=bD ⟨L,a,g,su,re,sl,pa,ar,.nil,bs',.nil,Q5⟩ ⟨hL,by show 0≤a∧a≤_;omega,by show bs'.length≤_;omega,by show((0:Nat):Int)≤_;omega,ha,hal⟩
 rw[f]at CI
 simp only at CI f
 have CN1:=p0 L a1 (by omega) hL
 have CR:=Y0 L (a1+1) (by omega) hL
 have CN2:=p0 L (a1+1+1) (by omega) hL
 have CN3:=p0 L (a1+1+1+1) (by omega) hL
 have hx1:=j4 hL (show 0≤a1 by omega)
 have hx2:=j4 hL (show 0≤a1+1+1 by omega)
 have hx3:=j4 hL (show 0≤a1+1+1+1 by omega)
 have CB1:=D8 ⟨L,a1+1,g,su,re,sl,pa,ar,.nil,bs',ii,O9 (bs'.length+1)⟩ (by show bs'.length≤_;omega)
 have CB2:=D8 ⟨L,a1+1+1+1+1,g,su,re,sl,pa,ar,.nil,bs',ii,D6 (E8 L (a1+1)) (bs'.length+1+a7 L (a1+1+1)%(last-bs'.length)) (bs'.length+1+a7 L (a1+1+1+1)%(last-bs'.length))⟩ (by show bs'.length≤_;omega)
 have er1:¬a7 L a1%2=0→(SI (i+1)).rows=(MS.block ⟨L,a1+1,g,su,re,sl,pa,ar,.nil,bs',ii,O9 (bs'.length+1)⟩).rows:=fun hp=>by rw[ej,e0];unfold MS.iD;simp only;rw[f];simp only;rw[if_neg hp]
 have er2:a7 L a1%2=0→(SI (i+1)).rows=(MS.block ⟨L,a1+1+1+1+1,g,su,re,sl,pa,ar,.nil,bs',ii,D6 (E8 L (a1+1)) (bs'.length+1+a7 L (a1+1+1)%(last-bs'.length)) (bs'.length+1+a7 L (a1+1+1+1)%(last-bs'.length))⟩).rows:=fun hp=>by rw[ej,e0];unfold MS.iD;simp only;rw[f];simp only;rw[if_pos hp]
 have hR3:i=n.toNat→R=(MS.rows ⟨L,a1,g,su,re,sl,pa,ar,.nil,bs',ii,Q5⟩):=fun hp=>by rw[hR2,←hp,e0,f]
 have elen:(SI (i+1)).bs.length=bs'.length+1:=by
  rw[hSI]
  obtain⟨_,_,e',_,_,e4⟩:=Q8 last ⟨L,at_,g,su,re,sl,pa,ar,.nil,[],.nil,Q5⟩ hL h0.1 rfl rfl (i+1)
  rw[e']
  simp only[List.length_append,List.length_cons,List.length_nil]at e4⊢
  omega
 obtain⟨R1,hR1⟩:∃R1,R1=(SI (i+1)).rows:=⟨_,rfl⟩
 rw[←hR1]at er1 er2⊢
 rw[elen,e0]
 clear f ej e e0 hSI hR2 elen hR1
 subst hlast
 generalize a7 L a1=x1 at*
 generalize a7 L (a1+1+1)=x2 at*
 generalize a7 L (a1+1+1+1)=x3 at*
 generalize E8 L (a1+1)=d at*
 obtain⟨dk,dn,dv⟩:=d
 cases ii
 all_goals simp only[MS.rows,MS.block,U2,j0,E4,E3.av,O9,D6,O0,b9,j7.cell,j7.rows,j7.l,j7.k,r7.cell,r7.rows,r7.l,List.cons_append,List.nil_append,List.append_nil,List.length_cons,List.length_nil,Nat.reduceAdd]at CI CR CB1 CB2 er1 er2 hR3⊢
 all_goals simp only[o6.av]at CB1 CB2
 all_goals have hq2:=dG x2 (((0:Nat):Int)+n-bs'.length) hx2.1
 all_goals have hq3:=dG x3 (((0:Nat):Int)+n-bs'.length) hx3.1
 all_goals by_cases hp:x1%2=0
 ·repeat' (first|refine Zl ?_|(with_reducible constructor<;>first|intro N hN mk hmk|intro N hN|intro h)|(refine Zp CI [0,1] (Zq U0.d hp) ?_;with_reducible intro _ _)|refine Ze CN1 ?_|refine Ze CR ?_|refine Ze CN2 ?_|refine Ze CN3 ?_|(refine Zp CB2 [0,35] (Zq U0.d hp) ?_;with_reducible intro _ _)|refine Zt (Zq U0.d hp) ?_|fail)
  ·refine Zw [0,5,6] [0,435] (Zq U0.d hp) ?_
   rw[er2 hp]
   simp only[j0,List.cons_append,List.nil_append,List.length_cons,List.length_nil,Nat.reduceAdd,show((bs'.length+1:Nat):Int)=bs'.length+1 from rfl]
  ·rw[hR3 (by omega)]
   refine Zr (()) [0,35] (Zq U0.d hp) ?_
   trivial
 ·repeat' (first|refine Zl ?_|(with_reducible constructor<;>first|intro N hN mk hmk|intro N hN|intro h)|(refine Zp CI [0,1] (Zq U0.d hp) ?_;with_reducible intro _ _)|refine Ze CN1 ?_|(refine Zp CB1 [0,35] (Zq U0.d hp) ?_;with_reducible intro _ _)|refine Zt (Zq U0.d hp) ?_|fail)
  ·refine Zw [0,5,6] [0,187] (Zq U0.d hp) ?_
   rw[er1 hp]
   simp only[j0,List.cons_append,List.nil_append,List.length_cons,List.length_nil,Nat.reduceAdd,show((bs'.length+1:Nat):Int)=bs'.length+1 from rfl]
  ·rw[hR3 (by omega)]
   refine Zr (()) [0,35] (Zq U0.d hp) ?_
   trivial
 ·repeat' (first|refine Zl ?_|(with_reducible constructor<;>first|intro N hN mk hmk|intro N hN|intro h)|(refine Zp CI [0,1] (Zq U0.d hp) ?_;with_reducible intro _ _)|refine Ze CN1 ?_|refine Ze CR ?_|refine Ze CN2 ?_|refine Ze CN3 ?_|(refine Zp CB2 [0,35,36] (Zq U0.d hp) ?_;with_reducible intro _ _)|refine Zt (Zq U0.d hp) ?_|fail)
  ·refine Zw [0,5,6] [0,435] (Zq U0.d hp) ?_
   rw[er2 hp]
   simp only[j0,List.cons_append,List.nil_append,List.length_cons,List.length_nil,Nat.reduceAdd,show((bs'.length+1:Nat):Int)=bs'.length+1 from rfl]
  ·rw[hR3 (by omega)]
   refine Zr (()) [0,35,36] (Zq U0.d hp) ?_
   trivial
 ·repeat' (first|refine Zl ?_|(with_reducible constructor<;>first|intro N hN mk hmk|intro N hN|intro h)|(refine Zp CI [0,1] (Zq U0.d hp) ?_;with_reducible intro _ _)|refine Ze CN1 ?_|(refine Zp CB1 [0,35,36] (Zq U0.d hp) ?_;with_reducible intro _ _)|refine Zt (Zq U0.d hp) ?_|fail)
  ·refine Zw [0,5,6] [0,187] (Zq U0.d hp) ?_
   rw[er1 hp]
   simp only[j0,List.cons_append,List.nil_append,List.length_cons,List.length_nil,Nat.reduceAdd,show((bs'.length+1:Nat):Int)=bs'.length+1 from rfl]
  ·rw[hR3 (by omega)]
   refine Zr (()) [0,35,36] (Zq U0.d hp) ?_
   trivial
def M4:=ZZ.mk (Zq aR.d (Zq @z7 (Zq @O0.eq_1 @b9)))
theorem b5i(L:List Int)(at_ g su re sl pa:Int)(ar:List cQ)(bs:List b6)(t:o6)(n:Int)(hn:0≤n∧n≤2)(h:iI ⟨L,at_,g,su,re,sl,pa,ar,.nil,bs,.nil,t⟩ 600000)(hb:bs.length+2≤900):y0 Tryz.prog 108 [.ptr 0 0 0,.v (.int .i64 n)] (MS.rows ⟨L,at_,g,su,re,sl,pa,ar,.nil,bs,.nil,t⟩) 1 (fun _:Unit=>True) (fun _=> .O4 []) (fun _=>MS.N3 ⟨L,at_,g,su,re,sl,pa,ar,.nil,(bs++[⟨[],t⟩]),.nil,Q5⟩ n):=by
 obtain⟨hL,h0,hb0,hi,ha,hal⟩:=h
 simp only at hL h0 ha hal
 clear hb0 hi
 have CB0:=D8 ⟨L,at_,g,su,re,sl,pa,ar,.nil,bs,.nil,t⟩ (by show bs.length≤1000;omega)
 obtain⟨last,hlast⟩:∃last:Int,last=((bs.length+1:Nat):Int)+n:=⟨_,rfl⟩
 obtain⟨SI,hSI⟩:∃SI,SI=MS.fN last ⟨L,at_,g,su,re,sl,pa,ar,.nil,(bs++[⟨[],t⟩]),.nil,Q5⟩:=⟨_,rfl⟩
 have hR:MS.N3 ⟨L,at_,g,su,re,sl,pa,ar,.nil,(bs++[⟨[],t⟩]),.nil,Q5⟩ n=(SI n.toNat).e7.rows:=by rw[hSI,hlast];unfold MS.N3 MS.fO;simp only[List.length_append,List.length_cons,List.length_nil,Nat.zero_add,Nat.reduceAdd]
 obtain⟨R,hR2⟩:∃R:List Row,R=MS.N3 ⟨L,at_,g,su,re,sl,pa,ar,.nil,(bs++[⟨[],t⟩]),.nil,Q5⟩ n:=⟨_,rfl⟩
 rw[←hR2]
 rw[hR]at hR2
 clear hR
 simp only[MS.rows,MS.block,X3,b9,j7.cell,j7.rows,j7.l,j7.k,r7.cell,r7.rows,r7.l,List.cons_append,List.nil_append,List.append_nil]at CB0
 simp only[MS.rows,X3,j7.cell,j7.rows,j7.l,j7.k,r7.cell,r7.rows,r7.l,List.cons_append,List.nil_append,List.append_nil];refine Zf Tryz.func108 Tryz.ntmps108 ?_
 repeat' (first|refine Zl ?_|(with_reducible constructor<;>first|intro N hN mk hmk|intro N hN|intro h)|(refine Zp CB0 [0,1] aR.d ?_;with_reducible intro _ _)|refine Zt aR.d ?_|fail)
 refine c8 (fun i=>⟨[.ptr 0 0 0,.Z,.Z,.Z,.Z,.v (.int .i64 (((bs.length+1:Nat):Int)+n)),.v (.int .i64 (SI i).bs.length),.Z,.Z,.Z,.Z,.Z,.Z,.Z,.Z,.Z,.Z,.Z,.Z,.Z,.Z,.Z,.Z,.Z,.Z,.Z,.Z,.Z,.Z,.Z,.Z,.Z,.Z,.Z,.Z,.Z,.Z,.Z,.Z,.Z,.Z,.Z,.Z,.Z,.Z,.Z,.Z,.Z,.Z,.Z,.Z,.Z,.Z,.Z,.Z,.Z,.Z,.Z,.Z,.Z,.Z,.Z,.Z,.Z,.Z,.Z,.Z,.Z,.Z,.Z,.Z,.Z,.Z,.Z,.Z,.Z,.Z],U2 (SI i).rows,((SI i).rows.length+1)⟩) n.toNat (Zw [0,5,6] [0,16] aR.d ?_) ?_
 ·rw[hSI];simp only[MS.fN,MS.rows,U2,j0,E4,iN,b9,j7.cell,j7.rows,j7.l,j7.k,r7.cell,r7.rows,r7.l,List.cons_append,List.nil_append,List.append_nil,List.length_cons,List.length_nil,Nat.reduceAdd,Int.natCast_zero,Int.add_zero]
 intro i hi2
 clear CB0
 obtain⟨a,bs',e,e1,e2,e3⟩:=Q8 last ⟨L,at_,g,su,re,sl,pa,ar,.nil,(bs++[⟨[],t⟩]),.nil,Q5⟩ hL h0.1 rfl rfl i
 have e0:=e
 rw[←hSI]at e0
 have ej:SI (i+1)=(SI i).iD last:=by rw[hSI];rfl
 have e1:at_≤a:=e1
 have e2:a≤at_+37*i:=e2
 simp only[List.length_append,List.length_cons,List.length_nil]at e3
 obtain⟨a1,ii,f,f1,f2,f3⟩:=I1 ⟨L,a,g,su,re,sl,pa,ar,.nil,bs',.nil,Q5⟩ hL (by show 0≤a;omega)
 have f1:a+1≤a1:=f1
 have f2:a1≤a+33:=f2
 have f3:ii.l.length≤0+8:=f3
 have CI:=bD ⟨L,a,g,su,re,sl,pa,ar,.nil,bs',.nil,Q5⟩ ⟨hL,by show 0≤a∧a≤_;omega,by show bs'.length≤_;omega,by show((0:Nat):Int)≤_;omega,ha,hal⟩
 rw[f]at CI
 simp only at CI f
 have CN1:=p0 L a1 (by omega) hL
 have CR:=Y0 L (a1+1) (by omega) hL
 have CN2:=p0 L (a1+1+1) (by omega) hL
 have CN3:=p0 L (a1+1+1+1) (by omega) hL
 have hx1:=j4 hL (show 0≤a1 by omega)
 have hx2:=j4 hL (show 0≤a1+1+1 by omega)
 have hx3:=j4 hL (show 0≤a1+1+1+1 by omega)
 have CB1:=D8 ⟨L,a1+1,g,su,re,sl,pa,ar,.nil,bs',ii,O9 (bs'.length+1)⟩ (by show bs'.length≤_;omega)
 have CB2:=D8 ⟨L,a1+1+1+1+1,g,su,re,sl,pa,ar,.nil,bs',ii,D6 (E8 L (a1+1)) (bs'.length+1+a7 L (a1+1+1)%(last-bs'.length)) (bs'.length+1+a7 L (a1+1+1+1)%(last-bs'.length))⟩ (by show bs'.length≤_;omega)
 have er1:¬a7 L a1%2=0→(SI (i+1)).rows=(MS.block ⟨L,a1+1,g,su,re,sl,pa,ar,.nil,bs',ii,O9 (bs'.length+1)⟩).rows:=fun hp=>by rw[ej,e0];unfold MS.iD;simp only;rw[f];simp only;rw[if_neg hp]
 have er2:a7 L a1%2=0→(SI (i+1)).rows=(MS.block ⟨L,a1+1+1+1+1,g,su,re,sl,pa,ar,.nil,bs',ii,D6 (E8 L (a1+1)) (bs'.length+1+a7 L (a1+1+1)%(last-bs'.length)) (bs'.length+1+a7 L (a1+1+1+1)%(last-bs'.length))⟩).rows:=fun hp=>by rw[ej,e0];unfold MS.iD;simp only;rw[f];simp only;rw[if_pos hp]
 have hR3:i=n.toNat→R=(MS.rows ⟨L,a1,g,su,re,sl,pa,ar,.nil,bs',ii,Q5⟩):=fun hp=>by rw[hR2,←hp,e0,f]
 have elen:(SI (i+1)).bs.length=bs'.length+1:=by
  rw[hSI]
  obtain⟨_,_,e',_,_,e4⟩:=Q8 last ⟨L,at_,g,su,re,sl,pa,ar,.nil,(bs++[⟨[],t⟩]),.nil,Q5⟩ hL h0.1 rfl rfl (i+1)
  rw[e']
  simp only[List.length_append,List.length_cons,List.length_nil]at e4⊢
  omega
 obtain⟨R1,hR1⟩:∃R1,R1=(SI (i+1)).rows:=⟨_,rfl⟩
 rw[←hR1]at er1 er2⊢
 rw[elen,e0]
 clear f ej e e0 hSI hR2 elen hR1
 subst hlast
 generalize a7 L a1=x1 at*
 generalize a7 L (a1+1+1)=x2 at*
 generalize a7 L (a1+1+1+1)=x3 at*
 generalize E8 L (a1+1)=d at*
 obtain⟨dk,dn,dv⟩:=d
 cases ii
 all_goals simp only[MS.rows,MS.block,U2,j0,E4,E3.av,O9,D6,O0,b9,j7.cell,j7.rows,j7.l,j7.k,r7.cell,r7.rows,r7.l,List.cons_append,List.nil_append,List.append_nil,List.length_cons,List.length_nil,Nat.reduceAdd]at CI CR CB1 CB2 er1 er2 hR3⊢
 all_goals simp only[o6.av]at CB1 CB2
 all_goals have hq2:=dG x2 (((bs.length+1:Nat):Int)+n-bs'.length) hx2.1
 all_goals have hq3:=dG x3 (((bs.length+1:Nat):Int)+n-bs'.length) hx3.1
 all_goals by_cases hp:x1%2=0
 ·repeat' (first|refine Zl ?_|(with_reducible constructor<;>first|intro N hN mk hmk|intro N hN|intro h)|(refine Zp CI [0,1] (Zq M4.d hp) ?_;with_reducible intro _ _)|refine Ze CN1 ?_|refine Ze CR ?_|refine Ze CN2 ?_|refine Ze CN3 ?_|(refine Zp CB2 [0,35] (Zq M4.d hp) ?_;with_reducible intro _ _)|refine Zt (Zq M4.d hp) ?_|fail)
  ·refine Zw [0,5,6] [0,435] (Zq M4.d hp) ?_
   rw[er2 hp]
   simp only[j0,List.cons_append,List.nil_append,List.length_cons,List.length_nil,Nat.reduceAdd,show((bs'.length+1:Nat):Int)=bs'.length+1 from rfl]
  ·rw[hR3 (by omega)]
   refine Zr (()) [0,35] (Zq M4.d hp) ?_
   trivial
 ·repeat' (first|refine Zl ?_|(with_reducible constructor<;>first|intro N hN mk hmk|intro N hN|intro h)|(refine Zp CI [0,1] (Zq M4.d hp) ?_;with_reducible intro _ _)|refine Ze CN1 ?_|(refine Zp CB1 [0,35] (Zq M4.d hp) ?_;with_reducible intro _ _)|refine Zt (Zq M4.d hp) ?_|fail)
  ·refine Zw [0,5,6] [0,187] (Zq M4.d hp) ?_
   rw[er1 hp]
   simp only[j0,List.cons_append,List.nil_append,List.length_cons,List.length_nil,Nat.reduceAdd,show((bs'.length+1:Nat):Int)=bs'.length+1 from rfl]
  ·rw[hR3 (by omega)]
   refine Zr (()) [0,35] (Zq M4.d hp) ?_
   trivial
 ·repeat' (first|refine Zl ?_|(with_reducible constructor<;>first|intro N hN mk hmk|intro N hN|intro h)|(refine Zp CI [0,1] (Zq M4.d hp) ?_;with_reducible intro _ _)|refine Ze CN1 ?_|refine Ze CR ?_|refine Ze CN2 ?_|refine Ze CN3 ?_|(refine Zp CB2 [0,35,36] (Zq M4.d hp) ?_;with_reducible intro _ _)|refine Zt (Zq M4.d hp) ?_|fail)
  ·refine Zw [0,5,6] [0,435] (Zq M4.d hp) ?_
   rw[er2 hp]
   simp only[j0,List.cons_append,List.nil_append,List.length_cons,List.length_nil,Nat.reduceAdd,show((bs'.length+1:Nat):Int)=bs'.length+1 from rfl]
  ·rw[hR3 (by omega)]
   refine Zr (()) [0,35,36] (Zq M4.d hp) ?_
   trivial
 ·repeat' (first|refine Zl ?_|(with_reducible constructor<;>first|intro N hN mk hmk|intro N hN|intro h)|(refine Zp CI [0,1] (Zq M4.d hp) ?_;with_reducible intro _ _)|refine Ze CN1 ?_|(refine Zp CB1 [0,35,36] (Zq M4.d hp) ?_;with_reducible intro _ _)|refine Zt (Zq M4.d hp) ?_|fail)
  ·refine Zw [0,5,6] [0,187] (Zq M4.d hp) ?_
   rw[er1 hp]
   simp only[j0,List.cons_append,List.nil_append,List.length_cons,List.length_nil,Nat.reduceAdd,show((bs'.length+1:Nat):Int)=bs'.length+1 from rfl]
  ·rw[hR3 (by omega)]
   refine Zr (()) [0,35,36] (Zq M4.d hp) ?_
   trivial
def M5:=ZZ.mk (Zq aR.d (Zq @z7 (Zq @O0.eq_1 @b9)))
theorem b5j(L:List Int)(at_ g su re sl pa:Int)(ar:List cQ)(li:List e8)(bs:List b6)(t:o6)(n:Int)(hn:0≤n∧n≤2)(h:iI ⟨L,at_,g,su,re,sl,pa,ar,.nil,bs,.own li,t⟩ 600000)(hb:bs.length+2≤900):y0 Tryz.prog 108 [.ptr 0 0 0,.v (.int .i64 n)] (MS.rows ⟨L,at_,g,su,re,sl,pa,ar,.nil,bs,.own li,t⟩) 1 (fun _:Unit=>True) (fun _=> .O4 []) (fun _=>MS.N3 ⟨L,at_,g,su,re,sl,pa,ar,.nil,(bs++[⟨li,t⟩]),.nil,Q5⟩ n):=by
 obtain⟨hL,h0,hb0,hi,ha,hal⟩:=h
 simp only at hL h0 ha hal
 clear hb0 hi
 have CB0:=D8 ⟨L,at_,g,su,re,sl,pa,ar,.nil,bs,.own li,t⟩ (by show bs.length≤1000;omega)
 obtain⟨last,hlast⟩:∃last:Int,last=((bs.length+1:Nat):Int)+n:=⟨_,rfl⟩
 obtain⟨SI,hSI⟩:∃SI,SI=MS.fN last ⟨L,at_,g,su,re,sl,pa,ar,.nil,(bs++[⟨li,t⟩]),.nil,Q5⟩:=⟨_,rfl⟩
 have hR:MS.N3 ⟨L,at_,g,su,re,sl,pa,ar,.nil,(bs++[⟨li,t⟩]),.nil,Q5⟩ n=(SI n.toNat).e7.rows:=by rw[hSI,hlast];unfold MS.N3 MS.fO;simp only[List.length_append,List.length_cons,List.length_nil,Nat.zero_add,Nat.reduceAdd]
 obtain⟨R,hR2⟩:∃R:List Row,R=MS.N3 ⟨L,at_,g,su,re,sl,pa,ar,.nil,(bs++[⟨li,t⟩]),.nil,Q5⟩ n:=⟨_,rfl⟩
 rw[←hR2]
 rw[hR]at hR2
 clear hR
 simp only[MS.rows,MS.block,X3,b9,j7.cell,j7.rows,j7.l,j7.k,r7.cell,r7.rows,r7.l,List.cons_append,List.nil_append,List.append_nil]at CB0
 simp only[MS.rows,X3,j7.cell,j7.rows,j7.l,j7.k,r7.cell,r7.rows,r7.l,List.cons_append,List.nil_append,List.append_nil];refine Zf Tryz.func108 Tryz.ntmps108 ?_
 repeat' (first|refine Zl ?_|(with_reducible constructor<;>first|intro N hN mk hmk|intro N hN|intro h)|(refine Zp CB0 [0,1,2] aR.d ?_;with_reducible intro _ _)|refine Zt aR.d ?_|fail)
 refine c8 (fun i=>⟨[.ptr 0 0 0,.Z,.Z,.Z,.Z,.v (.int .i64 (((bs.length+1:Nat):Int)+n)),.v (.int .i64 (SI i).bs.length),.Z,.Z,.Z,.Z,.Z,.Z,.Z,.Z,.Z,.Z,.Z,.Z,.Z,.Z,.Z,.Z,.Z,.Z,.Z,.Z,.Z,.Z,.Z,.Z,.Z,.Z,.Z,.Z,.Z,.Z,.Z,.Z,.Z,.Z,.Z,.Z,.Z,.Z,.Z,.Z,.Z,.Z,.Z,.Z,.Z,.Z,.Z,.Z,.Z,.Z,.Z,.Z,.Z,.Z,.Z,.Z,.Z,.Z,.Z,.Z,.Z,.Z,.Z,.Z,.Z,.Z,.Z,.Z,.Z,.Z],U2 (SI i).rows,((SI i).rows.length+1)⟩) n.toNat (Zw [0,5,6] [0,16] aR.d ?_) ?_
 ·rw[hSI];simp only[MS.fN,MS.rows,U2,j0,E4,iN,b9,j7.cell,j7.rows,j7.l,j7.k,r7.cell,r7.rows,r7.l,List.cons_append,List.nil_append,List.append_nil,List.length_cons,List.length_nil,Nat.reduceAdd,Int.natCast_zero,Int.add_zero]
 intro i hi2
 clear CB0
 obtain⟨a,bs',e,e1,e2,e3⟩:=Q8 last ⟨L,at_,g,su,re,sl,pa,ar,.nil,(bs++[⟨li,t⟩]),.nil,Q5⟩ hL h0.1 rfl rfl i
 have e0:=e
 rw[←hSI]at e0
 have ej:SI (i+1)=(SI i).iD last:=by rw[hSI];rfl
 have e1:at_≤a:=e1
 have e2:a≤at_+37*i:=e2
 simp only[List.length_append,List.length_cons,List.length_nil]at e3
 obtain⟨a1,ii,f,f1,f2,f3⟩:=I1 ⟨L,a,g,su,re,sl,pa,ar,.nil,bs',.nil,Q5⟩ hL (by show 0≤a;omega)
 have f1:a+1≤a1:=f1
 have f2:a1≤a+33:=f2
 have f3:ii.l.length≤0+8:=f3
 have CI:=bD ⟨L,a,g,su,re,sl,pa,ar,.nil,bs',.nil,Q5⟩ ⟨hL,by show 0≤a∧a≤_;omega,by show bs'.length≤_;omega,by show((0:Nat):Int)≤_;omega,ha,hal⟩
 rw[f]at CI
 simp only at CI f
 have CN1:=p0 L a1 (by omega) hL
 have CR:=Y0 L (a1+1) (by omega) hL
 have CN2:=p0 L (a1+1+1) (by omega) hL
 have CN3:=p0 L (a1+1+1+1) (by omega) hL
 have hx1:=j4 hL (show 0≤a1 by omega)
 have hx2:=j4 hL (show 0≤a1+1+1 by omega)
 have hx3:=j4 hL (show 0≤a1+1+1+1 by omega)
 have CB1:=D8 ⟨L,a1+1,g,su,re,sl,pa,ar,.nil,bs',ii,O9 (bs'.length+1)⟩ (by show bs'.length≤_;omega)
 have CB2:=D8 ⟨L,a1+1+1+1+1,g,su,re,sl,pa,ar,.nil,bs',ii,D6 (E8 L (a1+1)) (bs'.length+1+a7 L (a1+1+1)%(last-bs'.length)) (bs'.length+1+a7 L (a1+1+1+1)%(last-bs'.length))⟩ (by show bs'.length≤_;omega)
 have er1:¬a7 L a1%2=0→(SI (i+1)).rows=(MS.block ⟨L,a1+1,g,su,re,sl,pa,ar,.nil,bs',ii,O9 (bs'.length+1)⟩).rows:=fun hp=>by rw[ej,e0];unfold MS.iD;simp only;rw[f];simp only;rw[if_neg hp]
 have er2:a7 L a1%2=0→(SI (i+1)).rows=(MS.block ⟨L,a1+1+1+1+1,g,su,re,sl,pa,ar,.nil,bs',ii,D6 (E8 L (a1+1)) (bs'.length+1+a7 L (a1+1+1)%(last-bs'.length)) (bs'.length+1+a7 L (a1+1+1+1)%(last-bs'.length))⟩).rows:=fun hp=>by rw[ej,e0];unfold MS.iD;simp only;rw[f];simp only;rw[if_pos hp]
 have hR3:i=n.toNat→R=(MS.rows ⟨L,a1,g,su,re,sl,pa,ar,.nil,bs',ii,Q5⟩):=fun hp=>by rw[hR2,←hp,e0,f]
 have elen:(SI (i+1)).bs.length=bs'.length+1:=by
  rw[hSI]
  obtain⟨_,_,e',_,_,e4⟩:=Q8 last ⟨L,at_,g,su,re,sl,pa,ar,.nil,(bs++[⟨li,t⟩]),.nil,Q5⟩ hL h0.1 rfl rfl (i+1)
  rw[e']
  simp only[List.length_append,List.length_cons,List.length_nil]at e4⊢
  omega
 obtain⟨R1,hR1⟩:∃R1,R1=(SI (i+1)).rows:=⟨_,rfl⟩
 rw[←hR1]at er1 er2⊢
 rw[elen,e0]
 clear f ej e e0 hSI hR2 elen hR1
 subst hlast
 generalize a7 L a1=x1 at*
 generalize a7 L (a1+1+1)=x2 at*
 generalize a7 L (a1+1+1+1)=x3 at*
 generalize E8 L (a1+1)=d at*
 obtain⟨dk,dn,dv⟩:=d
 cases ii
 all_goals simp only[MS.rows,MS.block,U2,j0,E4,E3.av,O9,D6,O0,b9,j7.cell,j7.rows,j7.l,j7.k,r7.cell,r7.rows,r7.l,List.cons_append,List.nil_append,List.append_nil,List.length_cons,List.length_nil,Nat.reduceAdd]at CI CR CB1 CB2 er1 er2 hR3⊢
 all_goals simp only[o6.av]at CB1 CB2
 all_goals have hq2:=dG x2 (((bs.length+1:Nat):Int)+n-bs'.length) hx2.1
 all_goals have hq3:=dG x3 (((bs.length+1:Nat):Int)+n-bs'.length) hx3.1
 all_goals by_cases hp:x1%2=0
 ·repeat' (first|refine Zl ?_|(with_reducible constructor<;>first|intro N hN mk hmk|intro N hN|intro h)|(refine Zp CI [0,1] (Zq M5.d hp) ?_;with_reducible intro _ _)|refine Ze CN1 ?_|refine Ze CR ?_|refine Ze CN2 ?_|refine Ze CN3 ?_|(refine Zp CB2 [0,35] (Zq M5.d hp) ?_;with_reducible intro _ _)|refine Zt (Zq M5.d hp) ?_|fail)
  ·refine Zw [0,5,6] [0,435] (Zq M5.d hp) ?_
   rw[er2 hp]
   simp only[j0,List.cons_append,List.nil_append,List.length_cons,List.length_nil,Nat.reduceAdd,show((bs'.length+1:Nat):Int)=bs'.length+1 from rfl]
  ·rw[hR3 (by omega)]
   refine Zr (()) [0,35] (Zq M5.d hp) ?_
   trivial
 ·repeat' (first|refine Zl ?_|(with_reducible constructor<;>first|intro N hN mk hmk|intro N hN|intro h)|(refine Zp CI [0,1] (Zq M5.d hp) ?_;with_reducible intro _ _)|refine Ze CN1 ?_|(refine Zp CB1 [0,35] (Zq M5.d hp) ?_;with_reducible intro _ _)|refine Zt (Zq M5.d hp) ?_|fail)
  ·refine Zw [0,5,6] [0,187] (Zq M5.d hp) ?_
   rw[er1 hp]
   simp only[j0,List.cons_append,List.nil_append,List.length_cons,List.length_nil,Nat.reduceAdd,show((bs'.length+1:Nat):Int)=bs'.length+1 from rfl]
  ·rw[hR3 (by omega)]
   refine Zr (()) [0,35] (Zq M5.d hp) ?_
   trivial
 ·repeat' (first|refine Zl ?_|(with_reducible constructor<;>first|intro N hN mk hmk|intro N hN|intro h)|(refine Zp CI [0,1] (Zq M5.d hp) ?_;with_reducible intro _ _)|refine Ze CN1 ?_|refine Ze CR ?_|refine Ze CN2 ?_|refine Ze CN3 ?_|(refine Zp CB2 [0,35,36] (Zq M5.d hp) ?_;with_reducible intro _ _)|refine Zt (Zq M5.d hp) ?_|fail)
  ·refine Zw [0,5,6] [0,435] (Zq M5.d hp) ?_
   rw[er2 hp]
   simp only[j0,List.cons_append,List.nil_append,List.length_cons,List.length_nil,Nat.reduceAdd,show((bs'.length+1:Nat):Int)=bs'.length+1 from rfl]
  ·rw[hR3 (by omega)]
   refine Zr (()) [0,35,36] (Zq M5.d hp) ?_
   trivial
 ·repeat' (first|refine Zl ?_|(with_reducible constructor<;>first|intro N hN mk hmk|intro N hN|intro h)|(refine Zp CI [0,1] (Zq M5.d hp) ?_;with_reducible intro _ _)|refine Ze CN1 ?_|(refine Zp CB1 [0,35,36] (Zq M5.d hp) ?_;with_reducible intro _ _)|refine Zt (Zq M5.d hp) ?_|fail)
  ·refine Zw [0,5,6] [0,187] (Zq M5.d hp) ?_
   rw[er1 hp]
   simp only[j0,List.cons_append,List.nil_append,List.length_cons,List.length_nil,Nat.reduceAdd,show((bs'.length+1:Nat):Int)=bs'.length+1 from rfl]
  ·rw[hR3 (by omega)]
   refine Zr (()) [0,35,36] (Zq M5.d hp) ?_
   trivial
def M6:=ZZ.mk (Zq aR.d (Zq @z7 (Zq @O0.eq_1 @b9)))
theorem b5k(L:List Int)(at_ g su re sl pa:Int)(ar:List cQ)(ll:List Loop)(bs:List b6)(t:o6)(n:Int)(hn:0≤n∧n≤2)(h:iI ⟨L,at_,g,su,re,sl,pa,ar,.own ll,bs,.nil,t⟩ 600000)(hb:bs.length+2≤900):y0 Tryz.prog 108 [.ptr 0 0 0,.v (.int .i64 n)] (MS.rows ⟨L,at_,g,su,re,sl,pa,ar,.own ll,bs,.nil,t⟩) 1 (fun _:Unit=>True) (fun _=> .O4 []) (fun _=>MS.N3 ⟨L,at_,g,su,re,sl,pa,ar,.own ll,(bs++[⟨[],t⟩]),.nil,Q5⟩ n):=by
 obtain⟨hL,h0,hb0,hi,ha,hal⟩:=h
 simp only at hL h0 ha hal
 clear hb0 hi
 have CB0:=D8 ⟨L,at_,g,su,re,sl,pa,ar,.own ll,bs,.nil,t⟩ (by show bs.length≤1000;omega)
 obtain⟨last,hlast⟩:∃last:Int,last=((bs.length+1:Nat):Int)+n:=⟨_,rfl⟩
 obtain⟨SI,hSI⟩:∃SI,SI=MS.fN last ⟨L,at_,g,su,re,sl,pa,ar,.own ll,(bs++[⟨[],t⟩]),.nil,Q5⟩:=⟨_,rfl⟩
 have hR:MS.N3 ⟨L,at_,g,su,re,sl,pa,ar,.own ll,(bs++[⟨[],t⟩]),.nil,Q5⟩ n=(SI n.toNat).e7.rows:=by rw[hSI,hlast];unfold MS.N3 MS.fO;simp only[List.length_append,List.length_cons,List.length_nil,Nat.zero_add,Nat.reduceAdd]
 obtain⟨R,hR2⟩:∃R:List Row,R=MS.N3 ⟨L,at_,g,su,re,sl,pa,ar,.own ll,(bs++[⟨[],t⟩]),.nil,Q5⟩ n:=⟨_,rfl⟩
 rw[←hR2]
 rw[hR]at hR2
 clear hR
 simp only[MS.rows,MS.block,X3,b9,j7.cell,j7.rows,j7.l,j7.k,r7.cell,r7.rows,r7.l,List.cons_append,List.nil_append,List.append_nil]at CB0
 simp only[MS.rows,X3,j7.cell,j7.rows,j7.l,j7.k,r7.cell,r7.rows,r7.l,List.cons_append,List.nil_append,List.append_nil];refine Zf Tryz.func108 Tryz.ntmps108 ?_
 repeat' (first|refine Zl ?_|(with_reducible constructor<;>first|intro N hN mk hmk|intro N hN|intro h)|(refine Zp CB0 [0,1,2] aR.d ?_;with_reducible intro _ _)|refine Zt aR.d ?_|fail)
 refine c8 (fun i=>⟨[.ptr 0 0 0,.Z,.Z,.Z,.Z,.v (.int .i64 (((bs.length+1:Nat):Int)+n)),.v (.int .i64 (SI i).bs.length),.Z,.Z,.Z,.Z,.Z,.Z,.Z,.Z,.Z,.Z,.Z,.Z,.Z,.Z,.Z,.Z,.Z,.Z,.Z,.Z,.Z,.Z,.Z,.Z,.Z,.Z,.Z,.Z,.Z,.Z,.Z,.Z,.Z,.Z,.Z,.Z,.Z,.Z,.Z,.Z,.Z,.Z,.Z,.Z,.Z,.Z,.Z,.Z,.Z,.Z,.Z,.Z,.Z,.Z,.Z,.Z,.Z,.Z,.Z,.Z,.Z,.Z,.Z,.Z,.Z,.Z,.Z,.Z,.Z,.Z],U2 (SI i).rows,((SI i).rows.length+1)⟩) n.toNat (Zw [0,5,6] [0,16,17] aR.d ?_) ?_
 ·rw[hSI];simp only[MS.fN,MS.rows,U2,j0,E4,iN,b9,j7.cell,j7.rows,j7.l,j7.k,r7.cell,r7.rows,r7.l,List.cons_append,List.nil_append,List.append_nil,List.length_cons,List.length_nil,Nat.reduceAdd,Int.natCast_zero,Int.add_zero]
 intro i hi2
 clear CB0
 obtain⟨a,bs',e,e1,e2,e3⟩:=Q8 last ⟨L,at_,g,su,re,sl,pa,ar,.own ll,(bs++[⟨[],t⟩]),.nil,Q5⟩ hL h0.1 rfl rfl i
 have e0:=e
 rw[←hSI]at e0
 have ej:SI (i+1)=(SI i).iD last:=by rw[hSI];rfl
 have e1:at_≤a:=e1
 have e2:a≤at_+37*i:=e2
 simp only[List.length_append,List.length_cons,List.length_nil]at e3
 obtain⟨a1,ii,f,f1,f2,f3⟩:=I1 ⟨L,a,g,su,re,sl,pa,ar,.own ll,bs',.nil,Q5⟩ hL (by show 0≤a;omega)
 have f1:a+1≤a1:=f1
 have f2:a1≤a+33:=f2
 have f3:ii.l.length≤0+8:=f3
 have CI:=bD ⟨L,a,g,su,re,sl,pa,ar,.own ll,bs',.nil,Q5⟩ ⟨hL,by show 0≤a∧a≤_;omega,by show bs'.length≤_;omega,by show((0:Nat):Int)≤_;omega,ha,hal⟩
 rw[f]at CI
 simp only at CI f
 have CN1:=p0 L a1 (by omega) hL
 have CR:=Y0 L (a1+1) (by omega) hL
 have CN2:=p0 L (a1+1+1) (by omega) hL
 have CN3:=p0 L (a1+1+1+1) (by omega) hL
 have hx1:=j4 hL (show 0≤a1 by omega)
 have hx2:=j4 hL (show 0≤a1+1+1 by omega)
 have hx3:=j4 hL (show 0≤a1+1+1+1 by omega)
 have CB1:=D8 ⟨L,a1+1,g,su,re,sl,pa,ar,.own ll,bs',ii,O9 (bs'.length+1)⟩ (by show bs'.length≤_;omega)
 have CB2:=D8 ⟨L,a1+1+1+1+1,g,su,re,sl,pa,ar,.own ll,bs',ii,D6 (E8 L (a1+1)) (bs'.length+1+a7 L (a1+1+1)%(last-bs'.length)) (bs'.length+1+a7 L (a1+1+1+1)%(last-bs'.length))⟩ (by show bs'.length≤_;omega)
 have er1:¬a7 L a1%2=0→(SI (i+1)).rows=(MS.block ⟨L,a1+1,g,su,re,sl,pa,ar,.own ll,bs',ii,O9 (bs'.length+1)⟩).rows:=fun hp=>by rw[ej,e0];unfold MS.iD;simp only;rw[f];simp only;rw[if_neg hp]
 have er2:a7 L a1%2=0→(SI (i+1)).rows=(MS.block ⟨L,a1+1+1+1+1,g,su,re,sl,pa,ar,.own ll,bs',ii,D6 (E8 L (a1+1)) (bs'.length+1+a7 L (a1+1+1)%(last-bs'.length)) (bs'.length+1+a7 L (a1+1+1+1)%(last-bs'.length))⟩).rows:=fun hp=>by rw[ej,e0];unfold MS.iD;simp only;rw[f];simp only;rw[if_pos hp]
 have hR3:i=n.toNat→R=(MS.rows ⟨L,a1,g,su,re,sl,pa,ar,.own ll,bs',ii,Q5⟩):=fun hp=>by rw[hR2,←hp,e0,f]
 have elen:(SI (i+1)).bs.length=bs'.length+1:=by
  rw[hSI]
  obtain⟨_,_,e',_,_,e4⟩:=Q8 last ⟨L,at_,g,su,re,sl,pa,ar,.own ll,(bs++[⟨[],t⟩]),.nil,Q5⟩ hL h0.1 rfl rfl (i+1)
  rw[e']
  simp only[List.length_append,List.length_cons,List.length_nil]at e4⊢
  omega
 obtain⟨R1,hR1⟩:∃R1,R1=(SI (i+1)).rows:=⟨_,rfl⟩
 rw[←hR1]at er1 er2⊢
 rw[elen,e0]
 clear f ej e e0 hSI hR2 elen hR1
 subst hlast
 generalize a7 L a1=x1 at*
 generalize a7 L (a1+1+1)=x2 at*
 generalize a7 L (a1+1+1+1)=x3 at*
 generalize E8 L (a1+1)=d at*
 obtain⟨dk,dn,dv⟩:=d
 cases ii
 all_goals simp only[MS.rows,MS.block,U2,j0,E4,E3.av,O9,D6,O0,b9,j7.cell,j7.rows,j7.l,j7.k,r7.cell,r7.rows,r7.l,List.cons_append,List.nil_append,List.append_nil,List.length_cons,List.length_nil,Nat.reduceAdd]at CI CR CB1 CB2 er1 er2 hR3⊢
 all_goals simp only[o6.av]at CB1 CB2
 all_goals have hq2:=dG x2 (((bs.length+1:Nat):Int)+n-bs'.length) hx2.1
 all_goals have hq3:=dG x3 (((bs.length+1:Nat):Int)+n-bs'.length) hx3.1
 all_goals by_cases hp:x1%2=0
 ·repeat' (first|refine Zl ?_|(with_reducible constructor<;>first|intro N hN mk hmk|intro N hN|intro h)|(refine Zp CI [0,1,2] (Zq M6.d hp) ?_;with_reducible intro _ _)|refine Ze CN1 ?_|refine Ze CR ?_|refine Ze CN2 ?_|refine Ze CN3 ?_|(refine Zp CB2 [0,36,37] (Zq M6.d hp) ?_;with_reducible intro _ _)|refine Zt (Zq M6.d hp) ?_|fail)
  ·refine Zw [0,5,6] [0,436,437] (Zq M6.d hp) ?_
   rw[er2 hp]
   simp only[j0,List.cons_append,List.nil_append,List.length_cons,List.length_nil,Nat.reduceAdd,show((bs'.length+1:Nat):Int)=bs'.length+1 from rfl]
  ·rw[hR3 (by omega)]
   refine Zr (()) [0,36,37] (Zq M6.d hp) ?_
   trivial
 ·repeat' (first|refine Zl ?_|(with_reducible constructor<;>first|intro N hN mk hmk|intro N hN|intro h)|(refine Zp CI [0,1,2] (Zq M6.d hp) ?_;with_reducible intro _ _)|refine Ze CN1 ?_|(refine Zp CB1 [0,36,37] (Zq M6.d hp) ?_;with_reducible intro _ _)|refine Zt (Zq M6.d hp) ?_|fail)
  ·refine Zw [0,5,6] [0,188,189] (Zq M6.d hp) ?_
   rw[er1 hp]
   simp only[j0,List.cons_append,List.nil_append,List.length_cons,List.length_nil,Nat.reduceAdd,show((bs'.length+1:Nat):Int)=bs'.length+1 from rfl]
  ·rw[hR3 (by omega)]
   refine Zr (()) [0,36,37] (Zq M6.d hp) ?_
   trivial
 ·repeat' (first|refine Zl ?_|(with_reducible constructor<;>first|intro N hN mk hmk|intro N hN|intro h)|(refine Zp CI [0,1,2] (Zq M6.d hp) ?_;with_reducible intro _ _)|refine Ze CN1 ?_|refine Ze CR ?_|refine Ze CN2 ?_|refine Ze CN3 ?_|(refine Zp CB2 [0,36,37,38] (Zq M6.d hp) ?_;with_reducible intro _ _)|refine Zt (Zq M6.d hp) ?_|fail)
  ·refine Zw [0,5,6] [0,436,437] (Zq M6.d hp) ?_
   rw[er2 hp]
   simp only[j0,List.cons_append,List.nil_append,List.length_cons,List.length_nil,Nat.reduceAdd,show((bs'.length+1:Nat):Int)=bs'.length+1 from rfl]
  ·rw[hR3 (by omega)]
   refine Zr (()) [0,36,37,38] (Zq M6.d hp) ?_
   trivial
 ·repeat' (first|refine Zl ?_|(with_reducible constructor<;>first|intro N hN mk hmk|intro N hN|intro h)|(refine Zp CI [0,1,2] (Zq M6.d hp) ?_;with_reducible intro _ _)|refine Ze CN1 ?_|(refine Zp CB1 [0,36,37,38] (Zq M6.d hp) ?_;with_reducible intro _ _)|refine Zt (Zq M6.d hp) ?_|fail)
  ·refine Zw [0,5,6] [0,188,189] (Zq M6.d hp) ?_
   rw[er1 hp]
   simp only[j0,List.cons_append,List.nil_append,List.length_cons,List.length_nil,Nat.reduceAdd,show((bs'.length+1:Nat):Int)=bs'.length+1 from rfl]
  ·rw[hR3 (by omega)]
   refine Zr (()) [0,36,37,38] (Zq M6.d hp) ?_
   trivial
def M7:=ZZ.mk (Zq aR.d (Zq @z7 (Zq @O0.eq_1 @b9)))
theorem b5l(L:List Int)(at_ g su re sl pa:Int)(ar:List cQ)(ll:List Loop)(li:List e8)(bs:List b6)(t:o6)(n:Int)(hn:0≤n∧n≤2)(h:iI ⟨L,at_,g,su,re,sl,pa,ar,.own ll,bs,.own li,t⟩ 600000)(hb:bs.length+2≤900):y0 Tryz.prog 108 [.ptr 0 0 0,.v (.int .i64 n)] (MS.rows ⟨L,at_,g,su,re,sl,pa,ar,.own ll,bs,.own li,t⟩) 1 (fun _:Unit=>True) (fun _=> .O4 []) (fun _=>MS.N3 ⟨L,at_,g,su,re,sl,pa,ar,.own ll,(bs++[⟨li,t⟩]),.nil,Q5⟩ n):=by
 obtain⟨hL,h0,hb0,hi,ha,hal⟩:=h
 simp only at hL h0 ha hal
 clear hb0 hi
 have CB0:=D8 ⟨L,at_,g,su,re,sl,pa,ar,.own ll,bs,.own li,t⟩ (by show bs.length≤1000;omega)
 obtain⟨last,hlast⟩:∃last:Int,last=((bs.length+1:Nat):Int)+n:=⟨_,rfl⟩
 obtain⟨SI,hSI⟩:∃SI,SI=MS.fN last ⟨L,at_,g,su,re,sl,pa,ar,.own ll,(bs++[⟨li,t⟩]),.nil,Q5⟩:=⟨_,rfl⟩
 have hR:MS.N3 ⟨L,at_,g,su,re,sl,pa,ar,.own ll,(bs++[⟨li,t⟩]),.nil,Q5⟩ n=(SI n.toNat).e7.rows:=by rw[hSI,hlast];unfold MS.N3 MS.fO;simp only[List.length_append,List.length_cons,List.length_nil,Nat.zero_add,Nat.reduceAdd]
 obtain⟨R,hR2⟩:∃R:List Row,R=MS.N3 ⟨L,at_,g,su,re,sl,pa,ar,.own ll,(bs++[⟨li,t⟩]),.nil,Q5⟩ n:=⟨_,rfl⟩
 rw[←hR2]
 rw[hR]at hR2
 clear hR
 simp only[MS.rows,MS.block,X3,b9,j7.cell,j7.rows,j7.l,j7.k,r7.cell,r7.rows,r7.l,List.cons_append,List.nil_append,List.append_nil]at CB0
 simp only[MS.rows,X3,j7.cell,j7.rows,j7.l,j7.k,r7.cell,r7.rows,r7.l,List.cons_append,List.nil_append,List.append_nil];refine Zf Tryz.func108 Tryz.ntmps108 ?_
 repeat' (first|refine Zl ?_|(with_reducible constructor<;>first|intro N hN mk hmk|intro N hN|intro h)|(refine Zp CB0 [0,1,2,3] aR.d ?_;with_reducible intro _ _)|refine Zt aR.d ?_|fail)
 refine c8 (fun i=>⟨[.ptr 0 0 0,.Z,.Z,.Z,.Z,.v (.int .i64 (((bs.length+1:Nat):Int)+n)),.v (.int .i64 (SI i).bs.length),.Z,.Z,.Z,.Z,.Z,.Z,.Z,.Z,.Z,.Z,.Z,.Z,.Z,.Z,.Z,.Z,.Z,.Z,.Z,.Z,.Z,.Z,.Z,.Z,.Z,.Z,.Z,.Z,.Z,.Z,.Z,.Z,.Z,.Z,.Z,.Z,.Z,.Z,.Z,.Z,.Z,.Z,.Z,.Z,.Z,.Z,.Z,.Z,.Z,.Z,.Z,.Z,.Z,.Z,.Z,.Z,.Z,.Z,.Z,.Z,.Z,.Z,.Z,.Z,.Z,.Z,.Z,.Z,.Z,.Z],U2 (SI i).rows,((SI i).rows.length+1)⟩) n.toNat (Zw [0,5,6] [0,16,17] aR.d ?_) ?_
 ·rw[hSI];simp only[MS.fN,MS.rows,U2,j0,E4,iN,b9,j7.cell,j7.rows,j7.l,j7.k,r7.cell,r7.rows,r7.l,List.cons_append,List.nil_append,List.append_nil,List.length_cons,List.length_nil,Nat.reduceAdd,Int.natCast_zero,Int.add_zero]
 intro i hi2
 clear CB0
 obtain⟨a,bs',e,e1,e2,e3⟩:=Q8 last ⟨L,at_,g,su,re,sl,pa,ar,.own ll,(bs++[⟨li,t⟩]),.nil,Q5⟩ hL h0.1 rfl rfl i
 have e0:=e
 rw[←hSI]at e0
 have ej:SI (i+1)=(SI i).iD last:=by rw[hSI];rfl
 have e1:at_≤a:=e1
 have e2:a≤at_+37*i:=e2
 simp only[List.length_append,List.length_cons,List.length_nil]at e3
 obtain⟨a1,ii,f,f1,f2,f3⟩:=I1 ⟨L,a,g,su,re,sl,pa,ar,.own ll,bs',.nil,Q5⟩ hL (by show 0≤a;omega)
 have f1:a+1≤a1:=f1
 have f2:a1≤a+33:=f2
 have f3:ii.l.length≤0+8:=f3
 have CI:=bD ⟨L,a,g,su,re,sl,pa,ar,.own ll,bs',.nil,Q5⟩ ⟨hL,by show 0≤a∧a≤_;omega,by show bs'.length≤_;omega,by show((0:Nat):Int)≤_;omega,ha,hal⟩
 rw[f]at CI
 simp only at CI f
 have CN1:=p0 L a1 (by omega) hL
 have CR:=Y0 L (a1+1) (by omega) hL
 have CN2:=p0 L (a1+1+1) (by omega) hL
 have CN3:=p0 L (a1+1+1+1) (by omega) hL
 have hx1:=j4 hL (show 0≤a1 by omega)
 have hx2:=j4 hL (show 0≤a1+1+1 by omega)
 have hx3:=j4 hL (show 0≤a1+1+1+1 by omega)
 have CB1:=D8 ⟨L,a1+1,g,su,re,sl,pa,ar,.own ll,bs',ii,O9 (bs'.length+1)⟩ (by show bs'.length≤_;omega)
 have CB2:=D8 ⟨L,a1+1+1+1+1,g,su,re,sl,pa,ar,.own ll,bs',ii,D6 (E8 L (a1+1)) (bs'.length+1+a7 L (a1+1+1)%(last-bs'.length)) (bs'.length+1+a7 L (a1+1+1+1)%(last-bs'.length))⟩ (by show bs'.length≤_;omega)
 have er1:¬a7 L a1%2=0→(SI (i+1)).rows=(MS.block ⟨L,a1+1,g,su,re,sl,pa,ar,.own ll,bs',ii,O9 (bs'.length+1)⟩).rows:=fun hp=>by rw[ej,e0];unfold MS.iD;simp only;rw[f];simp only;rw[if_neg hp]
 have er2:a7 L a1%2=0→(SI (i+1)).rows=(MS.block ⟨L,a1+1+1+1+1,g,su,re,sl,pa,ar,.own ll,bs',ii,D6 (E8 L (a1+1)) (bs'.length+1+a7 L (a1+1+1)%(last-bs'.length)) (bs'.length+1+a7 L (a1+1+1+1)%(last-bs'.length))⟩).rows:=fun hp=>by rw[ej,e0];unfold MS.iD;simp only;rw[f];simp only;rw[if_pos hp]
 have hR3:i=n.toNat→R=(MS.rows ⟨L,a1,g,su,re,sl,pa,ar,.own ll,bs',ii,Q5⟩):=fun hp=>by rw[hR2,←hp,e0,f]
 have elen:(SI (i+1)).bs.length=bs'.length+1:=by
  rw[hSI]
  obtain⟨_,_,e',_,_,e4⟩:=Q8 last ⟨L,at_,g,su,re,sl,pa,ar,.own ll,(bs++[⟨li,t⟩]),.nil,Q5⟩ hL h0.1 rfl rfl (i+1)
  rw[e']
  simp only[List.length_append,List.length_cons,List.length_nil]at e4⊢
  omega
 obtain⟨R1,hR1⟩:∃R1,R1=(SI (i+1)).rows:=⟨_,rfl⟩
 rw[←hR1]at er1 er2⊢
 rw[elen,e0]
 clear f ej e e0 hSI hR2 elen hR1
 subst hlast
 generalize a7 L a1=x1 at*
 generalize a7 L (a1+1+1)=x2 at*
 generalize a7 L (a1+1+1+1)=x3 at*
 generalize E8 L (a1+1)=d at*
 obtain⟨dk,dn,dv⟩:=d
 cases ii
 all_goals simp only[MS.rows,MS.block,U2,j0,E4,E3.av,O9,D6,O0,b9,j7.cell,j7.rows,j7.l,j7.k,r7.cell,r7.rows,r7.l,List.cons_append,List.nil_append,List.append_nil,List.length_cons,List.length_nil,Nat.reduceAdd]at CI CR CB1 CB2 er1 er2 hR3⊢
 all_goals simp only[o6.av]at CB1 CB2
 all_goals have hq2:=dG x2 (((bs.length+1:Nat):Int)+n-bs'.length) hx2.1
 all_goals have hq3:=dG x3 (((bs.length+1:Nat):Int)+n-bs'.length) hx3.1
 all_goals by_cases hp:x1%2=0
 ·repeat' (first|refine Zl ?_|(with_reducible constructor<;>first|intro N hN mk hmk|intro N hN|intro h)|(refine Zp CI [0,1,2] (Zq M7.d hp) ?_;with_reducible intro _ _)|refine Ze CN1 ?_|refine Ze CR ?_|refine Ze CN2 ?_|refine Ze CN3 ?_|(refine Zp CB2 [0,36,37] (Zq M7.d hp) ?_;with_reducible intro _ _)|refine Zt (Zq M7.d hp) ?_|fail)
  ·refine Zw [0,5,6] [0,436,437] (Zq M7.d hp) ?_
   rw[er2 hp]
   simp only[j0,List.cons_append,List.nil_append,List.length_cons,List.length_nil,Nat.reduceAdd,show((bs'.length+1:Nat):Int)=bs'.length+1 from rfl]
  ·rw[hR3 (by omega)]
   refine Zr (()) [0,36,37] (Zq M7.d hp) ?_
   trivial
 ·repeat' (first|refine Zl ?_|(with_reducible constructor<;>first|intro N hN mk hmk|intro N hN|intro h)|(refine Zp CI [0,1,2] (Zq M7.d hp) ?_;with_reducible intro _ _)|refine Ze CN1 ?_|(refine Zp CB1 [0,36,37] (Zq M7.d hp) ?_;with_reducible intro _ _)|refine Zt (Zq M7.d hp) ?_|fail)
  ·refine Zw [0,5,6] [0,188,189] (Zq M7.d hp) ?_
   rw[er1 hp]
   simp only[j0,List.cons_append,List.nil_append,List.length_cons,List.length_nil,Nat.reduceAdd,show((bs'.length+1:Nat):Int)=bs'.length+1 from rfl]
  ·rw[hR3 (by omega)]
   refine Zr (()) [0,36,37] (Zq M7.d hp) ?_
   trivial
 ·repeat' (first|refine Zl ?_|(with_reducible constructor<;>first|intro N hN mk hmk|intro N hN|intro h)|(refine Zp CI [0,1,2] (Zq M7.d hp) ?_;with_reducible intro _ _)|refine Ze CN1 ?_|refine Ze CR ?_|refine Ze CN2 ?_|refine Ze CN3 ?_|(refine Zp CB2 [0,36,37,38] (Zq M7.d hp) ?_;with_reducible intro _ _)|refine Zt (Zq M7.d hp) ?_|fail)
  ·refine Zw [0,5,6] [0,436,437] (Zq M7.d hp) ?_
   rw[er2 hp]
   simp only[j0,List.cons_append,List.nil_append,List.length_cons,List.length_nil,Nat.reduceAdd,show((bs'.length+1:Nat):Int)=bs'.length+1 from rfl]
  ·rw[hR3 (by omega)]
   refine Zr (()) [0,36,37,38] (Zq M7.d hp) ?_
   trivial
 ·repeat' (first|refine Zl ?_|(with_reducible constructor<;>first|intro N hN mk hmk|intro N hN|intro h)|(refine Zp CI [0,1,2] (Zq M7.d hp) ?_;with_reducible intro _ _)|refine Ze CN1 ?_|(refine Zp CB1 [0,36,37,38] (Zq M7.d hp) ?_;with_reducible intro _ _)|refine Zt (Zq M7.d hp) ?_|fail)
  ·refine Zw [0,5,6] [0,188,189] (Zq M7.d hp) ?_
   rw[er1 hp]
   simp only[j0,List.cons_append,List.nil_append,List.length_cons,List.length_nil,Nat.reduceAdd,show((bs'.length+1:Nat):Int)=bs'.length+1 from rfl]
  ·rw[hR3 (by omega)]
   refine Zr (()) [0,36,37,38] (Zq M7.d hp) ?_
   trivial
theorem a4r(S:MS)(n:Int)(hn:0≤n∧n≤2)(h:iI S 600000)(hb:S.bs.length≤800):y0 Tryz.prog 108 [.ptr 0 0 0,.v (.int .i64 n)] S.rows 1 (fun _:Unit=>True) (fun _=> .O4 []) (fun _=>(S.region n).rows):=by
 obtain⟨L,at_,g,su,re,sl,pa,ar,lo,bs,ii,t⟩:=S
 have hb2:bs.length+2≤900:=by have:bs.length≤800:=hb;omega
 clear hb
 cases lo with
 |nil=>cases ii with
  |nil=>exact b5i L at_ g su re sl pa ar bs t n hn h hb2
  |own li=>exact b5j L at_ g su re sl pa ar li bs t n hn h hb2
 |own ll=>cases ii with
  |nil=>exact b5k L at_ g su re sl pa ar ll bs t n hn h hb2
  |own li=>exact b5l L at_ g su re sl pa ar ll li bs t n hn h hb2
theorem a0f(L:List Int)(at_ g su re sl pa:Int)(ar:List cQ)(n:Int)(hn:0≤n∧n≤2)(h:iI ⟨L,at_,g,su,re,sl,pa,ar,.nil,[],.nil,Q5⟩ 600000):y0 Tryz.prog 108 [.ptr 0 0 0,.v (.int .i64 n)] (X3 L at_ g su re sl pa ar) 1 (fun _:Unit=>True) (fun _=> .O4 []) (fun _=>(MS.fO ⟨L,at_,g,su,re,sl,pa,ar,.nil,[],.nil,Q5⟩ n).rows):=
 b8Q L at_ g su re sl pa ar n hn h (by omega)
end Go.Proofs.YtgdoiokalfhjoaaGreatDoor
end
