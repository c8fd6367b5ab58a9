/- Own work (by an AI agent; no person has read it): part of a proof of the seat YtgdoiokalfhjoaaDoor. -/
import Derived.Test.YtgdoiokalfhjoaaDoorXbb
import Derived.Test.YtgdoiokalfhjoaaDoorXbc
set_option linter.unusedSimpArgs false
set_option linter.unusedVariables false
set_option maxRecDepth 100000
set_option maxHeartbeats 10000000
section
namespace Go.Proofs.YtgdoiokalfhjoaaDoor
open Go.Ab
def qZ:=ZZ.mk (Zq @E3 (Zq @I1 (Zq @Z1 (Zq @I1 (Zq @x8 (Zq @y7 (Zq @n3 (Zq @p0 (Zq @w8 (Zq @m7 (Zq @l8 (Zq @n9 (Zq @y8 (Zq @s6 (Zq @r8 (Zq @z8 (Zq @q9 (Zq @A2 (Zq @A1 (Zq @z7 (Zq @z6 (Zq @s5 (Zq @j0 (Zq @j3 (Zq @A6 (Zq @J8 (Zq @y4 (Zq @y0 @x6))))))))))))))))))))))))))))
def O2:=ZZ.mk (Zq qZ.d (Zq @B1 (Zq @O0.eq_1 @c7)))
theorem a9c(L:List Int)(at_ g su re sl pa:Int)(ar:List dG)(ll:List Loop)(li:List l0)(bs:List e8)(t:w4)(n:Int)(hn:0≤n∧n≤2)(h:fL ⟨L,at_,g,su,re,sl,pa,ar,.own ll,bs,.own li,t⟩ 600000)(hb:bs.length+2≤900):y9 Tryd.prog 15 [.ptr 0 0 0,.v (.int .i64 n)] (MS.rows ⟨L,at_,g,su,re,sl,pa,ar,.own ll,bs,.own li,t⟩) 1 (fun _:Unit=>True) (fun _=> .Q0 []) (fun _=>MS.O6 ⟨L,at_,g,su,re,sl,pa,ar,.own ll,(bs++[⟨li,t⟩]),.nil,T0⟩ n):=by
 obtain⟨hL,h0,hb0,hi,ha,hal⟩:=h
 simp only at hL h0 ha hal
 clear hb0 hi
 have CB0:=E9 ⟨L,at_,g,su,re,sl,pa,ar,.own ll,bs,.own li,t⟩ (by show bs.length≤1000;omega)
 obtain⟨last,hlast⟩:∃last:Int,last=((bs.length+1:Nat):Int)+n:=⟨_,rfl⟩
 obtain⟨SI,hSI⟩:∃SI,SI=MS.eL last ⟨L,at_,g,su,re,sl,pa,ar,.own ll,(bs++[⟨li,t⟩]),.nil,T0⟩:=⟨_,rfl⟩
 have hR:MS.O6 ⟨L,at_,g,su,re,sl,pa,ar,.own ll,(bs++[⟨li,t⟩]),.nil,T0⟩ n=(SI n.toNat).j5.rows:=by rw[hSI,hlast];unfold MS.O6 MS.eM;simp only[List.length_append,List.length_cons,List.length_nil,Nat.zero_add,Nat.reduceAdd]
 obtain⟨R,hR2⟩:∃R:List Row,R=MS.O6 ⟨L,at_,g,su,re,sl,pa,ar,.own ll,(bs++[⟨li,t⟩]),.nil,T0⟩ n:=⟨_,rfl⟩
 rw[←hR2]
 rw[hR]at hR2
 clear hR
 simp only[MS.rows,MS.block,X8,c7,j8.cell,j8.rows,j8.l,j8.k,r6.cell,r6.rows,r6.l,List.cons_append,List.nil_append,List.append_nil]at CB0
 simp only[MS.rows,X8,j8.cell,j8.rows,j8.l,j8.k,r6.cell,r6.rows,r6.l,List.cons_append,List.nil_append,List.append_nil];refine Zf Tryd.func15 Tryd.ntmps15 ?_
 repeat' (first|refine Zl ?_|(with_reducible constructor<;>first|intro N hN mk hmk|intro N hN|intro h)|(refine Zp CB0 [0,1,2,3] qZ.d ?_;with_reducible intro _ _)|refine Zt qZ.d ?_|fail)
 refine v7 (fun i=>⟨[.ptr 0 0 0,.Z,.Z,.Z,.Z,.v (.int .i64 (((bs.length+1:Nat):Int)+n)),.v (.int .i64 (SI i).bs.length),.Z,.Z,.Z,.Z,.Z,.Z,.Z,.Z,.Z,.Z,.Z,.Z,.Z,.Z,.Z,.Z,.Z,.Z,.Z,.Z,.Z,.Z,.Z,.Z,.Z,.Z,.Z,.Z,.Z,.Z,.Z,.Z,.Z,.Z,.Z,.Z,.Z,.Z,.Z,.Z,.Z,.Z,.Z,.Z,.Z,.Z,.Z,.Z,.Z,.Z,.Z,.Z,.Z,.Z,.Z,.Z,.Z,.Z,.Z,.Z,.Z,.Z,.Z,.Z,.Z,.Z,.Z,.Z,.Z,.Z],U9 (SI i).rows,((SI i).rows.length+1)⟩) n.toNat (Zw [0,5,6] [0,16,17] qZ.d ?_) ?_
 ·rw[hSI];simp only[MS.eL,MS.rows,U9,j7,E3,Z1,c7,j8.cell,j8.rows,j8.l,j8.k,r6.cell,r6.rows,r6.l,List.cons_append,List.nil_append,List.append_nil,List.length_cons,List.length_nil,Nat.reduceAdd,Int.natCast_zero,Int.add_zero]
 intro i hi2
 clear CB0
 obtain⟨a,bs',e,e1,e2,e3⟩:=T7 last ⟨L,at_,g,su,re,sl,pa,ar,.own ll,(bs++[⟨li,t⟩]),.nil,T0⟩ hL h0.1 rfl rfl i
 have e0:=e
 rw[←hSI]at e0
 have ej:SI (i+1)=(SI i).fI last:=by rw[hSI];rfl
 have e1:at_≤a:=e1
 have e2:a≤at_+37*i:=e2
 simp only[List.length_append,List.length_cons,List.length_nil]at e3
 obtain⟨a1,ii,f,f1,f2,f3⟩:=J9 ⟨L,a,g,su,re,sl,pa,ar,.own ll,bs',.nil,T0⟩ hL (by show 0≤a;omega)
 have f1:a+1≤a1:=f1
 have f2:a1≤a+33:=f2
 have f3:ii.l.length≤0+8:=f3
 have CI:=aU ⟨L,a,g,su,re,sl,pa,ar,.own ll,bs',.nil,T0⟩ ⟨hL,by show 0≤a∧a≤_;omega,by show bs'.length≤_;omega,by show((0:Nat):Int)≤_;omega,ha,hal⟩
 rw[f]at CI
 simp only at CI f
 have CN1:=o9 L a1 (by omega) hL
 have CR:=Y4 L (a1+1) (by omega) hL
 have CN2:=o9 L (a1+1+1) (by omega) hL
 have CN3:=o9 L (a1+1+1+1) (by omega) hL
 have hx1:=j6 hL (show 0≤a1 by omega)
 have hx2:=j6 hL (show 0≤a1+1+1 by omega)
 have hx3:=j6 hL (show 0≤a1+1+1+1 by omega)
 have CB1:=E9 ⟨L,a1+1,g,su,re,sl,pa,ar,.own ll,bs',ii,Q8 (bs'.length+1)⟩ (by show bs'.length≤_;omega)
 have CB2:=E9 ⟨L,a1+1+1+1+1,g,su,re,sl,pa,ar,.own ll,bs',ii,E5 (G9 L (a1+1)) (bs'.length+1+a8 L (a1+1+1)%(last-bs'.length)) (bs'.length+1+a8 L (a1+1+1+1)%(last-bs'.length))⟩ (by show bs'.length≤_;omega)
 have er1:¬a8 L a1%2=0→(SI (i+1)).rows=(MS.block ⟨L,a1+1,g,su,re,sl,pa,ar,.own ll,bs',ii,Q8 (bs'.length+1)⟩).rows:=fun hp=>by rw[ej,e0];unfold MS.fI;simp only;rw[f];simp only;rw[if_neg hp]
 have er2:a8 L a1%2=0→(SI (i+1)).rows=(MS.block ⟨L,a1+1+1+1+1,g,su,re,sl,pa,ar,.own ll,bs',ii,E5 (G9 L (a1+1)) (bs'.length+1+a8 L (a1+1+1)%(last-bs'.length)) (bs'.length+1+a8 L (a1+1+1+1)%(last-bs'.length))⟩).rows:=fun hp=>by rw[ej,e0];unfold MS.fI;simp only;rw[f];simp only;rw[if_pos hp]
 have hR3:i=n.toNat→R=(MS.rows ⟨L,a1,g,su,re,sl,pa,ar,.own ll,bs',ii,T0⟩):=fun hp=>by rw[hR2,←hp,e0,f]
 have elen:(SI (i+1)).bs.length=bs'.length+1:=by
  rw[hSI]
  obtain⟨_,_,e',_,_,e4⟩:=T7 last ⟨L,at_,g,su,re,sl,pa,ar,.own ll,(bs++[⟨li,t⟩]),.nil,T0⟩ hL h0.1 rfl rfl (i+1)
  rw[e']
  simp only[List.length_append,List.length_cons,List.length_nil]at e4⊢
  omega
 obtain⟨R1,hR1⟩:∃R1,R1=(SI (i+1)).rows:=⟨_,rfl⟩
 rw[←hR1]at er1 er2⊢
 rw[elen,e0]
 clear f ej e e0 hSI hR2 elen hR1
 subst hlast
 generalize a8 L a1=x1 at*
 generalize a8 L (a1+1+1)=x2 at*
 generalize a8 L (a1+1+1+1)=x3 at*
 generalize G9 L (a1+1)=d at*
 obtain⟨dk,dn,dv⟩:=d
 cases ii
 all_goals simp only[MS.rows,MS.block,U9,j7,E3,H8.av,Q8,E5,O0,c7,j8.cell,j8.rows,j8.l,j8.k,r6.cell,r6.rows,r6.l,List.cons_append,List.nil_append,List.append_nil,List.length_cons,List.length_nil,Nat.reduceAdd]at CI CR CB1 CB2 er1 er2 hR3⊢
 all_goals simp only[w4.av]at CB1 CB2
 all_goals have hq2:=cT x2 (((bs.length+1:Nat):Int)+n-bs'.length) hx2.1
 all_goals have hq3:=cT x3 (((bs.length+1:Nat):Int)+n-bs'.length) hx3.1
 all_goals by_cases hp:x1%2=0
 ·repeat' (first|refine Zl ?_|(with_reducible constructor<;>first|intro N hN mk hmk|intro N hN|intro h)|(refine Zp CI [0,1,2] (Zq O2.d hp) ?_;with_reducible intro _ _)|refine Ze CN1 ?_|refine Ze CR ?_|refine Ze CN2 ?_|refine Ze CN3 ?_|(refine Zp CB2 [0,36,37] (Zq O2.d hp) ?_;with_reducible intro _ _)|refine Zt (Zq O2.d hp) ?_|fail)
  ·refine Zw [0,5,6] [0,436,437] (Zq O2.d hp) ?_
   rw[er2 hp]
   simp only[j7,List.cons_append,List.nil_append,List.length_cons,List.length_nil,Nat.reduceAdd,show((bs'.length+1:Nat):Int)=bs'.length+1 from rfl]
  ·rw[hR3 (by omega)]
   refine Zr (()) [0,36,37] (Zq O2.d hp) ?_
   trivial
 ·repeat' (first|refine Zl ?_|(with_reducible constructor<;>first|intro N hN mk hmk|intro N hN|intro h)|(refine Zp CI [0,1,2] (Zq O2.d hp) ?_;with_reducible intro _ _)|refine Ze CN1 ?_|(refine Zp CB1 [0,36,37] (Zq O2.d hp) ?_;with_reducible intro _ _)|refine Zt (Zq O2.d hp) ?_|fail)
  ·refine Zw [0,5,6] [0,188,189] (Zq O2.d hp) ?_
   rw[er1 hp]
   simp only[j7,List.cons_append,List.nil_append,List.length_cons,List.length_nil,Nat.reduceAdd,show((bs'.length+1:Nat):Int)=bs'.length+1 from rfl]
  ·rw[hR3 (by omega)]
   refine Zr (()) [0,36,37] (Zq O2.d hp) ?_
   trivial
 ·repeat' (first|refine Zl ?_|(with_reducible constructor<;>first|intro N hN mk hmk|intro N hN|intro h)|(refine Zp CI [0,1,2] (Zq O2.d hp) ?_;with_reducible intro _ _)|refine Ze CN1 ?_|refine Ze CR ?_|refine Ze CN2 ?_|refine Ze CN3 ?_|(refine Zp CB2 [0,36,37,38] (Zq O2.d hp) ?_;with_reducible intro _ _)|refine Zt (Zq O2.d hp) ?_|fail)
  ·refine Zw [0,5,6] [0,436,437] (Zq O2.d hp) ?_
   rw[er2 hp]
   simp only[j7,List.cons_append,List.nil_append,List.length_cons,List.length_nil,Nat.reduceAdd,show((bs'.length+1:Nat):Int)=bs'.length+1 from rfl]
  ·rw[hR3 (by omega)]
   refine Zr (()) [0,36,37,38] (Zq O2.d hp) ?_
   trivial
 ·repeat' (first|refine Zl ?_|(with_reducible constructor<;>first|intro N hN mk hmk|intro N hN|intro h)|(refine Zp CI [0,1,2] (Zq O2.d hp) ?_;with_reducible intro _ _)|refine Ze CN1 ?_|(refine Zp CB1 [0,36,37,38] (Zq O2.d hp) ?_;with_reducible intro _ _)|refine Zt (Zq O2.d hp) ?_|fail)
  ·refine Zw [0,5,6] [0,188,189] (Zq O2.d hp) ?_
   rw[er1 hp]
   simp only[j7,List.cons_append,List.nil_append,List.length_cons,List.length_nil,Nat.reduceAdd,show((bs'.length+1:Nat):Int)=bs'.length+1 from rfl]
  ·rw[hR3 (by omega)]
   refine Zr (()) [0,36,37,38] (Zq O2.d hp) ?_
   trivial
theorem a0g(S:MS)(n:Int)(hn:0≤n∧n≤2)(h:fL S 600000)(hb:S.bs.length≤800):y9 Tryd.prog 15 [.ptr 0 0 0,.v (.int .i64 n)] S.rows 1 (fun _:Unit=>True) (fun _=> .Q0 []) (fun _=>(S.region n).rows):=by
 obtain⟨L,at_,g,su,re,sl,pa,ar,lo,bs,ii,t⟩:=S
 have hb2:bs.length+2≤900:=by have:bs.length≤800:=hb;omega
 clear hb
 cases lo with
 |nil=>cases ii with
  |nil=>exact a89 L at_ g su re sl pa ar bs t n hn h hb2
  |own li=>exact a9a L at_ g su re sl pa ar li bs t n hn h hb2
 |own ll=>cases ii with
  |nil=>exact a9b L at_ g su re sl pa ar ll bs t n hn h hb2
  |own li=>exact a9c L at_ g su re sl pa ar ll li bs t n hn h hb2
theorem vA(L:List Int)(at_ g su re sl pa:Int)(ar:List dG)(n:Int)(hn:0≤n∧n≤2)(h:fL ⟨L,at_,g,su,re,sl,pa,ar,.nil,[],.nil,T0⟩ 600000):y9 Tryd.prog 15 [.ptr 0 0 0,.v (.int .i64 n)] (X8 L at_ g su re sl pa ar) 1 (fun _:Unit=>True) (fun _=> .Q0 []) (fun _=>(MS.eM ⟨L,at_,g,su,re,sl,pa,ar,.nil,[],.nil,T0⟩ n).rows):=
 b1Z L at_ g su re sl pa ar n hn h (by omega)
def li1(n:Int):l0:=⟨1,0,0,N7 n,B3 0,O0,O0⟩
def li2(n b:Int):l0:=⟨3,26,0,N7 (n+1),N7 n,B3 b,O0⟩
def kU(n:Int):l0:=⟨3,10,0,N7 n,N7 n,B3 1,O0⟩
def MS.K7(S:MS):Int:=6+2*S.lo.l.length
def MS.cA(S:MS):Int:=((S.bs.length+1:Nat):Int)
def MS.eJ(S:MS):Int:=1+a8 S.L S.at_%3
def MS.V9(S:MS):MS:={S with at_:=S.at_+1,re:=S.K7+2,lo:=r6.own (S.lo.l++[(⟨S.cA,S.K7,S.eJ⟩:Loop)]),i:=j8.own (S.i.l++[li1 S.K7]),t:=Q8 S.cA}.block
def MS.gC(S:MS)(h n b:Int):MS:={S with i:=j8.own (S.i.l++[li2 n b]),t:=E5 (N7 (n+1)) (h+1) (h+2)}.block
def MS.uH(S:MS)(n:Int):MS:=(S.put (kU n)).j5
def MS.uI(S:MS)(h:Int):MS:=if a8 S.L S.at_%3=0 then{S with at_:=S.at_+1+1,t:=E5 (G9 S.L (S.at_+1)) h (h+2)}else{S with at_:=S.at_+1,t:=Q8 h}
def MS.loop(S:MS):MS:=((S.V9.gC S.cA S.K7 S.eJ).uH S.K7).uI S.cA
def MS.iI(S:MS):List Row:=S.loop.rows
theorem b1s(S:MS)(l:List l0)(h:S.i= .own l):∀i:Nat,∃l',(S.iter i).i= .own l':=by
 intro i
 cases i with
 |zero=>exact⟨l,h⟩
 |succ i=>
  obtain⟨_,l',e,_⟩:=pA (S.iter i)
  exact⟨l',by show(S.iter i).inst.i=_;rw[e]⟩
theorem fW(S:MS)(l:List l0)(hi:S.i= .own l)(hL:B5 S.L)(h0:0≤S.at_):∃a l',S.j5=⟨S.L,a,S.g,S.su,S.re,S.sl,S.pa,S.ar,S.lo,S.bs,.own l',S.t⟩∧S.at_+1≤a∧a≤S.at_+33∧l'.length≤l.length+8:=by
 obtain⟨a,ii,e,h1,h2,h3⟩:=J9 S hL h0
 obtain⟨l',e'⟩:=b1s {S with at_:=S.at_+1} l hi (a8 S.L S.at_%5).toNat
 have e2:S.j5.i= .own l':=e'
 rw[e]at e2
 cases e2
 rw[hi]at h3
 exact⟨a,l',e,h1,h2,h3⟩
theorem iX(l:List e8)(b:e8)(e:List AV):(y6 (l++[b])++[e])[l.length+1]?=some e:=by rw[←c7 l b,x8]
theorem mI(l:List e8)(b c:e8)(e:List AV):(y6 (l++[b]++[c])++[e])[l.length+1+1]?=some e:=by rw[←c7 l b,iX]
theorem fO(l:List e8)(b:e8)(e:List AV)(f:List AV→List AV):(y6 (l++[b])++[e]).modify (l.length+1) f=y6 (l++[b])++[f e]:=by rw[←c7 l b,y7]
theorem jQ(l:List e8)(b c:e8)(e:List AV)(f:List AV→List AV):(y6 (l++[b]++[c])++[e]).modify (l.length+1+1) f=y6 (l++[b]++[c])++[f e]:=by rw[←c7 l b,fO]
theorem a0W(n:Int):(li1 n).av=[.v (.int .i64 1),.v (.int .i64 0),.v (.int .i64 0),.v (.int .i64 2),.v (.int .i64 n),.v (.int .i32 0),.v (.int .i64 1),.v (.int .i64 0),.v (.int .i32 0),.v (.int .i64 0),.v (.int .i64 0),.v (.int .i32 0),.v (.int .i64 0),.v (.int .i64 0),.v (.int .i32 0)]:=rfl
theorem a0X(n b:Int):(li2 n b).av=[.v (.int .i64 3),.v (.int .i64 26),.v (.int .i64 0),.v (.int .i64 2),.v (.int .i64 (n+1)),.v (.int .i32 0),.v (.int .i64 2),.v (.int .i64 n),.v (.int .i32 0),.v (.int .i64 1),.v (.int .i64 0),.v (.int .i32 b),.v (.int .i64 0),.v (.int .i64 0),.v (.int .i32 0)]:=rfl
theorem a0Y(n:Int):(kU n).av=[.v (.int .i64 3),.v (.int .i64 10),.v (.int .i64 0),.v (.int .i64 2),.v (.int .i64 n),.v (.int .i32 0),.v (.int .i64 2),.v (.int .i64 n),.v (.int .i32 0),.v (.int .i64 1),.v (.int .i64 0),.v (.int .i32 1),.v (.int .i64 0),.v (.int .i64 0),.v (.int .i32 0)]:=rfl
theorem jX(h:Int):(Q8 h).av=(⟨1,0,⟨0,0,0⟩,⟨0,0,0⟩,⟨0,0,0⟩,h,0⟩:w4).av:=rfl
theorem mY(h:Int):(Q8 h).av=[.v (.int .i64 1),.v (.int .i64 0),.v (.int .i64 0),.v (.int .i64 0),.v (.int .i32 0),.v (.int .i64 0),.v (.int .i64 0),.v (.int .i32 0),.v (.int .i64 0),.v (.int .i64 0),.v (.int .i32 0),.v (.int .i64 h),.v (.int .i64 0)]:=rfl
theorem gM(n x y:Int):(E5 (N7 n) x y).av=[.v (.int .i64 2),.v (.int .i64 0),.v (.int .i64 0),.v (.int .i64 0),.v (.int .i32 0),.v (.int .i64 2),.v (.int .i64 n),.v (.int .i32 0),.v (.int .i64 0),.v (.int .i64 0),.v (.int .i32 0),.v (.int .i64 x),.v (.int .i64 y)]:=rfl
theorem gN(d:H8)(x y:Int):(E5 d x y).av=[.v (.int .i64 2),.v (.int .i64 0),.v (.int .i64 0),.v (.int .i64 0),.v (.int .i32 0),.v (.int .i64 d.k),.v (.int .i64 d.n),.v (.int .i32 d.v),.v (.int .i64 0),.v (.int .i64 0),.v (.int .i32 0),.v (.int .i64 x),.v (.int .i64 y)]:=rfl
theorem iG(n:Nat):(n:Int)+1=((n+1:Nat):Int):=rfl
theorem a6W(n:Nat):((n+1+1:Nat):Int)-1=((n+1:Nat):Int):=by omega
end Go.Proofs.YtgdoiokalfhjoaaDoor
end
