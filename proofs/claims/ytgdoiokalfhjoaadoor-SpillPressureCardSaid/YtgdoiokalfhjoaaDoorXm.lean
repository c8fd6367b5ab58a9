/- Own work (by an AI agent; no person has read it): part of a proof of the seat YtgdoiokalfhjoaaDoor. -/
import Derived.Test.YtgdoiokalfhjoaaDoorXc
set_option linter.unusedSimpArgs false
set_option linter.unusedVariables false
set_option maxRecDepth 100000
set_option maxHeartbeats 10000000
section
namespace Go.Proofs.YtgdoiokalfhjoaaDoor
open Go.Ab
theorem b0B{l:List Value}(h:2+l.length=10):∃a b c d e f g i,l=[a,b,c,d,e,f,g,i]:=by
 match l,h with
 |[a,b,c,d,e,f,g,i],_=>exact⟨a,b,c,d,e,f,g,i,rfl⟩
 |_::_::_::_::_::_::_::_::_::_,h=>simp at h;omega
def a8(L:List Int)(at_:Int):Int:=if(L.length:Int)<at_+1 then 0 else L.getD at_.toNat 0
theorem j6{L:List Int}(hL:∀z,z<L.length→0≤L.getD z 0∧L.getD z 0<256){at_:Int}(h:0≤at_):0≤a8 L at_∧a8 L at_<256:=by
 unfold a8
 split
 ·omega
 ·exact hL _ (by omega)
def b5D:=ZZ.mk (Zq @a2V (Zq @b0p (Zq @yW (Zq @a74 (Zq @j0 @j3)))))
theorem o9(L:List Int)(at_:Int)(h0:0≤at_∧at_≤1000000)(hL:∀z,z<L.length→0≤L.getD z 0∧L.getD z 0<256):
  iQ Tryd.prog 13 10 [.ptr 0 0 0] [.c5 false (fF L),.v (.int .i64 at_)] [.c5 false (fF L),.v (.int .i64 (at_+1))] (.v (.int .i64 (a8 L at_))):=by
 refine⟨⟨Tryd.f13,Tryd.func13,rfl,by kernel_rfl⟩,fun rest hr=>?_⟩
 obtain⟨a,b,c,d,e,f,g,i,rfl⟩:=b0B hr
 have hs:at_+1-1=at_:=by omega
 have hb:at_<L.length→0≤L.getD at_.toNat 0∧L.getD at_.toNat 0<256:=fun h=>hL _ (by omega)
 refine Zf Tryd.func13 Tryd.ntmps13 ?_;try simp only[List.map_cons,List.map_nil,List.cons_append,List.nil_append]
 repeat' (first|refine Za ?_|(with_reducible constructor<;>first|intro N hN mk hmk|intro N hN|intro h)|refine Zt (Zq b5D.d hs) ?_|fail)
 ·rw[show a8 L at_=0 from if_pos h]
  refine Zr (()) [0] (Zq b5D.d hs) ?_
  trivial
 ·rw[show a8 L at_=L.getD at_.toNat 0 from if_neg h]
  refine Zr (()) [0] (Zq b5D.d hs) ?_
  trivial
def N7(n:Int):H8:=⟨2,n,0⟩
def B3(v:Int):H8:=⟨1,0,v⟩
theorem cW(n:Int):n5 Tryd.prog 39 [.v (.int .i64 n)] (fun _=> .agg (N7 n).av) (fun _=>[]):=by
 refine Zf Tryd.func39 Tryd.ntmps39 ?_;simp only[N7,H8.av]
 repeat' (first|refine Za ?_|(with_reducible constructor<;>first|intro N hN mk hmk|intro N hN|intro h)|refine Zt trivial ?_|fail)
theorem O5(n:Int):n5 Tryd.prog 41 [.v (.int .i32 n)] (fun _=> .agg (B3 n).av) (fun _=>[]):=by
 refine Zf Tryd.func41 Tryd.ntmps41 ?_;simp only[B3,H8.av]
 repeat' (first|refine Za ?_|(with_reducible constructor<;>first|intro N hN mk hmk|intro N hN|intro h)|refine Zt trivial ?_|fail)
def G9(L:List Int)(at_:Int):H8:=N7 (a8 L at_%6)
def V6(L:List Int)(at_:Int):H8:=if a8 L at_%3=0 then B3 (a8 L at_ / 3-20)else N7 (a8 L at_ / 3%6)
def b5E:=ZZ.mk (Zq @a2V (Zq @b0p (Zq @j0 (Zq @j3 (Zq @x6 (Zq @N7.eq_1 @H8.av.eq_1))))))
theorem Y4(L:List Int)(at_:Int)(h0:0≤at_∧at_≤1000000)(hL:∀z,z<L.length→0≤L.getD z 0∧L.getD z 0<256):
  iQ Tryd.prog 18 10 [.ptr 0 0 0] [.c5 false (fF L),.v (.int .i64 at_)] [.c5 false (fF L),.v (.int .i64 (at_+1))] (.agg (G9 L at_).av):=by
 refine⟨⟨Tryd.f18,Tryd.func18,rfl,by kernel_rfl⟩,fun rest hr=>?_⟩
 obtain⟨a,b,c,d,e,f,g,i,rfl⟩:=b0B hr
 have hb:=j6 hL h0.1
 have CN:=o9 L at_ h0 hL
 unfold G9
 generalize a8 L at_=x at hb CN
 have CR:=cW (x%6)
 refine Zf Tryd.func18 Tryd.ntmps18 ?_;try simp only[List.map_cons,List.map_nil,List.cons_append,List.nil_append]
 repeat' (first|refine Za ?_|(with_reducible constructor<;>first|intro N hN mk hmk|intro N hN|intro h)|refine Ze CN ?_|refine Zc CR ?_|refine Zt b5E.d ?_|fail)
 refine Zr (()) [0] b5E.d ?_
 trivial
def b5F:=ZZ.mk (Zq b5E.d (Zq @pT (Zq @vQ (Zq @b3Z @B3.eq_1))))
theorem dM(L:List Int)(at_:Int)(h0:0≤at_∧at_≤1000000)(hL:∀z,z<L.length→0≤L.getD z 0∧L.getD z 0<256):
  iQ Tryd.prog 19 10 [.ptr 0 0 0] [.c5 false (fF L),.v (.int .i64 at_)] [.c5 false (fF L),.v (.int .i64 (at_+1))] (.agg (V6 L at_).av):=by
 refine⟨⟨Tryd.f19,Tryd.func19,rfl,by kernel_rfl⟩,fun rest hr=>?_⟩
 obtain⟨a,b,c,d,e,f,g,i,rfl⟩:=b0B hr
 have hb:=j6 hL h0.1
 have CN:=o9 L at_ h0 hL
 unfold V6
 generalize a8 L at_=x at hb CN
 have CR:=cW (x / 3%6)
 have CC:=O5 (x / 3-20)
 refine Zf Tryd.func19 Tryd.ntmps19 ?_;try simp only[List.map_cons,List.map_nil,List.cons_append,List.nil_append]
 repeat' (first|refine Za ?_|(with_reducible constructor<;>first|intro N hN mk hmk|intro N hN|intro h)|refine Ze CN ?_|refine Zc CR ?_|refine Zc CC ?_|refine Zt b5F.d ?_|fail)
 ·rw[if_pos h]
  refine Zr (()) [0] b5F.d ?_
  trivial
 ·rw[if_neg h]
  refine Zr (()) [0] b5F.d ?_
  trivial
inductive j8 where
 |nil
 |own (l:List l0)
inductive r6 where
 |nil
 |own (l:List Loop)
def j8.cell:j8→AV
 | .nil=> .c5 true []
 | .own l=> .own 2 0 l.length
def j8.rows:j8→List Row
 | .nil=>[]
 | .own l=>[⟨15,j5 l,0⟩]
def j8.l:j8→List l0
 | .nil=>[]
 | .own l=>l
def j8.k:j8→Nat
 | .nil=>2
 | .own _=>3
def r6.cell(k:Nat):r6→AV
 | .nil=> .c5 true []
 | .own l=> .own k 0 l.length
def r6.rows:r6→List Row
 | .nil=>[]
 | .own l=>[⟨3,loops l,0⟩]
def r6.l:r6→List Loop
 | .nil=>[]
 | .own l=>l
structure MS where
 L:List Int
 at_:Int
 g:Int
 su:Int
 re:Int
 sl:Int
 pa:Int
 ar:List dG
 lo:r6
 bs:List e8
 i:j8
 t:w4
def MS.rows(S:MS):List Row:=
 [⟨10,[[.c5 false (fF S.L),.v (.int .i64 S.at_),.v (.int .i64 S.g),.v (.int .i64 S.su),.v (.int .i64 S.re),.v (.int .i64 S.sl),.v (.int .i64 S.pa),.c5 false (H2 S.ar),S.lo.cell S.i.k,.own 1 0 (S.bs.length+1)]],0⟩,
  ⟨14,y6 S.bs++[S.i.cell::S.t.av],0⟩]++S.i.rows++S.lo.rows
theorem x8(l:List e8)(e:List AV):(y6 l++[e])[l.length]?=some e:=by
 rw[List.getElem?_append_right (by rw[n3];omega),n3];simp
theorem y7(l:List e8)(e:List AV)(f:List AV→List AV):(y6 l++[e]).modify l.length f=y6 l++[f e]:=by
 apply List.ext_getElem?
 intro j
 rw[List.getElem?_modify]
 by_cases h:l.length=j
 ·subst h
  rw[x8,x8];simp
 ·simp only[h,if_false,id_map']
  by_cases h2:j<l.length
  ·rw[List.getElem?_append_left (by rw[n3];exact h2),List.getElem?_append_left (by rw[n3];exact h2)]
  ·rw[List.getElem?_eq_none (by simp [n3];omega),List.getElem?_eq_none (by simp [n3];omega)]
theorem I1(n:Nat):((n+1:Nat):Int)-1=n:=by omega
def MS.put(S:MS)(i:l0):MS:={S with i:= .own (S.i.l++[i])}
def a9W:=ZZ.mk (Zq @I1 (Zq @x8 (Zq @y7 (Zq @n3 (Zq @p0 (Zq @w8 (Zq @m7 (Zq @l8 (Zq @n9 (Zq @y8 (Zq @s6 (Zq @r8 (Zq @z8 (Zq @q9 (Zq @A2 (Zq @A1 (Zq @z7 (Zq @z6 (Zq @s5 (Zq @j0 @j3))))))))))))))))))))
theorem S3(S:MS)(i:l0)(hb:S.bs.length≤1000)(hi:S.i.l.length≤1000000):y9 Tryd.prog 40 [.ptr 0 0 0,.agg i.av] S.rows 1 (fun _:Unit=>True) (fun _=> .Q0 []) (fun _=>(S.put i).rows):=by
 obtain⟨L,at_,g,su,re,sl,pa,ar,lo,bs,ii,t⟩:=S
 obtain⟨op,sub,n,⟨dk,dn,dv⟩,⟨ak,an,av⟩,⟨bk,bn,bv⟩,⟨ck,cn,cv⟩⟩:=i
 simp only at hb hi
 cases lo<;>cases ii
 all_goals simp only[j8.l]at hi
 all_goals
  simp only[MS.rows,MS.put,j8.cell,j8.rows,j8.l,j8.k,r6.cell,r6.rows,r6.l,l0.av,List.cons_append,List.nil_append,List.append_nil];refine Zf Tryd.func40 Tryd.ntmps40 ?_
  repeat' (first|refine Za ?_|(with_reducible constructor<;>first|intro N hN mk hmk|intro N hN|intro h)|refine Zt a9W.d ?_|fail)
 ·refine Zr (()) [0,1,216] a9W.d ?_
  trivial
 ·refine Zr (()) [0,1,216] a9W.d ?_
  trivial
 ·refine Zr (()) [0,1,216,2] a9W.d ?_
  trivial
 ·refine Zr (()) [0,1,216,3] a9W.d ?_
  trivial
def B5(L:List Int):Prop:=∀z,z<L.length→0≤L.getD z 0∧L.getD z 0<256
structure fL (S:MS) (n:Int):Prop where
 L:B5 S.L
 at_:0≤S.at_∧S.at_≤n
 bs:S.bs.length≤1000
 il:S.i.l.length≤n
 ar:S.ar.length=5
 al:∀z,z<5→1≤(S.ar.getD z A0).len∧(S.ar.getD z A0).len≤1000
def pn(S:MS)(pr:Bool):Int:=if a8 S.L S.at_%5=3∧pr=false then 0 else a8 S.L S.at_%5
def MS.uX(S:MS)(pr:Bool):l0:=⟨3,17,0,G9 S.L (S.at_+1),V6 S.L (S.at_+1+1),B3 (w32 ((S.ar.getD (pn S pr).toNat A0).len-1)),O0⟩
def MS.place(S:MS)(pr:Bool):MS:={S with at_:=S.at_+1+1+1}.put (S.uX pr)
end Go.Proofs.YtgdoiokalfhjoaaDoor
end
