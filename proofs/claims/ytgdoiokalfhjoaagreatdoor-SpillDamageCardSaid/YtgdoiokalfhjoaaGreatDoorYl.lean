/- Own work (by an AI agent; no person has read it): part of a proof of the seat YtgdoiokalfhjoaaGreatDoor. -/
import Derived.Test.YtgdoiokalfhjoaaGreatDoorYc
set_option linter.unusedSimpArgs false
set_option linter.unusedVariables false
set_option maxRecDepth 100000
set_option maxHeartbeats 10000000
section
namespace Go.Proofs.YtgdoiokalfhjoaaGreatDoor
open Go.Ab
theorem b6l{l:List Value}(h:2+l.length=10):∃a b c d e f g i,l=[a,b,c,d,e,f,g,i]:=by
 match l,h with
 |[a,b,c,d,e,f,g,i],_=>exact⟨a,b,c,d,e,f,g,i,rfl⟩
 |_::_::_::_::_::_::_::_::_::_,h=>simp at h;omega
def a7(L:List Int)(at_:Int):Int:=if(L.length:Int)<at_+1 then 0 else L.getD at_.toNat 0
theorem j0{L:List Int}(hL:∀z,z<L.length→0≤L.getD z 0∧L.getD z 0<256){at_:Int}(h:0≤at_):0≤a7 L at_∧a7 L at_<256:=by
 unfold a7
 split
 ·omega
 ·exact hL _ (by omega)
def c3B:=ZZ.mk (Zq @a7r (Zq @b6b (Zq @a2G (Zq @b3b (Zq @tL @tM)))))
theorem p0(L:List Int)(at_:Int)(h0:0≤at_∧at_≤1000000)(hL:∀z,z<L.length→0≤L.getD z 0∧L.getD z 0<256):
  jI Tryz.prog 106 10 [.ptr 0 0 0] [.a8 false (eR L),.v (.int .i64 at_)] [.a8 false (eR L),.v (.int .i64 (at_+1))] (.v (.int .i64 (a7 L at_))):=by
 refine⟨⟨Tryz.f106,Tryz.func106,rfl,by kernel_rfl⟩,fun rest hr=>?_⟩
 obtain⟨a,b,c,d,e,f,g,i,rfl⟩:=b6l hr
 have hs:at_+1-1=at_:=by omega
 have hb:at_<L.length→0≤L.getD at_.toNat 0∧L.getD at_.toNat 0<256:=fun h=>hL _ (by omega)
 refine Zf Tryz.func106 Tryz.ntmps106 ?_;try simp only[List.map_cons,List.map_nil,List.cons_append,List.nil_append]
 repeat' (first|refine Za ?_|(with_reducible constructor<;>first|intro N hN mk hmk|intro N hN|intro h)|refine Zt (Zq c3B.d hs) ?_|fail)
 ·rw[show a7 L at_=0 from if_pos h]
  refine Zr (()) [0] (Zq c3B.d hs) ?_
  trivial
 ·rw[show a7 L at_=L.getD at_.toNat 0 from if_neg h]
  refine Zr (()) [0] (Zq c3B.d hs) ?_
  trivial
def L7(n:Int):E3:=⟨2,n,0⟩
def A3(v:Int):E3:=⟨1,0,v⟩
theorem dC(n:Int):e8 Tryz.prog 63 [.v (.int .i64 n)] (fun _=> .agg (L7 n).av) (fun _=>[]):=by
 refine Zf Tryz.func63 Tryz.ntmps63 ?_;simp only[L7,E3.av]
 repeat' (first|refine Za ?_|(with_reducible constructor<;>first|intro N hN mk hmk|intro N hN|intro h)|refine Zt trivial ?_|fail)
theorem M8(n:Int):e8 Tryz.prog 138 [.v (.int .i32 n)] (fun _=> .agg (A3 n).av) (fun _=>[]):=by
 refine Zf Tryz.func138 Tryz.ntmps138 ?_;simp only[A3,E3.av]
 repeat' (first|refine Za ?_|(with_reducible constructor<;>first|intro N hN mk hmk|intro N hN|intro h)|refine Zt trivial ?_|fail)
def E7(L:List Int)(at_:Int):E3:=L7 (a7 L at_%6)
def V5(L:List Int)(at_:Int):E3:=if a7 L at_%3=0 then A3 (a7 L at_ / 3-20)else L7 (a7 L at_ / 3%6)
def c3C:=ZZ.mk (Zq @a7r (Zq @b6b (Zq @tL (Zq @tM (Zq @cH (Zq @L7.eq_1 @E3.av.eq_1))))))
theorem X9(L:List Int)(at_:Int)(h0:0≤at_∧at_≤1000000)(hL:∀z,z<L.length→0≤L.getD z 0∧L.getD z 0<256):
  jI Tryz.prog 111 10 [.ptr 0 0 0] [.a8 false (eR L),.v (.int .i64 at_)] [.a8 false (eR L),.v (.int .i64 (at_+1))] (.agg (E7 L at_).av):=by
 refine⟨⟨Tryz.f111,Tryz.func111,rfl,by kernel_rfl⟩,fun rest hr=>?_⟩
 obtain⟨a,b,c,d,e,f,g,i,rfl⟩:=b6l hr
 have hb:=j0 hL h0.1
 have CN:=p0 L at_ h0 hL
 unfold E7
 generalize a7 L at_=x at hb CN
 have CR:=dC (x%6)
 refine Zf Tryz.func111 Tryz.ntmps111 ?_;try simp only[List.map_cons,List.map_nil,List.cons_append,List.nil_append]
 repeat' (first|refine Za ?_|(with_reducible constructor<;>first|intro N hN mk hmk|intro N hN|intro h)|refine Ze CN ?_|refine Zc CR ?_|refine Zt c3C.d ?_|fail)
 refine Zr (()) [0] c3C.d ?_
 trivial
def c3D:=ZZ.mk (Zq c3C.d (Zq @qM (Zq @zE (Zq @c1B @A3.eq_1))))
theorem dU(L:List Int)(at_:Int)(h0:0≤at_∧at_≤1000000)(hL:∀z,z<L.length→0≤L.getD z 0∧L.getD z 0<256):
  jI Tryz.prog 112 10 [.ptr 0 0 0] [.a8 false (eR L),.v (.int .i64 at_)] [.a8 false (eR L),.v (.int .i64 (at_+1))] (.agg (V5 L at_).av):=by
 refine⟨⟨Tryz.f112,Tryz.func112,rfl,by kernel_rfl⟩,fun rest hr=>?_⟩
 obtain⟨a,b,c,d,e,f,g,i,rfl⟩:=b6l hr
 have hb:=j0 hL h0.1
 have CN:=p0 L at_ h0 hL
 unfold V5
 generalize a7 L at_=x at hb CN
 have CR:=dC (x / 3%6)
 have CC:=M8 (x / 3-20)
 refine Zf Tryz.func112 Tryz.ntmps112 ?_;try simp only[List.map_cons,List.map_nil,List.cons_append,List.nil_append]
 repeat' (first|refine Za ?_|(with_reducible constructor<;>first|intro N hN mk hmk|intro N hN|intro h)|refine Ze CN ?_|refine Zc CR ?_|refine Zc CC ?_|refine Zt c3D.d ?_|fail)
 ·rw[if_pos h]
  refine Zr (()) [0] c3D.d ?_
  trivial
 ·rw[if_neg h]
  refine Zr (()) [0] c3D.d ?_
  trivial
inductive j4 where
 |nil
 |own (l:List e7)
inductive r9 where
 |nil
 |own (l:List Loop)
def j4.cell:j4→AV
 | .nil=> .a8 true []
 | .own l=> .own 2 0 l.length
def j4.rows:j4→List Row
 | .nil=>[]
 | .own l=>[⟨15,c6 l,0⟩]
def j4.l:j4→List e7
 | .nil=>[]
 | .own l=>l
def j4.k:j4→Nat
 | .nil=>2
 | .own _=>3
def r9.cell(k:Nat):r9→AV
 | .nil=> .a8 true []
 | .own l=> .own k 0 l.length
def r9.rows:r9→List Row
 | .nil=>[]
 | .own l=>[⟨3,loops l,0⟩]
def r9.l:r9→List Loop
 | .nil=>[]
 | .own l=>l
structure MS where
 L:List Int
 at_:Int
 g:Int
 su:Int
 re:Int
 sl:Int
 pa:Int
 ar:List cN
 lo:r9
 bs:List b6
 i:j4
 t:q9
def MS.rows(S:MS):List Row:=
 [⟨10,[[.a8 false (eR S.L),.v (.int .i64 S.at_),.v (.int .i64 S.g),.v (.int .i64 S.su),.v (.int .i64 S.re),.v (.int .i64 S.sl),.v (.int .i64 S.pa),.a8 false (y4 S.ar),S.lo.cell S.i.k,.own 1 0 (S.bs.length+1)]],0⟩,
  ⟨14,o0 S.bs++[S.i.cell::S.t.av],0⟩]++S.i.rows++S.lo.rows
theorem U2(l:List b6)(e:List AV):(o0 l++[e])[l.length]?=some e:=by
 rw[List.getElem?_append_right (by rw[D4];omega),D4];simp
theorem nB(l:List b6)(e:List AV)(f:List AV→List AV):(o0 l++[e]).modify l.length f=o0 l++[f e]:=by
 apply List.ext_getElem?
 intro j
 rw[List.getElem?_modify]
 by_cases h:l.length=j
 ·subst h
  rw[U2,U2];simp
 ·simp only[h,if_false,id_map']
  by_cases h2:j<l.length
  ·rw[List.getElem?_append_left (by rw[D4];exact h2),List.getElem?_append_left (by rw[D4];exact h2)]
  ·rw[List.getElem?_eq_none (by simp [D4];omega),List.getElem?_eq_none (by simp [D4];omega)]
theorem b1P(n:Nat):((n+1:Nat):Int)-1=n:=by omega
def MS.put(S:MS)(i:e7):MS:={S with i:= .own (S.i.l++[i])}
def a3E:=ZZ.mk (Zq @b1P (Zq @U2 (Zq @nB (Zq @D4 (Zq @O3 (Zq @cA (Zq @L1 (Zq @O5 (Zq @dG (Zq @nQ (Zq @fH (Zq @lY (Zq @b82 (Zq @mO (Zq @a81 (Zq @b83 (Zq @b56 (Zq @b54 (Zq @yY (Zq @tL @tM))))))))))))))))))))
theorem O8(S:MS)(i:e7)(hb:S.bs.length≤1000)(hi:S.i.l.length≤1000000):y6 Tryz.prog 184 [.ptr 0 0 0,.agg i.av] S.rows 1 (fun _:Unit=>True) (fun _=> .O2 []) (fun _=>(S.put i).rows):=by
 obtain⟨L,at_,g,su,re,sl,pa,ar,lo,bs,ii,t⟩:=S
 obtain⟨op,sub,n,⟨dk,dn,dv⟩,⟨ak,an,av⟩,⟨bk,bn,bv⟩,⟨ck,cn,cv⟩⟩:=i
 simp only at hb hi
 cases lo<;>cases ii
 all_goals simp only[j4.l]at hi
 all_goals
  simp only[MS.rows,MS.put,j4.cell,j4.rows,j4.l,j4.k,r9.cell,r9.rows,r9.l,e7.av,List.cons_append,List.nil_append,List.append_nil];refine Zf Tryz.func184 Tryz.ntmps184 ?_
  repeat' (first|refine Za ?_|(with_reducible constructor<;>first|intro N hN mk hmk|intro N hN|intro h)|refine Zt a3E.d ?_|fail)
 ·refine Zr (()) [0,1,216] a3E.d ?_
  trivial
 ·refine Zr (()) [0,1,216] a3E.d ?_
  trivial
 ·refine Zr (()) [0,1,216,2] a3E.d ?_
  trivial
 ·refine Zr (()) [0,1,216,3] a3E.d ?_
  trivial
def y9(L:List Int):Prop:=∀z,z<L.length→0≤L.getD z 0∧L.getD z 0<256
structure gD (S:MS) (n:Int):Prop where
 L:y9 S.L
 at_:0≤S.at_∧S.at_≤n
 bs:S.bs.length≤1000
 il:S.i.l.length≤n
 ar:S.ar.length=5
 al:∀z,z<5→1≤(S.ar.getD z A0).len∧(S.ar.getD z A0).len≤1000
def pn(S:MS)(pr:Bool):Int:=if a7 S.L S.at_%5=3∧pr=false then 0 else a7 S.L S.at_%5
def MS.yH(S:MS)(pr:Bool):e7:=⟨3,17,0,E7 S.L (S.at_+1),V5 S.L (S.at_+1+1),A3 (w32 ((S.ar.getD (pn S pr).toNat A0).len-1)),O0⟩
def MS.place(S:MS)(pr:Bool):MS:={S with at_:=S.at_+1+1+1}.put (S.yH pr)
end Go.Proofs.YtgdoiokalfhjoaaGreatDoor
end
