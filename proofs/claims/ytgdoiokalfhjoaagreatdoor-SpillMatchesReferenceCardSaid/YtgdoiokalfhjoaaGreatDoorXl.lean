/- Own work (by an AI agent; no person has read it): part of a proof of the seat YtgdoiokalfhjoaaGreatDoor. -/
import Derived.Test.YtgdoiokalfhjoaaGreatDoorXc
set_option linter.unusedSimpArgs false
set_option linter.unusedVariables false
set_option maxRecDepth 100000
set_option maxHeartbeats 10000000
section
namespace Go.Proofs.YtgdoiokalfhjoaaGreatDoor
open Go.Ab
theorem b7l{l:List Value}(h:2+l.length=10):∃a b c d e f g i,l=[a,b,c,d,e,f,g,i]:=by
 match l,h with
 |[a,b,c,d,e,f,g,i],_=>exact⟨a,b,c,d,e,f,g,i,rfl⟩
 |_::_::_::_::_::_::_::_::_::_,h=>simp at h;omega
def a7(L:List Int)(at_:Int):Int:=if(L.length:Int)<at_+1 then 0 else L.getD at_.toNat 0
theorem j4{L:List Int}(hL:∀z,z<L.length→0≤L.getD z 0∧L.getD z 0<256){at_:Int}(h:0≤at_):0≤a7 L at_∧a7 L at_<256:=by
 unfold a7
 split
 ·omega
 ·exact hL _ (by omega)
def c4x:=ZZ.mk (Zq @a8v (Zq @b7a (Zq @a3F (Zq @b4e (Zq @qP @qQ)))))
theorem p0(L:List Int)(at_:Int)(h0:0≤at_∧at_≤1000000)(hL:∀z,z<L.length→0≤L.getD z 0∧L.getD z 0<256):
  kO Tryz.prog 106 10 [.ptr 0 0 0] [.a6 false (fW L),.v (.int .i64 at_)] [.a6 false (fW L),.v (.int .i64 (at_+1))] (.v (.int .i64 (a7 L at_))):=by
 refine⟨⟨Tryz.f106,Tryz.func106,rfl,by kernel_rfl⟩,fun rest hr=>?_⟩
 obtain⟨a,b,c,d,e,f,g,i,rfl⟩:=b7l hr
 have hs:at_+1-1=at_:=by omega
 have hb:at_<L.length→0≤L.getD at_.toNat 0∧L.getD at_.toNat 0<256:=fun h=>hL _ (by omega)
 refine Zf Tryz.func106 Tryz.ntmps106 ?_;try simp only[List.map_cons,List.map_nil,List.cons_append,List.nil_append]
 repeat' (first|refine Za ?_|(with_reducible constructor<;>first|intro N hN mk hmk|intro N hN|intro h)|refine Zt (Zq c4x.d hs) ?_|fail)
 ·rw[show a7 L at_=0 from if_pos h]
  refine Zr (()) [0] (Zq c4x.d hs) ?_
  trivial
 ·rw[show a7 L at_=L.getD at_.toNat 0 from if_neg h]
  refine Zr (()) [0] (Zq c4x.d hs) ?_
  trivial
def M3(n:Int):E3:=⟨2,n,0⟩
def A1(v:Int):E3:=⟨1,0,v⟩
theorem dI(n:Int):c9 Tryz.prog 63 [.v (.int .i64 n)] (fun _=> .agg (M3 n).av) (fun _=>[]):=by
 refine Zf Tryz.func63 Tryz.ntmps63 ?_;simp only[M3,E3.av]
 repeat' (first|refine Za ?_|(with_reducible constructor<;>first|intro N hN mk hmk|intro N hN|intro h)|refine Zt trivial ?_|fail)
theorem N1(n:Int):c9 Tryz.prog 138 [.v (.int .i32 n)] (fun _=> .agg (A1 n).av) (fun _=>[]):=by
 refine Zf Tryz.func138 Tryz.ntmps138 ?_;simp only[A1,E3.av]
 repeat' (first|refine Za ?_|(with_reducible constructor<;>first|intro N hN mk hmk|intro N hN|intro h)|refine Zt trivial ?_|fail)
def E8(L:List Int)(at_:Int):E3:=M3 (a7 L at_%6)
def V0(L:List Int)(at_:Int):E3:=if a7 L at_%3=0 then A1 (a7 L at_ / 3-20)else M3 (a7 L at_ / 3%6)
def c4y:=ZZ.mk (Zq @a8v (Zq @b7a (Zq @qP (Zq @qQ (Zq @qM (Zq @M3.eq_1 @E3.av.eq_1))))))
theorem Y0(L:List Int)(at_:Int)(h0:0≤at_∧at_≤1000000)(hL:∀z,z<L.length→0≤L.getD z 0∧L.getD z 0<256):
  kO Tryz.prog 111 10 [.ptr 0 0 0] [.a6 false (fW L),.v (.int .i64 at_)] [.a6 false (fW L),.v (.int .i64 (at_+1))] (.agg (E8 L at_).av):=by
 refine⟨⟨Tryz.f111,Tryz.func111,rfl,by kernel_rfl⟩,fun rest hr=>?_⟩
 obtain⟨a,b,c,d,e,f,g,i,rfl⟩:=b7l hr
 have hb:=j4 hL h0.1
 have CN:=p0 L at_ h0 hL
 unfold E8
 generalize a7 L at_=x at hb CN
 have CR:=dI (x%6)
 refine Zf Tryz.func111 Tryz.ntmps111 ?_;try simp only[List.map_cons,List.map_nil,List.cons_append,List.nil_append]
 repeat' (first|refine Za ?_|(with_reducible constructor<;>first|intro N hN mk hmk|intro N hN|intro h)|refine Ze CN ?_|refine Zc CR ?_|refine Zt c4y.d ?_|fail)
 refine Zr (()) [0] c4y.d ?_
 trivial
def c4z:=ZZ.mk (Zq c4y.d (Zq @sT (Zq @a0A (Zq @c2B @A1.eq_1))))
theorem eE(L:List Int)(at_:Int)(h0:0≤at_∧at_≤1000000)(hL:∀z,z<L.length→0≤L.getD z 0∧L.getD z 0<256):
  kO Tryz.prog 112 10 [.ptr 0 0 0] [.a6 false (fW L),.v (.int .i64 at_)] [.a6 false (fW L),.v (.int .i64 (at_+1))] (.agg (V0 L at_).av):=by
 refine⟨⟨Tryz.f112,Tryz.func112,rfl,by kernel_rfl⟩,fun rest hr=>?_⟩
 obtain⟨a,b,c,d,e,f,g,i,rfl⟩:=b7l hr
 have hb:=j4 hL h0.1
 have CN:=p0 L at_ h0 hL
 unfold V0
 generalize a7 L at_=x at hb CN
 have CR:=dI (x / 3%6)
 have CC:=N1 (x / 3-20)
 refine Zf Tryz.func112 Tryz.ntmps112 ?_;try simp only[List.map_cons,List.map_nil,List.cons_append,List.nil_append]
 repeat' (first|refine Za ?_|(with_reducible constructor<;>first|intro N hN mk hmk|intro N hN|intro h)|refine Ze CN ?_|refine Zc CR ?_|refine Zc CC ?_|refine Zt c4z.d ?_|fail)
 ·rw[if_pos h]
  refine Zr (()) [0] c4z.d ?_
  trivial
 ·rw[if_neg h]
  refine Zr (()) [0] c4z.d ?_
  trivial
inductive j7 where
 |nil
 |own (l:List e8)
inductive r7 where
 |nil
 |own (l:List Loop)
def j7.cell:j7→AV
 | .nil=> .a6 true []
 | .own l=> .own 2 0 l.length
def j7.rows:j7→List Row
 | .nil=>[]
 | .own l=>[⟨15,e7 l,0⟩]
def j7.l:j7→List e8
 | .nil=>[]
 | .own l=>l
def j7.k:j7→Nat
 | .nil=>2
 | .own _=>3
def r7.cell(k:Nat):r7→AV
 | .nil=> .a6 true []
 | .own l=> .own k 0 l.length
def r7.rows:r7→List Row
 | .nil=>[]
 | .own l=>[⟨3,loops l,0⟩]
def r7.l:r7→List Loop
 | .nil=>[]
 | .own l=>l
structure MS where
 L:List Int
 at_:Int
 g:Int
 su:Int
 re:Int
 sl:Int
 pa:Int
 ar:List cQ
 lo:r7
 bs:List b6
 i:j7
 t:o6
def MS.rows(S:MS):List Row:=
 [⟨10,[[.a6 false (fW S.L),.v (.int .i64 S.at_),.v (.int .i64 S.g),.v (.int .i64 S.su),.v (.int .i64 S.re),.v (.int .i64 S.sl),.v (.int .i64 S.pa),.a6 false (w6 S.ar),S.lo.cell S.i.k,.own 1 0 (S.bs.length+1)]],0⟩,
  ⟨14,p7 S.bs++[S.i.cell::S.t.av],0⟩]++S.i.rows++S.lo.rows
theorem Y3(l:List b6)(e:List AV):(p7 l++[e])[l.length]?=some e:=by
 rw[List.getElem?_append_right (by rw[y7];omega),y7];simp
theorem xT(l:List b6)(e:List AV)(f:List AV→List AV):(p7 l++[e]).modify l.length f=p7 l++[f e]:=by
 apply List.ext_getElem?
 intro j
 rw[List.getElem?_modify]
 by_cases h:l.length=j
 ·subst h
  rw[Y3,Y3];simp
 ·simp only[h,if_false,id_map']
  by_cases h2:j<l.length
  ·rw[List.getElem?_append_left (by rw[y7];exact h2),List.getElem?_append_left (by rw[y7];exact h2)]
  ·rw[List.getElem?_eq_none (by simp [y7];omega),List.getElem?_eq_none (by simp [y7];omega)]
theorem b2K(n:Nat):((n+1:Nat):Int)-1=n:=by omega
def MS.put(S:MS)(i:e8):MS:={S with i:= .own (S.i.l++[i])}
def a4G:=ZZ.mk (Zq @b2K (Zq @Y3 (Zq @xT (Zq @y7 (Zq @Q6 (Zq @bC (Zq @O3 (Zq @K0 (Zq @dM (Zq @yR (Zq @oN (Zq @yS (Zq @b93 (Zq @oO (Zq @b95 (Zq @b94 (Zq @b65 (Zq @b63 (Zq @a0t (Zq @qP @qQ))))))))))))))))))))
theorem P4(S:MS)(i:e8)(hb:S.bs.length≤1000)(hi:S.i.l.length≤1000000):y0 Tryz.prog 184 [.ptr 0 0 0,.agg i.av] S.rows 1 (fun _:Unit=>True) (fun _=> .O4 []) (fun _=>(S.put i).rows):=by
 obtain⟨L,at_,g,su,re,sl,pa,ar,lo,bs,ii,t⟩:=S
 obtain⟨op,sub,n,⟨dk,dn,dv⟩,⟨ak,an,av⟩,⟨bk,bn,bv⟩,⟨ck,cn,cv⟩⟩:=i
 simp only at hb hi
 cases lo<;>cases ii
 all_goals simp only[j7.l]at hi
 all_goals
  simp only[MS.rows,MS.put,j7.cell,j7.rows,j7.l,j7.k,r7.cell,r7.rows,r7.l,e8.av,List.cons_append,List.nil_append,List.append_nil];refine Zf Tryz.func184 Tryz.ntmps184 ?_
  repeat' (first|refine Za ?_|(with_reducible constructor<;>first|intro N hN mk hmk|intro N hN|intro h)|refine Zt a4G.d ?_|fail)
 ·refine Zr (()) [0,1,216] a4G.d ?_
  trivial
 ·refine Zr (()) [0,1,216] a4G.d ?_
  trivial
 ·refine Zr (()) [0,1,216,2] a4G.d ?_
  trivial
 ·refine Zr (()) [0,1,216,3] a4G.d ?_
  trivial
def y8(L:List Int):Prop:=∀z,z<L.length→0≤L.getD z 0∧L.getD z 0<256
structure iI (S:MS) (n:Int):Prop where
 L:y8 S.L
 at_:0≤S.at_∧S.at_≤n
 bs:S.bs.length≤1000
 il:S.i.l.length≤n
 ar:S.ar.length=5
 al:∀z,z<5→1≤(S.ar.getD z A0).len∧(S.ar.getD z A0).len≤1000
def pn(S:MS)(pr:Bool):Int:=if a7 S.L S.at_%5=3∧pr=false then 0 else a7 S.L S.at_%5
def MS.a0a(S:MS)(pr:Bool):e8:=⟨3,17,0,E8 S.L (S.at_+1),V0 S.L (S.at_+1+1),A1 (w32 ((S.ar.getD (pn S pr).toNat A0).len-1)),O0⟩
def MS.place(S:MS)(pr:Bool):MS:={S with at_:=S.at_+1+1+1}.put (S.a0a pr)
end Go.Proofs.YtgdoiokalfhjoaaGreatDoor
end
