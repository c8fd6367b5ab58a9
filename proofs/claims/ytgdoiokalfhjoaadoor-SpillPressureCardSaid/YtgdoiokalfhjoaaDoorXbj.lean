/- Own work (by an AI agent; no person has read it): part of a proof of the seat YtgdoiokalfhjoaaDoor. -/
import Derived.Test.YtgdoiokalfhjoaaDoorXi
import Derived.Test.YtgdoiokalfhjoaaDoorXbi
set_option linter.unusedSimpArgs false
set_option linter.unusedVariables false
section
namespace Go.Proofs.YtgdoiokalfhjoaaDoor
open Go.Ab
def qU(r:Int)(l:List l0):Prop:=∀x∈l,aK r x
theorem L2.mono{r r':Int}{o:H8}(h:L2 r o)(hr:r≤r'):L2 r' o:=fun hk=>by have:=h hk;omega
theorem aK.mono{r r':Int}{x:l0}(h:aK r x)(hr:r≤r'):aK r' x:=⟨h.d.mono hr,h.a.mono hr,h.b.mono hr,h.c.mono hr⟩
theorem qU.mono{r r':Int}{l:List l0}(h:qU r l)(hr:r≤r'):qU r' l:=fun x hx=>(h x hx).mono hr
theorem W0.mono{r r' n n':Int}{t:w4}(h:W0 r n t)(hr:r≤r')(hn:n≤n'):W0 r' n' t:=⟨h.d.mono hr,h.a.mono hr,h.b.mono hr,fun hk=>by have:=h.to hk;omega,fun hk=>by have:=h.to1 hk;omega,h.dk⟩
theorem dQ.mono{r r' n n':Int}{b:e8}(h:dQ r n b)(hr:r≤r')(hn:n≤n'):dQ r' n' b:=⟨fun x hx=>(h.i x hx).mono hr,h.t.mono hr hn,h.l⟩
theorem Y3(r:Int):L2 r O0:=fun h=>by simp [O0]at h
theorem b1Q(r v:Int):L2 r (B3 v):=fun h=>by simp [B3]at h
theorem a3V{r n:Int}(h:0≤n∧n<r):L2 r (N7 n):=fun _=>h
theorem dX{r:Int}(hr:6≤r){L:List Int}(hL:B5 L){a:Int}(h:0≤a):L2 r (G9 L a):=by
 have:=j6 hL h
 exact a3V (by omega)
theorem kF{r:Int}(hr:6≤r){L:List Int}(hL:B5 L){a:Int}(h:0≤a):L2 r (V6 L a):=by
 have:=j6 hL h
 unfold V6
 split
 ·exact b1Q r _
 ·exact a3V (by omega)
structure a0u (r n:Int) (b:e8):Prop where
 ok:dQ r n b
 l:b.i.length≤39
theorem a0u.mono{r r' n n':Int}{b:e8}(h:a0u r n b)(hr:r≤r')(hn:n≤n'):a0u r' n' b:=⟨h.ok.mono hr hn,h.l⟩
structure GS (S:MS) (T:Int):Prop where
 L:B5 S.L
 at_:0≤S.at_
 re:6≤S.re
 i:qU S.re S.i.l
 b:∀x∈S.bs,a0u S.re T x
 ar:S.ar=dN∧S.sl=0
theorem GS.mono{S:MS}{T T':Int}(h:GS S T)(hT:T≤T'):GS S T':=⟨h.L,h.at_,h.re,h.i,fun x hx=>(h.b x hx).mono (Int.le_refl _) hT,h.ar⟩
theorem GS.at{S:MS}{T:Int}(h:GS S T){a:Int}(ha:0≤a):GS {S with at_:=a} T:=⟨h.L,ha,h.re,h.i,h.b,h.ar⟩
theorem GS.term{S:MS}{T:Int}(h:GS S T)(t:w4):GS {S with t:=t} T:=⟨h.L,h.at_,h.re,h.i,h.b,h.ar⟩
theorem GS.put{S:MS}{T:Int}(h:GS S T){x:l0}(hx:aK S.re x):GS (S.put x) T:=by
 refine⟨h.L,h.at_,h.re,fun y hy=>?_,h.b,h.ar⟩
 have hy:y∈S.i.l++[x]:=hy
 rcases List.mem_append.1 hy with hy|hy
 ·exact h.i y hy
 ·rw[List.mem_singleton.1 hy];exact hx
theorem GS.block{S:MS}{T:Int}(h:GS S T)(ht:W0 S.re T S.t)(hl:S.i.l.length≤39):GS S.block T:=by
 refine⟨h.L,h.at_,h.re,fun y hy=>?_,fun x hx=>?_,h.ar⟩
 ·simp [MS.block,j8.l]at hy
 ·have hx:x∈S.bs++[⟨S.i.l,S.t⟩]:=hx
  rcases List.mem_append.1 hx with hx|hx
  ·exact h.b x hx
  ·rw[List.mem_singleton.1 hx];exact⟨⟨h.i,ht,Nat.le_trans hl (by decide)⟩,hl⟩
theorem b1b{r:Int}(hr:6≤r){L:List Int}(hL:B5 L){a:Int}(h:0≤a):aK r (X4 L a):=by
 have g:∀k:Int,0≤a+k→L2 r (G9 L (a+k))∧L2 r (V6 L (a+k)):=fun k hk=>⟨dX hr hL hk,kF hr hL hk⟩
 have e:∀k,L2 r (G9 L k)∨k<0:=fun k=>by
  rcases Int.lt_or_le k 0 with h|h
  ·exact .inr h
  ·exact .inl (dX hr hL h)
 have R:∀k,0≤k→L2 r (G9 L k):=fun k hk=>dX hr hL hk
 have V:∀k,0≤k→L2 r (V6 L k):=fun k hk=>kF hr hL hk
 unfold X4
 simp only
 (repeat' split)
 ·exact⟨R _ (by omega),Y3 r,Y3 r,Y3 r⟩
 ·exact⟨R _ (by omega),V _ (by omega),V _ (by omega),Y3 r⟩
 ·exact⟨R _ (by omega),V _ (by omega),Y3 r,Y3 r⟩
 ·exact⟨R _ (by omega),V _ (by omega),V _ (by omega),V _ (by omega)⟩
 ·exact⟨R _ (by omega),V _ (by omega),Y3 r,Y3 r⟩
 ·exact⟨R _ (by omega),Y3 r,Y3 r,Y3 r⟩
 ·exact⟨Y3 r,Y3 r,Y3 r,Y3 r⟩
theorem b1c{r:Int}(hr:6≤r){L:List Int}(hL:B5 L){k a n:Int}{d:H8}(h:0≤a)(hd:L2 r d):aK r (fV L k a n d):=by
 have R:∀k,0≤k→L2 r (G9 L k):=fun k hk=>dX hr hL hk
 have V:∀k,0≤k→L2 r (V6 L k):=fun k hk=>kF hr hL hk
 unfold fV
 (repeat' split)
 ·exact⟨Y3 r,hd,V _ (by omega),Y3 r⟩
 ·exact⟨R _ (by omega),hd,Y3 r,Y3 r⟩
 ·exact⟨Y3 r,hd,V _ (by omega),Y3 r⟩
theorem GS.place{S:MS}{T:Int}(h:GS S T)(pr:Bool):GS (S.place pr) T:=by
 have h0:=h.at_
 unfold MS.place
 refine GS.put (h.at (by omega)) ⟨dX h.re h.L (by omega),kF h.re h.L (by omega),b1Q _ _,Y3 _⟩
theorem GS.inst{S:MS}{T:Int}(h:GS S T):GS S.inst T:=by
 have h0:=h.at_
 have ha:0≤fU S.L S.at_:=by unfold fU;simp only;(repeat' split)<;>omega
 unfold MS.inst
 simp only
 split
 ·exact(h.at ha).put (b1b h.re h.L h0)
 ·have hp:=(h.at (a:=S.at_+1) (by omega)).place (decide (¬a8 S.L S.at_%16=12))
  have hpa:=hp.at_
  refine GS.put (hp.at ?_) (b1c h.re h.L hpa (dX h.re h.L (by omega)))
  split<;>omega
theorem GS.iter{S:MS}{T:Int}(h:GS S T):∀i,GS (S.iter i) T
 |0=>h
 |i+1=>(GS.iter h i).inst
theorem GS.j5{S:MS}{T:Int}(h:GS S T):GS S.j5 T:=(h.at (a:=S.at_+1) (by have:=h.at_;omega)).iter _
theorem a0T{r n b:Int}(h:0≤b∧b<n):W0 r n (Q8 b):=⟨Y3 r,Y3 r,Y3 r,fun _=>h,fun h=>by simp [Q8]at h,fun h=>by simp [Q8,O0]at h⟩
theorem oP{r n x y:Int}{a:H8}(ha:L2 r a)(hx:0≤x∧x<n)(hy:0≤y∧y<n):W0 r n (E5 a x y):=⟨Y3 r,ha,Y3 r,fun _=>hx,fun _=>hy,fun h=>by simp [E5,O0]at h⟩
theorem b5M{r n b:Int}(h:0≤b∧b<n):W0 r n (b0j b):=⟨Y3 r,Y3 r,Y3 r,fun _=>h,fun h=>by simp [b0j]at h,fun h=>by simp [b0j,O0]at h⟩
theorem b5O{r n b s:Int}{d x y:H8}(hd:L2 r d)(hx:L2 r x)(hy:L2 r y)(h:0≤b∧b<n):W0 r n (b0u s d x y b):=⟨hd,hx,hy,fun _=>h,fun h=>by simp [b0u]at h,fun _=>by simp [b0u]⟩
theorem b22{r n:Int}:W0 r n jA:=⟨Y3 r,Y3 r,Y3 r,fun h=>by simp [jA]at h,fun h=>by simp [jA]at h,fun h=>by simp [jA,O0]at h⟩
structure RI2 (S0 S:MS) (k:Nat):Prop where
 i:S.i= .nil
 t:S.t=T0
 re:S.re=S0.re
 lo:S.lo=S0.lo
 bs:S.bs.length=S0.bs.length+k
theorem a7y{S:MS}{last:Nat}(h:GS S (last+1))(hi:S.i= .nil)(ht:S.t=T0):∀k:Nat,S.bs.length+k≤last→GS (S.eL last k) (last+1)∧RI2 S (S.eL last k) k
 |0,_=>⟨h,⟨hi,ht,rfl,rfl,rfl⟩⟩
 |k+1,hk=>by
  obtain⟨g,r⟩:=a7y h hi ht k (by omega)
  show GS ((S.eL last k).fI last) _∧RI2 S ((S.eL last k).fI last) _
  generalize S.eL last k=Q at*
  have gi:=g.j5
  obtain⟨a,ii,e,e1,e2,e3⟩:=J9 Q g.L g.at_
  have hb:=r.bs
  have hil:Q.j5.i.l.length≤39:=by rw[e];rw[r.i]at e3;simp [j8.l]at e3⊢;omega
  have q1:Q.j5.re=Q.re∧Q.j5.lo=Q.lo∧Q.j5.bs=Q.bs:=by rw[e];exact⟨rfl,rfl,rfl⟩
  unfold MS.fI
  simp only
  generalize Q.j5=S1 at*
  have x1:=j6 gi.L (at_:=S1.at_+1+1) (by have:=gi.at_;omega)
  have x2:=j6 gi.L (at_:=S1.at_+1+1+1) (by have:=gi.at_;omega)
  have d1:∀x:Int,0≤x%((last:Int)-Q.bs.length)∧x%((last:Int)-Q.bs.length)<(last:Int)-Q.bs.length:=fun x=>⟨Int.emod_nonneg _ (by omega),Int.emod_lt_of_pos _ (by omega)⟩
  have y1:=d1 (a8 S1.L (S1.at_+1+1))
  have y2:=d1 (a8 S1.L (S1.at_+1+1+1))
  have ha:=gi.at_
  split
  ·refine⟨((gi.at (a:=S1.at_+1+1+1+1) (by omega)).term _).block (oP (dX gi.re gi.L (by omega)) (by omega) (by omega)) hil,⟨rfl,rfl,q1.1.trans r.re,q1.2.1.trans r.lo,?_⟩⟩
   show(S1.bs++[_]).length=_
   rw[q1.2.2,List.length_append,hb];rfl
  ·refine⟨((gi.at (a:=S1.at_+1) (by omega)).term _).block (a0T (by omega)) hil,⟨rfl,rfl,q1.1.trans r.re,q1.2.1.trans r.lo,?_⟩⟩
   show(S1.bs++[_]).length=_
   rw[q1.2.2,List.length_append,hb];rfl
structure GO (S:MS):Prop where
 g:GS S (S.bs.length+1)
 il:S.i.l.length≤9
 re:S.re=6+2*S.lo.l.length
theorem a7z{S:MS}(h:GS S (S.bs.length+1))(hi:S.i= .nil)(ht:S.t=T0)(hre:S.re=6+2*S.lo.l.length){n:Int}(hn:0≤n∧n≤2):GO (S.eM n)∧(S.eM n).t=T0∧(S.eM n).lo=S.lo∧(S.eM n).bs.length≤S.bs.length+2:=by
 unfold MS.eM
 obtain⟨k,rfl⟩:∃k:Nat,n=k:=⟨n.toNat,by omega⟩
 rw[show((S.bs.length:Int)+(k:Int))=((S.bs.length+k:Nat):Int) by omega,Int.toNat_natCast]
 obtain⟨g,r⟩:=a7y (S:=S) (last:=S.bs.length+k) (h.mono (by omega)) hi ht k (Nat.le_refl _)
 generalize S.eL ((S.bs.length+k:Nat):Int) k=Q at*
 obtain⟨a,ii,e,e1,e2,e3⟩:=J9 Q g.L g.at_
 have gi:=g.j5
 have hb:=r.bs
 have q:Q.j5.re=Q.re∧Q.j5.lo=Q.lo∧Q.j5.bs=Q.bs∧Q.j5.t=Q.t∧Q.j5.i=ii:=by rw[e];exact⟨rfl,rfl,rfl,rfl,rfl⟩
 rw[r.i]at e3
 simp [j8.l]at e3
 generalize Q.j5=S1 at*
 refine⟨⟨?_,?_,?_⟩,q.2.2.2.1.trans r.t,q.2.1.trans r.lo,?_⟩
 ·rw[q.2.2.1,hb];exact gi.mono (by omega)
 ·rw[q.2.2.2.2];simp only[j8.l];omega
 ·rw[q.1,q.2.1,r.re,r.lo];exact hre
 ·rw[q.2.2.1,hb];omega
theorem GO.region{S:MS}(h:GO S)(ht:W0 S.re (S.bs.length+2) S.t){n:Int}(hn:0≤n∧n≤2):GO (S.region n)∧(S.region n).t=T0∧(S.region n).lo=S.lo∧(S.region n).bs.length≤S.bs.length+3:=by
 have hb:S.block.bs.length=S.bs.length+1:=by simp [MS.block]
 have g:=(h.g.mono (T':=S.bs.length+2) (by omega)).block ht (by have:=h.il;omega)
 obtain⟨a,b,c,d⟩:=a7z (S:=S.block) (by rw[hb];exact g.mono (by omega)) rfl rfl h.re hn
 exact⟨a,b,c,by unfold MS.region;omega⟩
theorem a7c{S:MS}(h:GO S):GO S.loop.block∧S.loop.block.i= .nil∧S.loop.block.bs.length=S.bs.length+3∧S.loop.block.lo.l.length=S.lo.l.length+1:=by
 have hre:=h.g.re
 have hN:S.K7=S.re:=h.re.symm
 have ha:=h.g.at_
 have hil:=h.il
 have g1:GS S.V9 (S.bs.length+2):=by
  unfold MS.V9
  refine GS.block (T:=S.bs.length+2) ⟨h.g.L,by show 0≤S.at_+1;omega,by show 6≤S.K7+2;omega,?_,?_,h.g.ar⟩ (a0T (by unfold MS.cA;omega)) (by show(S.i.l++[_]).length≤39;rw[List.length_append];simp;omega)
  ·intro x hx
   have hx:x∈S.i.l++[li1 S.K7]:=hx
   show aK (S.K7+2) x
   rcases List.mem_append.1 hx with hx|hx
   ·exact(h.g.i x hx).mono (by omega)
   ·rw[List.mem_singleton.1 hx];exact⟨a3V (by omega),b1Q _ _,Y3 _,Y3 _⟩
  ·intro x hx
   exact(h.g.b x hx).mono (by show S.re≤S.K7+2;omega) (by omega)
 have b1:S.V9.bs.length=S.bs.length+1:=by simp [MS.V9,MS.block]
 have r1:S.V9.re=S.K7+2:=rfl
 have l1:S.V9.lo.l.length=S.lo.l.length+1:=by simp [MS.V9,MS.block,r6.l]
 have i1:S.V9.i= .nil:=rfl
 have H:S.cA=(S.bs.length:Int)+1:=by unfold MS.cA;omega
 have g2:GS (S.V9.gC S.cA S.K7 S.eJ) (S.bs.length+4):=by
  unfold MS.gC
  refine GS.block (T:=S.bs.length+4) ⟨g1.L,g1.at_,g1.re,?_,fun x hx=>(g1.b x hx).mono (Int.le_refl _) (by omega),g1.ar⟩ (oP (a3V (by show 0≤S.K7+1∧S.K7+1<S.V9.re;rw[r1];omega)) (by omega) (by omega)) (by show(S.V9.i.l++[_]).length≤39;rw[i1];simp [j8.l])
  intro x hx
  have hx:x∈S.V9.i.l++[li2 S.K7 S.eJ]:=hx
  rw[i1]at hx
  rw[List.mem_singleton.1 hx]
  show aK S.V9.re _
  rw[r1]
  exact⟨a3V (by omega),a3V (by omega),b1Q _ _,Y3 _⟩
 have b2:(S.V9.gC S.cA S.K7 S.eJ).bs.length=S.bs.length+2:=by
  show(S.V9.bs++[_]).length=_
  rw[List.length_append,b1];rfl
 have r2:(S.V9.gC S.cA S.K7 S.eJ).re=S.K7+2:=rfl
 have l2:(S.V9.gC S.cA S.K7 S.eJ).lo=S.V9.lo:=rfl
 have i2:(S.V9.gC S.cA S.K7 S.eJ).i= .nil:=rfl
 unfold MS.loop MS.uH
 generalize S.V9.gC S.cA S.K7 S.eJ=Q2 at*
 have gp:GS (Q2.put (kU S.K7)) (S.bs.length+4):=g2.put (by rw[r2];exact⟨a3V (by omega),a3V (by omega),b1Q _ _,Y3 _⟩)
 obtain⟨a,ii,e,e1,e2,e3⟩:=J9 (Q2.put (kU S.K7)) gp.L gp.at_
 have g3:=gp.j5
 have i3:(Q2.put (kU S.K7)).i.l.length=1:=by simp [MS.put,i2,j8.l]
 have q:(Q2.put (kU S.K7)).j5.re=Q2.re∧(Q2.put (kU S.K7)).j5.lo=Q2.lo∧(Q2.put (kU S.K7)).j5.bs=Q2.bs∧(Q2.put (kU S.K7)).j5.i=ii:=by rw[e];exact⟨rfl,rfl,rfl,rfl⟩
 generalize (Q2.put (kU S.K7)).j5=Q3 at*
 have h3:=g3.at_
 have hl3:Q3.i.l.length≤39:=by rw[q.2.2.2];omega
 have key:∀Q4:MS,GS Q4 (S.bs.length+4)→Q4.re=Q3.re→Q4.lo=Q3.lo→Q4.bs=Q3.bs→Q4.i=Q3.i→W0 Q4.re (S.bs.length+4) Q4.t→GO Q4.block∧Q4.block.i= .nil∧Q4.block.bs.length=S.bs.length+3∧Q4.block.lo.l.length=S.lo.l.length+1:=by
  intro Q4 g4 hr hlo hbs hi ht
  have hb:Q4.block.bs.length=S.bs.length+3:=by
   show(Q4.bs++[_]).length=_
   rw[List.length_append,hbs,q.2.2.1,b2];rfl
  have hll:Q4.block.lo.l.length=S.lo.l.length+1:=by
   show Q4.lo.l.length=_
   rw[hlo,q.2.1,l2,l1]
  refine⟨⟨?_,by simp [MS.block,j8.l],?_⟩,rfl,hb,hll⟩
  ·rw[hb];exact(g4.block ht (by rw[hi];exact hl3)).mono (by omega)
  ·rw[hll]
   show Q4.re=_
   rw[hr,q.1,r2,hN,h.re];omega
 unfold MS.uI
 split
 ·exact key _ ((g3.at (a:=Q3.at_+1+1) (by omega)).term _) rfl rfl rfl rfl (oP (dX g3.re g3.L (by omega)) (by omega) (by omega))
 ·exact key _ ((g3.at (a:=Q3.at_+1) (by omega)).term _) rfl rfl rfl rfl (a0T (by omega))
theorem GO.at{S:MS}(h:GO S){a:Int}(ha:0≤a):GO {S with at_:=a}:=⟨h.g.at ha,h.il,h.re⟩
theorem GO.next{S:MS}(h:GO S):GO {S with at_:=S.at_+1}:=h.at (by have:=h.g.at_;omega)
theorem b2g{S:MS}(h:GO S):GO S.iJ∧S.iJ.bs.length≤S.bs.length+3∧S.iJ.lo.l.length≤S.lo.l.length+1:=by
 unfold MS.iJ
 split
 ·obtain⟨a,_,b,c⟩:=a7c h.next
  exact⟨a,by rw[b];exact Nat.le_refl _,by rw[c];exact Nat.le_refl _⟩
 ·exact⟨h.next,by show S.bs.length≤_;omega,by show S.lo.l.length≤_;omega⟩
theorem b2h{S:MS}(h:GO S):GO S.fC∧S.fC.bs=S.bs∧S.fC.lo=S.lo∧W0 S.fC.re (S.fC.bs.length+2) S.fC.t:=by
 have ha:=h.g.at_
 unfold MS.fC
 split
 ·refine⟨⟨(h.g.at (a:=S.at_+1+1+1+1+1) (by omega)).term _,h.il,h.re⟩,rfl,rfl,?_⟩
  exact b5O (dX h.g.re h.g.L (by omega)) (kF h.g.re h.g.L (by omega)) (kF h.g.re h.g.L (by omega)) (by show(0:Int)≤S.bs.length+1∧(S.bs.length:Int)+1<S.bs.length+2;omega)
 ·refine⟨⟨(h.g.at (a:=S.at_+1) (by omega)).term _,h.il,h.re⟩,rfl,rfl,?_⟩
  exact b5M (by show(0:Int)≤S.bs.length+1∧(S.bs.length:Int)+1<S.bs.length+2;omega)
structure GR (S:MS) (i:Nat):Prop where
 g:GO S
 t:0<i→W0 S.re (S.bs.length+2) S.t
 b:0<i→S.bs.length+1≤6*i
 lo:S.lo.l.length≤i
 z:i=0→S.bs=[]∧S.i= .nil∧S.t=T0
theorem vT{S:MS}{i:Nat}(h:GR S i){n:Int}(hn:0≤n∧n≤2):GO (bB (decide (0<i)) {S with at_:=S.at_+1} n)∧(bB (decide (0<i)) {S with at_:=S.at_+1} n).lo=S.lo∧
  (bB (decide (0<i)) {S with at_:=S.at_+1} n).bs.length+1≤6*i+3:=by
 have hg:=h.g.next
 unfold bB
 by_cases hi:0<i
 ·rw[if_pos (by simpa using hi)]
  obtain⟨a,_,b,c⟩:=hg.region (h.t hi) hn
  have:=h.b hi
  exact⟨a,b,by have c:_≤S.bs.length+3:=c;omega⟩
 ·rw[if_neg (by simpa using hi)]
  obtain⟨z1,z2,z3⟩:=h.z (by omega)
  obtain⟨a,_,b,c⟩:=a7z hg.g z2 z3 hg.re hn
  have c:_≤S.bs.length+2:=c
  have z0:S.bs.length=0:=by rw[z1];rfl
  exact⟨a,b,by omega⟩
theorem b58{S:MS}{i:Nat}(h:GR S i):GR (rnd (decide (0<i)) S) (i+1):=by
 have hx:=j6 h.g.g.L h.g.g.at_
 obtain⟨a1,a2,a3⟩:=vT h (n:=a8 S.L S.at_%3) (by omega)
 unfold rnd
 generalize bB (decide (0<i)) {S with at_:=S.at_+1} (a8 S.L S.at_%3)=Q at*
 obtain⟨b1,b2,b3⟩:=b2g a1
 obtain⟨c1,c2,c3,c4⟩:=b2h b1
 have hl:=h.lo
 refine⟨c1,fun _=>c4,fun _=>?_,?_,fun h=>by omega⟩
 ·rw[c2];omega
 ·rw[c3];rw[a2]at b3;omega
theorem b1z(L:List Int)(hL:B5 L):GR (X5 L) 0:=by
 refine⟨⟨⟨hL,by show(0:Int)≤3;omega,by show(6:Int)≤6;omega,fun x hx=>?_,fun x hx=>?_,rfl,rfl⟩,?_,?_⟩,fun h=>by omega,fun h=>by omega,?_,fun _=>⟨rfl,rfl,rfl⟩⟩
 ·simp [X5,j8.l]at hx
 ·simp [X5]at hx
 ·simp [X5,j8.l]
 ·simp [X5,r6.l]
 ·simp [X5,r6.l]
theorem a7C(L:List Int)(hL:B5 L):∀i,GR (iO (X5 L) i) i
 |0=>b1z L hL
 |i+1=>b58 (a7C L hL i)
theorem b5R{S:MS}{i:Nat}(h:GR S i)(hi:i≤2):C8 (fin (decide (0<i)) S).code∧(fin (decide (0<i)) S).code.regs≤12∧(∀b∈(fin (decide (0<i)) S).code.b,b.i.length≤39)∧(fin (decide (0<i)) S).code.o0=dN∧(fin (decide (0<i)) S).code.loops.length≤3∧(fin (decide (0<i)) S).code.I2=0:=by
 have hx:=j6 h.g.g.L h.g.g.at_
 obtain⟨a1,a2,a3⟩:=vT h (n:=a8 S.L S.at_%3) (by omega)
 have hl:=h.lo
 unfold fin
 generalize bB (decide (0<i)) {S with at_:=S.at_+1} (a8 S.L S.at_%3)=Q at*
 have key:GS Q.iK (Q.iK.bs.length+1)∧Q.iK.i.l.length≤39∧Q.iK.re≤12∧Q.iK.bs.length+1≤18∧Q.iK.lo.l.length≤3:=by
  unfold MS.iK
  split
  ·obtain⟨b1,b2,b3,b4⟩:=a7c a1.next
   have hre:=b1.re
   generalize (MS.loop {Q with at_:=Q.at_+1}).block=Q2 at*
   obtain⟨a,ii,e,e1,e2,e3⟩:=J9 Q2 b1.g.L b1.g.at_
   have gi:=b1.g.j5
   have q:Q2.j5.re=Q2.re∧Q2.j5.bs=Q2.bs∧Q2.j5.i=ii:=by rw[e];exact⟨rfl,rfl,rfl⟩
   rw[b2]at e3
   have e3:ii.l.length≤0+8:=e3
   have b3:Q2.bs.length=Q.bs.length+3:=b3
   have b4:Q2.lo.l.length=Q.lo.l.length+1:=b4
   rw[a2]at b4
   exact⟨by rw[q.2.1];exact gi,by rw[q.2.2];omega,by rw[q.1];omega,by rw[q.2.1];omega,by rw[show Q2.j5.lo=Q2.lo by rw[e]];omega⟩
  ·have g:=a1.next
   have hre:=g.re
   have hre:Q.re=6+2*Q.lo.l.length:=hre
   rw[a2]at hre
   exact⟨g.g,by have:=g.il;omega,by show Q.re≤12;omega,by show Q.bs.length+1≤18;omega,by show Q.lo.l.length≤3;rw[a2];omega⟩
 generalize Q.iK=Q3 at*
 obtain⟨k1,k2,k3,k4,k5⟩:=key
 have hlen:(MS.code {Q3 with t:=jA}).b.length=Q3.bs.length+1:=by simp [MS.code]
 refine⟨⟨by rw[hlen];omega,⟨by show 0≤Q3.re;have:=k1.re;omega,by show Q3.re≤16;omega⟩,fun x hx=>?_⟩,k3,fun x hx=>?_,k1.ar.1,k5,k1.ar.2⟩
 rw[hlen]
 have hx:x∈Q3.bs++[⟨Q3.i.l,jA⟩]:=hx
 rcases List.mem_append.1 hx with hx|hx
 ·exact((k1.b x hx).mono (Int.le_refl _) (by omega)).ok
 ·rw[List.mem_singleton.1 hx];exact⟨k1.i,b22,Nat.le_trans k2 (by decide)⟩
 ·have hx:x∈Q3.bs++[⟨Q3.i.l,jA⟩]:=hx
  rcases List.mem_append.1 hx with hx|hx
  ·exact(k1.b x hx).l
  ·rw[List.mem_singleton.1 hx];exact k2
theorem b1B(L:List Int)(hL:B5 L):C8 (nH L)∧(nH L).regs≤12∧(∀b∈(nH L).b,b.i.length≤39)∧(nH L).o0=dN∧(nH L).loops.length≤3:=by
 have hx:=j6 hL (at_:=2) (by omega)
 obtain⟨a,b,c,d,e,_⟩:=b5R (a7C L hL (a7e L)) (by unfold a7e;omega)
 exact⟨a,b,c,d,e⟩
end Go.Proofs.YtgdoiokalfhjoaaDoor
end
