/- Own work (by an AI agent; no person has read it): part of a proof of the seat YtgdoiokalfhjoaaGreatDoor. -/
import Derived.Test.YtgdoiokalfhjoaaGreatDoorYh
import Derived.Test.YtgdoiokalfhjoaaGreatDoorYbb
set_option linter.unusedSimpArgs false
set_option linter.unusedVariables false
section
namespace Go.Proofs.YtgdoiokalfhjoaaGreatDoor
open Go.Ab
def sJ(r:Int)(l:List e7):Prop:=∀x∈l,aM r x
theorem H7.mono{r r':Int}{o:E3}(h:H7 r o)(hr:r≤r'):H7 r' o:=fun hk=>by have:=h hk;omega
theorem aM.mono{r r':Int}{x:e7}(h:aM r x)(hr:r≤r'):aM r' x:=⟨h.d.mono hr,h.a.mono hr,h.b.mono hr,h.c.mono hr⟩
theorem sJ.mono{r r':Int}{l:List e7}(h:sJ r l)(hr:r≤r'):sJ r' l:=fun x hx=>(h x hx).mono hr
theorem V8.mono{r r' n n':Int}{t:q9}(h:V8 r n t)(hr:r≤r')(hn:n≤n'):V8 r' n' t:=⟨h.d.mono hr,h.a.mono hr,h.b.mono hr,fun hk=>by have:=h.to hk;omega,fun hk=>by have:=h.to1 hk;omega,h.dk⟩
theorem bS.mono{r r' n n':Int}{b:b6}(h:bS r n b)(hr:r≤r')(hn:n≤n'):bS r' n' b:=⟨fun x hx=>(h.i x hx).mono hr,h.t.mono hr hn,h.l⟩
theorem X8(r:Int):H7 r O0:=fun h=>by simp [O0]at h
theorem b7D(r v:Int):H7 r (A3 v):=fun h=>by simp [A3]at h
theorem a8s{r n:Int}(h:0≤n∧n<r):H7 r (L7 n):=fun _=>h
theorem eG{r:Int}(hr:6≤r){L:List Int}(hL:y9 L){a:Int}(h:0≤a):H7 r (E7 L a):=by
 have:=j0 hL h
 exact a8s (by omega)
theorem kV{r:Int}(hr:6≤r){L:List Int}(hL:y9 L){a:Int}(h:0≤a):H7 r (V5 L a):=by
 have:=j0 hL h
 unfold V5
 split
 ·exact b7D r _
 ·exact a8s (by omega)
structure a3D (r n:Int) (b:b6):Prop where
 ok:bS r n b
 l:b.i.length≤39
theorem a3D.mono{r r' n n':Int}{b:b6}(h:a3D r n b)(hr:r≤r')(hn:n≤n'):a3D r' n' b:=⟨h.ok.mono hr hn,h.l⟩
structure GS (S:MS) (T:Int):Prop where
 L:y9 S.L
 at_:0≤S.at_
 re:6≤S.re
 i:sJ S.re S.i.l
 b:∀x∈S.bs,a3D S.re T x
 ar:S.ar=dV∧S.sl=0
theorem GS.mono{S:MS}{T T':Int}(h:GS S T)(hT:T≤T'):GS S T':=⟨h.L,h.at_,h.re,h.i,fun x hx=>(h.b x hx).mono (Int.le_refl _) hT,h.ar⟩
theorem GS.at{S:MS}{T:Int}(h:GS S T){a:Int}(ha:0≤a):GS {S with at_:=a} T:=⟨h.L,ha,h.re,h.i,h.b,h.ar⟩
theorem GS.term{S:MS}{T:Int}(h:GS S T)(t:q9):GS {S with t:=t} T:=⟨h.L,h.at_,h.re,h.i,h.b,h.ar⟩
theorem GS.put{S:MS}{T:Int}(h:GS S T){x:e7}(hx:aM S.re x):GS (S.put x) T:=by
 refine⟨h.L,h.at_,h.re,fun y hy=>?_,h.b,h.ar⟩
 have hy:y∈S.i.l++[x]:=hy
 rcases List.mem_append.1 hy with hy|hy
 ·exact h.i y hy
 ·rw[List.mem_singleton.1 hy];exact hx
theorem GS.block{S:MS}{T:Int}(h:GS S T)(ht:V8 S.re T S.t)(hl:S.i.l.length≤39):GS S.block T:=by
 refine⟨h.L,h.at_,h.re,fun y hy=>?_,fun x hx=>?_,h.ar⟩
 ·simp [MS.block,j4.l]at hy
 ·have hx:x∈S.bs++[⟨S.i.l,S.t⟩]:=hx
  rcases List.mem_append.1 hx with hx|hx
  ·exact h.b x hx
  ·rw[List.mem_singleton.1 hx];exact⟨⟨h.i,ht,Nat.le_trans hl (by decide)⟩,hl⟩
theorem b6W{r:Int}(hr:6≤r){L:List Int}(hL:y9 L){a:Int}(h:0≤a):aM r (W9 L a):=by
 have g:∀k:Int,0≤a+k→H7 r (E7 L (a+k))∧H7 r (V5 L (a+k)):=fun k hk=>⟨eG hr hL hk,kV hr hL hk⟩
 have e:∀k,H7 r (E7 L k)∨k<0:=fun k=>by
  rcases Int.lt_or_le k 0 with h|h
  ·exact .inr h
  ·exact .inl (eG hr hL h)
 have R:∀k,0≤k→H7 r (E7 L k):=fun k hk=>eG hr hL hk
 have V:∀k,0≤k→H7 r (V5 L k):=fun k hk=>kV hr hL hk
 unfold W9
 simp only
 (repeat' split)
 ·exact⟨R _ (by omega),X8 r,X8 r,X8 r⟩
 ·exact⟨R _ (by omega),V _ (by omega),V _ (by omega),X8 r⟩
 ·exact⟨R _ (by omega),V _ (by omega),X8 r,X8 r⟩
 ·exact⟨R _ (by omega),V _ (by omega),V _ (by omega),V _ (by omega)⟩
 ·exact⟨R _ (by omega),V _ (by omega),X8 r,X8 r⟩
 ·exact⟨R _ (by omega),X8 r,X8 r,X8 r⟩
 ·exact⟨X8 r,X8 r,X8 r,X8 r⟩
theorem b6X{r:Int}(hr:6≤r){L:List Int}(hL:y9 L){k a n:Int}{d:E3}(h:0≤a)(hd:H7 r d):aM r (gR L k a n d):=by
 have R:∀k,0≤k→H7 r (E7 L k):=fun k hk=>eG hr hL hk
 have V:∀k,0≤k→H7 r (V5 L k):=fun k hk=>kV hr hL hk
 unfold gR
 (repeat' split)
 ·exact⟨X8 r,hd,V _ (by omega),X8 r⟩
 ·exact⟨R _ (by omega),hd,X8 r,X8 r⟩
 ·exact⟨X8 r,hd,V _ (by omega),X8 r⟩
theorem GS.place{S:MS}{T:Int}(h:GS S T)(pr:Bool):GS (S.place pr) T:=by
 have h0:=h.at_
 unfold MS.place
 refine GS.put (h.at (by omega)) ⟨eG h.re h.L (by omega),kV h.re h.L (by omega),b7D _ _,X8 _⟩
theorem GS.inst{S:MS}{T:Int}(h:GS S T):GS S.inst T:=by
 have h0:=h.at_
 have ha:0≤gQ S.L S.at_:=by unfold gQ;simp only;(repeat' split)<;>omega
 unfold MS.inst
 simp only
 split
 ·exact(h.at ha).put (b6W h.re h.L h0)
 ·have hp:=(h.at (a:=S.at_+1) (by omega)).place (decide (¬a7 S.L S.at_%16=12))
  have hpa:=hp.at_
  refine GS.put (hp.at ?_) (b6X h.re h.L hpa (eG h.re h.L (by omega)))
  split<;>omega
theorem GS.iter{S:MS}{T:Int}(h:GS S T):∀i,GS (S.iter i) T
 |0=>h
 |i+1=>(GS.iter h i).inst
theorem GS.c6{S:MS}{T:Int}(h:GS S T):GS S.c6 T:=(h.at (a:=S.at_+1) (by have:=h.at_;omega)).iter _
theorem a39{r n b:Int}(h:0≤b∧b<n):V8 r n (O6 b):=⟨X8 r,X8 r,X8 r,fun _=>h,fun h=>by simp [O6]at h,fun h=>by simp [O6,O0]at h⟩
theorem pB{r n x y:Int}{a:E3}(ha:H7 r a)(hx:0≤x∧x<n)(hy:0≤y∧y<n):V8 r n (D6 a x y):=⟨X8 r,ha,X8 r,fun _=>hx,fun _=>hy,fun h=>by simp [D6,O0]at h⟩
theorem c3K{r n b:Int}(h:0≤b∧b<n):V8 r n (b5Z b):=⟨X8 r,X8 r,X8 r,fun _=>h,fun h=>by simp [b5Z]at h,fun h=>by simp [b5Z,O0]at h⟩
theorem c3M{r n b s:Int}{d x y:E3}(hd:H7 r d)(hx:H7 r x)(hy:H7 r y)(h:0≤b∧b<n):V8 r n (b6f s d x y b):=⟨hd,hx,hy,fun _=>h,fun h=>by simp [b6f]at h,fun _=>by simp [b6f]⟩
theorem c0v{r n:Int}:V8 r n jS:=⟨X8 r,X8 r,X8 r,fun h=>by simp [jS]at h,fun h=>by simp [jS]at h,fun h=>by simp [jS,O0]at h⟩
structure RI2 (S0 S:MS) (k:Nat):Prop where
 i:S.i= .nil
 t:S.t=Q6
 re:S.re=S0.re
 lo:S.lo=S0.lo
 bs:S.bs.length=S0.bs.length+k
theorem b2r{S:MS}{last:Nat}(h:GS S (last+1))(hi:S.i= .nil)(ht:S.t=Q6):∀k:Nat,S.bs.length+k≤last→GS (S.fC last k) (last+1)∧RI2 S (S.fC last k) k
 |0,_=>⟨h,⟨hi,ht,rfl,rfl,rfl⟩⟩
 |k+1,hk=>by
  obtain⟨g,r⟩:=b2r h hi ht k (by omega)
  show GS ((S.fC last k).fZ last) _∧RI2 S ((S.fC last k).fZ last) _
  generalize S.fC last k=Q at*
  have gi:=g.c6
  obtain⟨a,ii,e,e1,e2,e3⟩:=H2 Q g.L g.at_
  have hb:=r.bs
  have hil:Q.c6.i.l.length≤39:=by rw[e];rw[r.i]at e3;simp [j4.l]at e3⊢;omega
  have q1:Q.c6.re=Q.re∧Q.c6.lo=Q.lo∧Q.c6.bs=Q.bs:=by rw[e];exact⟨rfl,rfl,rfl⟩
  unfold MS.fZ
  simp only
  generalize Q.c6=S1 at*
  have x1:=j0 gi.L (at_:=S1.at_+1+1) (by have:=gi.at_;omega)
  have x2:=j0 gi.L (at_:=S1.at_+1+1+1) (by have:=gi.at_;omega)
  have d1:∀x:Int,0≤x%((last:Int)-Q.bs.length)∧x%((last:Int)-Q.bs.length)<(last:Int)-Q.bs.length:=fun x=>⟨Int.emod_nonneg _ (by omega),Int.emod_lt_of_pos _ (by omega)⟩
  have y1:=d1 (a7 S1.L (S1.at_+1+1))
  have y2:=d1 (a7 S1.L (S1.at_+1+1+1))
  have ha:=gi.at_
  split
  ·refine⟨((gi.at (a:=S1.at_+1+1+1+1) (by omega)).term _).block (pB (eG gi.re gi.L (by omega)) (by omega) (by omega)) hil,⟨rfl,rfl,q1.1.trans r.re,q1.2.1.trans r.lo,?_⟩⟩
   show(S1.bs++[_]).length=_
   rw[q1.2.2,List.length_append,hb];rfl
  ·refine⟨((gi.at (a:=S1.at_+1) (by omega)).term _).block (a39 (by omega)) hil,⟨rfl,rfl,q1.1.trans r.re,q1.2.1.trans r.lo,?_⟩⟩
   show(S1.bs++[_]).length=_
   rw[q1.2.2,List.length_append,hb];rfl
structure GO (S:MS):Prop where
 g:GS S (S.bs.length+1)
 il:S.i.l.length≤9
 re:S.re=6+2*S.lo.l.length
theorem b2s{S:MS}(h:GS S (S.bs.length+1))(hi:S.i= .nil)(ht:S.t=Q6)(hre:S.re=6+2*S.lo.l.length){n:Int}(hn:0≤n∧n≤2):GO (S.fD n)∧(S.fD n).t=Q6∧(S.fD n).lo=S.lo∧(S.fD n).bs.length≤S.bs.length+2:=by
 unfold MS.fD
 obtain⟨k,rfl⟩:∃k:Nat,n=k:=⟨n.toNat,by omega⟩
 rw[show((S.bs.length:Int)+(k:Int))=((S.bs.length+k:Nat):Int) by omega,Int.toNat_natCast]
 obtain⟨g,r⟩:=b2r (S:=S) (last:=S.bs.length+k) (h.mono (by omega)) hi ht k (Nat.le_refl _)
 generalize S.fC ((S.bs.length+k:Nat):Int) k=Q at*
 obtain⟨a,ii,e,e1,e2,e3⟩:=H2 Q g.L g.at_
 have gi:=g.c6
 have hb:=r.bs
 have q:Q.c6.re=Q.re∧Q.c6.lo=Q.lo∧Q.c6.bs=Q.bs∧Q.c6.t=Q.t∧Q.c6.i=ii:=by rw[e];exact⟨rfl,rfl,rfl,rfl,rfl⟩
 rw[r.i]at e3
 simp [j4.l]at e3
 generalize Q.c6=S1 at*
 refine⟨⟨?_,?_,?_⟩,q.2.2.2.1.trans r.t,q.2.1.trans r.lo,?_⟩
 ·rw[q.2.2.1,hb];exact gi.mono (by omega)
 ·rw[q.2.2.2.2];simp only[j4.l];omega
 ·rw[q.1,q.2.1,r.re,r.lo];exact hre
 ·rw[q.2.2.1,hb];omega
theorem GO.region{S:MS}(h:GO S)(ht:V8 S.re (S.bs.length+2) S.t){n:Int}(hn:0≤n∧n≤2):GO (S.region n)∧(S.region n).t=Q6∧(S.region n).lo=S.lo∧(S.region n).bs.length≤S.bs.length+3:=by
 have hb:S.block.bs.length=S.bs.length+1:=by simp [MS.block]
 have g:=(h.g.mono (T':=S.bs.length+2) (by omega)).block ht (by have:=h.il;omega)
 obtain⟨a,b,c,d⟩:=b2s (S:=S.block) (by rw[hb];exact g.mono (by omega)) rfl rfl h.re hn
 exact⟨a,b,c,by unfold MS.region;omega⟩
theorem b14{S:MS}(h:GO S):GO S.loop.block∧S.loop.block.i= .nil∧S.loop.block.bs.length=S.bs.length+3∧S.loop.block.lo.l.length=S.lo.l.length+1:=by
 have hre:=h.g.re
 have hN:S.H6=S.re:=h.re.symm
 have ha:=h.g.at_
 have hil:=h.il
 have g1:GS S.V7 (S.bs.length+2):=by
  unfold MS.V7
  refine GS.block (T:=S.bs.length+2) ⟨h.g.L,by show 0≤S.at_+1;omega,by show 6≤S.H6+2;omega,?_,?_,h.g.ar⟩ (a39 (by unfold MS.cD;omega)) (by show(S.i.l++[_]).length≤39;rw[List.length_append];simp;omega)
  ·intro x hx
   have hx:x∈S.i.l++[li1 S.H6]:=hx
   show aM (S.H6+2) x
   rcases List.mem_append.1 hx with hx|hx
   ·exact(h.g.i x hx).mono (by omega)
   ·rw[List.mem_singleton.1 hx];exact⟨a8s (by omega),b7D _ _,X8 _,X8 _⟩
  ·intro x hx
   exact(h.g.b x hx).mono (by show S.re≤S.H6+2;omega) (by omega)
 have b1:S.V7.bs.length=S.bs.length+1:=by simp [MS.V7,MS.block]
 have r1:S.V7.re=S.H6+2:=rfl
 have l1:S.V7.lo.l.length=S.lo.l.length+1:=by simp [MS.V7,MS.block,r9.l]
 have i1:S.V7.i= .nil:=rfl
 have H:S.cD=(S.bs.length:Int)+1:=by unfold MS.cD;omega
 have g2:GS (S.V7.gU S.cD S.H6 S.eZ) (S.bs.length+4):=by
  unfold MS.gU
  refine GS.block (T:=S.bs.length+4) ⟨g1.L,g1.at_,g1.re,?_,fun x hx=>(g1.b x hx).mono (Int.le_refl _) (by omega),g1.ar⟩ (pB (a8s (by show 0≤S.H6+1∧S.H6+1<S.V7.re;rw[r1];omega)) (by omega) (by omega)) (by show(S.V7.i.l++[_]).length≤39;rw[i1];simp [j4.l])
  intro x hx
  have hx:x∈S.V7.i.l++[li2 S.H6 S.eZ]:=hx
  rw[i1]at hx
  rw[List.mem_singleton.1 hx]
  show aM S.V7.re _
  rw[r1]
  exact⟨a8s (by omega),a8s (by omega),b7D _ _,X8 _⟩
 have b2:(S.V7.gU S.cD S.H6 S.eZ).bs.length=S.bs.length+2:=by
  show(S.V7.bs++[_]).length=_
  rw[List.length_append,b1];rfl
 have r2:(S.V7.gU S.cD S.H6 S.eZ).re=S.H6+2:=rfl
 have l2:(S.V7.gU S.cD S.H6 S.eZ).lo=S.V7.lo:=rfl
 have i2:(S.V7.gU S.cD S.H6 S.eZ).i= .nil:=rfl
 unfold MS.loop MS.xS
 generalize S.V7.gU S.cD S.H6 S.eZ=Q2 at*
 have gp:GS (Q2.put (lK S.H6)) (S.bs.length+4):=g2.put (by rw[r2];exact⟨a8s (by omega),a8s (by omega),b7D _ _,X8 _⟩)
 obtain⟨a,ii,e,e1,e2,e3⟩:=H2 (Q2.put (lK S.H6)) gp.L gp.at_
 have g3:=gp.c6
 have i3:(Q2.put (lK S.H6)).i.l.length=1:=by simp [MS.put,i2,j4.l]
 have q:(Q2.put (lK S.H6)).c6.re=Q2.re∧(Q2.put (lK S.H6)).c6.lo=Q2.lo∧(Q2.put (lK S.H6)).c6.bs=Q2.bs∧(Q2.put (lK S.H6)).c6.i=ii:=by rw[e];exact⟨rfl,rfl,rfl,rfl⟩
 generalize (Q2.put (lK S.H6)).c6=Q3 at*
 have h3:=g3.at_
 have hl3:Q3.i.l.length≤39:=by rw[q.2.2.2];omega
 have key:∀Q4:MS,GS Q4 (S.bs.length+4)→Q4.re=Q3.re→Q4.lo=Q3.lo→Q4.bs=Q3.bs→Q4.i=Q3.i→V8 Q4.re (S.bs.length+4) Q4.t→GO Q4.block∧Q4.block.i= .nil∧Q4.block.bs.length=S.bs.length+3∧Q4.block.lo.l.length=S.lo.l.length+1:=by
  intro Q4 g4 hr hlo hbs hi ht
  have hb:Q4.block.bs.length=S.bs.length+3:=by
   show(Q4.bs++[_]).length=_
   rw[List.length_append,hbs,q.2.2.1,b2];rfl
  have hll:Q4.block.lo.l.length=S.lo.l.length+1:=by
   show Q4.lo.l.length=_
   rw[hlo,q.2.1,l2,l1]
  refine⟨⟨?_,by simp [MS.block,j4.l],?_⟩,rfl,hb,hll⟩
  ·rw[hb];exact(g4.block ht (by rw[hi];exact hl3)).mono (by omega)
  ·rw[hll]
   show Q4.re=_
   rw[hr,q.1,r2,hN,h.re];omega
 unfold MS.xT
 split
 ·exact key _ ((g3.at (a:=Q3.at_+1+1) (by omega)).term _) rfl rfl rfl rfl (pB (eG g3.re g3.L (by omega)) (by omega) (by omega))
 ·exact key _ ((g3.at (a:=Q3.at_+1) (by omega)).term _) rfl rfl rfl rfl (a39 (by omega))
theorem GO.at{S:MS}(h:GO S){a:Int}(ha:0≤a):GO {S with at_:=a}:=⟨h.g.at ha,h.il,h.re⟩
theorem GO.next{S:MS}(h:GO S):GO {S with at_:=S.at_+1}:=h.at (by have:=h.g.at_;omega)
theorem b78{S:MS}(h:GO S):GO S.jC∧S.jC.bs.length≤S.bs.length+3∧S.jC.lo.l.length≤S.lo.l.length+1:=by
 unfold MS.jC
 split
 ·obtain⟨a,_,b,c⟩:=b14 h.next
  exact⟨a,by rw[b];exact Nat.le_refl _,by rw[c];exact Nat.le_refl _⟩
 ·exact⟨h.next,by show S.bs.length≤_;omega,by show S.lo.l.length≤_;omega⟩
theorem b79{S:MS}(h:GO S):GO S.fU∧S.fU.bs=S.bs∧S.fU.lo=S.lo∧V8 S.fU.re (S.fU.bs.length+2) S.fU.t:=by
 have ha:=h.g.at_
 unfold MS.fU
 split
 ·refine⟨⟨(h.g.at (a:=S.at_+1+1+1+1+1) (by omega)).term _,h.il,h.re⟩,rfl,rfl,?_⟩
  exact c3M (eG h.g.re h.g.L (by omega)) (kV h.g.re h.g.L (by omega)) (kV h.g.re h.g.L (by omega)) (by show(0:Int)≤S.bs.length+1∧(S.bs.length:Int)+1<S.bs.length+2;omega)
 ·refine⟨⟨(h.g.at (a:=S.at_+1) (by omega)).term _,h.il,h.re⟩,rfl,rfl,?_⟩
  exact c3K (by show(0:Int)≤S.bs.length+1∧(S.bs.length:Int)+1<S.bs.length+2;omega)
structure GR (S:MS) (i:Nat):Prop where
 g:GO S
 t:0<i→V8 S.re (S.bs.length+2) S.t
 b:0<i→S.bs.length+1≤6*i
 lo:S.lo.l.length≤i
 z:i=0→S.bs=[]∧S.i= .nil∧S.t=Q6
theorem zH{S:MS}{i:Nat}(h:GR S i){n:Int}(hn:0≤n∧n≤2):GO (bD (decide (0<i)) {S with at_:=S.at_+1} n)∧(bD (decide (0<i)) {S with at_:=S.at_+1} n).lo=S.lo∧
  (bD (decide (0<i)) {S with at_:=S.at_+1} n).bs.length+1≤6*i+3:=by
 have hg:=h.g.next
 unfold bD
 by_cases hi:0<i
 ·rw[if_pos (by simpa using hi)]
  obtain⟨a,_,b,c⟩:=hg.region (h.t hi) hn
  have:=h.b hi
  exact⟨a,b,by have c:_≤S.bs.length+3:=c;omega⟩
 ·rw[if_neg (by simpa using hi)]
  obtain⟨z1,z2,z3⟩:=h.z (by omega)
  obtain⟨a,_,b,c⟩:=b2s hg.g z2 z3 hg.re hn
  have c:_≤S.bs.length+2:=c
  have z0:S.bs.length=0:=by rw[z1];rfl
  exact⟨a,b,by omega⟩
theorem c4d{S:MS}{i:Nat}(h:GR S i):GR (rnd (decide (0<i)) S) (i+1):=by
 have hx:=j0 h.g.g.L h.g.g.at_
 obtain⟨a1,a2,a3⟩:=zH h (n:=a7 S.L S.at_%3) (by omega)
 unfold rnd
 generalize bD (decide (0<i)) {S with at_:=S.at_+1} (a7 S.L S.at_%3)=Q at*
 obtain⟨b1,b2,b3⟩:=b78 a1
 obtain⟨c1,c2,c3,c4⟩:=b79 b1
 have hl:=h.lo
 refine⟨c1,fun _=>c4,fun _=>?_,?_,fun h=>by omega⟩
 ·rw[c2];omega
 ·rw[c3];rw[a2]at b3;omega
theorem b7j(L:List Int)(hL:y9 L):GR (X1 L) 0:=by
 refine⟨⟨⟨hL,by show(0:Int)≤3;omega,by show(6:Int)≤6;omega,fun x hx=>?_,fun x hx=>?_,rfl,rfl⟩,?_,?_⟩,fun h=>by omega,fun h=>by omega,?_,fun _=>⟨rfl,rfl,rfl⟩⟩
 ·simp [X1,j4.l]at hx
 ·simp [X1]at hx
 ·simp [X1,j4.l]
 ·simp [X1,r9.l]
 ·simp [X1,r9.l]
theorem a4x(L:List Int)(hL:y9 L):∀i,GR (jG (X1 L) i) i
 |0=>b7j L hL
 |i+1=>c4d (a4x L hL i)
theorem b6y{S:MS}{i:Nat}(h:GR S i)(hi:i≤2):y3 (fin (decide (0<i)) S).code∧(fin (decide (0<i)) S).code.regs≤12∧(∀b∈(fin (decide (0<i)) S).code.b,b.i.length≤39)∧(fin (decide (0<i)) S).code.c9=dV∧(fin (decide (0<i)) S).code.loops.length≤3∧(fin (decide (0<i)) S).code.w5=0:=by
 have hx:=j0 h.g.g.L h.g.g.at_
 obtain⟨a1,a2,a3⟩:=zH h (n:=a7 S.L S.at_%3) (by omega)
 have hl:=h.lo
 unfold fin
 generalize bD (decide (0<i)) {S with at_:=S.at_+1} (a7 S.L S.at_%3)=Q at*
 have key:GS Q.jD (Q.jD.bs.length+1)∧Q.jD.i.l.length≤39∧Q.jD.re≤12∧Q.jD.bs.length+1≤18∧Q.jD.lo.l.length≤3:=by
  unfold MS.jD
  split
  ·obtain⟨b1,b2,b3,b4⟩:=b14 a1.next
   have hre:=b1.re
   generalize (MS.loop {Q with at_:=Q.at_+1}).block=Q2 at*
   obtain⟨a,ii,e,e1,e2,e3⟩:=H2 Q2 b1.g.L b1.g.at_
   have gi:=b1.g.c6
   have q:Q2.c6.re=Q2.re∧Q2.c6.bs=Q2.bs∧Q2.c6.i=ii:=by rw[e];exact⟨rfl,rfl,rfl⟩
   rw[b2]at e3
   have e3:ii.l.length≤0+8:=e3
   have b3:Q2.bs.length=Q.bs.length+3:=b3
   have b4:Q2.lo.l.length=Q.lo.l.length+1:=b4
   rw[a2]at b4
   exact⟨by rw[q.2.1];exact gi,by rw[q.2.2];omega,by rw[q.1];omega,by rw[q.2.1];omega,by rw[show Q2.c6.lo=Q2.lo by rw[e]];omega⟩
  ·have g:=a1.next
   have hre:=g.re
   have hre:Q.re=6+2*Q.lo.l.length:=hre
   rw[a2]at hre
   exact⟨g.g,by have:=g.il;omega,by show Q.re≤12;omega,by show Q.bs.length+1≤18;omega,by show Q.lo.l.length≤3;rw[a2];omega⟩
 generalize Q.jD=Q3 at*
 obtain⟨k1,k2,k3,k4,k5⟩:=key
 have hlen:(MS.code {Q3 with t:=jS}).b.length=Q3.bs.length+1:=by simp [MS.code]
 refine⟨⟨by rw[hlen];omega,⟨by show 0≤Q3.re;have:=k1.re;omega,by show Q3.re≤16;omega⟩,fun x hx=>?_⟩,k3,fun x hx=>?_,k1.ar.1,k5,k1.ar.2⟩
 rw[hlen]
 have hx:x∈Q3.bs++[⟨Q3.i.l,jS⟩]:=hx
 rcases List.mem_append.1 hx with hx|hx
 ·exact((k1.b x hx).mono (Int.le_refl _) (by omega)).ok
 ·rw[List.mem_singleton.1 hx];exact⟨k1.i,c0v,Nat.le_trans k2 (by decide)⟩
 ·have hx:x∈Q3.bs++[⟨Q3.i.l,jS⟩]:=hx
  rcases List.mem_append.1 hx with hx|hx
  ·exact(k1.b x hx).l
  ·rw[List.mem_singleton.1 hx];exact k2
theorem b7l(L:List Int)(hL:y9 L):y3 (lL L)∧(lL L).regs≤12∧(∀b∈(lL L).b,b.i.length≤39)∧(lL L).c9=dV∧(lL L).loops.length≤3:=by
 have hx:=j0 hL (at_:=2) (by omega)
 obtain⟨a,b,c,d,e,_⟩:=b6y (a4x L hL (a3e L)) (by unfold a3e;omega)
 exact⟨a,b,c,d,e⟩
theorem c0V(L:List Int)(hL:y9 L):(lL L).w5=0:=by
 have hx:=j0 hL (at_:=2) (by omega)
 obtain⟨_,_,_,_,_,f⟩:=b6y (a4x L hL (a3e L)) (by unfold a3e;omega)
 exact f
end Go.Proofs.YtgdoiokalfhjoaaGreatDoor
end
