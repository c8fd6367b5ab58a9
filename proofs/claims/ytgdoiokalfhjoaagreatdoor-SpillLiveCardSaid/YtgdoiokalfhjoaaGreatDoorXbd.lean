/- Own work (by an AI agent; no person has read it): part of a proof of the seat YtgdoiokalfhjoaaGreatDoor. -/
import Derived.Test.YtgdoiokalfhjoaaGreatDoorXh
import Derived.Test.YtgdoiokalfhjoaaGreatDoorXbc
set_option linter.unusedSimpArgs false
set_option linter.unusedVariables false
section
namespace Go.Proofs.YtgdoiokalfhjoaaGreatDoor
open Go.Ab
def uF(r:Int)(l:List e8):Prop:=∀x∈l,aS r x
theorem I6.mono{r r':Int}{o:E3}(h:I6 r o)(hr:r≤r'):I6 r' o:=fun hk=>by have:=h hk;omega
theorem aS.mono{r r':Int}{x:e8}(h:aS r x)(hr:r≤r'):aS r' x:=⟨h.d.mono hr,h.a.mono hr,h.b.mono hr,h.c.mono hr⟩
theorem uF.mono{r r':Int}{l:List e8}(h:uF r l)(hr:r≤r'):uF r' l:=fun x hx=>(h x hx).mono hr
theorem V3.mono{r r' n n':Int}{t:o6}(h:V3 r n t)(hr:r≤r')(hn:n≤n'):V3 r' n' t:=⟨h.d.mono hr,h.a.mono hr,h.b.mono hr,fun hk=>by have:=h.to hk;omega,fun hk=>by have:=h.to1 hk;omega,h.dk⟩
theorem cC.mono{r r' n n':Int}{b:b6}(h:cC r n b)(hr:r≤r')(hn:n≤n'):cC r' n' b:=⟨fun x hx=>(h.i x hx).mono hr,h.t.mono hr hn,h.l⟩
theorem X9(r:Int):I6 r O0:=fun h=>by simp [O0]at h
theorem b8C(r v:Int):I6 r (A1 v):=fun h=>by simp [A1]at h
theorem a9v{r n:Int}(h:0≤n∧n<r):I6 r (M3 n):=fun _=>h
theorem eT{r:Int}(hr:6≤r){L:List Int}(hL:y8 L){a:Int}(h:0≤a):I6 r (E8 L a):=by
 have:=j4 hL h
 exact a9v (by omega)
theorem mM{r:Int}(hr:6≤r){L:List Int}(hL:y8 L){a:Int}(h:0≤a):I6 r (V0 L a):=by
 have:=j4 hL h
 unfold V0
 split
 ·exact b8C r _
 ·exact a9v (by omega)
structure a4F (r n:Int) (b:b6):Prop where
 ok:cC r n b
 l:b.i.length≤39
theorem a4F.mono{r r' n n':Int}{b:b6}(h:a4F r n b)(hr:r≤r')(hn:n≤n'):a4F r' n' b:=⟨h.ok.mono hr hn,h.l⟩
structure GS (S:MS) (T:Int):Prop where
 L:y8 S.L
 at_:0≤S.at_
 re:6≤S.re
 i:uF S.re S.i.l
 b:∀x∈S.bs,a4F S.re T x
 ar:S.ar=eF∧S.sl=0
theorem GS.mono{S:MS}{T T':Int}(h:GS S T)(hT:T≤T'):GS S T':=⟨h.L,h.at_,h.re,h.i,fun x hx=>(h.b x hx).mono (Int.le_refl _) hT,h.ar⟩
theorem GS.at{S:MS}{T:Int}(h:GS S T){a:Int}(ha:0≤a):GS {S with at_:=a} T:=⟨h.L,ha,h.re,h.i,h.b,h.ar⟩
theorem GS.term{S:MS}{T:Int}(h:GS S T)(t:o6):GS {S with t:=t} T:=⟨h.L,h.at_,h.re,h.i,h.b,h.ar⟩
theorem GS.put{S:MS}{T:Int}(h:GS S T){x:e8}(hx:aS S.re x):GS (S.put x) T:=by
 refine⟨h.L,h.at_,h.re,fun y hy=>?_,h.b,h.ar⟩
 have hy:y∈S.i.l++[x]:=hy
 rcases List.mem_append.1 hy with hy|hy
 ·exact h.i y hy
 ·rw[List.mem_singleton.1 hy];exact hx
theorem GS.block{S:MS}{T:Int}(h:GS S T)(ht:V3 S.re T S.t)(hl:S.i.l.length≤39):GS S.block T:=by
 refine⟨h.L,h.at_,h.re,fun y hy=>?_,fun x hx=>?_,h.ar⟩
 ·simp [MS.block,j7.l]at hy
 ·have hx:x∈S.bs++[⟨S.i.l,S.t⟩]:=hx
  rcases List.mem_append.1 hx with hx|hx
  ·exact h.b x hx
  ·rw[List.mem_singleton.1 hx];exact⟨⟨h.i,ht,Nat.le_trans hl (by decide)⟩,hl⟩
theorem b7X{r:Int}(hr:6≤r){L:List Int}(hL:y8 L){a:Int}(h:0≤a):aS r (W9 L a):=by
 have g:∀k:Int,0≤a+k→I6 r (E8 L (a+k))∧I6 r (V0 L (a+k)):=fun k hk=>⟨eT hr hL hk,mM hr hL hk⟩
 have e:∀k,I6 r (E8 L k)∨k<0:=fun k=>by
  rcases Int.lt_or_le k 0 with h|h
  ·exact .inr h
  ·exact .inl (eT hr hL h)
 have R:∀k,0≤k→I6 r (E8 L k):=fun k hk=>eT hr hL hk
 have V:∀k,0≤k→I6 r (V0 L k):=fun k hk=>mM hr hL hk
 unfold W9
 simp only
 (repeat' split)
 ·exact⟨R _ (by omega),X9 r,X9 r,X9 r⟩
 ·exact⟨R _ (by omega),V _ (by omega),V _ (by omega),X9 r⟩
 ·exact⟨R _ (by omega),V _ (by omega),X9 r,X9 r⟩
 ·exact⟨R _ (by omega),V _ (by omega),V _ (by omega),V _ (by omega)⟩
 ·exact⟨R _ (by omega),V _ (by omega),X9 r,X9 r⟩
 ·exact⟨R _ (by omega),X9 r,X9 r,X9 r⟩
 ·exact⟨X9 r,X9 r,X9 r,X9 r⟩
theorem b7Y{r:Int}(hr:6≤r){L:List Int}(hL:y8 L){k a n:Int}{d:E3}(h:0≤a)(hd:I6 r d):aS r (iT L k a n d):=by
 have R:∀k,0≤k→I6 r (E8 L k):=fun k hk=>eT hr hL hk
 have V:∀k,0≤k→I6 r (V0 L k):=fun k hk=>mM hr hL hk
 unfold iT
 (repeat' split)
 ·exact⟨X9 r,hd,V _ (by omega),X9 r⟩
 ·exact⟨R _ (by omega),hd,X9 r,X9 r⟩
 ·exact⟨X9 r,hd,V _ (by omega),X9 r⟩
theorem GS.place{S:MS}{T:Int}(h:GS S T)(pr:Bool):GS (S.place pr) T:=by
 have h0:=h.at_
 unfold MS.place
 refine GS.put (h.at (by omega)) ⟨eT h.re h.L (by omega),mM h.re h.L (by omega),b8C _ _,X9 _⟩
theorem GS.inst{S:MS}{T:Int}(h:GS S T):GS S.inst T:=by
 have h0:=h.at_
 have ha:0≤iS S.L S.at_:=by unfold iS;simp only;(repeat' split)<;>omega
 unfold MS.inst
 simp only
 split
 ·exact(h.at ha).put (b7X h.re h.L h0)
 ·have hp:=(h.at (a:=S.at_+1) (by omega)).place (decide (¬a7 S.L S.at_%16=12))
  have hpa:=hp.at_
  refine GS.put (hp.at ?_) (b7Y h.re h.L hpa (eT h.re h.L (by omega)))
  split<;>omega
theorem GS.iter{S:MS}{T:Int}(h:GS S T):∀i,GS (S.iter i) T
 |0=>h
 |i+1=>(GS.iter h i).inst
theorem GS.e7{S:MS}{T:Int}(h:GS S T):GS S.e7 T:=(h.at (a:=S.at_+1) (by have:=h.at_;omega)).iter _
theorem a5a{r n b:Int}(h:0≤b∧b<n):V3 r n (O9 b):=⟨X9 r,X9 r,X9 r,fun _=>h,fun h=>by simp [O9]at h,fun h=>by simp [O9,O0]at h⟩
theorem rB{r n x y:Int}{a:E3}(ha:I6 r a)(hx:0≤x∧x<n)(hy:0≤y∧y<n):V3 r n (D6 a x y):=⟨X9 r,ha,X9 r,fun _=>hx,fun _=>hy,fun h=>by simp [D6,O0]at h⟩
theorem c4H{r n b:Int}(h:0≤b∧b<n):V3 r n (b60 b):=⟨X9 r,X9 r,X9 r,fun _=>h,fun h=>by simp [b60]at h,fun h=>by simp [b60,O0]at h⟩
theorem c4K{r n b s:Int}{d x y:E3}(hd:I6 r d)(hx:I6 r x)(hy:I6 r y)(h:0≤b∧b<n):V3 r n (b7e s d x y b):=⟨hd,hx,hy,fun _=>h,fun h=>by simp [b7e]at h,fun _=>by simp [b7e]⟩
theorem c1u{r n:Int}:V3 r n kY:=⟨X9 r,X9 r,X9 r,fun h=>by simp [kY]at h,fun h=>by simp [kY]at h,fun h=>by simp [kY,O0]at h⟩
structure RI2 (S0 S:MS) (k:Nat):Prop where
 i:S.i= .nil
 t:S.t=Q5
 re:S.re=S0.re
 lo:S.lo=S0.lo
 bs:S.bs.length=S0.bs.length+k
theorem b3t{S:MS}{last:Nat}(h:GS S (last+1))(hi:S.i= .nil)(ht:S.t=Q5):∀k:Nat,S.bs.length+k≤last→GS (S.fN last k) (last+1)∧RI2 S (S.fN last k) k
 |0,_=>⟨h,⟨hi,ht,rfl,rfl,rfl⟩⟩
 |k+1,hk=>by
  obtain⟨g,r⟩:=b3t h hi ht k (by omega)
  show GS ((S.fN last k).iD last) _∧RI2 S ((S.fN last k).iD last) _
  generalize S.fN last k=Q at*
  have gi:=g.e7
  obtain⟨a,ii,e,e1,e2,e3⟩:=I1 Q g.L g.at_
  have hb:=r.bs
  have hil:Q.e7.i.l.length≤39:=by rw[e];rw[r.i]at e3;simp [j7.l]at e3⊢;omega
  have q1:Q.e7.re=Q.re∧Q.e7.lo=Q.lo∧Q.e7.bs=Q.bs:=by rw[e];exact⟨rfl,rfl,rfl⟩
  unfold MS.iD
  simp only
  generalize Q.e7=S1 at*
  have x1:=j4 gi.L (at_:=S1.at_+1+1) (by have:=gi.at_;omega)
  have x2:=j4 gi.L (at_:=S1.at_+1+1+1) (by have:=gi.at_;omega)
  have d1:∀x:Int,0≤x%((last:Int)-Q.bs.length)∧x%((last:Int)-Q.bs.length)<(last:Int)-Q.bs.length:=fun x=>⟨Int.emod_nonneg _ (by omega),Int.emod_lt_of_pos _ (by omega)⟩
  have y1:=d1 (a7 S1.L (S1.at_+1+1))
  have y2:=d1 (a7 S1.L (S1.at_+1+1+1))
  have ha:=gi.at_
  split
  ·refine⟨((gi.at (a:=S1.at_+1+1+1+1) (by omega)).term _).block (rB (eT gi.re gi.L (by omega)) (by omega) (by omega)) hil,⟨rfl,rfl,q1.1.trans r.re,q1.2.1.trans r.lo,?_⟩⟩
   show(S1.bs++[_]).length=_
   rw[q1.2.2,List.length_append,hb];rfl
  ·refine⟨((gi.at (a:=S1.at_+1) (by omega)).term _).block (a5a (by omega)) hil,⟨rfl,rfl,q1.1.trans r.re,q1.2.1.trans r.lo,?_⟩⟩
   show(S1.bs++[_]).length=_
   rw[q1.2.2,List.length_append,hb];rfl
structure GO (S:MS):Prop where
 g:GS S (S.bs.length+1)
 il:S.i.l.length≤9
 re:S.re=6+2*S.lo.l.length
theorem b3u{S:MS}(h:GS S (S.bs.length+1))(hi:S.i= .nil)(ht:S.t=Q5)(hre:S.re=6+2*S.lo.l.length){n:Int}(hn:0≤n∧n≤2):GO (S.fO n)∧(S.fO n).t=Q5∧(S.fO n).lo=S.lo∧(S.fO n).bs.length≤S.bs.length+2:=by
 unfold MS.fO
 obtain⟨k,rfl⟩:∃k:Nat,n=k:=⟨n.toNat,by omega⟩
 rw[show((S.bs.length:Int)+(k:Int))=((S.bs.length+k:Nat):Int) by omega,Int.toNat_natCast]
 obtain⟨g,r⟩:=b3t (S:=S) (last:=S.bs.length+k) (h.mono (by omega)) hi ht k (Nat.le_refl _)
 generalize S.fN ((S.bs.length+k:Nat):Int) k=Q at*
 obtain⟨a,ii,e,e1,e2,e3⟩:=I1 Q g.L g.at_
 have gi:=g.e7
 have hb:=r.bs
 have q:Q.e7.re=Q.re∧Q.e7.lo=Q.lo∧Q.e7.bs=Q.bs∧Q.e7.t=Q.t∧Q.e7.i=ii:=by rw[e];exact⟨rfl,rfl,rfl,rfl,rfl⟩
 rw[r.i]at e3
 simp [j7.l]at e3
 generalize Q.e7=S1 at*
 refine⟨⟨?_,?_,?_⟩,q.2.2.2.1.trans r.t,q.2.1.trans r.lo,?_⟩
 ·rw[q.2.2.1,hb];exact gi.mono (by omega)
 ·rw[q.2.2.2.2];simp only[j7.l];omega
 ·rw[q.1,q.2.1,r.re,r.lo];exact hre
 ·rw[q.2.2.1,hb];omega
theorem GO.region{S:MS}(h:GO S)(ht:V3 S.re (S.bs.length+2) S.t){n:Int}(hn:0≤n∧n≤2):GO (S.region n)∧(S.region n).t=Q5∧(S.region n).lo=S.lo∧(S.region n).bs.length≤S.bs.length+3:=by
 have hb:S.block.bs.length=S.bs.length+1:=by simp [MS.block]
 have g:=(h.g.mono (T':=S.bs.length+2) (by omega)).block ht (by have:=h.il;omega)
 obtain⟨a,b,c,d⟩:=b3u (S:=S.block) (by rw[hb];exact g.mono (by omega)) rfl rfl h.re hn
 exact⟨a,b,c,by unfold MS.region;omega⟩
theorem b23{S:MS}(h:GO S):GO S.loop.block∧S.loop.block.i= .nil∧S.loop.block.bs.length=S.bs.length+3∧S.loop.block.lo.l.length=S.lo.l.length+1:=by
 have hre:=h.g.re
 have hN:S.I4=S.re:=h.re.symm
 have ha:=h.g.at_
 have hil:=h.il
 have g1:GS S.V2 (S.bs.length+2):=by
  unfold MS.V2
  refine GS.block (T:=S.bs.length+2) ⟨h.g.L,by show 0≤S.at_+1;omega,by show 6≤S.I4+2;omega,?_,?_,h.g.ar⟩ (a5a (by unfold MS.cJ;omega)) (by show(S.i.l++[_]).length≤39;rw[List.length_append];simp;omega)
  ·intro x hx
   have hx:x∈S.i.l++[li1 S.I4]:=hx
   show aS (S.I4+2) x
   rcases List.mem_append.1 hx with hx|hx
   ·exact(h.g.i x hx).mono (by omega)
   ·rw[List.mem_singleton.1 hx];exact⟨a9v (by omega),b8C _ _,X9 _,X9 _⟩
  ·intro x hx
   exact(h.g.b x hx).mono (by show S.re≤S.I4+2;omega) (by omega)
 have b1:S.V2.bs.length=S.bs.length+1:=by simp [MS.V2,MS.block]
 have r1:S.V2.re=S.I4+2:=rfl
 have l1:S.V2.lo.l.length=S.lo.l.length+1:=by simp [MS.V2,MS.block,r7.l]
 have i1:S.V2.i= .nil:=rfl
 have H:S.cJ=(S.bs.length:Int)+1:=by unfold MS.cJ;omega
 have g2:GS (S.V2.iX S.cJ S.I4 S.fJ) (S.bs.length+4):=by
  unfold MS.iX
  refine GS.block (T:=S.bs.length+4) ⟨g1.L,g1.at_,g1.re,?_,fun x hx=>(g1.b x hx).mono (Int.le_refl _) (by omega),g1.ar⟩ (rB (a9v (by show 0≤S.I4+1∧S.I4+1<S.V2.re;rw[r1];omega)) (by omega) (by omega)) (by show(S.V2.i.l++[_]).length≤39;rw[i1];simp [j7.l])
  intro x hx
  have hx:x∈S.V2.i.l++[li2 S.I4 S.fJ]:=hx
  rw[i1]at hx
  rw[List.mem_singleton.1 hx]
  show aS S.V2.re _
  rw[r1]
  exact⟨a9v (by omega),a9v (by omega),b8C _ _,X9 _⟩
 have b2:(S.V2.iX S.cJ S.I4 S.fJ).bs.length=S.bs.length+2:=by
  show(S.V2.bs++[_]).length=_
  rw[List.length_append,b1];rfl
 have r2:(S.V2.iX S.cJ S.I4 S.fJ).re=S.I4+2:=rfl
 have l2:(S.V2.iX S.cJ S.I4 S.fJ).lo=S.V2.lo:=rfl
 have i2:(S.V2.iX S.cJ S.I4 S.fJ).i= .nil:=rfl
 unfold MS.loop MS.zK
 generalize S.V2.iX S.cJ S.I4 S.fJ=Q2 at*
 have gp:GS (Q2.put (nJ S.I4)) (S.bs.length+4):=g2.put (by rw[r2];exact⟨a9v (by omega),a9v (by omega),b8C _ _,X9 _⟩)
 obtain⟨a,ii,e,e1,e2,e3⟩:=I1 (Q2.put (nJ S.I4)) gp.L gp.at_
 have g3:=gp.e7
 have i3:(Q2.put (nJ S.I4)).i.l.length=1:=by simp [MS.put,i2,j7.l]
 have q:(Q2.put (nJ S.I4)).e7.re=Q2.re∧(Q2.put (nJ S.I4)).e7.lo=Q2.lo∧(Q2.put (nJ S.I4)).e7.bs=Q2.bs∧(Q2.put (nJ S.I4)).e7.i=ii:=by rw[e];exact⟨rfl,rfl,rfl,rfl⟩
 generalize (Q2.put (nJ S.I4)).e7=Q3 at*
 have h3:=g3.at_
 have hl3:Q3.i.l.length≤39:=by rw[q.2.2.2];omega
 have key:∀Q4:MS,GS Q4 (S.bs.length+4)→Q4.re=Q3.re→Q4.lo=Q3.lo→Q4.bs=Q3.bs→Q4.i=Q3.i→V3 Q4.re (S.bs.length+4) Q4.t→GO Q4.block∧Q4.block.i= .nil∧Q4.block.bs.length=S.bs.length+3∧Q4.block.lo.l.length=S.lo.l.length+1:=by
  intro Q4 g4 hr hlo hbs hi ht
  have hb:Q4.block.bs.length=S.bs.length+3:=by
   show(Q4.bs++[_]).length=_
   rw[List.length_append,hbs,q.2.2.1,b2];rfl
  have hll:Q4.block.lo.l.length=S.lo.l.length+1:=by
   show Q4.lo.l.length=_
   rw[hlo,q.2.1,l2,l1]
  refine⟨⟨?_,by simp [MS.block,j7.l],?_⟩,rfl,hb,hll⟩
  ·rw[hb];exact(g4.block ht (by rw[hi];exact hl3)).mono (by omega)
  ·rw[hll]
   show Q4.re=_
   rw[hr,q.1,r2,hN,h.re];omega
 unfold MS.zL
 split
 ·exact key _ ((g3.at (a:=Q3.at_+1+1) (by omega)).term _) rfl rfl rfl rfl (rB (eT g3.re g3.L (by omega)) (by omega) (by omega))
 ·exact key _ ((g3.at (a:=Q3.at_+1) (by omega)).term _) rfl rfl rfl rfl (a5a (by omega))
theorem GO.at{S:MS}(h:GO S){a:Int}(ha:0≤a):GO {S with at_:=a}:=⟨h.g.at ha,h.il,h.re⟩
theorem GO.next{S:MS}(h:GO S):GO {S with at_:=S.at_+1}:=h.at (by have:=h.g.at_;omega)
theorem b89{S:MS}(h:GO S):GO S.kI∧S.kI.bs.length≤S.bs.length+3∧S.kI.lo.l.length≤S.lo.l.length+1:=by
 unfold MS.kI
 split
 ·obtain⟨a,_,b,c⟩:=b23 h.next
  exact⟨a,by rw[b];exact Nat.le_refl _,by rw[c];exact Nat.le_refl _⟩
 ·exact⟨h.next,by show S.bs.length≤_;omega,by show S.lo.l.length≤_;omega⟩
theorem b9a{S:MS}(h:GO S):GO S.gZ∧S.gZ.bs=S.bs∧S.gZ.lo=S.lo∧V3 S.gZ.re (S.gZ.bs.length+2) S.gZ.t:=by
 have ha:=h.g.at_
 unfold MS.gZ
 split
 ·refine⟨⟨(h.g.at (a:=S.at_+1+1+1+1+1) (by omega)).term _,h.il,h.re⟩,rfl,rfl,?_⟩
  exact c4K (eT h.g.re h.g.L (by omega)) (mM h.g.re h.g.L (by omega)) (mM h.g.re h.g.L (by omega)) (by show(0:Int)≤S.bs.length+1∧(S.bs.length:Int)+1<S.bs.length+2;omega)
 ·refine⟨⟨(h.g.at (a:=S.at_+1) (by omega)).term _,h.il,h.re⟩,rfl,rfl,?_⟩
  exact c4H (by show(0:Int)≤S.bs.length+1∧(S.bs.length:Int)+1<S.bs.length+2;omega)
structure GR (S:MS) (i:Nat):Prop where
 g:GO S
 t:0<i→V3 S.re (S.bs.length+2) S.t
 b:0<i→S.bs.length+1≤6*i
 lo:S.lo.l.length≤i
 z:i=0→S.bs=[]∧S.i= .nil∧S.t=Q5
theorem a0D{S:MS}{i:Nat}(h:GR S i){n:Int}(hn:0≤n∧n≤2):GO (bL (decide (0<i)) {S with at_:=S.at_+1} n)∧(bL (decide (0<i)) {S with at_:=S.at_+1} n).lo=S.lo∧
  (bL (decide (0<i)) {S with at_:=S.at_+1} n).bs.length+1≤6*i+3:=by
 have hg:=h.g.next
 unfold bL
 by_cases hi:0<i
 ·rw[if_pos (by simpa using hi)]
  obtain⟨a,_,b,c⟩:=hg.region (h.t hi) hn
  have:=h.b hi
  exact⟨a,b,by have c:_≤S.bs.length+3:=c;omega⟩
 ·rw[if_neg (by simpa using hi)]
  obtain⟨z1,z2,z3⟩:=h.z (by omega)
  obtain⟨a,_,b,c⟩:=b3u hg.g z2 z3 hg.re hn
  have c:_≤S.bs.length+2:=c
  have z0:S.bs.length=0:=by rw[z1];rfl
  exact⟨a,b,by omega⟩
theorem c47{S:MS}{i:Nat}(h:GR S i):GR (rnd (decide (0<i)) S) (i+1):=by
 have hx:=j4 h.g.g.L h.g.g.at_
 obtain⟨a1,a2,a3⟩:=a0D h (n:=a7 S.L S.at_%3) (by omega)
 unfold rnd
 generalize bL (decide (0<i)) {S with at_:=S.at_+1} (a7 S.L S.at_%3)=Q at*
 obtain⟨b1,b2,b3⟩:=b89 a1
 obtain⟨c1,c2,c3,c4⟩:=b9a b1
 have hl:=h.lo
 refine⟨c1,fun _=>c4,fun _=>?_,?_,fun h=>by omega⟩
 ·rw[c2];omega
 ·rw[c3];rw[a2]at b3;omega
theorem b8h(L:List Int)(hL:y8 L):GR (X0 L) 0:=by
 refine⟨⟨⟨hL,by show(0:Int)≤3;omega,by show(6:Int)≤6;omega,fun x hx=>?_,fun x hx=>?_,rfl,rfl⟩,?_,?_⟩,fun h=>by omega,fun h=>by omega,?_,fun _=>⟨rfl,rfl,rfl⟩⟩
 ·simp [X0,j7.l]at hx
 ·simp [X0]at hx
 ·simp [X0,j7.l]
 ·simp [X0,r7.l]
 ·simp [X0,r7.l]
theorem b3x(L:List Int)(hL:y8 L):∀i,GR (kM (X0 L) i) i
 |0=>b8h L hL
 |i+1=>c47 (b3x L hL i)
theorem c4M{S:MS}{i:Nat}(h:GR S i)(hi:i≤2):u9 (fin (decide (0<i)) S).code∧(fin (decide (0<i)) S).code.regs≤12∧(∀b∈(fin (decide (0<i)) S).code.b,b.i.length≤39)∧(fin (decide (0<i)) S).code.c6=eF∧(fin (decide (0<i)) S).code.loops.length≤3∧(fin (decide (0<i)) S).code.u7=0:=by
 have hx:=j4 h.g.g.L h.g.g.at_
 obtain⟨a1,a2,a3⟩:=a0D h (n:=a7 S.L S.at_%3) (by omega)
 have hl:=h.lo
 unfold fin
 generalize bL (decide (0<i)) {S with at_:=S.at_+1} (a7 S.L S.at_%3)=Q at*
 have key:GS Q.kJ (Q.kJ.bs.length+1)∧Q.kJ.i.l.length≤39∧Q.kJ.re≤12∧Q.kJ.bs.length+1≤18∧Q.kJ.lo.l.length≤3:=by
  unfold MS.kJ
  split
  ·obtain⟨b1,b2,b3,b4⟩:=b23 a1.next
   have hre:=b1.re
   generalize (MS.loop {Q with at_:=Q.at_+1}).block=Q2 at*
   obtain⟨a,ii,e,e1,e2,e3⟩:=I1 Q2 b1.g.L b1.g.at_
   have gi:=b1.g.e7
   have q:Q2.e7.re=Q2.re∧Q2.e7.bs=Q2.bs∧Q2.e7.i=ii:=by rw[e];exact⟨rfl,rfl,rfl⟩
   rw[b2]at e3
   have e3:ii.l.length≤0+8:=e3
   have b3:Q2.bs.length=Q.bs.length+3:=b3
   have b4:Q2.lo.l.length=Q.lo.l.length+1:=b4
   rw[a2]at b4
   exact⟨by rw[q.2.1];exact gi,by rw[q.2.2];omega,by rw[q.1];omega,by rw[q.2.1];omega,by rw[show Q2.e7.lo=Q2.lo by rw[e]];omega⟩
  ·have g:=a1.next
   have hre:=g.re
   have hre:Q.re=6+2*Q.lo.l.length:=hre
   rw[a2]at hre
   exact⟨g.g,by have:=g.il;omega,by show Q.re≤12;omega,by show Q.bs.length+1≤18;omega,by show Q.lo.l.length≤3;rw[a2];omega⟩
 generalize Q.kJ=Q3 at*
 obtain⟨k1,k2,k3,k4,k5⟩:=key
 have hlen:(MS.code {Q3 with t:=kY}).b.length=Q3.bs.length+1:=by simp [MS.code]
 refine⟨⟨by rw[hlen];omega,⟨by show 0≤Q3.re;have:=k1.re;omega,by show Q3.re≤16;omega⟩,fun x hx=>?_⟩,k3,fun x hx=>?_,k1.ar.1,k5,k1.ar.2⟩
 rw[hlen]
 have hx:x∈Q3.bs++[⟨Q3.i.l,kY⟩]:=hx
 rcases List.mem_append.1 hx with hx|hx
 ·exact((k1.b x hx).mono (Int.le_refl _) (by omega)).ok
 ·rw[List.mem_singleton.1 hx];exact⟨k1.i,c1u,Nat.le_trans k2 (by decide)⟩
 ·have hx:x∈Q3.bs++[⟨Q3.i.l,kY⟩]:=hx
  rcases List.mem_append.1 hx with hx|hx
  ·exact(k1.b x hx).l
  ·rw[List.mem_singleton.1 hx];exact k2
theorem b8k(L:List Int)(hL:y8 L):u9 (nK L)∧(nK L).regs≤12∧(∀b∈(nK L).b,b.i.length≤39)∧(nK L).c6=eF∧(nK L).loops.length≤3:=by
 have hx:=j4 hL (at_:=2) (by omega)
 obtain⟨a,b,c,d,e,_⟩:=c4M (b3x L hL (b26 L)) (by unfold b26;omega)
 exact⟨a,b,c,d,e⟩
end Go.Proofs.YtgdoiokalfhjoaaGreatDoor
end
