/- Own work (by an AI agent; no person has read it): part of a proof of the seat YtgdoiokalfhjoaaDoor. -/
import Derived.Test.YtgdoiokalfhjoaaDoorXl
import Derived.Test.YtgdoiokalfhjoaaDoorXr
import Derived.Test.YtgdoiokalfhjoaaDoorXs
set_option linter.unusedSimpArgs false
set_option linter.unusedVariables false
set_option maxRecDepth 100000
set_option maxHeartbeats 10000000
section
namespace Go.Proofs.YtgdoiokalfhjoaaDoor
open Go.Ab
theorem dW(r:Int):L2 r O0:=fun h=>by simp [O0]at h
theorem vF{r n:Int}(h:0≤n∧n<r):L2 r (kV n):=fun _=>h
theorem L2.mono{r r':Int}{o:H8}(h:L2 r o)(hr:r≤r'):L2 r' o:=fun hk=>by have:=h hk;omega
theorem gE{r:Int}{o:H8}{K:List Int}(h:L2 r o)(h0:0≤r)(hk:K.length≤3):L2 (r+3) (K9 o K r):=by
 unfold K9
 split
 ·rename_i hh
  have:=b3a hh.2
  exact vF (by omega)
 ·exact h.mono (by omega)
theorem b1a{l:List Int}{r:Int}{x:l0}(h:aK r x)(h0:0≤r):∀y∈cI l r x,aK (r+3) y:=by
 have hk:(A4 l (w6 x)).length≤3:=Nat.le_trans (bZ _ _) (fZ x)
 intro y hy
 unfold cI at hy
 rcases List.mem_append.1 hy with hy|hy
 ·unfold P5 at hy
  obtain⟨k,hk2,rfl⟩:=List.mem_map.1 hy
  have:=List.mem_range.1 hk2
  exact⟨vF (by omega),dW _,dW _,dW _⟩
 ·rcases List.mem_cons.1 hy with rfl|hy
  ·refine⟨?_,gE h.a h0 hk,gE h.b h0 hk,gE h.c h0 hk⟩
   show L2 (r+3) (if Q7 x∈l then kV r else x.d)
   split
   ·exact vF (by omega)
   ·exact h.d.mono (by omega)
  ·split at hy
   ·rcases List.mem_singleton.1 hy with rfl
    exact⟨dW _,vF (by omega),dW _,dW _⟩
   ·simp at hy
theorem a5j(l:List Int)(r:Int)(x:l0):(cI l r x).length≤5∧1≤(cI l r x).length:=by
 have hk:(A4 l (w6 x)).length≤3:=Nat.le_trans (bZ _ _) (fZ x)
 unfold cI P5
 rw[List.length_append,List.length_cons,List.length_map,List.length_range]
 split<;>simp<;>omega
theorem a3l(l:List Int)(r:Int):∀L:List l0,(L.flatMap (cI l r)).length≤5*L.length
 |[]=>by simp
 |x::L=>by
  have h1:=a3l l r L
  have h2:=(a5j l r x).1
  rw[List.flatMap_cons,List.length_append,List.length_cons];omega
theorem sY(l:List Int)(r:Int)(b:e8):(W7 l r b).i.length≤5*b.i.length+2:=by
 have h1:=a3l l r b.i
 have h2:(A4 l (u9 b.t)).length≤2:=Nat.le_trans (bZ _ _) (gB _)
 unfold W7 P5
 simp only[List.length_append,List.length_map,List.length_range];omega
theorem a7Z{l:List Int}{r n:Int}{b:e8}(h:dQ r n b)(h0:0≤r)(hb:b.i.length≤59):dQ (r+3) n (W7 l r b):=by
 have hk:(A4 l (u9 b.t)).length≤3:=Nat.le_trans (Nat.le_trans (bZ _ _) (gB _)) (by omega)
 refine⟨fun y hy=>?_,⟨h.t.d.mono (by omega),gE h.t.a h0 hk,gE h.t.b h0 hk,h.t.to,h.t.to1,h.t.dk⟩,by have:=sY l r b;omega⟩
 rcases List.mem_append.1 hy with hy|hy
 ·obtain⟨x,hx,hy⟩:=List.mem_flatMap.1 hy
  exact b1a (h.i x hx) h0 y hy
 ·unfold P5 at hy
  obtain⟨k,hk2,rfl⟩:=List.mem_map.1 hy
  have:=List.mem_range.1 hk2
  exact⟨vF (by omega),dW _,dW _,dW _⟩
structure a50 (c:Code):Prop where
 ok:C8 c
 r:c.regs≤12
 l:∀b∈c.b,b.i.length≤39
theorem lH{c:Code}(h:a50 c)(l:List Int):C8 (p9 c l)∧(p9 c l).regs≤15∧∀b∈(p9 c l).b,b.i.length≤197:=by
 have hr:=h.r
 have h0:=h.ok.r
 unfold p9
 split
 ·exact⟨h.ok,by omega,fun b hb=>by have:=h.l b hb;omega⟩
 ·refine⟨⟨by simpa using h.ok.n,?_,fun b hb=>?_⟩,?_,fun b hb=>?_⟩
  ·show 0≤c.regs+3∧c.regs+3≤16
   omega
  ·obtain⟨b',hb',rfl⟩:=List.mem_map.1 hb
   have:=a7Z (l:=l) (h.ok.b b' hb') h0.1 (by have:=h.l b' hb';omega)
   simpa using this
  ·show c.regs+3≤15
   omega
  ·obtain⟨b',hb',rfl⟩:=List.mem_map.1 hb
   have:=sY l c.regs b'
   have:=h.l b' hb'
   omega
def mM(L:List (List Int))(r:Int):Nat:=(L.filter fun a=>decide (r∈a)).length
def S7(sp:List Bool)(L:List (List Int))(l:List Int):Nat→Int
 |0=> -1
 |r+1=>if sp.getD r false=true∧¬((r:Int)∈l)∧(S7 sp L l r<0∨mM L (S7 sp L l r)<mM L r)then r else S7 sp L l r
theorem kZ(sp:List Bool)(L:List (List Int))(l:List Int):∀n,S7 sp L l n= -1∨(0≤S7 sp L l n∧S7 sp L l n<n∧sp.getD (S7 sp L l n).toNat false=true∧S7 sp L l n∉l)
 |0=> .inl rfl
 |n+1=>by
  unfold S7
  split
  ·rename_i h
   exact .inr ⟨by omega,by omega,h.1,h.2.1⟩
  ·rcases kZ sp L l n with h|⟨h1,h2,h3⟩
   ·exact .inl h
   ·exact .inr ⟨h1,by omega,h3⟩
noncomputable def bestF (c:Code) (l:List Int):Int:=S7 (spF c) (liveF c).1 l c.regs.toNat
noncomputable def pressF (d:Code):Int:=prF d (liveF d).1 (liveF d).2 d.b.length
instance (c:Code):Decidable (dL c):=by unfold dL;infer_instance
noncomputable def runF (c:Code) (v:Int):Nat→List Int→Option (List Int)
 |0,_=>none
 |n+1,l=>if dL (p9 c l)then(if pressF (p9 c l)≤v then some l else if bestF c l<0 then none else runF c v n (F6 l (bestF c l)))else none
theorem a1m(c:Code):(spF c).length=c.regs.toNat:=by simp [spF]
theorem vJ(c:Code){r:Nat}(h:r<c.regs.toNat):(spF c).getD r false=true↔a4u c r∧¬b0E c r:=by
 unfold spF
 rw[List.getD_eq_getElem?_getD,List.getElem?_map,List.getElem?_range h];simp
theorem fN{c:Code}{l:List Int}(h:¬bestF c l<0):0≤bestF c l∧bestF c l<c.regs∧(a4u c (bestF c l)∧¬b0E c (bestF c l))∧bestF c l∉l:=by
 rcases kZ (spF c) (liveF c).1 l c.regs.toNat with h1|⟨h1,h2,h3,h4⟩
 ·exact absurd (show bestF c l<0 by unfold bestF;omega) h
 ·refine⟨h1,by unfold bestF;omega,?_,h4⟩
  have e:((bestF c l).toNat:Int)=bestF c l:=Int.toNat_of_nonneg h1
  have:=(vJ c (r:=(bestF c l).toNat) (by unfold bestF;omega)).1 h3
  rw[e]at this;exact this
theorem bU.nil(c:Code):bU c []:=⟨fun q h=>by simp at h,N1.nil,fun q h=>by simp at h⟩
theorem bU.a2J{c:Code}{l:List Int}(h:bU c l)(hb:¬bestF c l<0):bU c (F6 l (bestF c l)):=by
 obtain⟨b1,b2,b3,b4⟩:=fN hb
 refine⟨fun q hq=>?_,kL h.s _,fun q hq=>?_⟩
 ·rcases V3.1 hq with rfl|hq
  ·exact⟨b1,b2⟩
  ·exact h.r q hq
 ·rcases V3.1 hq with rfl|hq
  ·exact b3
  ·exact h.e q hq
theorem gK{l:List Int}{n:Int}(hs:N1 l)(h:n∉l):(F6 l n).length=l.length+1:=by
 unfold F6
 rw[if_neg h,List.length_append,List.length_cons]
 have:=congrArg List.length (List.takeWhile_append_dropWhile (p:=fun x=>decide (x<n)) (l:=l))
 rw[List.length_append]at this;omega
theorem bU.len{c:Code}{l:List Int}(hc:C8 c)(h:bU c l):(l.length:Int)≤c.regs:=pJ h.r h.s hc.r.1
theorem kI{c:Code}{v:Int}:∀{n:Nat} {l m:List Int},bU c l→runF c v n l=some m→l.length≤m.length∧bU c m∧dL (p9 c m)∧pressF (p9 c m)≤v
 |0,l,m,_,h=>by simp [runF]at h
 |n+1,l,m,hs,h=>by
  unfold runF at h
  split at h
  ·rename_i h1
   split at h
   ·rename_i h2
    cases h;exact⟨Nat.le_refl _,hs,h1,h2⟩
   ·split at h
    ·cases h
    ·rename_i h2 h3
     obtain⟨g1,g2⟩:=kI (hs.a2J h3) h
     have:=gK hs.s (fN h3).2.2.2
     exact⟨by omega,g2⟩
  ·cases h
theorem a4d{c:Code}{v:Int}:∀{n:Nat} {l m:List Int},bU c l→runF c v n l=some m→∃m',runF c (v+1) n l=some m'∧m'.length≤m.length
 |0,l,m,_,h=>by simp [runF]at h
 |n+1,l,m,hs,h=>by
  have hl:=(kI hs h).1
  unfold runF at h⊢
  split at h
  ·rename_i h1
   rw[if_pos h1]
   by_cases h2:pressF (p9 c l)≤v+1
   ·rw[if_pos h2];exact⟨l,rfl,hl⟩
   ·rw[if_neg h2]
    rw[if_neg (by omega)]at h
    split at h
    ·cases h
    ·rename_i h3
     rw[if_neg h3]
     exact a4d (hs.a2J h3) h
  ·cases h
theorem b3S{c:Code}{v:Int}{n:Nat}{m:List Int}(h:runF c v n []=some m)(hp:¬pressF c≤v):0<m.length:=by
 cases n with
 |zero=>simp [runF]at h
 |succ n=>
  unfold runF at h
  have e:p9 c []=c:=rfl
  rw[e,if_neg hp]at h
  split at h
  ·split at h
   ·cases h
   ·rename_i h3
    have h1:=(kI ((bU.nil c).a2J h3) h).1
    have:=gK N1.nil (fN h3).2.2.2
    simp at this;omega
  ·cases h
theorem b2b{c:Code}(h:a50 c):dL c:=by
 have hr:=h.r
 have hn:=h.ok.n
 refine⟨by omega,?_⟩
 have:∀L:List e8,(∀b∈L,b.i.length≤39)→(L.map fun b=>b.i.length).sum≤39*L.length:=by
  intro L
  induction L with
  |nil=>simp
  |cons b L ih=>
   intro h
   have h1:=ih fun y hy=>h y (by simp [hy])
   have h2:=h b (by simp)
   simp only[List.map_cons,List.sum_cons,List.length_cons];omega
 have:=this c.b h.l
 omega
theorem a4f{c:Code}(h:a50 c){v:Int}{n:Nat}(hp:pressF c≤v):runF c v (n+1) []=some []:=by
 unfold runF
 have e:p9 c []=c:=rfl
 rw[e,if_pos (b2b h),if_pos hp]
theorem a7L{r:Int}{x:l0}(h:aK r x):∀y∈w6 x,0≤y∧y<r:=by
 intro y hy
 obtain⟨o,ho,h1,rfl⟩:=cU.1 hy
 simp only[List.mem_cons,List.not_mem_nil,or_false]at ho
 rcases ho with rfl|rfl|rfl
 ·exact h.a h1
 ·exact h.b h1
 ·exact h.c h1
theorem vO{r n:Int}{t:w4}(h:W0 r n t):∀y∈u9 t,0≤y∧y<r:=by
 intro y hy
 obtain⟨o,ho,h1,rfl⟩:=cU.1 hy
 simp only[List.mem_cons,List.not_mem_nil,or_false]at ho
 rcases ho with rfl|rfl
 ·exact h.a h1
 ·exact h.b h1
theorem b0w{r:Int}{x:l0}(h:aK r x)(hd:0≤Q7 x):Q7 x<r:=by
 unfold Q7 tJ at*
 split at hd
 ·rename_i h2;rw[if_pos h2];exact(h.d h2).2
 ·omega
theorem a6Y{r n:Int}{t:w4}(h:W0 r n t)(hd:0≤O3 t):O3 t<r:=by
 unfold O3 tJ at*
 split at hd
 ·rename_i h2;rw[if_pos h2];exact(h.d h2).2
 ·omega
def jC(U E:List Bool)(i:Nat):List Bool:=(List.range U.length).map fun r=>if r<i then U.getD r false&& !E.getD r false else U.getD r false
theorem b5Q(U E:List Bool):jC U E 0=U:=by
 apply List.ext_getElem?;intro j
 simp only[jC,List.getElem?_map,Nat.not_lt_zero,if_false]
 by_cases h:j<U.length
 ·simp [List.getElem?_range h,h,List.getD_eq_getElem?_getD]
 ·simp [h]
theorem b0M(U E:List Bool)(i:Nat):(jC U E i).length=U.length:=by simp [jC]
theorem b24(U E:List Bool){i j:Nat}(hj:j<U.length)(h:i≤j):(jC U E i).getD j false=U.getD j false:=by
 unfold jC
 rw[List.getD_eq_getElem?_getD,List.getElem?_map,List.getElem?_range hj]
 simp only[Option.map_some,Option.getD_some]
 rw[if_neg (by omega)]
theorem a8r(U E:List Bool){i:Nat}(hi:i<U.length):jC U E (i+1)=(jC U E i).set i (U.getD i false&& !E.getD i false):=by
 apply List.ext_getElem?;intro j
 rw[List.getElem?_set]
 unfold jC
 simp only[List.getElem?_map,List.length_map,List.length_range]
 by_cases h:j<U.length
 ·rw[List.getElem?_range h]
  by_cases e:i=j
  ·subst e;simp [hi]
  ·have:(j<i+1)=(j<i):=by apply propext;omega
   simp [e,this]
 ·have:¬i=j:=by omega
  simp [h,this]
end Go.Proofs.YtgdoiokalfhjoaaDoor
end
