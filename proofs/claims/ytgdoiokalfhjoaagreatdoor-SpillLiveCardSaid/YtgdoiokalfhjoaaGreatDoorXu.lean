/- Own work (by an AI agent; no person has read it): part of a proof of the seat YtgdoiokalfhjoaaGreatDoor. -/
import Derived.Test.YtgdoiokalfhjoaaGreatDoorXr
set_option linter.unusedSimpArgs false
set_option linter.unusedVariables false
set_option maxRecDepth 100000
set_option maxHeartbeats 10000000
section
namespace Go.Proofs.YtgdoiokalfhjoaaGreatDoor
open Go.Ab
theorem eR(r:Int):I6 r O0:=fun h=>by simp [O0]at h
theorem a0k{r n:Int}(h:0≤n∧n<r):I6 r (mR n):=fun _=>h
theorem I6.mono{r r':Int}{o:E3}(h:I6 r o)(hr:r≤r'):I6 r' o:=fun hk=>by have:=h hk;omega
theorem iZ{r:Int}{o:E3}{K:List Int}(h:I6 r o)(h0:0≤r)(hk:K.length≤3):I6 (r+3) (w8 o K r):=by
 unfold w8
 split
 ·rename_i hh
  have:=c1D hh.2
  exact a0k (by omega)
 ·exact h.mono (by omega)
theorem b7W{l:List Int}{r:Int}{x:e8}(h:aS r x)(h0:0≤r):∀y∈W8 l r x,aS (r+3) y:=by
 have hk:(o4 l (m7 x)).length≤3:=Nat.le_trans (U4 _ _) (Z4 x)
 intro y hy
 unfold W8 at hy
 rcases List.mem_append.1 hy with hy|hy
 ·unfold H6 at hy
  obtain⟨k,hk2,rfl⟩:=List.mem_map.1 hy
  have:=List.mem_range.1 hk2
  exact⟨a0k (by omega),eR _,eR _,eR _⟩
 ·rcases List.mem_cons.1 hy with rfl|hy
  ·refine⟨?_,iZ h.a h0 hk,iZ h.b h0 hk,iZ h.c h0 hk⟩
   show I6 (r+3) (if z8 x∈l then mR r else x.d)
   split
   ·exact a0k (by omega)
   ·exact h.d.mono (by omega)
  ·split at hy
   ·rcases List.mem_singleton.1 hy with rfl
    exact⟨eR _,a0k (by omega),eR _,eR _⟩
   ·simp at hy
theorem b00(l:List Int)(r:Int)(x:e8):(W8 l r x).length≤5∧1≤(W8 l r x).length:=by
 have hk:(o4 l (m7 x)).length≤3:=Nat.le_trans (U4 _ _) (Z4 x)
 unfold W8 H6
 rw[List.length_append,List.length_cons,List.length_map,List.length_range]
 split<;>simp<;>omega
theorem a8P(l:List Int)(r:Int):∀L:List e8,(L.flatMap (W8 l r)).length≤5*L.length
 |[]=>by simp
 |x::L=>by
  have h1:=a8P l r L
  have h2:=(b00 l r x).1
  rw[List.flatMap_cons,List.length_append,List.length_cons];omega
theorem xU(l:List Int)(r:Int)(b:b6):(E5 l r b).i.length≤5*b.i.length+2:=by
 have h1:=a8P l r b.i
 have h2:(o4 l (j6 b.t)).length≤2:=Nat.le_trans (U4 _ _) (X7 _)
 unfold E5 H6
 simp only[List.length_append,List.length_map,List.length_range];omega
theorem b4c{l:List Int}{r n:Int}{b:b6}(h:cC r n b)(h0:0≤r)(hb:b.i.length≤59):cC (r+3) n (E5 l r b):=by
 have hk:(o4 l (j6 b.t)).length≤3:=Nat.le_trans (Nat.le_trans (U4 _ _) (X7 _)) (by omega)
 refine⟨fun y hy=>?_,⟨h.t.d.mono (by omega),iZ h.t.a h0 hk,iZ h.t.b h0 hk,h.t.to,h.t.to1,h.t.dk⟩,by have:=xU l r b;omega⟩
 rcases List.mem_append.1 hy with hy|hy
 ·obtain⟨x,hx,hy⟩:=List.mem_flatMap.1 hy
  exact b7W (h.i x hx) h0 y hy
 ·unfold H6 at hy
  obtain⟨k,hk2,rfl⟩:=List.mem_map.1 hy
  have:=List.mem_range.1 hk2
  exact⟨a0k (by omega),eR _,eR _,eR _⟩
structure b1J (c:Code):Prop where
 ok:u9 c
 r:c.regs≤12
 l:∀b∈c.b,b.i.length≤39
theorem jW{c:Code}(h:b1J c)(l:List Int):u9 (m9 c l)∧(m9 c l).regs≤15∧∀b∈(m9 c l).b,b.i.length≤197:=by
 have hr:=h.r
 have h0:=h.ok.r
 unfold m9
 split
 ·exact⟨h.ok,by omega,fun b hb=>by have:=h.l b hb;omega⟩
 ·refine⟨⟨by simpa using h.ok.n,?_,fun b hb=>?_⟩,?_,fun b hb=>?_⟩
  ·show 0≤c.regs+3∧c.regs+3≤16
   omega
  ·obtain⟨b',hb',rfl⟩:=List.mem_map.1 hb
   have:=b4c (l:=l) (h.ok.b b' hb') h0.1 (by have:=h.l b' hb';omega)
   simpa using this
  ·show c.regs+3≤15
   omega
  ·obtain⟨b',hb',rfl⟩:=List.mem_map.1 hb
   have:=xU l c.regs b'
   have:=h.l b' hb'
   omega
def iO(L:List (List Int))(r:Int):Nat:=(L.filter fun a=>decide (r∈a)).length
def H5(sp:List Bool)(L:List (List Int))(l:List Int):Nat→Int
 |0=> -1
 |r+1=>if sp.getD r false=true∧¬((r:Int)∈l)∧(H5 sp L l r<0∨iO L (H5 sp L l r)<iO L r)then r else H5 sp L l r
theorem nT(sp:List Bool)(L:List (List Int))(l:List Int):∀n,H5 sp L l n= -1∨(0≤H5 sp L l n∧H5 sp L l n<n∧sp.getD (H5 sp L l n).toNat false=true∧H5 sp L l n∉l)
 |0=> .inl rfl
 |n+1=>by
  unfold H5
  split
  ·rename_i h
   exact .inr ⟨by omega,by omega,h.1,h.2.1⟩
  ·rcases nT sp L l n with h|⟨h1,h2,h3⟩
   ·exact .inl h
   ·exact .inr ⟨h1,by omega,h3⟩
noncomputable def bestF (c:Code) (l:List Int):Int:=H5 (spF c) (liveF c).1 l c.regs.toNat
noncomputable def pressF (d:Code):Int:=prF d (liveF d).1 (liveF d).2 d.b.length
instance (c:Code):Decidable (dC c):=by unfold dC;infer_instance
noncomputable def runF (c:Code) (v:Int):Nat→List Int→Option (List Int)
 |0,_=>none
 |n+1,l=>if dC (m9 c l)then(if pressF (m9 c l)≤v then some l else if bestF c l<0 then none else runF c v n (y5 l (bestF c l)))else none
theorem mU(c:Code):(spF c).length=c.regs.toNat:=by simp [spF]
theorem sH(c:Code){r:Nat}(h:r<c.regs.toNat):(spF c).getD r false=true↔b0a c r∧¬b7r c r:=by
 unfold spF
 rw[List.getD_eq_getElem?_getD,List.getElem?_map,List.getElem?_range h];simp
theorem lT{c:Code}{l:List Int}(h:¬bestF c l<0):0≤bestF c l∧bestF c l<c.regs∧(b0a c (bestF c l)∧¬b7r c (bestF c l))∧bestF c l∉l:=by
 rcases nT (spF c) (liveF c).1 l c.regs.toNat with h1|⟨h1,h2,h3,h4⟩
 ·exact absurd (show bestF c l<0 by unfold bestF;omega) h
 ·refine⟨h1,by unfold bestF;omega,?_,h4⟩
  have e:((bestF c l).toNat:Int)=bestF c l:=Int.toNat_of_nonneg h1
  have:=(sH c (r:=(bestF c l).toNat) (by unfold bestF;omega)).1 h3
  rw[e]at this;exact this
theorem cS.nil(c:Code):cS c []:=⟨fun q h=>by simp at h,I5.nil,fun q h=>by simp at h⟩
theorem cS.b6I{c:Code}{l:List Int}(h:cS c l)(hb:¬bestF c l<0):cS c (y5 l (bestF c l)):=by
 obtain⟨b1,b2,b3,b4⟩:=lT hb
 refine⟨fun q hq=>?_,mZ h.s _,fun q hq=>?_⟩
 ·rcases U6.1 hq with rfl|hq
  ·exact⟨b1,b2⟩
  ·exact h.r q hq
 ·rcases U6.1 hq with rfl|hq
  ·exact b3
  ·exact h.e q hq
theorem nQ{l:List Int}{n:Int}(hs:I5 l)(h:n∉l):(y5 l n).length=l.length+1:=by
 unfold y5
 rw[if_neg h,List.length_append,List.length_cons]
 have:=congrArg List.length (List.takeWhile_append_dropWhile (p:=fun x=>decide (x<n)) (l:=l))
 rw[List.length_append]at this;omega
theorem cS.len{c:Code}{l:List Int}(hc:u9 c)(h:cS c l):(l.length:Int)≤c.regs:=sB h.r h.s hc.r.1
theorem b3z{c:Code}{v:Int}:∀{n:Nat} {l m:List Int},cS c l→runF c v n l=some m→l.length≤m.length∧cS c m∧dC (m9 c m)∧pressF (m9 c m)≤v
 |0,l,m,_,h=>by simp [runF]at h
 |n+1,l,m,hs,h=>by
  unfold runF at h
  split at h
  ·rename_i h1
   split at h
   ·rename_i h2
    cases h;exact⟨Nat.le_refl _,hs,h1,h2⟩
   ·split at h
    ·cases h
    ·rename_i h2 h3
     obtain⟨g1,g2⟩:=b3z (hs.b6I h3) h
     have:=nQ hs.s (lT h3).2.2.2
     exact⟨by omega,g2⟩
  ·cases h
theorem b83{c:Code}(h:b1J c):dC c:=by
 have hr:=h.r
 have hn:=h.ok.n
 refine⟨by omega,?_⟩
 have:∀L:List b6,(∀b∈L,b.i.length≤39)→(L.map fun b=>b.i.length).sum≤39*L.length:=by
  intro L
  induction L with
  |nil=>simp
  |cons b L ih=>
   intro h
   have h1:=ih fun y hy=>h y (by simp [hy])
   have h2:=h b (by simp)
   simp only[List.map_cons,List.sum_cons,List.length_cons];omega
 have:=this c.b h.l
 omega
theorem b8W{c:Code}(h:b1J c){v:Int}{n:Nat}(hp:pressF c≤v):runF c v (n+1) []=some []:=by
 unfold runF
 have e:m9 c []=c:=rfl
 rw[e,if_pos (b83 h),if_pos hp]
theorem a5N{r:Int}{x:e8}(h:aS r x):∀y∈m7 x,0≤y∧y<r:=by
 intro y hy
 obtain⟨o,ho,h1,rfl⟩:=L6.1 hy
 simp only[List.mem_cons,List.not_mem_nil,or_false]at ho
 rcases ho with rfl|rfl|rfl
 ·exact h.a h1
 ·exact h.b h1
 ·exact h.c h1
theorem jE{r n:Int}{t:o6}(h:V3 r n t):∀y∈j6 t,0≤y∧y<r:=by
 intro y hy
 obtain⟨o,ho,h1,rfl⟩:=L6.1 hy
 simp only[List.mem_cons,List.not_mem_nil,or_false]at ho
 rcases ho with rfl|rfl
 ·exact h.a h1
 ·exact h.b h1
theorem b0G{r:Int}{x:e8}(h:aS r x)(hd:0≤z8 x):z8 x<r:=by
 unfold z8 nX at*
 split at hd
 ·rename_i h2;rw[if_pos h2];exact(h.d h2).2
 ·omega
theorem uQ{r n:Int}{t:o6}(h:V3 r n t)(hd:0≤B8 t):B8 t<r:=by
 unfold B8 nX at*
 split at hd
 ·rename_i h2;rw[if_pos h2];exact(h.d h2).2
 ·omega
def oC(x:e8):List Int:=m7 x++if 0≤z8 x then[z8 x]else[]
def U7(b:b6)(i:Nat):List Int:=j6 b.t++(b.i.take i).flatMap oC
theorem tN(b:b6)(i:Nat)(h:i<b.i.length):U7 b (i+1)=U7 b i++m7 (b.i.getD i I0)++(if 0≤z8 (b.i.getD i I0)then[z8 (b.i.getD i I0)]else[]):=by
 unfold U7;rw[w4 b.i i I0 h,List.flatMap_append,←List.append_assoc,List.append_assoc];simp [oC]
theorem a9s{r n:Int}{b:b6}(h:cC r n b)(i:Nat):∀y∈U7 b i,0≤y∧y<r:=by
 intro y hy
 unfold U7 at hy
 rcases List.mem_append.1 hy with hy|hy
 ·exact jE h.t y hy
 ·obtain⟨x,hx,hy⟩:=List.mem_flatMap.1 hy
  have hx:=h.i x (List.mem_of_mem_take hx)
  unfold oC at hy
  rcases List.mem_append.1 hy with hy|hy
  ·exact a5N hx y hy
  ·split at hy
   ·rename_i h0
    rw[List.mem_singleton.1 hy];exact⟨h0,b0G hx h0⟩
   ·simp at hy
theorem b1j(x:e8):(oC x).length≤4:=by
 have:=Z4 x
 unfold oC;rw[List.length_append];split<;>simp<;>omega
theorem jV(b:b6):∀i,(U7 b i).length≤2+4*i
 |0=>by have:=X7 b.t;simp [U7];omega
 |i+1=>by
  by_cases h:i<b.i.length
  ·have h1:=jV b i
   have h2:=b1j (b.i.getD i I0)
   rw[tN b i h]
   unfold oC at h2
   simp only[List.length_append]at h2⊢;omega
  ·have h1:=jV b i
   unfold U7 at*
   rw[List.take_of_length_le (by omega)]at h1⊢;omega
def b0K(E:List Bool)(b:b6):List Bool:=
 let E1:=Z5 E (if b.t.kind=4 then j6 b.t else[])
 if 0≤B8 b.t then E1.set (B8 b.t).toNat true else E1
theorem c6e(a b:List Int):(b7 (a++b)).take (a.length+b.length)=b7 (a++b):=List.take_of_length_le (by simp [b7])
theorem c6f(a b:List Int)(d:Int):(b7 (a++b++[d])).take (a.length+b.length+1)=b7 (a++b++[d]):=List.take_of_length_le (by simp [b7];omega)
noncomputable def spR (c:Code):Nat→List Bool×List Bool
 |0=>(List.replicate c.regs.toNat false,List.replicate c.regs.toNat false)
 |b+1=>if(reachF c.b).getD b false then(Z5 (spR c b).1 (U7 (w7 c.b b) (w7 c.b b).i.length),b0K (spR c b).2 (w7 c.b b))else spR c b
theorem b7q(E:List Bool)(b:b6):(b0K E b).length=E.length:=by
 unfold b0K;simp only;split<;>simp [U5]
theorem mX(c:Code):∀b,(spR c b).1.length=c.regs.toNat∧(spR c b).2.length=c.regs.toNat
 |0=>by simp [spR]
 |b+1=>by
  have ih:=mX c b
  unfold spR
  split
  ·exact⟨by rw[U5];exact ih.1,by rw[b7q];exact ih.2⟩
  ·exact ih
def dY(U E:List Bool)(i:Nat):List Bool:=(List.range U.length).map fun r=>if r<i then U.getD r false&& !E.getD r false else U.getD r false
theorem b7z(U E:List Bool):dY U E 0=U:=by
 apply List.ext_getElem?;intro j
 simp only[dY,List.getElem?_map,Nat.not_lt_zero,if_false]
 by_cases h:j<U.length
 ·simp [List.getElem?_range h,h,List.getD_eq_getElem?_getD]
 ·simp [h]
theorem a8O(U E:List Bool)(i:Nat):(dY U E i).length=U.length:=by simp [dY]
theorem b2R(U E:List Bool){i j:Nat}(hj:j<U.length)(h:i≤j):(dY U E i).getD j false=U.getD j false:=by
 unfold dY
 rw[List.getD_eq_getElem?_getD,List.getElem?_map,List.getElem?_range hj]
 simp only[Option.map_some,Option.getD_some]
 rw[if_neg (by omega)]
theorem a3O(U E:List Bool){i:Nat}(hi:i<U.length):dY U E (i+1)=(dY U E i).set i (U.getD i false&& !E.getD i false):=by
 apply List.ext_getElem?;intro j
 rw[List.getElem?_set]
 unfold dY
 simp only[List.getElem?_map,List.length_map,List.length_range]
 by_cases h:j<U.length
 ·rw[List.getElem?_range h]
  by_cases e:i=j
  ·subst e;simp [hi]
  ·have:(j<i+1)=(j<i):=by apply propext;omega
   simp [e,this]
 ·have:¬i=j:=by omega
  simp [h,this]
def c4A:=ZZ.mk (Zq P8.d (Zq nF.d (Zq @List.length_replicate.{0} (Zq @List.length_set.{0} (Zq @K7 (Zq @K6 (Zq @aG (Zq @lW (Zq @aD (Zq @lX (Zq @o6.av.eq_1 (Zq @e8.av.eq_1 (Zq @Q6 (Zq @fG (Zq @bC (Zq @y7 (Zq @I3 (Zq @H8 @b6.av.eq_1))))))))))))))))))
def cT:=ZZ.mk (Zq c4A.d @O3)
def b0h:=ZZ.mk (Zq cT.d (Zq @yT (Zq @c6e @c6f)))
theorem a0W(c:Code)(hc:u9 c):c9 Tryz.prog 121 [.agg c.av] (fun _=> .a6 false (o8 (dY (spR c c.b.length).1 (spR c c.b.length).2 c.regs.toNat))) (fun _=>[]):=by
 have hr:=hc.r
 have hn:=hc.n
 have C3:=mP c hc.succ (by omega)
 simp only[Code.av]at C3
 refine Zf Tryz.func121 Tryz.ntmps121 ?_;simp only[Code.av]
 repeat' (first|refine Za ?_|(with_reducible constructor<;>first|intro N hN mk hmk|intro N hN|intro h)|refine Zc C3 ?_|refine Zt c4A.d ?_|fail)
 refine c8 (fun b=>⟨[.Z,.ptr 0 0 0,.Z,.a6 false (o8 (reachF c.b)),.own 1 0 c.regs.toNat,.own 2 0 c.regs.toNat,.v (.int .i64 b),.Z,.Z,.Z,.Z,.Z,.Z,.Z,.Z,.Z,.Z,.Z,.Z,.Z,.Z,.Z,.Z,.Z,.Z,.Z,.Z,.Z,.Z,.Z,.Z,.Z,.Z,.Z,.Z,.Z,.Z,.Z,.Z,.Z,.Z,.Z,.Z,.Z,.Z,.Z,.Z,.Z,.Z,.Z,.Z,.Z,.Z,.Z,.Z,.Z,.Z,.Z,.Z,.Z,.Z,.Z,.Z,.Z,.Z,.Z,.Z,.Z,.Z,.Z,.Z,.Z,.Z,.Z,.Z,.Z,.Z,.Z,.Z,.Z,.Z,.Z,.Z,.Z,.Z,.Z,.Z,.Z,.Z,.Z,.Z,.Z,.Z,.Z,.Z,.Z,.Z,.Z,.Z,.Z,.Z,.Z,.Z,.Z,.Z,.Z,.Z,.Z,.Z,.Z,.Z,.Z,.Z,.Z,.Z,.Z,.Z,.Z,.Z,.Z,.Z,.Z,.Z,.Z,.Z,.Z,.Z,.Z,.Z,.Z,.Z,.Z,.Z,.Z,.Z,.Z,.Z,.Z,.Z,.Z,.Z,.Z,.Z,.Z,.Z,.Z,.Z,.Z,.Z],[(0,.live ⟨8,[[.v (.int .i64 c.group),.v (.int .i64 c.sub),.v (.int .i64 c.regs),.v (.int .i64 c.u7),.v (.int .i64 c.params),.a6 false (w6 c.c6),.a6 false (Proofs.YtgdoiokalfhjoaaGreatDoor.loops c.loops),.a6 false (p7 c.b)]],0⟩),(1,.live ⟨1,o8 ((spR c b).1),0⟩),(2,.live ⟨1,o8 ((spR c b).2),0⟩)],3⟩) c.b.length (Zw [1,3,4,5,6] [0,56,80] c4A.d ?_) ?_
 ·rfl
 ·intro b hb
  have hlU:=(mX c b).1
  have hlE:=(mX c b).2
  have hlr:=T0 c.b
  obtain⟨Y,hY⟩:∃Y,Y=spR c (b+1):=⟨_,rfl⟩
  rw[←hY]
  by_cases hlt:b<c.b.length
  ·have hy:Y=if(reachF c.b).getD b false then(Z5 (spR c b).1 (U7 (w7 c.b b) (w7 c.b b).i.length),b0K (spR c b).2 (w7 c.b b))else spR c b:=by rw[hY];rfl
   have hbo:=hc.b _ (O8 hlt)
   obtain⟨U,hU⟩:∃U,U=(spR c b).1:=⟨_,rfl⟩
   obtain⟨E,hE⟩:∃E,E=(spR c b).2:=⟨_,rfl⟩
   rw[←hU]at hlU hy
   rw[←hE]at hlE hy
   rw[←hU,←hE]
   obtain⟨B,hB⟩:∃B,B=w7 c.b b:=⟨_,rfl⟩
   have hB2:c.b.getD b B0=B:=by rw[hB];rfl
   rw[←hB]at hy hbo
   have J1:=rZ B.t
   simp only[o6.av]at J1
   have huT:=X7 B.t
   have hti:=jE hbo.t
   have J7:=a0d B.t
   simp only[o6.av]at J7
   obtain⟨n2,hn2⟩:∃n2,n2=if B.t.kind=4 then j6 B.t else[]:=⟨_,rfl⟩
   obtain⟨E',hE'⟩:∃E',E'=Z5 E n2:=⟨_,rfl⟩
   have hE2:b0K E B=if 0≤B8 B.t then E'.set (B8 B.t).toNat true else E':=by rw[hE',hn2];rfl
   have hlE':E'.length=c.regs.toNat:=by rw[hE',U5,hlE]
   obtain⟨L,hL⟩:∃L,L=U7 B B.i.length:=⟨_,rfl⟩
   have hLi:=a9s hbo B.i.length
   have hLl:=jV B B.i.length
   rw[←hL]at hLi hLl
   have hbl:=hbo.l
   obtain⟨U',hU'⟩:∃U',U'=Z5 U L:=⟨_,rfl⟩
   have hlU':U'.length=c.regs.toNat:=by rw[hU',U5,hlU]
   rw[hE2,←hL,←hU']at hy
   have hd9:=fun h=>uQ hbo.t (h:0≤B8 B.t)
   repeat' (first|(guard_target=~ AK Tryz.prog _ _ _ _;refine oZ (x:=Go.Code.seq (Go.Code.region 19 _ _) _) ⟨[.Z,.ptr 0 0 0,.Z,.a6 false (o8 (reachF c.b)),.own 1 0 c.regs.toNat,.own 2 0 c.regs.toNat,.v (.int .i64 b),.Z,.Z,.Z,.Z,.Z,.Z,.Z,.Z,.Z,.Z,.Z,.Z,.Z,.Z,.Z,.Z,.Z,.Z,.Z,.Z,.Z,.Z,.Z,.Z,.Z,.Z,.Z,.Z,.Z,.Z,.Z,.Z,.Z,.Z,.Z,.Z,.Z,.Z,.Z,.Z,.Z,.Z,.Z,.Z,.Z,.Z,.Z,.Z,.Z,.Z,.Z,.Z,.Z,.Z,.Z,.Z,.Z,.Z,.Z,.Z,.Z,.Z,.Z,.Z,.Z,.Z,.Z,.Z,.Z,.Z,.Z,.Z,.Z,.Z,.Z,.Z,.Z,.Z,.Z,.Z,.Z,.Z,.Z,.Z,.Z,.Z,.Z,.Z,.Z,.Z,.Z,.Z,.Z,.Z,.Z,.Z,.Z,.Z,.Z,.Z,.Z,.Z,.Z,.Z,.Z,.Z,.Z,.Z,.Z,.Z,.Z,.Z,.Z,.Z,.Z,.Z,.Z,.Z,.Z,.Z,.Z,.Z,.Z,.Z,.Z,.Z,.Z,.Z,.Z,.Z,.Z,.Z,.Z,.Z,.Z,.Z,.Z,.Z,.Z,.Z,.Z,.Z],[(0,.live ⟨8,[[.v (.int .i64 c.group),.v (.int .i64 c.sub),.v (.int .i64 c.regs),.v (.int .i64 c.u7),.v (.int .i64 c.params),.a6 false (w6 c.c6),.a6 false (Proofs.YtgdoiokalfhjoaaGreatDoor.loops c.loops),.a6 false (p7 c.b)]],0⟩),(1,.live ⟨1,o8 (U'),0⟩),(2,.live ⟨1,o8 (E'),0⟩)],3⟩ ?_ ?_)|(guard_target=~ AK Tryz.prog _ _ _ _;refine oZ (x:=Go.Code.seq (Go.Code.region 12 _ _) _) ⟨[.Z,.ptr 0 0 0,.Z,.a6 false (o8 (reachF c.b)),.own 1 0 c.regs.toNat,.own 2 0 c.regs.toNat,.v (.int .i64 b),.a6 false (b7 L),.Z,.Z,.Z,.Z,.Z,.Z,.Z,.Z,.Z,.Z,.Z,.Z,.Z,.Z,.Z,.Z,.Z,.Z,.Z,.Z,.Z,.Z,.Z,.Z,.Z,.Z,.Z,.Z,.Z,.Z,.Z,.Z,.Z,.Z,.Z,.Z,.Z,.Z,.Z,.Z,.Z,.Z,.Z,.Z,.Z,.Z,.Z,.Z,.Z,.Z,.Z,.Z,.Z,.Z,.Z,.Z,.Z,.Z,.Z,.Z,.Z,.Z,.Z,.Z,.Z,.Z,.Z,.Z,.Z,.Z,.Z,.Z,.Z,.Z,.Z,.Z,.Z,.Z,.Z,.Z,.Z,.Z,.Z,.Z,.Z,.Z,.Z,.Z,.Z,.Z,.Z,.Z,.Z,.Z,.Z,.Z,.Z,.Z,.Z,.Z,.Z,.Z,.Z,.Z,.Z,.Z,.Z,.Z,.Z,.Z,.Z,.Z,.Z,.Z,.Z,.Z,.Z,.Z,.Z,.Z,.Z,.Z,.Z,.Z,.Z,.Z,.Z,.Z,.Z,.Z,.Z,.Z,.Z,.Z,.Z,.Z,.Z,.Z,.Z,.Z,.Z],[(0,.live ⟨8,[[.v (.int .i64 c.group),.v (.int .i64 c.sub),.v (.int .i64 c.regs),.v (.int .i64 c.u7),.v (.int .i64 c.params),.a6 false (w6 c.c6),.a6 false (Proofs.YtgdoiokalfhjoaaGreatDoor.loops c.loops),.a6 false (p7 c.b)]],0⟩),(1,.live ⟨1,o8 (U),0⟩),(2,.live ⟨1,o8 (E'),0⟩)],3⟩ ?_ ?_)|(guard_target=~ AK Tryz.prog _ _ _ _;refine oZ (x:=Go.Code.seq (Go.Code.region 8 _ _) _) ⟨[.Z,.ptr 0 0 0,.Z,.a6 false (o8 (reachF c.b)),.own 1 0 c.regs.toNat,.own 2 0 c.regs.toNat,.v (.int .i64 b),.a6 false (b7 (j6 B.t)),.Z,.Z,.Z,.Z,.Z,.Z,.Z,.Z,.Z,.Z,.Z,.Z,.Z,.Z,.Z,.Z,.Z,.Z,.Z,.Z,.Z,.Z,.Z,.Z,.Z,.Z,.Z,.Z,.Z,.Z,.Z,.Z,.Z,.Z,.Z,.Z,.Z,.Z,.Z,.Z,.Z,.Z,.Z,.Z,.Z,.Z,.Z,.Z,.Z,.Z,.Z,.Z,.Z,.Z,.Z,.Z,.Z,.Z,.Z,.Z,.Z,.Z,.Z,.Z,.Z,.Z,.Z,.Z,.Z,.Z,.Z,.Z,.Z,.Z,.Z,.Z,.Z,.Z,.Z,.Z,.Z,.Z,.Z,.Z,.Z,.Z,.Z,.Z,.Z,.Z,.Z,.Z,.Z,.Z,.Z,.Z,.Z,.Z,.Z,.Z,.Z,.Z,.Z,.Z,.Z,.Z,.Z,.Z,.Z,.Z,.Z,.Z,.Z,.Z,.Z,.Z,.Z,.Z,.Z,.Z,.Z,.Z,.Z,.Z,.Z,.Z,.Z,.Z,.Z,.Z,.Z,.Z,.Z,.Z,.Z,.Z,.Z,.Z,.Z,.Z,.Z],[(0,.live ⟨8,[[.v (.int .i64 c.group),.v (.int .i64 c.sub),.v (.int .i64 c.regs),.v (.int .i64 c.u7),.v (.int .i64 c.params),.a6 false (w6 c.c6),.a6 false (Proofs.YtgdoiokalfhjoaaGreatDoor.loops c.loops),.a6 false (p7 c.b)]],0⟩),(1,.live ⟨1,o8 (U),0⟩),(2,.live ⟨1,o8 (E'),0⟩)],3⟩ ?_ ?_)|refine Za ?_|(with_reducible constructor<;>first|intro N hN mk hmk|intro N hN|intro h)|refine Zc J1 ?_|refine Zc J7 ?_|(refine Zw [1,3,4,5,6,7] [0,1,2] (Zq cT.d (Zq hB2 (Zq hlU (Zq hlE (Zq hlU' (Zq hlE' hlr)))))) ?_;first|rfl|(simp only[*,true_and,and_true,false_and,and_false,decide_true,decide_false,not_true_eq_false,not_false_eq_true];done)|(simp [*];done))|(refine Zw [1,3,4,5,6,7] [0,1,2] (Zq cT.d (Zq hB2 (Zq hlU (Zq hlE (Zq hlU' (Zq hlE' hlr)))))) ?_;first|rfl|(simp only[*,true_and,and_true,false_and,and_false,decide_true,decide_false,not_true_eq_false,not_false_eq_true];done)|(simp [*];done))|(refine Zw [1,3,4,5,6] [0,1,2] (Zq cT.d (Zq hB2 (Zq hlU (Zq hlE (Zq hlU' (Zq hlE' hlr)))))) ?_;first|rfl|(simp only[*,true_and,and_true,false_and,and_false,decide_true,decide_false,not_true_eq_false,not_false_eq_true];done)|(simp [*];done))|refine Zt (Zq cT.d (Zq hB2 (Zq hlU (Zq hlE (Zq hlU' (Zq hlE' hlr)))))) ?_|fail)
   ·refine Zw [1,3,4,5,6] [0,1,2] (Zq cT.d (Zq hB2 (Zq hlU (Zq hlE (Zq hlU' (Zq hlE' hlr)))))) ?_
    rw[hy,if_neg (by simp_all),←hU,←hE];rfl
   ·refine c8 (fun i=>⟨[.Z,.ptr 0 0 0,.Z,.a6 false (o8 (reachF c.b)),.own 1 0 c.regs.toNat,.own 2 0 c.regs.toNat,.v (.int .i64 b),.a6 false (b7 (j6 B.t)),.v (.int .i64 i),.Z,.Z,.Z,.Z,.Z,.Z,.Z,.Z,.Z,.Z,.Z,.Z,.Z,.Z,.Z,.Z,.Z,.Z,.Z,.Z,.Z,.Z,.Z,.Z,.Z,.Z,.Z,.Z,.Z,.Z,.Z,.Z,.Z,.Z,.Z,.Z,.Z,.Z,.Z,.Z,.Z,.Z,.Z,.Z,.Z,.Z,.Z,.Z,.Z,.Z,.Z,.Z,.Z,.Z,.Z,.Z,.Z,.Z,.Z,.Z,.Z,.Z,.Z,.Z,.Z,.Z,.Z,.Z,.Z,.Z,.Z,.Z,.Z,.Z,.Z,.Z,.Z,.Z,.Z,.Z,.Z,.Z,.Z,.Z,.Z,.Z,.Z,.Z,.Z,.Z,.Z,.Z,.Z,.Z,.Z,.Z,.Z,.Z,.Z,.Z,.Z,.Z,.Z,.Z,.Z,.Z,.Z,.Z,.Z,.Z,.Z,.Z,.Z,.Z,.Z,.Z,.Z,.Z,.Z,.Z,.Z,.Z,.Z,.Z,.Z,.Z,.Z,.Z,.Z,.Z,.Z,.Z,.Z,.Z,.Z,.Z,.Z,.Z,.Z,.Z],[(0,.live ⟨8,[[.v (.int .i64 c.group),.v (.int .i64 c.sub),.v (.int .i64 c.regs),.v (.int .i64 c.u7),.v (.int .i64 c.params),.a6 false (w6 c.c6),.a6 false (Proofs.YtgdoiokalfhjoaaGreatDoor.loops c.loops),.a6 false (p7 c.b)]],0⟩),(1,.live ⟨1,o8 (U),0⟩),(2,.live ⟨1,o8 (Z5 E (n2.take i)),0⟩)],3⟩) n2.length (Zw [1,3,4,5,6,7,8] [0,1,2] (Zq cT.d (Zq hB2 (Zq hlU (Zq hlE (Zq hlU' (Zq hlE' hlr)))))) ?_) ?_
    ·rfl
    ·intro k hk
     have hml:(Z5 E (n2.take k)).length=c.regs.toNat:=by rw[U5,hlE]
     by_cases hlk:k<n2.length
     ·by_cases hk4:B.t.kind=4
      ·rw[if_pos hk4]at hn2
       subst hn2
       have hgo:=hti _ (F6 hlk)
       repeat' (first|refine Za ?_|(with_reducible constructor<;>first|intro N hN mk hmk|intro N hN|intro h)|refine Zt (Zq cT.d (Zq hB2 (Zq hml (Zq hlU (Zq hlE hlr))))) ?_|fail)
       all_goals first|(exfalso;omega)|(refine Zw [1,3,4,5,6,7,8] [0,1,2] (Zq cT.d (Zq hB2 (Zq hml (Zq hlU (Zq hlE hlr))))) ?_;rw[rV E (j6 B.t) k hlk];rfl)
      ·rw[if_neg hk4]at hn2
       subst hn2
       simp at hlk
     ·obtain rfl:k=n2.length:=by omega
      rw[List.take_length,←hE']at hml⊢
      have hno:(n2.length:Int)<(j6 B.t).length→¬B.t.kind=4:=fun h e=>by rw[if_pos e]at hn2;rw[hn2]at h;omega
      repeat' (first|refine Za ?_|(with_reducible constructor<;>first|intro N hN mk hmk|intro N hN|intro h)|refine Zt (Zq cT.d (Zq hB2 (Zq hml (Zq hlU (Zq hlE hlr))))) ?_|fail)
      all_goals first|(exfalso;exact absurd (by assumption) (hno (by assumption)))|(refine Zw [1,3,4,5,6,7] [0,1,2] (Zq cT.d (Zq hB2 (Zq hml (Zq hlU (Zq hlE hlr))))) ?_;rfl)
   ·
    refine c8 (fun i=>⟨[.Z,.ptr 0 0 0,.Z,.a6 false (o8 (reachF c.b)),.own 1 0 c.regs.toNat,.own 2 0 c.regs.toNat,.v (.int .i64 b),.a6 false (b7 (U7 B i)),.Z,.v (.int .i64 i),.Z,.Z,.Z,.Z,.Z,.Z,.Z,.Z,.Z,.Z,.Z,.Z,.Z,.Z,.Z,.Z,.Z,.Z,.Z,.Z,.Z,.Z,.Z,.Z,.Z,.Z,.Z,.Z,.Z,.Z,.Z,.Z,.Z,.Z,.Z,.Z,.Z,.Z,.Z,.Z,.Z,.Z,.Z,.Z,.Z,.Z,.Z,.Z,.Z,.Z,.Z,.Z,.Z,.Z,.Z,.Z,.Z,.Z,.Z,.Z,.Z,.Z,.Z,.Z,.Z,.Z,.Z,.Z,.Z,.Z,.Z,.Z,.Z,.Z,.Z,.Z,.Z,.Z,.Z,.Z,.Z,.Z,.Z,.Z,.Z,.Z,.Z,.Z,.Z,.Z,.Z,.Z,.Z,.Z,.Z,.Z,.Z,.Z,.Z,.Z,.Z,.Z,.Z,.Z,.Z,.Z,.Z,.Z,.Z,.Z,.Z,.Z,.Z,.Z,.Z,.Z,.Z,.Z,.Z,.Z,.Z,.Z,.Z,.Z,.Z,.Z,.Z,.Z,.Z,.Z,.Z,.Z,.Z,.Z,.Z,.Z,.Z,.Z,.Z],[(0,.live ⟨8,[[.v (.int .i64 c.group),.v (.int .i64 c.sub),.v (.int .i64 c.regs),.v (.int .i64 c.u7),.v (.int .i64 c.params),.a6 false (w6 c.c6),.a6 false (Proofs.YtgdoiokalfhjoaaGreatDoor.loops c.loops),.a6 false (p7 c.b)]],0⟩),(1,.live ⟨1,o8 (U),0⟩),(2,.live ⟨1,o8 (E'),0⟩)],3⟩) B.i.length (Zw [1,3,4,5,6,7,9] [0,1,2] (Zq cT.d (Zq hB2 (Zq hlU (Zq hlE (Zq hlU' (Zq hlE' hlr)))))) ?_) ?_
    ·rw[show U7 B 0=j6 B.t by simp [U7]];rfl
    ·intro k hk
     by_cases hlk:k<B.i.length
     ·have J2:=a0e (B.i.getD k I0)
      have J3:=uZ (B.i.getD k I0)
      have hu:=Z4 (B.i.getD k I0)
      have hnl:=jV B k
      have hns:=tN B k hlk
      simp only[e8.av]at J2 J3
      obtain⟨NS,hNS⟩:∃NS,NS=U7 B (k+1):=⟨_,rfl⟩
      rw[←hNS]at hns⊢
      obtain⟨N0,hN0⟩:∃N0,N0=U7 B k:=⟨_,rfl⟩
      rw[←hN0]at hns hnl⊢
      repeat' (first|refine Za ?_|(with_reducible constructor<;>first|intro N hN mk hmk|intro N hN|intro h)|refine Zc J2 ?_|refine Zc J3 ?_|refine Zt (Zq b0h.d (Zq hB2 (Zq hlU (Zq hlE' hlr)))) ?_|fail)
      ·rw[if_pos (by assumption)]at hns
       rw[hns]
       refine E9 (jF 7 6 (.a6 false (b7 (N0++m7 (B.i.getD k I0)++[z8 (B.i.getD k I0)]))) (by simp (maxSteps:=10000000) (disch:=omega) only[v8,b0h.d,hB2,hlU,hlE',hlr,n7,T6,u4,B4,s7,o7,AV.kept,b8,n6,u5,D5,s8,s6,c7,AV.A6,n8,x5,AV.plain,rd,v8,a8,T1,stepC,AV.j3,AV.U9,AV.x7,AV.O6,AV.scalar,V7,u0,C8,D3,D4,D0,s5,B9,V8,u1,C9,B3,l0,V6,n4,A4,A3,T7,B2,m8,TD.isRow,u3,l9,n3,l7,H7,Value.oneCell',↓reduceIte,Int.reduceNe,Int.reduceEq,Nat.reduceAdd,Nat.reduceLT,Nat.reduceLeDiff,Nat.reduceSub,Nat.reduceMul,Nat.reduceBEq,Nat.reduceEqDiff,reduceCtorEq,Int.reduceToNat,←decide_not,←Bool.decide_and,sA,sN]<;>first|done|rfl)) ?_
       simp (maxSteps:=10000000) (disch:=omega) only[a8,n6,y3,b0h.d,hB2,hlU,hlE',hlr,n7,T6,u4,B4,s7,o7,AV.kept,b8,n6,u5,D5,s8,s6,c7,AV.A6,n8,x5,AV.plain,rd,v8,a8,T1,stepC,AV.j3,AV.U9,AV.x7,AV.O6,AV.scalar,V7,u0,C8,D3,D4,D0,s5,B9,V8,u1,C9,B3,l0,V6,n4,A4,A3,T7,B2,m8,TD.isRow,u3,l9,n3,l7,H7,Value.oneCell',↓reduceIte,Int.reduceNe,Int.reduceEq,Nat.reduceAdd,Nat.reduceLT,Nat.reduceLeDiff,Nat.reduceSub,Nat.reduceMul,Nat.reduceBEq,Nat.reduceEqDiff,reduceCtorEq,Int.reduceToNat,←decide_not,←Bool.decide_and,sA,sN]
       refine Zw [1,3,4,5,6,7,9] [0,1,2] (Zq b0h.d (Zq hB2 (Zq hlU (Zq hlE' hlr)))) ?_
       rfl
      ·rw[if_neg (by assumption),List.append_nil]at hns
       rw[hns]
       refine E9 (jF 7 6 (.a6 false (b7 (N0++m7 (B.i.getD k I0)))) (by simp (maxSteps:=10000000) (disch:=omega) only[v8,b0h.d,hB2,hlU,hlE',hlr,n7,T6,u4,B4,s7,o7,AV.kept,b8,n6,u5,D5,s8,s6,c7,AV.A6,n8,x5,AV.plain,rd,v8,a8,T1,stepC,AV.j3,AV.U9,AV.x7,AV.O6,AV.scalar,V7,u0,C8,D3,D4,D0,s5,B9,V8,u1,C9,B3,l0,V6,n4,A4,A3,T7,B2,m8,TD.isRow,u3,l9,n3,l7,H7,Value.oneCell',↓reduceIte,Int.reduceNe,Int.reduceEq,Nat.reduceAdd,Nat.reduceLT,Nat.reduceLeDiff,Nat.reduceSub,Nat.reduceMul,Nat.reduceBEq,Nat.reduceEqDiff,reduceCtorEq,Int.reduceToNat,←decide_not,←Bool.decide_and,sA,sN]<;>first|done|rfl)) ?_
       simp (maxSteps:=10000000) (disch:=omega) only[a8,n6,y3,b0h.d,hB2,hlU,hlE',hlr,n7,T6,u4,B4,s7,o7,AV.kept,b8,n6,u5,D5,s8,s6,c7,AV.A6,n8,x5,AV.plain,rd,v8,a8,T1,stepC,AV.j3,AV.U9,AV.x7,AV.O6,AV.scalar,V7,u0,C8,D3,D4,D0,s5,B9,V8,u1,C9,B3,l0,V6,n4,A4,A3,T7,B2,m8,TD.isRow,u3,l9,n3,l7,H7,Value.oneCell',↓reduceIte,Int.reduceNe,Int.reduceEq,Nat.reduceAdd,Nat.reduceLT,Nat.reduceLeDiff,Nat.reduceSub,Nat.reduceMul,Nat.reduceBEq,Nat.reduceEqDiff,reduceCtorEq,Int.reduceToNat,←decide_not,←Bool.decide_and,sA,sN]
       refine Zw [1,3,4,5,6,7,9] [0,1,2] (Zq b0h.d (Zq hB2 (Zq hlU (Zq hlE' hlr)))) ?_
       rfl
     ·obtain rfl:k=B.i.length:=by omega
      rw[←hL]
      repeat' (first|refine Za ?_|(with_reducible constructor<;>first|intro N hN mk hmk|intro N hN|intro h)|refine Zt (Zq cT.d (Zq hB2 (Zq hlU (Zq hlE' hlr)))) ?_|fail)
      refine Zw [1,3,4,5,6,7] [0,1,2] (Zq cT.d (Zq hB2 (Zq hlU (Zq hlE' hlr)))) ?_
      rfl
   ·
    refine c8 (fun i=>⟨[.Z,.ptr 0 0 0,.Z,.a6 false (o8 (reachF c.b)),.own 1 0 c.regs.toNat,.own 2 0 c.regs.toNat,.v (.int .i64 b),.a6 false (b7 L),.Z,.Z,.Z,.v (.int .i64 i),.Z,.Z,.Z,.Z,.Z,.Z,.Z,.Z,.Z,.Z,.Z,.Z,.Z,.Z,.Z,.Z,.Z,.Z,.Z,.Z,.Z,.Z,.Z,.Z,.Z,.Z,.Z,.Z,.Z,.Z,.Z,.Z,.Z,.Z,.Z,.Z,.Z,.Z,.Z,.Z,.Z,.Z,.Z,.Z,.Z,.Z,.Z,.Z,.Z,.Z,.Z,.Z,.Z,.Z,.Z,.Z,.Z,.Z,.Z,.Z,.Z,.Z,.Z,.Z,.Z,.Z,.Z,.Z,.Z,.Z,.Z,.Z,.Z,.Z,.Z,.Z,.Z,.Z,.Z,.Z,.Z,.Z,.Z,.Z,.Z,.Z,.Z,.Z,.Z,.Z,.Z,.Z,.Z,.Z,.Z,.Z,.Z,.Z,.Z,.Z,.Z,.Z,.Z,.Z,.Z,.Z,.Z,.Z,.Z,.Z,.Z,.Z,.Z,.Z,.Z,.Z,.Z,.Z,.Z,.Z,.Z,.Z,.Z,.Z,.Z,.Z,.Z,.Z,.Z,.Z,.Z,.Z,.Z,.Z,.Z,.Z,.Z],[(0,.live ⟨8,[[.v (.int .i64 c.group),.v (.int .i64 c.sub),.v (.int .i64 c.regs),.v (.int .i64 c.u7),.v (.int .i64 c.params),.a6 false (w6 c.c6),.a6 false (Proofs.YtgdoiokalfhjoaaGreatDoor.loops c.loops),.a6 false (p7 c.b)]],0⟩),(1,.live ⟨1,o8 (Z5 U (L.take i)),0⟩),(2,.live ⟨1,o8 (E'),0⟩)],3⟩) L.length (Zw [1,3,4,5,6,7,11] [0,1,2] (Zq cT.d (Zq hB2 (Zq hlU (Zq hlE (Zq hlU' (Zq hlE' hlr)))))) ?_) ?_
    ·rfl
    ·intro k hk
     have hml:(Z5 U (L.take k)).length=c.regs.toNat:=by rw[U5,hlU]
     by_cases hlk:k<L.length
     ·have hgo:=hLi _ (F6 hlk)
      repeat' (first|refine Za ?_|(with_reducible constructor<;>first|intro N hN mk hmk|intro N hN|intro h)|refine Zt (Zq cT.d (Zq hB2 (Zq hml (Zq hlU (Zq hlE' hlr))))) ?_|fail)
      all_goals first|(exfalso;omega)|(refine Zw [1,3,4,5,6,7,11] [0,1,2] (Zq cT.d (Zq hB2 (Zq hml (Zq hlU (Zq hlE' hlr))))) ?_;rw[rV U L k hlk];rfl)
     ·obtain rfl:k=L.length:=by omega
      rw[List.take_length,←hU']at hml⊢
      repeat' (first|refine Za ?_|(with_reducible constructor<;>first|intro N hN mk hmk|intro N hN|intro h)|refine Zt (Zq cT.d (Zq hB2 (Zq hml (Zq hlU' (Zq hlE' hlr))))) ?_|fail)
      refine Zw [1,3,4,5,6] [0,1,2] (Zq cT.d (Zq hB2 (Zq hml (Zq hlU' (Zq hlE' hlr))))) ?_
      rfl
   ·
    refine Zw [1,3,4,5,6] [0,1,2] (Zq cT.d (Zq hB2 (Zq hlU (Zq hlE (Zq hlU' (Zq hlE' hlr)))))) ?_
    rw[hy,if_pos (by simp_all),if_pos (by assumption)];rfl
   ·
    refine Zw [1,3,4,5,6] [0,1,2] (Zq cT.d (Zq hB2 (Zq hlU (Zq hlE (Zq hlU' (Zq hlE' hlr)))))) ?_
    rw[hy,if_pos (by simp_all),if_neg (by assumption)];rfl
  ·obtain rfl:b=c.b.length:=by omega
   obtain⟨U,hU⟩:∃U,U=(spR c c.b.length).1:=⟨_,rfl⟩
   obtain⟨E,hE⟩:∃E,E=(spR c c.b.length).2:=⟨_,rfl⟩
   rw[←hU]at hlU
   rw[←hE]at hlE
   rw[←hU,←hE]
   repeat' (first|refine Za ?_|(with_reducible constructor<;>first|intro N hN mk hmk|intro N hN|intro h)|refine Zt (Zq cT.d (Zq hlU (Zq hlE hlr))) ?_|fail)
   refine c8 (fun b=>⟨[.Z,.ptr 0 0 0,.Z,.a6 false (o8 (reachF c.b)),.own 1 0 c.regs.toNat,.own 2 0 c.regs.toNat,.Z,.Z,.Z,.Z,.Z,.Z,.Z,.v (.int .i64 b),.Z,.Z,.Z,.Z,.Z,.Z,.Z,.Z,.Z,.Z,.Z,.Z,.Z,.Z,.Z,.Z,.Z,.Z,.Z,.Z,.Z,.Z,.Z,.Z,.Z,.Z,.Z,.Z,.Z,.Z,.Z,.Z,.Z,.Z,.Z,.Z,.Z,.Z,.Z,.Z,.Z,.Z,.Z,.Z,.Z,.Z,.Z,.Z,.Z,.Z,.Z,.Z,.Z,.Z,.Z,.Z,.Z,.Z,.Z,.Z,.Z,.Z,.Z,.Z,.Z,.Z,.Z,.Z,.Z,.Z,.Z,.Z,.Z,.Z,.Z,.Z,.Z,.Z,.Z,.Z,.Z,.Z,.Z,.Z,.Z,.Z,.Z,.Z,.Z,.Z,.Z,.Z,.Z,.Z,.Z,.Z,.Z,.Z,.Z,.Z,.Z,.Z,.Z,.Z,.Z,.Z,.Z,.Z,.Z,.Z,.Z,.Z,.Z,.Z,.Z,.Z,.Z,.Z,.Z,.Z,.Z,.Z,.Z,.Z,.Z,.Z,.Z,.Z,.Z,.Z,.Z,.Z,.Z,.Z,.Z],[(0,.live ⟨8,[[.v (.int .i64 c.group),.v (.int .i64 c.sub),.v (.int .i64 c.regs),.v (.int .i64 c.u7),.v (.int .i64 c.params),.a6 false (w6 c.c6),.a6 false (Proofs.YtgdoiokalfhjoaaGreatDoor.loops c.loops),.a6 false (p7 c.b)]],0⟩),(1,.live ⟨1,o8 (dY U E b),0⟩),(2,.live ⟨1,o8 (E),0⟩)],3⟩) c.regs.toNat (Zw [1,3,4,5,13] [0,1,2] (Zq cT.d (Zq hlU (Zq hlE hlr))) ?_) ?_
   ·rw[show dY U E 0=U by exact b7z U E];rfl
   ·intro k hk
    have hlF:(dY U E k).length=c.regs.toNat:=by rw[a8O,hlU]
    by_cases hlk:k<c.regs.toNat
    ·have hg:=b2R U E (i:=k) (j:=k) (by omega) (Nat.le_refl _)
     have hsu:=a3O U E (i:=k) (by omega)
     obtain⟨F,hF⟩:∃F,F=dY U E k:=⟨_,rfl⟩
     rw[←hF]at hlF hg hsu⊢
     repeat' (first|refine Za ?_|(with_reducible constructor<;>first|intro N hN mk hmk|intro N hN|intro h)|refine Zt (Zq cT.d (Zq hg (Zq hlU (Zq hlE (Zq hlF hlr))))) ?_|fail)
     ·refine Zw [1,3,4,5,13] [0,1,2] (Zq cT.d (Zq hg (Zq hlU (Zq hlE (Zq hlF hlr))))) ?_
      rw[hsu,‹U.getD k false=true›,Bool.true_and];rfl
     ·refine Zw [1,3,4,5,13] [0,1,2] (Zq cT.d (Zq hg (Zq hlU (Zq hlE (Zq hlF hlr))))) ?_
      rw[hsu,‹U.getD k false=false›,Bool.false_and];rfl
    ·obtain rfl:k=c.regs.toNat:=by omega
     obtain⟨F,hF⟩:∃F,F=dY U E c.regs.toNat:=⟨_,rfl⟩
     rw[←hF]at hlF⊢
     rw[←hlF]
     repeat' (first|refine Za ?_|(with_reducible constructor<;>first|intro N hN mk hmk|intro N hN|intro h)|refine Zt (Zq cT.d (Zq hlU (Zq hlE hlr))) ?_|fail)
     all_goals first|rfl
theorem b1i{b:b6}{r:Int}(hr:0≤r):r∈U7 b b.i.length↔r∈j6 b.t∨∃i∈b.i,r∈m7 i∨r=z8 i:=by
 unfold U7
 rw[List.take_length,List.mem_append,List.mem_flatMap]
 refine or_congr Iff.rfl (exists_congr fun x=>and_congr Iff.rfl ?_)
 unfold oC
 rw[List.mem_append]
 refine or_congr Iff.rfl ?_
 split
 ·rw[List.mem_singleton]
 ·rename_i h
  refine⟨fun h=>by simp at h,fun e=>?_⟩
  omega
theorem c1q{r n:Int}{b:b6}(h:cC r n b){E:List Bool}(hE:(E.length:Int)=r)(k:Nat)(hk:k<E.length):(b0K E b).getD k false=true↔E.getD k false=true∨((k:Int)=B8 b.t∨b.t.kind=4∧(k:Int)∈j6 b.t):=by
 have h1:(Z5 E (if b.t.kind=4 then j6 b.t else[])).getD k false=true↔E.getD k false=true∨(b.t.kind=4∧(k:Int)∈j6 b.t):=by
  rw[dN _ _ _ (fun to hto=>?_)]
  ·split<;>simp [*]
  ·split at hto
   ·have:=jE h.t to hto;omega
   ·simp at hto
 unfold b0K
 simp only
 split
 ·rename_i hd
  have hd2:=uQ h.t hd
  rw[Z1,U5]
  by_cases e:(B8 b.t).toNat=k
  ·rw[if_pos ⟨e,hk⟩]
   simp only[true_iff]
   exact .inr (.inl (by omega))
  ·rw[if_neg (fun hh=>e hh.1),h1]
   constructor
   ·rintro(g|g)
    ·exact .inl g
    ·exact .inr (.inr g)
   ·rintro(g|g|g)
    ·exact .inl g
    ·omega
    ·exact .inr g
 ·rw[h1]
  constructor
  ·rintro(g|g)
   ·exact .inl g
   ·exact .inr (.inr g)
  ·rintro(g|g|g)
   ·exact .inl g
   ·omega
   ·exact .inr g
theorem b87{c:Code}(hc:u9 c)(k:Nat)(hk:k<c.regs.toNat):∀b,b≤c.b.length→
  (
   ((spR c b).1.getD k false=true↔∃b',b'<b∧cR c.b (b':Int)∧((k:Int)∈j6 (w7 c.b b').t∨∃i∈(w7 c.b b').i,(k:Int)∈m7 i∨(k:Int)=z8 i))∧
   ((spR c b).2.getD k false=true↔∃b',b'<b∧cR c.b (b':Int)∧((k:Int)=B8 (w7 c.b b').t∨(w7 c.b b').t.kind=4∧(k:Int)∈j6 (w7 c.b b').t)))
 |0,_=>by
  have:(List.replicate c.regs.toNat false)[k]?.getD false=false:=by
   rw[List.getElem?_replicate];split<;>rfl
  simp [spR,this]
 |b+1,hb=>by
  have hbo:=hc.b _ (O8 (show b<c.b.length by omega))
  have hl1:((spR c b).1.length:Int)=c.regs:=by have:=(mX c b).1;have:=hc.r;omega
  have hl2:((spR c b).2.length:Int)=c.regs:=by have:=(mX c b).2;have:=hc.r;omega
  have hn1:∀to∈U7 (w7 c.b b) (w7 c.b b).i.length,0≤to∧to<(spR c b).1.length:=fun to hto=>by have:=a9s hbo _ to hto;omega
  have hk2:k<(spR c b).2.length:=by have:=hc.r;omega
  obtain⟨ih1,ih2⟩:=b87 hc k hk b (by omega)
  have step:∀{Q:Nat→Prop},(∃b',b'<b+1∧cR c.b (b':Int)∧Q b')↔(∃b',b'<b∧cR c.b (b':Int)∧Q b')∨cR c.b (b:Int)∧Q b:=by
   intro Q
   constructor
   ·rintro⟨b',h1,h2⟩
    rcases Nat.lt_succ_iff_lt_or_eq.1 h1 with h1|rfl
    ·exact .inl ⟨b',h1,h2⟩
    ·exact .inr h2
   ·rintro(⟨b',h1,h2⟩|h2)
    ·exact⟨b',by omega,h2⟩
    ·exact⟨b,by omega,h2⟩
  unfold spR
  rw[step,step]
  by_cases hr:(reachF c.b).getD b false=true
  ·have hR:=(O5 c.b (by omega)).1 hr
   rw[if_pos hr]
   simp only
   constructor
   ·rw[dN (U7 (w7 c.b b) (w7 c.b b).i.length) (spR c b).1 k hn1,ih1,b1i (Int.natCast_nonneg k)]
    simp [hR]
   ·rw[c1q hbo hl2 k hk2,ih2]
    simp [hR]
  ·have hR:¬cR c.b (b:Int):=fun h=>hr ((O5 c.b (by omega)).2 h)
   rw[if_neg hr,ih1,ih2]
   simp [hR]
theorem c6r{c:Code}(hc:u9 c):dY (spR c c.b.length).1 (spR c c.b.length).2 c.regs.toNat=spF c:=by
 have hl:=mX c c.b.length
 apply List.ext_getElem?
 intro k
 unfold dY spF
 rw[hl.1]
 simp only[List.getElem?_map]
 by_cases hk:k<c.regs.toNat
 ·rw[List.getElem?_range hk]
  simp only[Option.map_some,Option.some.injEq]
  rw[if_pos hk]
  obtain⟨h1,h2⟩:=b87 hc k hk c.b.length (Nat.le_refl _)
  rw[Bool.eq_iff_iff]
  simp only[Bool.and_eq_true,Bool.not_eq_true',decide_eq_true_eq]
  refine and_congr h1 ?_
  rw[←Bool.not_eq_true]
  exact not_congr h2
 ·rw[List.getElem?_eq_none (by simp;omega)];rfl
theorem b1o(c:Code)(hc:u9 c):c9 Tryz.prog 121 [.agg c.av] (fun _=> .a6 false (o8 (spF c))) (fun _=>[]):=by
 have:=a0W c hc
 rw[c6r hc]at this;exact this
def uE(c:Code)(i:Nat):Nat:=((c.b.take i).map fun b=>b.i.length).sum
theorem sQ(c:Code)(i:Nat)(h:i<c.b.length):uE c (i+1)=uE c i+(c.b.getD i B0).i.length:=by
 unfold uE;rw[w4 c.b i B0 h,List.map_append,List.sum_append];simp
theorem vD{c:Code}(h:∀b∈c.b,b.i.length≤1000):∀i,uE c i≤1000*i
 |0=>by simp [uE]
 |i+1=>by
  by_cases hi:i<c.b.length
  ·have h1:=vD h i
   have h2:=h (c.b.getD i B0) (by rw[List.getD_eq_getElem?_getD,List.getElem?_eq_getElem hi];exact List.getElem_mem hi)
   rw[sQ c i hi];omega
  ·have h1:=vD h i
   unfold uE at*
   rw[List.take_of_length_le (by omega)]at h1⊢;omega
theorem a4x(c:Code)(n:Int)(h:n=(uE c c.b.length:Nat)):dC c↔c.regs≤256∧n≤2000:=by
 unfold dC
 rw[h]
 unfold uE
 rw[List.take_length]
 refine and_congr Iff.rfl ?_
 omega
def nE:=ZZ.mk (Zq I8.d (Zq @y7 (Zq @I3 (Zq @H8 (Zq @K0 (Zq @S5 (Zq @Q6 (Zq @bC (Zq @O3 (Zq @b6.av.eq_1 @o6.av.eq_1))))))))))
theorem b5v(c:Code)(hb:c.b.length≤1000)(hi':∀b∈c.b,b.i.length≤1000):c9 Tryz.prog 115 [.agg c.av] (fun _=> .v (.bool (decide (dC c)))) (fun _=>[]):=by
 have hsl:=fun i=>vD hi' i
 refine Zf Tryz.func115 Tryz.ntmps115 ?_;simp only[Code.av]
 repeat' (first|refine Za ?_|(with_reducible constructor<;>first|intro N hN mk hmk|intro N hN|intro h)|refine Zt nE.d ?_|fail)
 refine c8 (fun i=>⟨[.Z,.ptr 0 0 0,.Z,.v (.int .i64 (uE c i)),.v (.int .i64 i),.Z,.Z,.Z,.Z,.Z,.Z,.Z,.Z,.Z,.Z,.Z,.Z,.Z,.Z,.Z,.Z,.Z,.Z,.Z,.Z,.Z,.Z,.Z],[(0,.live ⟨8,[[.v (.int .i64 c.group),.v (.int .i64 c.sub),.v (.int .i64 c.regs),.v (.int .i64 c.u7),.v (.int .i64 c.params),.a6 false (w6 c.c6),.a6 false (Proofs.YtgdoiokalfhjoaaGreatDoor.loops c.loops),.a6 false (p7 c.b)]],0⟩)],1⟩) c.b.length (Zw [1,3,4] [0] nE.d ?_) ?_
 ·rfl
 ·intro i hi
  have hs:=hsl i
  by_cases hlt:i<c.b.length
  ·have hs2:=sQ c i hlt
   have hbi:=hi' (c.b.getD i B0) (by rw[List.getD_eq_getElem?_getD,List.getElem?_eq_getElem hlt];exact List.getElem_mem hlt)
   obtain⟨B,hB⟩:∃B,c.b.getD i B0=B:=⟨_,rfl⟩
   rw[hB]at hs2 hbi
   repeat' (first|refine Za ?_|(with_reducible constructor<;>first|intro N hN mk hmk|intro N hN|intro h)|refine Zt (Zq nE.d hB) ?_|fail)
   refine Zw [1,3,4] [0] (Zq nE.d hB) ?_
   rw[hs2];rfl
  ·obtain rfl:i=c.b.length:=by omega
   have hsm:=a4x c (uE c c.b.length) rfl
   repeat' (first|refine Za ?_|(with_reducible constructor<;>first|intro N hN mk hmk|intro N hN|intro h)|refine Zt nE.d ?_|fail)
   all_goals(first|exact(decide_eq_true (hsm.2 ⟨by omega,by omega⟩)).symm|exact(decide_eq_false fun h=>absurd (hsm.1 h) (by omega)).symm|(refine decide_eq_decide.2 ?_;rw[hsm];omega))
theorem b4p(c:Code)(hb:c.b.length≤1000)(hi':∀b∈c.b,b.i.length≤1000):c9 Tryz.prog 186 [.agg c.av] (fun _=> .v (.bool (decide (dC c)))) (fun _=>[]):=by
 have hsl:=fun i=>vD hi' i
 refine Zf Tryz.func186 Tryz.ntmps186 ?_;simp only[Code.av]
 repeat' (first|refine Za ?_|(with_reducible constructor<;>first|intro N hN mk hmk|intro N hN|intro h)|refine Zt nE.d ?_|fail)
 refine c8 (fun i=>⟨[.Z,.ptr 0 0 0,.Z,.v (.int .i64 (uE c i)),.Z,.Z,.Z,.a6 false (p7 c.b),.v (.int .i64 c.b.length),.v (.int .i64 i),.Z,.Z,.Z,.Z,.Z,.Z,.Z,.Z,.Z,.Z,.Z,.Z,.Z,.Z,.Z,.Z],[(0,.live ⟨8,[[.v (.int .i64 c.group),.v (.int .i64 c.sub),.v (.int .i64 c.regs),.v (.int .i64 c.u7),.v (.int .i64 c.params),.a6 false (w6 c.c6),.a6 false (Proofs.YtgdoiokalfhjoaaGreatDoor.loops c.loops),.a6 false (p7 c.b)]],0⟩)],1⟩) c.b.length (Zw [1,3,7,8,9] [0] nE.d ?_) ?_
 ·rfl
 ·intro i hi
  have hs:=hsl i
  by_cases hlt:i<c.b.length
  ·have hs2:=sQ c i hlt
   have hbi:=hi' (c.b.getD i B0) (by rw[List.getD_eq_getElem?_getD,List.getElem?_eq_getElem hlt];exact List.getElem_mem hlt)
   obtain⟨B,hB⟩:∃B,c.b.getD i B0=B:=⟨_,rfl⟩
   rw[hB]at hs2 hbi
   repeat' (first|refine Za ?_|(with_reducible constructor<;>first|intro N hN mk hmk|intro N hN|intro h)|refine Zt (Zq nE.d hB) ?_|fail)
   refine Zw [1,3,7,8,9] [0] (Zq nE.d hB) ?_
   rw[hs2];rfl
  ·obtain rfl:i=c.b.length:=by omega
   have hsm:=a4x c (uE c c.b.length) rfl
   repeat' (first|refine Za ?_|(with_reducible constructor<;>first|intro N hN mk hmk|intro N hN|intro h)|refine Zt nE.d ?_|fail)
   all_goals(first|exact(decide_eq_true (hsm.2 ⟨by omega,by omega⟩)).symm|exact(decide_eq_false fun h=>absurd (hsm.1 h) (by omega)).symm|(refine decide_eq_decide.2 ?_;rw[hsm];omega))
theorem a3J(L:List (List Int))(r:Int)(i:Nat)(h:i<L.length):iO (L.take (i+1)) r=iO (L.take i) r+if r∈L.getD i []then 1 else 0:=by
 rw[w4 L i [] h];unfold iO
 rw[List.filter_append,List.length_append]
 congr 1
 by_cases hm:r∈L.getD i []
 ·rw[if_pos hm,List.filter_cons,if_pos (decide_eq_true hm)];rfl
 ·rw[if_neg hm,List.filter_cons,if_neg (fun h=>hm (of_decide_eq_true h))];rfl
theorem uO(L:List (List Int))(r:Int):iO L r≤L.length:=List.length_filter_le _ _
def gT(sp:List Bool)(L:List (List Int))(l:List Int)(n:Nat):Int:=if H5 sp L l n<0 then -1 else iO L (H5 sp L l n)
theorem b39{sp:List Bool}{L:List (List Int)}{l:List Int}{r:Nat}(h1:sp.getD r false=true)(h2:(r:Int)∉l)(h3:gT sp L l r<iO L r):H5 sp L l (r+1)=r∧gT sp L l (r+1)=iO L r:=by
 have e:H5 sp L l (r+1)=r:=by
  have h4:H5 sp L l r<0∨iO L (H5 sp L l r)<iO L r:=by
   unfold gT at h3
   split at h3
   ·left;assumption
   ·right;omega
  exact if_pos ⟨h1,h2,h4⟩
 refine⟨e,?_⟩
 unfold gT
 rw[e,if_neg (by omega)]
theorem b61{sp:List Bool}{L:List (List Int)}{l:List Int}{r:Nat}(h:¬(sp.getD r false=true∧(r:Int)∉l∧gT sp L l r<iO L r)):H5 sp L l (r+1)=H5 sp L l r∧gT sp L l (r+1)=gT sp L l r:=by
 have e:H5 sp L l (r+1)=H5 sp L l r:=by
  show(if _ then _ else _)=_
  refine if_neg fun⟨h1,h2,h3⟩=>h ⟨h1,h2,?_⟩
  unfold gT
  split
  ·omega
  ·rcases h3 with h3|h3<;>omega
 exact⟨e,by unfold gT;rw[e]⟩
theorem b2J(sp:List Bool)(L:List (List Int))(l:List Int)(n:Nat): -1≤H5 sp L l n∧H5 sp L l n<n∧ -1≤gT sp L l n∧gT sp L l n≤L.length:=by
 have h: -1≤H5 sp L l n∧H5 sp L l n<n:=by
  rcases nT sp L l n with h|⟨h1,h2,_⟩<;>omega
 refine⟨h.1,h.2,?_⟩
 have:=uO L (H5 sp L l n)
 unfold gT
 split<;>omega
theorem c2w(l:List Int)(r:Int):(jB l r<0)=¬r∈l:=by
 rw[←bJ];exact propext ⟨fun h=>by omega,fun h=>by omega⟩
def kR:=ZZ.mk (Zq b0j.d (Zq nF.d (Zq @c2w (Zq @K7 (Zq @K6 (Zq @aG (Zq @V5 (Zq @I3 (Zq @H8 (Zq @S5 (Zq @H3 (Zq @fH (Zq @j8 @y9)))))))))))))
theorem b8O(c:Code)(l:List Int)(hc:u9 c)(hl:l.length≤1000):c9 Tryz.prog 117 [.agg c.av,.a6 false (b7 l)] (fun _=> .v (.int .i64 (bestF c l))) (fun _=>[]):=by
 have hr:=hc.r
 have hn:=hc.n
 have J1:=b1o c hc
 have J2:=a9E c hc
 simp only[Code.av]at J1 J2
 have hL:=(eP hc).shp.li
 have hll:=fun z=>(pW hc z).1
 have hsl:=mU c
 unfold bestF
 generalize (liveF c).1=L at*
 generalize spF c=sp at*
 have hbd:=b2J sp L l
 refine Zf Tryz.func117 Tryz.ntmps117 ?_;simp only[Code.av]
 repeat' (first|refine Za ?_|(with_reducible constructor<;>first|intro N hN mk hmk|intro N hN|intro h)|refine Zc J1 ?_|refine Zc J2 ?_|refine Zt (Zq kR.d (Zq hsl hL)) ?_|fail)
 refine c8 (fun r=>⟨[.Z,.a6 false (b7 l),.ptr 0 0 0,.Z,.Z,.a6 false (o8 sp),.ptr 1 0 0,.v (.int .i64 (H5 sp L l r)),.v (.int .i64 (gT sp L l r)),.v (.int .i64 r),.Z,.Z,.Z,.Z,.Z,.Z,.Z,.Z,.Z,.Z,.Z,.Z,.Z,.Z,.Z,.Z,.Z,.Z,.Z,.Z,.Z,.Z,.Z,.Z,.Z,.Z,.Z,.Z,.Z,.Z,.Z,.Z,.Z,.Z,.Z,.Z,.Z,.Z,.Z,.Z,.Z,.Z,.Z,.Z,.Z,.Z],[(0,.live ⟨8,[[.v (.int .i64 c.group),.v (.int .i64 c.sub),.v (.int .i64 c.regs),.v (.int .i64 c.u7),.v (.int .i64 c.params),.a6 false (w6 c.c6),.a6 false (Proofs.YtgdoiokalfhjoaaGreatDoor.loops c.loops),.a6 false (p7 c.b)]],0⟩),(1,.live ⟨2,[[.a6 false (lists L),.a6 false (lists (liveF c).2)]],0⟩)],2⟩) c.regs.toNat (Zw [1,2,5,6,7,8,9] [0,48] (Zq kR.d (Zq hsl hL)) ?_) ?_
 ·rfl
 ·intro r hr2
  by_cases hlt:r<c.regs.toNat
  ·have hb0:=hbd r
   repeat' (first|refine Za ?_|(with_reducible constructor<;>first|intro N hN mk hmk|intro N hN|intro h)|refine Zt (Zq kR.d (Zq hsl hL)) ?_|fail)
   refine c8 (fun b=>⟨[.Z,.a6 false (b7 l),.ptr 0 0 0,.Z,.Z,.a6 false (o8 sp),.ptr 1 0 0,.v (.int .i64 (H5 sp L l r)),.v (.int .i64 (gT sp L l r)),.v (.int .i64 r),.v (.int .i64 (iO (L.take b) r)),.v (.int .i64 b),.Z,.Z,.Z,.Z,.Z,.Z,.Z,.Z,.Z,.Z,.Z,.Z,.Z,.Z,.Z,.Z,.Z,.Z,.Z,.Z,.Z,.Z,.Z,.Z,.Z,.Z,.Z,.Z,.Z,.Z,.Z,.Z,.Z,.Z,.Z,.Z,.Z,.Z,.Z,.Z,.Z,.Z,.Z,.Z],[(0,.live ⟨8,[[.v (.int .i64 c.group),.v (.int .i64 c.sub),.v (.int .i64 c.regs),.v (.int .i64 c.u7),.v (.int .i64 c.params),.a6 false (w6 c.c6),.a6 false (Proofs.YtgdoiokalfhjoaaGreatDoor.loops c.loops),.a6 false (p7 c.b)]],0⟩),(1,.live ⟨2,[[.a6 false (lists L),.a6 false (lists (liveF c).2)]],0⟩)],2⟩) c.b.length (Zw [1,2,5,6,7,8,9,10,11] [0,1] (Zq kR.d (Zq hsl hL)) ?_) ?_
   ·rfl
   ·intro b hb
    have mE:=uO (L.take b) (r:Int)
    have htl:(L.take b).length≤b:=by rw[List.length_take];omega
    by_cases hbt:b<c.b.length
    ·have hsu:=a3J L (r:Int) b (by omega)
     have J3:=jX (L.getD b []) (r:Int) (by have:=hll b;omega)
     repeat' (first|refine Za ?_|(with_reducible constructor<;>first|intro N hN mk hmk|intro N hN|intro h)|refine Zc J3 ?_|refine Zt (Zq kR.d (Zq hsl hL)) ?_|fail)
     ·refine Zw [1,2,5,6,7,8,9,10,11] [0,1] (Zq kR.d (Zq hsl hL)) ?_
      rw[hsu,if_pos (by assumption)];rfl
     ·refine Zw [1,2,5,6,7,8,9,10,11] [0,1] (Zq kR.d (Zq hsl hL)) ?_
      rw[hsu,if_neg (by assumption)];rfl
    ·obtain rfl:b=c.b.length:=by omega
     rw[←hL,List.take_length]
     have J4:=qG l (r:Int) (by omega)
     have hm1:=fun h1 h2 h3=>b39 (sp:=sp) (L:=L) (l:=l) (r:=r) h1 h2 h3
     have hm2:=fun h=>b61 (sp:=sp) (L:=L) (l:=l) (r:=r) h
     repeat' (first|refine Za ?_|(with_reducible constructor<;>first|intro N hN mk hmk|intro N hN|intro h)|refine Zc J4 ?_|refine Zt (Zq kR.d (Zq hsl hL)) ?_|fail)
     ·obtain⟨q1,q2⟩:=hm1 (by assumption) (by assumption) (by assumption)
      rw[q1,q2]
      refine Zw [1,2,5,6,7,8,9] [0,1] (Zq kR.d (Zq hsl hL)) ?_
      rfl
     all_goals
      obtain⟨q1,q2⟩:=hm2 (fun⟨z1,z2,z3⟩=>by first|exact absurd z3 (by assumption)|exact absurd z2 (by assumption)|(have hf:sp.getD r false=false:=by assumption);exact absurd (z1.symm.trans hf) (by decide))
      rw[q1,q2]
      refine Zw [1,2,5,6,7,8,9] [0,1] (Zq kR.d (Zq hsl hL)) ?_
      rfl
  ·obtain rfl:r=c.regs.toNat:=by omega
   repeat' (first|refine Za ?_|(with_reducible constructor<;>first|intro N hN mk hmk|intro N hN|intro h)|refine Zt (Zq kR.d (Zq hsl hL)) ?_|fail)
end Go.Proofs.YtgdoiokalfhjoaaGreatDoor
end
