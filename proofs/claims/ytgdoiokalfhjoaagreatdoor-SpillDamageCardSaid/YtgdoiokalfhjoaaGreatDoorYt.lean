/- Own work (by an AI agent; no person has read it): part of a proof of the seat YtgdoiokalfhjoaaGreatDoor. -/
import Derived.Test.YtgdoiokalfhjoaaGreatDoorYr
set_option linter.unusedSimpArgs false
set_option linter.unusedVariables false
set_option maxRecDepth 100000
set_option maxHeartbeats 10000000
section
namespace Go.Proofs.YtgdoiokalfhjoaaGreatDoor
open Go.Ab
theorem eF(r:Int):H7 r O0:=fun h=>by simp [O0]at h
theorem yO{r n:Int}(h:0≤n∧n<r):H7 r (lN n):=fun _=>h
theorem H7.mono{r r':Int}{o:E3}(h:H7 r o)(hr:r≤r'):H7 r' o:=fun hk=>by have:=h hk;omega
theorem gW{r:Int}{o:E3}{K:List Int}(h:H7 r o)(h0:0≤r)(hk:K.length≤3):H7 (r+3) (C8 o K r):=by
 unfold C8
 split
 ·rename_i hh
  have:=c0D hh.2
  exact yO (by omega)
 ·exact h.mono (by omega)
theorem b6V{l:List Int}{r:Int}{x:e7}(h:aM r x)(h0:0≤r):∀y∈cL l r x,aM (r+3) y:=by
 have hk:(r6 l (o5 x)).length≤3:=Nat.le_trans (X0 _ _) (cC x)
 intro y hy
 unfold cL at hy
 rcases List.mem_append.1 hy with hy|hy
 ·unfold I7 at hy
  obtain⟨k,hk2,rfl⟩:=List.mem_map.1 hy
  have:=List.mem_range.1 hk2
  exact⟨yO (by omega),eF _,eF _,eF _⟩
 ·rcases List.mem_cons.1 hy with rfl|hy
  ·refine⟨?_,gW h.a h0 hk,gW h.b h0 hk,gW h.c h0 hk⟩
   show H7 (r+3) (if E9 x∈l then lN r else x.d)
   split
   ·exact yO (by omega)
   ·exact h.d.mono (by omega)
  ·split at hy
   ·rcases List.mem_singleton.1 hy with rfl
    exact⟨eF _,yO (by omega),eF _,eF _⟩
   ·simp at hy
theorem a9Y(l:List Int)(r:Int)(x:e7):(cL l r x).length≤5∧1≤(cL l r x).length:=by
 have hk:(r6 l (o5 x)).length≤3:=Nat.le_trans (X0 _ _) (cC x)
 unfold cL I7
 rw[List.length_append,List.length_cons,List.length_map,List.length_range]
 split<;>simp<;>omega
theorem a7N(l:List Int)(r:Int):∀L:List e7,(L.flatMap (cL l r)).length≤5*L.length
 |[]=>by simp
 |x::L=>by
  have h1:=a7N l r L
  have h2:=(a9Y l r x).1
  rw[List.flatMap_cons,List.length_append,List.length_cons];omega
theorem wI(l:List Int)(r:Int)(b:b6):(I3 l r b).i.length≤5*b.i.length+2:=by
 have h1:=a7N l r b.i
 have h2:(r6 l (n6 b.t)).length≤2:=Nat.le_trans (X0 _ _) (bN _)
 unfold I3 I7
 simp only[List.length_append,List.length_map,List.length_range];omega
theorem b29{l:List Int}{r n:Int}{b:b6}(h:bS r n b)(h0:0≤r)(hb:b.i.length≤59):bS (r+3) n (I3 l r b):=by
 have hk:(r6 l (n6 b.t)).length≤3:=Nat.le_trans (Nat.le_trans (X0 _ _) (bN _)) (by omega)
 refine⟨fun y hy=>?_,⟨h.t.d.mono (by omega),gW h.t.a h0 hk,gW h.t.b h0 hk,h.t.to,h.t.to1,h.t.dk⟩,by have:=wI l r b;omega⟩
 rcases List.mem_append.1 hy with hy|hy
 ·obtain⟨x,hx,hy⟩:=List.mem_flatMap.1 hy
  exact b6V (h.i x hx) h0 y hy
 ·unfold I7 at hy
  obtain⟨k,hk2,rfl⟩:=List.mem_map.1 hy
  have:=List.mem_range.1 hk2
  exact⟨yO (by omega),eF _,eF _,eF _⟩
structure b0O (c:Code):Prop where
 ok:y3 c
 r:c.regs≤12
 l:∀b∈c.b,b.i.length≤39
theorem mC{c:Code}(h:b0O c)(l:List Int):y3 (n8 c l)∧(n8 c l).regs≤15∧∀b∈(n8 c l).b,b.i.length≤197:=by
 have hr:=h.r
 have h0:=h.ok.r
 unfold n8
 split
 ·exact⟨h.ok,by omega,fun b hb=>by have:=h.l b hb;omega⟩
 ·refine⟨⟨by simpa using h.ok.n,?_,fun b hb=>?_⟩,?_,fun b hb=>?_⟩
  ·show 0≤c.regs+3∧c.regs+3≤16
   omega
  ·obtain⟨b',hb',rfl⟩:=List.mem_map.1 hb
   have:=b29 (l:=l) (h.ok.b b' hb') h0.1 (by have:=h.l b' hb';omega)
   simpa using this
  ·show c.regs+3≤15
   omega
  ·obtain⟨b',hb',rfl⟩:=List.mem_map.1 hb
   have:=wI l c.regs b'
   have:=h.l b' hb'
   omega
def nF(L:List (List Int))(r:Int):Nat:=(L.filter fun a=>decide (r∈a)).length
def P8(sp:List Bool)(L:List (List Int))(l:List Int):Nat→Int
 |0=> -1
 |r+1=>if sp.getD r false=true∧¬((r:Int)∈l)∧(P8 sp L l r<0∨nF L (P8 sp L l r)<nF L r)then r else P8 sp L l r
theorem lS(sp:List Bool)(L:List (List Int))(l:List Int):∀n,P8 sp L l n= -1∨(0≤P8 sp L l n∧P8 sp L l n<n∧sp.getD (P8 sp L l n).toNat false=true∧P8 sp L l n∉l)
 |0=> .inl rfl
 |n+1=>by
  unfold P8
  split
  ·rename_i h
   exact .inr ⟨by omega,by omega,h.1,h.2.1⟩
  ·rcases lS sp L l n with h|⟨h1,h2,h3⟩
   ·exact .inl h
   ·exact .inr ⟨h1,by omega,h3⟩
noncomputable def bestF (c:Code) (l:List Int):Int:=P8 (spF c) (liveF c).1 l c.regs.toNat
noncomputable def pressF (d:Code):Int:=prF d (liveF d).1 (liveF d).2 d.b.length
instance (c:Code):Decidable (fF c):=by unfold fF;infer_instance
noncomputable def runF (c:Code) (v:Int):Nat→List Int→Option (List Int)
 |0,_=>none
 |n+1,l=>if fF (n8 c l)then(if pressF (n8 c l)≤v then some l else if bestF c l<0 then none else runF c v n (B5 l (bestF c l)))else none
theorem tJ(c:Code):(spF c).length=c.regs.toNat:=by simp [spF]
theorem qD(c:Code){r:Nat}(h:r<c.regs.toNat):(spF c).getD r false=true↔a9a c r∧¬b6p c r:=by
 unfold spF
 rw[List.getD_eq_getElem?_getD,List.getElem?_map,List.getElem?_range h];simp
theorem oZ{c:Code}{l:List Int}(h:¬bestF c l<0):0≤bestF c l∧bestF c l<c.regs∧(a9a c (bestF c l)∧¬b6p c (bestF c l))∧bestF c l∉l:=by
 rcases lS (spF c) (liveF c).1 l c.regs.toNat with h1|⟨h1,h2,h3,h4⟩
 ·exact absurd (show bestF c l<0 by unfold bestF;omega) h
 ·refine⟨h1,by unfold bestF;omega,?_,h4⟩
  have e:((bestF c l).toNat:Int)=bestF c l:=Int.toNat_of_nonneg h1
  have:=(qD c (r:=(bestF c l).toNat) (by unfold bestF;omega)).1 h3
  rw[e]at this;exact this
theorem dY.nil(c:Code):dY c []:=⟨fun q h=>by simp at h,I9.nil,fun q h=>by simp at h⟩
theorem dY.c1Q{c:Code}{l:List Int}(h:dY c l)(hb:¬bestF c l<0):dY c (B5 l (bestF c l)):=by
 obtain⟨b1,b2,b3,b4⟩:=oZ hb
 refine⟨fun q hq=>?_,lD h.s _,fun q hq=>?_⟩
 ·rcases U9.1 hq with rfl|hq
  ·exact⟨b1,b2⟩
  ·exact h.r q hq
 ·rcases U9.1 hq with rfl|hq
  ·exact b3
  ·exact h.e q hq
theorem vX{l:List Int}{n:Int}(hs:I9 l)(h:n∉l):(B5 l n).length=l.length+1:=by
 unfold B5
 rw[if_neg h,List.length_append,List.length_cons]
 have:=congrArg List.length (List.takeWhile_append_dropWhile (p:=fun x=>decide (x<n)) (l:=l))
 rw[List.length_append]at this;omega
theorem dY.len{c:Code}{l:List Int}(hc:y3 c)(h:dY c l):(l.length:Int)≤c.regs:=pZ h.r h.s hc.r.1
theorem b72{c:Code}(h:b0O c):fF c:=by
 have hr:=h.r
 have hn:=h.ok.n
 refine⟨by omega,?_⟩
 have:∀L:List b6,(∀b∈L,b.i.length≤39)→(L.map fun b=>b.i.length).sum≤39*L.length:=by
  intro L
  induction L with
  |nil=>simp
  |cons b L ih=>
   intro h
   have h1:=ih fun y hy=>h y (by simp [hy])
   have h2:=h b (by simp)
   simp only[List.map_cons,List.sum_cons,List.length_cons];omega
 have:=this c.b h.l
 omega
theorem b7W{c:Code}(h:b0O c){v:Int}{n:Nat}(hp:pressF c≤v):runF c v (n+1) []=some []:=by
 unfold runF
 have e:n8 c []=c:=rfl
 rw[e,if_pos (b72 h),if_pos hp]
theorem a4I{r:Int}{x:e7}(h:aM r x):∀y∈o5 x,0≤y∧y<r:=by
 intro y hy
 obtain⟨o,ho,h1,rfl⟩:=dB.1 hy
 simp only[List.mem_cons,List.not_mem_nil,or_false]at ho
 rcases ho with rfl|rfl|rfl
 ·exact h.a h1
 ·exact h.b h1
 ·exact h.c h1
theorem hZ{r n:Int}{t:q9}(h:V8 r n t):∀y∈n6 t,0≤y∧y<r:=by
 intro y hy
 obtain⟨o,ho,h1,rfl⟩:=dB.1 hy
 simp only[List.mem_cons,List.not_mem_nil,or_false]at ho
 rcases ho with rfl|rfl
 ·exact h.a h1
 ·exact h.b h1
theorem a9E{r:Int}{x:e7}(h:aM r x)(hd:0≤E9 x):E9 x<r:=by
 unfold E9 pK at*
 split at hd
 ·rename_i h2;rw[if_pos h2];exact(h.d h2).2
 ·omega
theorem sX{r n:Int}{t:q9}(h:V8 r n t)(hd:0≤F3 t):F3 t<r:=by
 unfold F3 pK at*
 split at hd
 ·rename_i h2;rw[if_pos h2];exact(h.d h2).2
 ·omega
def mB(x:e7):List Int:=o5 x++if 0≤E9 x then[E9 x]else[]
def V0(b:b6)(i:Nat):List Int:=n6 b.t++(b.i.take i).flatMap mB
theorem rD(b:b6)(i:Nat)(h:i<b.i.length):V0 b (i+1)=V0 b i++o5 (b.i.getD i I0)++(if 0≤E9 (b.i.getD i I0)then[E9 (b.i.getD i I0)]else[]):=by
 unfold V0;rw[w9 b.i i I0 h,List.flatMap_append,←List.append_assoc,List.append_assoc];simp [mB]
theorem a8p{r n:Int}{b:b6}(h:bS r n b)(i:Nat):∀y∈V0 b i,0≤y∧y<r:=by
 intro y hy
 unfold V0 at hy
 rcases List.mem_append.1 hy with hy|hy
 ·exact hZ h.t y hy
 ·obtain⟨x,hx,hy⟩:=List.mem_flatMap.1 hy
  have hx:=h.i x (List.mem_of_mem_take hx)
  unfold mB at hy
  rcases List.mem_append.1 hy with hy|hy
  ·exact a4I hx y hy
  ·split at hy
   ·rename_i h0
    rw[List.mem_singleton.1 hy];exact⟨h0,a9E hx h0⟩
   ·simp at hy
theorem b0h(x:e7):(mB x).length≤4:=by
 have:=cC x
 unfold mB;rw[List.length_append];split<;>simp<;>omega
theorem iS(b:b6):∀i,(V0 b i).length≤2+4*i
 |0=>by have:=bN b.t;simp [V0];omega
 |i+1=>by
  by_cases h:i<b.i.length
  ·have h1:=iS b i
   have h2:=b0h (b.i.getD i I0)
   rw[rD b i h]
   unfold mB at h2
   simp only[List.length_append]at h2⊢;omega
  ·have h1:=iS b i
   unfold V0 at*
   rw[List.take_of_length_le (by omega)]at h1⊢;omega
def a9I(E:List Bool)(b:b6):List Bool:=
 let E1:=Z1 E (if b.t.kind=4 then n6 b.t else[])
 if 0≤F3 b.t then E1.set (F3 b.t).toNat true else E1
theorem c5f(a b:List Int):(c7 (a++b)).take (a.length+b.length)=c7 (a++b):=List.take_of_length_le (by simp [c7])
theorem c5g(a b:List Int)(d:Int):(c7 (a++b++[d])).take (a.length+b.length+1)=c7 (a++b++[d]):=List.take_of_length_le (by simp [c7];omega)
noncomputable def spR (c:Code):Nat→List Bool×List Bool
 |0=>(List.replicate c.regs.toNat false,List.replicate c.regs.toNat false)
 |b+1=>if(reachF c.b).getD b false then(Z1 (spR c b).1 (V0 (B6 c.b b) (B6 c.b b).i.length),a9I (spR c b).2 (B6 c.b b))else spR c b
theorem b6o(E:List Bool)(b:b6):(a9I E b).length=E.length:=by
 unfold a9I;simp only;split<;>simp [U8]
theorem lC(c:Code):∀b,(spR c b).1.length=c.regs.toNat∧(spR c b).2.length=c.regs.toNat
 |0=>by simp [spR]
 |b+1=>by
  have ih:=lC c b
  unfold spR
  split
  ·exact⟨by rw[U8];exact ih.1,by rw[b6o];exact ih.2⟩
  ·exact ih
def dS(U E:List Bool)(i:Nat):List Bool:=(List.range U.length).map fun r=>if r<i then U.getD r false&& !E.getD r false else U.getD r false
theorem b6x(U E:List Bool):dS U E 0=U:=by
 apply List.ext_getElem?;intro j
 simp only[dS,List.getElem?_map,Nat.not_lt_zero,if_false]
 by_cases h:j<U.length
 ·simp [List.getElem?_range h,h,List.getD_eq_getElem?_getD]
 ·simp [h]
theorem a7M(U E:List Bool)(i:Nat):(dS U E i).length=U.length:=by simp [dS]
theorem b1U(U E:List Bool){i j:Nat}(hj:j<U.length)(h:i≤j):(dS U E i).getD j false=U.getD j false:=by
 unfold dS
 rw[List.getD_eq_getElem?_getD,List.getElem?_map,List.getElem?_range hj]
 simp only[Option.map_some,Option.getD_some]
 rw[if_neg (by omega)]
theorem a2O(U E:List Bool){i:Nat}(hi:i<U.length):dS U E (i+1)=(dS U E i).set i (U.getD i false&& !E.getD i false):=by
 apply List.ext_getElem?;intro j
 rw[List.getElem?_set]
 unfold dS
 simp only[List.getElem?_map,List.length_map,List.length_range]
 by_cases h:j<U.length
 ·rw[List.getElem?_range h]
  by_cases e:i=j
  ·subst e;simp [hi]
  ·have:(j<i+1)=(j<i):=by apply propext;omega
   simp [e,this]
 ·have:¬i=j:=by omega
  simp [h,this]
def c3E:=ZZ.mk (Zq fM.d (Zq vT.d (Zq @List.length_replicate.{0} (Zq @List.length_set.{0} (Zq @Q8 (Zq @T6 (Zq @cY (Zq @kJ (Zq @Z7 (Zq @kK (Zq @q9.av.eq_1 (Zq @e7.av.eq_1 (Zq @O3 (Zq @eX (Zq @cA (Zq @D4 (Zq @Q7 (Zq @N7 @b6.av.eq_1))))))))))))))))))
def cO:=ZZ.mk (Zq c3E.d @L1)
def a9g:=ZZ.mk (Zq cO.d (Zq @xC (Zq @c5f @c5g)))
theorem a0a(c:Code)(hc:y3 c):e8 Tryz.prog 121 [.agg c.av] (fun _=> .a8 false (u3 (dS (spR c c.b.length).1 (spR c c.b.length).2 c.regs.toNat))) (fun _=>[]):=by
 have hr:=hc.r
 have hn:=hc.n
 have C3:=b4d c hc.succ (by omega)
 simp only[Code.av]at C3
 refine Zf Tryz.func121 Tryz.ntmps121 ?_;simp only[Code.av]
 repeat' (first|refine Za ?_|(with_reducible constructor<;>first|intro N hN mk hmk|intro N hN|intro h)|refine Zc C3 ?_|refine Zt c3E.d ?_|fail)
 refine l8 (fun b=>⟨[.Z,.ptr 0 0 0,.Z,.a8 false (u3 (reachF c.b)),.own 1 0 c.regs.toNat,.own 2 0 c.regs.toNat,.v (.int .i64 b),.Z,.Z,.Z,.Z,.Z,.Z,.Z,.Z,.Z,.Z,.Z,.Z,.Z,.Z,.Z,.Z,.Z,.Z,.Z,.Z,.Z,.Z,.Z,.Z,.Z,.Z,.Z,.Z,.Z,.Z,.Z,.Z,.Z,.Z,.Z,.Z,.Z,.Z,.Z,.Z,.Z,.Z,.Z,.Z,.Z,.Z,.Z,.Z,.Z,.Z,.Z,.Z,.Z,.Z,.Z,.Z,.Z,.Z,.Z,.Z,.Z,.Z,.Z,.Z,.Z,.Z,.Z,.Z,.Z,.Z,.Z,.Z,.Z,.Z,.Z,.Z,.Z,.Z,.Z,.Z,.Z,.Z,.Z,.Z,.Z,.Z,.Z,.Z,.Z,.Z,.Z,.Z,.Z,.Z,.Z,.Z,.Z,.Z,.Z,.Z,.Z,.Z,.Z,.Z,.Z,.Z,.Z,.Z,.Z,.Z,.Z,.Z,.Z,.Z,.Z,.Z,.Z,.Z,.Z,.Z,.Z,.Z,.Z,.Z,.Z,.Z,.Z,.Z,.Z,.Z,.Z,.Z,.Z,.Z,.Z,.Z,.Z,.Z,.Z,.Z,.Z,.Z],[(0,.live ⟨8,[[.v (.int .i64 c.group),.v (.int .i64 c.sub),.v (.int .i64 c.regs),.v (.int .i64 c.w5),.v (.int .i64 c.params),.a8 false (y4 c.c9),.a8 false (Proofs.YtgdoiokalfhjoaaGreatDoor.loops c.loops),.a8 false (o0 c.b)]],0⟩),(1,.live ⟨1,u3 ((spR c b).1),0⟩),(2,.live ⟨1,u3 ((spR c b).2),0⟩)],3⟩) c.b.length (Zw [1,3,4,5,6] [0,56,80] c3E.d ?_) ?_
 ·rfl
 ·intro b hb
  have hlU:=(lC c b).1
  have hlE:=(lC c b).2
  have hlr:=bI c.b
  obtain⟨Y,hY⟩:∃Y,Y=spR c (b+1):=⟨_,rfl⟩
  rw[←hY]
  by_cases hlt:b<c.b.length
  ·have hy:Y=if(reachF c.b).getD b false then(Z1 (spR c b).1 (V0 (B6 c.b b) (B6 c.b b).i.length),a9I (spR c b).2 (B6 c.b b))else spR c b:=by rw[hY];rfl
   have hbo:=hc.b _ (S5 hlt)
   obtain⟨U,hU⟩:∃U,U=(spR c b).1:=⟨_,rfl⟩
   obtain⟨E,hE⟩:∃E,E=(spR c b).2:=⟨_,rfl⟩
   rw[←hU]at hlU hy
   rw[←hE]at hlE hy
   rw[←hU,←hE]
   obtain⟨B,hB⟩:∃B,B=B6 c.b b:=⟨_,rfl⟩
   have hB2:c.b.getD b B0=B:=by rw[hB];rfl
   rw[←hB]at hy hbo
   have J1:=a3n B.t
   simp only[q9.av]at J1
   have huT:=bN B.t
   have hti:=hZ hbo.t
   have J7:=b7M B.t
   simp only[q9.av]at J7
   obtain⟨n2,hn2⟩:∃n2,n2=if B.t.kind=4 then n6 B.t else[]:=⟨_,rfl⟩
   obtain⟨E',hE'⟩:∃E',E'=Z1 E n2:=⟨_,rfl⟩
   have hE2:a9I E B=if 0≤F3 B.t then E'.set (F3 B.t).toNat true else E':=by rw[hE',hn2];rfl
   have hlE':E'.length=c.regs.toNat:=by rw[hE',U8,hlE]
   obtain⟨L,hL⟩:∃L,L=V0 B B.i.length:=⟨_,rfl⟩
   have hLi:=a8p hbo B.i.length
   have hLl:=iS B B.i.length
   rw[←hL]at hLi hLl
   have hbl:=hbo.l
   obtain⟨U',hU'⟩:∃U',U'=Z1 U L:=⟨_,rfl⟩
   have hlU':U'.length=c.regs.toNat:=by rw[hU',U8,hlU]
   rw[hE2,←hL,←hU']at hy
   have hd9:=fun h=>sX hbo.t (h:0≤F3 B.t)
   repeat' (first|(guard_target=~ AK Tryz.prog _ _ _ _;refine mY (x:=Go.Code.seq (Go.Code.region 19 _ _) _) ⟨[.Z,.ptr 0 0 0,.Z,.a8 false (u3 (reachF c.b)),.own 1 0 c.regs.toNat,.own 2 0 c.regs.toNat,.v (.int .i64 b),.Z,.Z,.Z,.Z,.Z,.Z,.Z,.Z,.Z,.Z,.Z,.Z,.Z,.Z,.Z,.Z,.Z,.Z,.Z,.Z,.Z,.Z,.Z,.Z,.Z,.Z,.Z,.Z,.Z,.Z,.Z,.Z,.Z,.Z,.Z,.Z,.Z,.Z,.Z,.Z,.Z,.Z,.Z,.Z,.Z,.Z,.Z,.Z,.Z,.Z,.Z,.Z,.Z,.Z,.Z,.Z,.Z,.Z,.Z,.Z,.Z,.Z,.Z,.Z,.Z,.Z,.Z,.Z,.Z,.Z,.Z,.Z,.Z,.Z,.Z,.Z,.Z,.Z,.Z,.Z,.Z,.Z,.Z,.Z,.Z,.Z,.Z,.Z,.Z,.Z,.Z,.Z,.Z,.Z,.Z,.Z,.Z,.Z,.Z,.Z,.Z,.Z,.Z,.Z,.Z,.Z,.Z,.Z,.Z,.Z,.Z,.Z,.Z,.Z,.Z,.Z,.Z,.Z,.Z,.Z,.Z,.Z,.Z,.Z,.Z,.Z,.Z,.Z,.Z,.Z,.Z,.Z,.Z,.Z,.Z,.Z,.Z,.Z,.Z,.Z,.Z,.Z],[(0,.live ⟨8,[[.v (.int .i64 c.group),.v (.int .i64 c.sub),.v (.int .i64 c.regs),.v (.int .i64 c.w5),.v (.int .i64 c.params),.a8 false (y4 c.c9),.a8 false (Proofs.YtgdoiokalfhjoaaGreatDoor.loops c.loops),.a8 false (o0 c.b)]],0⟩),(1,.live ⟨1,u3 (U'),0⟩),(2,.live ⟨1,u3 (E'),0⟩)],3⟩ ?_ ?_)|(guard_target=~ AK Tryz.prog _ _ _ _;refine mY (x:=Go.Code.seq (Go.Code.region 12 _ _) _) ⟨[.Z,.ptr 0 0 0,.Z,.a8 false (u3 (reachF c.b)),.own 1 0 c.regs.toNat,.own 2 0 c.regs.toNat,.v (.int .i64 b),.a8 false (c7 L),.Z,.Z,.Z,.Z,.Z,.Z,.Z,.Z,.Z,.Z,.Z,.Z,.Z,.Z,.Z,.Z,.Z,.Z,.Z,.Z,.Z,.Z,.Z,.Z,.Z,.Z,.Z,.Z,.Z,.Z,.Z,.Z,.Z,.Z,.Z,.Z,.Z,.Z,.Z,.Z,.Z,.Z,.Z,.Z,.Z,.Z,.Z,.Z,.Z,.Z,.Z,.Z,.Z,.Z,.Z,.Z,.Z,.Z,.Z,.Z,.Z,.Z,.Z,.Z,.Z,.Z,.Z,.Z,.Z,.Z,.Z,.Z,.Z,.Z,.Z,.Z,.Z,.Z,.Z,.Z,.Z,.Z,.Z,.Z,.Z,.Z,.Z,.Z,.Z,.Z,.Z,.Z,.Z,.Z,.Z,.Z,.Z,.Z,.Z,.Z,.Z,.Z,.Z,.Z,.Z,.Z,.Z,.Z,.Z,.Z,.Z,.Z,.Z,.Z,.Z,.Z,.Z,.Z,.Z,.Z,.Z,.Z,.Z,.Z,.Z,.Z,.Z,.Z,.Z,.Z,.Z,.Z,.Z,.Z,.Z,.Z,.Z,.Z,.Z,.Z,.Z],[(0,.live ⟨8,[[.v (.int .i64 c.group),.v (.int .i64 c.sub),.v (.int .i64 c.regs),.v (.int .i64 c.w5),.v (.int .i64 c.params),.a8 false (y4 c.c9),.a8 false (Proofs.YtgdoiokalfhjoaaGreatDoor.loops c.loops),.a8 false (o0 c.b)]],0⟩),(1,.live ⟨1,u3 (U),0⟩),(2,.live ⟨1,u3 (E'),0⟩)],3⟩ ?_ ?_)|(guard_target=~ AK Tryz.prog _ _ _ _;refine mY (x:=Go.Code.seq (Go.Code.region 8 _ _) _) ⟨[.Z,.ptr 0 0 0,.Z,.a8 false (u3 (reachF c.b)),.own 1 0 c.regs.toNat,.own 2 0 c.regs.toNat,.v (.int .i64 b),.a8 false (c7 (n6 B.t)),.Z,.Z,.Z,.Z,.Z,.Z,.Z,.Z,.Z,.Z,.Z,.Z,.Z,.Z,.Z,.Z,.Z,.Z,.Z,.Z,.Z,.Z,.Z,.Z,.Z,.Z,.Z,.Z,.Z,.Z,.Z,.Z,.Z,.Z,.Z,.Z,.Z,.Z,.Z,.Z,.Z,.Z,.Z,.Z,.Z,.Z,.Z,.Z,.Z,.Z,.Z,.Z,.Z,.Z,.Z,.Z,.Z,.Z,.Z,.Z,.Z,.Z,.Z,.Z,.Z,.Z,.Z,.Z,.Z,.Z,.Z,.Z,.Z,.Z,.Z,.Z,.Z,.Z,.Z,.Z,.Z,.Z,.Z,.Z,.Z,.Z,.Z,.Z,.Z,.Z,.Z,.Z,.Z,.Z,.Z,.Z,.Z,.Z,.Z,.Z,.Z,.Z,.Z,.Z,.Z,.Z,.Z,.Z,.Z,.Z,.Z,.Z,.Z,.Z,.Z,.Z,.Z,.Z,.Z,.Z,.Z,.Z,.Z,.Z,.Z,.Z,.Z,.Z,.Z,.Z,.Z,.Z,.Z,.Z,.Z,.Z,.Z,.Z,.Z,.Z,.Z],[(0,.live ⟨8,[[.v (.int .i64 c.group),.v (.int .i64 c.sub),.v (.int .i64 c.regs),.v (.int .i64 c.w5),.v (.int .i64 c.params),.a8 false (y4 c.c9),.a8 false (Proofs.YtgdoiokalfhjoaaGreatDoor.loops c.loops),.a8 false (o0 c.b)]],0⟩),(1,.live ⟨1,u3 (U),0⟩),(2,.live ⟨1,u3 (E'),0⟩)],3⟩ ?_ ?_)|refine Za ?_|(with_reducible constructor<;>first|intro N hN mk hmk|intro N hN|intro h)|refine Zc J1 ?_|refine Zc J7 ?_|(refine Zw [1,3,4,5,6,7] [0,1,2] (Zq cO.d (Zq hB2 (Zq hlU (Zq hlE (Zq hlU' (Zq hlE' hlr)))))) ?_;first|rfl|(simp only[*,true_and,and_true,false_and,and_false,decide_true,decide_false,not_true_eq_false,not_false_eq_true];done)|(simp [*];done))|(refine Zw [1,3,4,5,6,7] [0,1,2] (Zq cO.d (Zq hB2 (Zq hlU (Zq hlE (Zq hlU' (Zq hlE' hlr)))))) ?_;first|rfl|(simp only[*,true_and,and_true,false_and,and_false,decide_true,decide_false,not_true_eq_false,not_false_eq_true];done)|(simp [*];done))|(refine Zw [1,3,4,5,6] [0,1,2] (Zq cO.d (Zq hB2 (Zq hlU (Zq hlE (Zq hlU' (Zq hlE' hlr)))))) ?_;first|rfl|(simp only[*,true_and,and_true,false_and,and_false,decide_true,decide_false,not_true_eq_false,not_false_eq_true];done)|(simp [*];done))|refine Zt (Zq cO.d (Zq hB2 (Zq hlU (Zq hlE (Zq hlU' (Zq hlE' hlr)))))) ?_|fail)
   ·refine Zw [1,3,4,5,6] [0,1,2] (Zq cO.d (Zq hB2 (Zq hlU (Zq hlE (Zq hlU' (Zq hlE' hlr)))))) ?_
    rw[hy,if_neg (by simp_all),←hU,←hE];rfl
   ·refine l8 (fun i=>⟨[.Z,.ptr 0 0 0,.Z,.a8 false (u3 (reachF c.b)),.own 1 0 c.regs.toNat,.own 2 0 c.regs.toNat,.v (.int .i64 b),.a8 false (c7 (n6 B.t)),.v (.int .i64 i),.Z,.Z,.Z,.Z,.Z,.Z,.Z,.Z,.Z,.Z,.Z,.Z,.Z,.Z,.Z,.Z,.Z,.Z,.Z,.Z,.Z,.Z,.Z,.Z,.Z,.Z,.Z,.Z,.Z,.Z,.Z,.Z,.Z,.Z,.Z,.Z,.Z,.Z,.Z,.Z,.Z,.Z,.Z,.Z,.Z,.Z,.Z,.Z,.Z,.Z,.Z,.Z,.Z,.Z,.Z,.Z,.Z,.Z,.Z,.Z,.Z,.Z,.Z,.Z,.Z,.Z,.Z,.Z,.Z,.Z,.Z,.Z,.Z,.Z,.Z,.Z,.Z,.Z,.Z,.Z,.Z,.Z,.Z,.Z,.Z,.Z,.Z,.Z,.Z,.Z,.Z,.Z,.Z,.Z,.Z,.Z,.Z,.Z,.Z,.Z,.Z,.Z,.Z,.Z,.Z,.Z,.Z,.Z,.Z,.Z,.Z,.Z,.Z,.Z,.Z,.Z,.Z,.Z,.Z,.Z,.Z,.Z,.Z,.Z,.Z,.Z,.Z,.Z,.Z,.Z,.Z,.Z,.Z,.Z,.Z,.Z,.Z,.Z,.Z,.Z],[(0,.live ⟨8,[[.v (.int .i64 c.group),.v (.int .i64 c.sub),.v (.int .i64 c.regs),.v (.int .i64 c.w5),.v (.int .i64 c.params),.a8 false (y4 c.c9),.a8 false (Proofs.YtgdoiokalfhjoaaGreatDoor.loops c.loops),.a8 false (o0 c.b)]],0⟩),(1,.live ⟨1,u3 (U),0⟩),(2,.live ⟨1,u3 (Z1 E (n2.take i)),0⟩)],3⟩) n2.length (Zw [1,3,4,5,6,7,8] [0,1,2] (Zq cO.d (Zq hB2 (Zq hlU (Zq hlE (Zq hlU' (Zq hlE' hlr)))))) ?_) ?_
    ·rfl
    ·intro k hk
     have hml:(Z1 E (n2.take k)).length=c.regs.toNat:=by rw[U8,hlE]
     by_cases hlk:k<n2.length
     ·by_cases hk4:B.t.kind=4
      ·rw[if_pos hk4]at hn2
       subst hn2
       have hgo:=hti _ (L2 hlk)
       repeat' (first|refine Za ?_|(with_reducible constructor<;>first|intro N hN mk hmk|intro N hN|intro h)|refine Zt (Zq cO.d (Zq hB2 (Zq hml (Zq hlU (Zq hlE hlr))))) ?_|fail)
       all_goals first|(exfalso;omega)|(refine Zw [1,3,4,5,6,7,8] [0,1,2] (Zq cO.d (Zq hB2 (Zq hml (Zq hlU (Zq hlE hlr))))) ?_;rw[pW E (n6 B.t) k hlk];rfl)
      ·rw[if_neg hk4]at hn2
       subst hn2
       simp at hlk
     ·obtain rfl:k=n2.length:=by omega
      rw[List.take_length,←hE']at hml⊢
      have hno:(n2.length:Int)<(n6 B.t).length→¬B.t.kind=4:=fun h e=>by rw[if_pos e]at hn2;rw[hn2]at h;omega
      repeat' (first|refine Za ?_|(with_reducible constructor<;>first|intro N hN mk hmk|intro N hN|intro h)|refine Zt (Zq cO.d (Zq hB2 (Zq hml (Zq hlU (Zq hlE hlr))))) ?_|fail)
      all_goals first|(exfalso;exact absurd (by assumption) (hno (by assumption)))|(refine Zw [1,3,4,5,6,7] [0,1,2] (Zq cO.d (Zq hB2 (Zq hml (Zq hlU (Zq hlE hlr))))) ?_;rfl)
   ·
    refine l8 (fun i=>⟨[.Z,.ptr 0 0 0,.Z,.a8 false (u3 (reachF c.b)),.own 1 0 c.regs.toNat,.own 2 0 c.regs.toNat,.v (.int .i64 b),.a8 false (c7 (V0 B i)),.Z,.v (.int .i64 i),.Z,.Z,.Z,.Z,.Z,.Z,.Z,.Z,.Z,.Z,.Z,.Z,.Z,.Z,.Z,.Z,.Z,.Z,.Z,.Z,.Z,.Z,.Z,.Z,.Z,.Z,.Z,.Z,.Z,.Z,.Z,.Z,.Z,.Z,.Z,.Z,.Z,.Z,.Z,.Z,.Z,.Z,.Z,.Z,.Z,.Z,.Z,.Z,.Z,.Z,.Z,.Z,.Z,.Z,.Z,.Z,.Z,.Z,.Z,.Z,.Z,.Z,.Z,.Z,.Z,.Z,.Z,.Z,.Z,.Z,.Z,.Z,.Z,.Z,.Z,.Z,.Z,.Z,.Z,.Z,.Z,.Z,.Z,.Z,.Z,.Z,.Z,.Z,.Z,.Z,.Z,.Z,.Z,.Z,.Z,.Z,.Z,.Z,.Z,.Z,.Z,.Z,.Z,.Z,.Z,.Z,.Z,.Z,.Z,.Z,.Z,.Z,.Z,.Z,.Z,.Z,.Z,.Z,.Z,.Z,.Z,.Z,.Z,.Z,.Z,.Z,.Z,.Z,.Z,.Z,.Z,.Z,.Z,.Z,.Z,.Z,.Z,.Z,.Z],[(0,.live ⟨8,[[.v (.int .i64 c.group),.v (.int .i64 c.sub),.v (.int .i64 c.regs),.v (.int .i64 c.w5),.v (.int .i64 c.params),.a8 false (y4 c.c9),.a8 false (Proofs.YtgdoiokalfhjoaaGreatDoor.loops c.loops),.a8 false (o0 c.b)]],0⟩),(1,.live ⟨1,u3 (U),0⟩),(2,.live ⟨1,u3 (E'),0⟩)],3⟩) B.i.length (Zw [1,3,4,5,6,7,9] [0,1,2] (Zq cO.d (Zq hB2 (Zq hlU (Zq hlE (Zq hlU' (Zq hlE' hlr)))))) ?_) ?_
    ·rw[show V0 B 0=n6 B.t by simp [V0]];rfl
    ·intro k hk
     by_cases hlk:k<B.i.length
     ·have J2:=a8C (B.i.getD k I0)
      have J3:=b2q (B.i.getD k I0)
      have hu:=cC (B.i.getD k I0)
      have hnl:=iS B k
      have hns:=rD B k hlk
      simp only[e7.av]at J2 J3
      obtain⟨NS,hNS⟩:∃NS,NS=V0 B (k+1):=⟨_,rfl⟩
      rw[←hNS]at hns⊢
      obtain⟨N0,hN0⟩:∃N0,N0=V0 B k:=⟨_,rfl⟩
      rw[←hN0]at hns hnl⊢
      repeat' (first|refine Za ?_|(with_reducible constructor<;>first|intro N hN mk hmk|intro N hN|intro h)|refine Zc J2 ?_|refine Zc J3 ?_|refine Zt (Zq a9g.d (Zq hB2 (Zq hlU (Zq hlE' hlr)))) ?_|fail)
      ·rw[if_pos (by assumption)]at hns
       rw[hns]
       refine G6 (iA 7 6 (.a8 false (c7 (N0++o5 (B.i.getD k I0)++[E9 (B.i.getD k I0)]))) (by simp (maxSteps:=10000000) (disch:=omega) only[u6,a9g.d,hB2,hlU,hlE',hlr,l9,P7,s9,A2,p7,o3,AV.kept,b7,n4,u0,B3,p9,o9,b8,AV.y8,m8,v8,AV.plain,rd,u6,a6,P6,stepC,AV.e6,AV.S9,AV.w6,AV.L8,AV.scalar,T8,s6,A6,A9,B1,A8,o8,A5,U0,s7,A7,z8,j3,T7,l0,y7,y5,Q0,z6,j8,TD.isRow,s8,j7,j9,j6,F4,Value.oneCell',↓reduceIte,Int.reduceNe,Int.reduceEq,Nat.reduceAdd,Nat.reduceLT,Nat.reduceLeDiff,Nat.reduceSub,Nat.reduceMul,Nat.reduceBEq,Nat.reduceEqDiff,reduceCtorEq,Int.reduceToNat,←decide_not,←Bool.decide_and,sA,sN]<;>first|done|rfl)) ?_
       simp (maxSteps:=10000000) (disch:=omega) only[a6,n4,y0,a9g.d,hB2,hlU,hlE',hlr,l9,P7,s9,A2,p7,o3,AV.kept,b7,n4,u0,B3,p9,o9,b8,AV.y8,m8,v8,AV.plain,rd,u6,a6,P6,stepC,AV.e6,AV.S9,AV.w6,AV.L8,AV.scalar,T8,s6,A6,A9,B1,A8,o8,A5,U0,s7,A7,z8,j3,T7,l0,y7,y5,Q0,z6,j8,TD.isRow,s8,j7,j9,j6,F4,Value.oneCell',↓reduceIte,Int.reduceNe,Int.reduceEq,Nat.reduceAdd,Nat.reduceLT,Nat.reduceLeDiff,Nat.reduceSub,Nat.reduceMul,Nat.reduceBEq,Nat.reduceEqDiff,reduceCtorEq,Int.reduceToNat,←decide_not,←Bool.decide_and,sA,sN]
       refine Zw [1,3,4,5,6,7,9] [0,1,2] (Zq a9g.d (Zq hB2 (Zq hlU (Zq hlE' hlr)))) ?_
       rfl
      ·rw[if_neg (by assumption),List.append_nil]at hns
       rw[hns]
       refine G6 (iA 7 6 (.a8 false (c7 (N0++o5 (B.i.getD k I0)))) (by simp (maxSteps:=10000000) (disch:=omega) only[u6,a9g.d,hB2,hlU,hlE',hlr,l9,P7,s9,A2,p7,o3,AV.kept,b7,n4,u0,B3,p9,o9,b8,AV.y8,m8,v8,AV.plain,rd,u6,a6,P6,stepC,AV.e6,AV.S9,AV.w6,AV.L8,AV.scalar,T8,s6,A6,A9,B1,A8,o8,A5,U0,s7,A7,z8,j3,T7,l0,y7,y5,Q0,z6,j8,TD.isRow,s8,j7,j9,j6,F4,Value.oneCell',↓reduceIte,Int.reduceNe,Int.reduceEq,Nat.reduceAdd,Nat.reduceLT,Nat.reduceLeDiff,Nat.reduceSub,Nat.reduceMul,Nat.reduceBEq,Nat.reduceEqDiff,reduceCtorEq,Int.reduceToNat,←decide_not,←Bool.decide_and,sA,sN]<;>first|done|rfl)) ?_
       simp (maxSteps:=10000000) (disch:=omega) only[a6,n4,y0,a9g.d,hB2,hlU,hlE',hlr,l9,P7,s9,A2,p7,o3,AV.kept,b7,n4,u0,B3,p9,o9,b8,AV.y8,m8,v8,AV.plain,rd,u6,a6,P6,stepC,AV.e6,AV.S9,AV.w6,AV.L8,AV.scalar,T8,s6,A6,A9,B1,A8,o8,A5,U0,s7,A7,z8,j3,T7,l0,y7,y5,Q0,z6,j8,TD.isRow,s8,j7,j9,j6,F4,Value.oneCell',↓reduceIte,Int.reduceNe,Int.reduceEq,Nat.reduceAdd,Nat.reduceLT,Nat.reduceLeDiff,Nat.reduceSub,Nat.reduceMul,Nat.reduceBEq,Nat.reduceEqDiff,reduceCtorEq,Int.reduceToNat,←decide_not,←Bool.decide_and,sA,sN]
       refine Zw [1,3,4,5,6,7,9] [0,1,2] (Zq a9g.d (Zq hB2 (Zq hlU (Zq hlE' hlr)))) ?_
       rfl
     ·obtain rfl:k=B.i.length:=by omega
      rw[←hL]
      repeat' (first|refine Za ?_|(with_reducible constructor<;>first|intro N hN mk hmk|intro N hN|intro h)|refine Zt (Zq cO.d (Zq hB2 (Zq hlU (Zq hlE' hlr)))) ?_|fail)
      refine Zw [1,3,4,5,6,7] [0,1,2] (Zq cO.d (Zq hB2 (Zq hlU (Zq hlE' hlr)))) ?_
      rfl
   ·
    refine l8 (fun i=>⟨[.Z,.ptr 0 0 0,.Z,.a8 false (u3 (reachF c.b)),.own 1 0 c.regs.toNat,.own 2 0 c.regs.toNat,.v (.int .i64 b),.a8 false (c7 L),.Z,.Z,.Z,.v (.int .i64 i),.Z,.Z,.Z,.Z,.Z,.Z,.Z,.Z,.Z,.Z,.Z,.Z,.Z,.Z,.Z,.Z,.Z,.Z,.Z,.Z,.Z,.Z,.Z,.Z,.Z,.Z,.Z,.Z,.Z,.Z,.Z,.Z,.Z,.Z,.Z,.Z,.Z,.Z,.Z,.Z,.Z,.Z,.Z,.Z,.Z,.Z,.Z,.Z,.Z,.Z,.Z,.Z,.Z,.Z,.Z,.Z,.Z,.Z,.Z,.Z,.Z,.Z,.Z,.Z,.Z,.Z,.Z,.Z,.Z,.Z,.Z,.Z,.Z,.Z,.Z,.Z,.Z,.Z,.Z,.Z,.Z,.Z,.Z,.Z,.Z,.Z,.Z,.Z,.Z,.Z,.Z,.Z,.Z,.Z,.Z,.Z,.Z,.Z,.Z,.Z,.Z,.Z,.Z,.Z,.Z,.Z,.Z,.Z,.Z,.Z,.Z,.Z,.Z,.Z,.Z,.Z,.Z,.Z,.Z,.Z,.Z,.Z,.Z,.Z,.Z,.Z,.Z,.Z,.Z,.Z,.Z,.Z,.Z,.Z,.Z,.Z,.Z],[(0,.live ⟨8,[[.v (.int .i64 c.group),.v (.int .i64 c.sub),.v (.int .i64 c.regs),.v (.int .i64 c.w5),.v (.int .i64 c.params),.a8 false (y4 c.c9),.a8 false (Proofs.YtgdoiokalfhjoaaGreatDoor.loops c.loops),.a8 false (o0 c.b)]],0⟩),(1,.live ⟨1,u3 (Z1 U (L.take i)),0⟩),(2,.live ⟨1,u3 (E'),0⟩)],3⟩) L.length (Zw [1,3,4,5,6,7,11] [0,1,2] (Zq cO.d (Zq hB2 (Zq hlU (Zq hlE (Zq hlU' (Zq hlE' hlr)))))) ?_) ?_
    ·rfl
    ·intro k hk
     have hml:(Z1 U (L.take k)).length=c.regs.toNat:=by rw[U8,hlU]
     by_cases hlk:k<L.length
     ·have hgo:=hLi _ (L2 hlk)
      repeat' (first|refine Za ?_|(with_reducible constructor<;>first|intro N hN mk hmk|intro N hN|intro h)|refine Zt (Zq cO.d (Zq hB2 (Zq hml (Zq hlU (Zq hlE' hlr))))) ?_|fail)
      all_goals first|(exfalso;omega)|(refine Zw [1,3,4,5,6,7,11] [0,1,2] (Zq cO.d (Zq hB2 (Zq hml (Zq hlU (Zq hlE' hlr))))) ?_;rw[pW U L k hlk];rfl)
     ·obtain rfl:k=L.length:=by omega
      rw[List.take_length,←hU']at hml⊢
      repeat' (first|refine Za ?_|(with_reducible constructor<;>first|intro N hN mk hmk|intro N hN|intro h)|refine Zt (Zq cO.d (Zq hB2 (Zq hml (Zq hlU' (Zq hlE' hlr))))) ?_|fail)
      refine Zw [1,3,4,5,6] [0,1,2] (Zq cO.d (Zq hB2 (Zq hml (Zq hlU' (Zq hlE' hlr))))) ?_
      rfl
   ·
    refine Zw [1,3,4,5,6] [0,1,2] (Zq cO.d (Zq hB2 (Zq hlU (Zq hlE (Zq hlU' (Zq hlE' hlr)))))) ?_
    rw[hy,if_pos (by simp_all),if_pos (by assumption)];rfl
   ·
    refine Zw [1,3,4,5,6] [0,1,2] (Zq cO.d (Zq hB2 (Zq hlU (Zq hlE (Zq hlU' (Zq hlE' hlr)))))) ?_
    rw[hy,if_pos (by simp_all),if_neg (by assumption)];rfl
  ·obtain rfl:b=c.b.length:=by omega
   obtain⟨U,hU⟩:∃U,U=(spR c c.b.length).1:=⟨_,rfl⟩
   obtain⟨E,hE⟩:∃E,E=(spR c c.b.length).2:=⟨_,rfl⟩
   rw[←hU]at hlU
   rw[←hE]at hlE
   rw[←hU,←hE]
   repeat' (first|refine Za ?_|(with_reducible constructor<;>first|intro N hN mk hmk|intro N hN|intro h)|refine Zt (Zq cO.d (Zq hlU (Zq hlE hlr))) ?_|fail)
   refine l8 (fun b=>⟨[.Z,.ptr 0 0 0,.Z,.a8 false (u3 (reachF c.b)),.own 1 0 c.regs.toNat,.own 2 0 c.regs.toNat,.Z,.Z,.Z,.Z,.Z,.Z,.Z,.v (.int .i64 b),.Z,.Z,.Z,.Z,.Z,.Z,.Z,.Z,.Z,.Z,.Z,.Z,.Z,.Z,.Z,.Z,.Z,.Z,.Z,.Z,.Z,.Z,.Z,.Z,.Z,.Z,.Z,.Z,.Z,.Z,.Z,.Z,.Z,.Z,.Z,.Z,.Z,.Z,.Z,.Z,.Z,.Z,.Z,.Z,.Z,.Z,.Z,.Z,.Z,.Z,.Z,.Z,.Z,.Z,.Z,.Z,.Z,.Z,.Z,.Z,.Z,.Z,.Z,.Z,.Z,.Z,.Z,.Z,.Z,.Z,.Z,.Z,.Z,.Z,.Z,.Z,.Z,.Z,.Z,.Z,.Z,.Z,.Z,.Z,.Z,.Z,.Z,.Z,.Z,.Z,.Z,.Z,.Z,.Z,.Z,.Z,.Z,.Z,.Z,.Z,.Z,.Z,.Z,.Z,.Z,.Z,.Z,.Z,.Z,.Z,.Z,.Z,.Z,.Z,.Z,.Z,.Z,.Z,.Z,.Z,.Z,.Z,.Z,.Z,.Z,.Z,.Z,.Z,.Z,.Z,.Z,.Z,.Z,.Z,.Z],[(0,.live ⟨8,[[.v (.int .i64 c.group),.v (.int .i64 c.sub),.v (.int .i64 c.regs),.v (.int .i64 c.w5),.v (.int .i64 c.params),.a8 false (y4 c.c9),.a8 false (Proofs.YtgdoiokalfhjoaaGreatDoor.loops c.loops),.a8 false (o0 c.b)]],0⟩),(1,.live ⟨1,u3 (dS U E b),0⟩),(2,.live ⟨1,u3 (E),0⟩)],3⟩) c.regs.toNat (Zw [1,3,4,5,13] [0,1,2] (Zq cO.d (Zq hlU (Zq hlE hlr))) ?_) ?_
   ·rw[show dS U E 0=U by exact b6x U E];rfl
   ·intro k hk
    have hlF:(dS U E k).length=c.regs.toNat:=by rw[a7M,hlU]
    by_cases hlk:k<c.regs.toNat
    ·have hg:=b1U U E (i:=k) (j:=k) (by omega) (Nat.le_refl _)
     have hsu:=a2O U E (i:=k) (by omega)
     obtain⟨F,hF⟩:∃F,F=dS U E k:=⟨_,rfl⟩
     rw[←hF]at hlF hg hsu⊢
     repeat' (first|refine Za ?_|(with_reducible constructor<;>first|intro N hN mk hmk|intro N hN|intro h)|refine Zt (Zq cO.d (Zq hg (Zq hlU (Zq hlE (Zq hlF hlr))))) ?_|fail)
     ·refine Zw [1,3,4,5,13] [0,1,2] (Zq cO.d (Zq hg (Zq hlU (Zq hlE (Zq hlF hlr))))) ?_
      rw[hsu,‹U.getD k false=true›,Bool.true_and];rfl
     ·refine Zw [1,3,4,5,13] [0,1,2] (Zq cO.d (Zq hg (Zq hlU (Zq hlE (Zq hlF hlr))))) ?_
      rw[hsu,‹U.getD k false=false›,Bool.false_and];rfl
    ·obtain rfl:k=c.regs.toNat:=by omega
     obtain⟨F,hF⟩:∃F,F=dS U E c.regs.toNat:=⟨_,rfl⟩
     rw[←hF]at hlF⊢
     rw[←hlF]
     repeat' (first|refine Za ?_|(with_reducible constructor<;>first|intro N hN mk hmk|intro N hN|intro h)|refine Zt (Zq cO.d (Zq hlU (Zq hlE hlr))) ?_|fail)
     all_goals first|rfl
theorem b0g{b:b6}{r:Int}(hr:0≤r):r∈V0 b b.i.length↔r∈n6 b.t∨∃i∈b.i,r∈o5 i∨r=E9 i:=by
 unfold V0
 rw[List.take_length,List.mem_append,List.mem_flatMap]
 refine or_congr Iff.rfl (exists_congr fun x=>and_congr Iff.rfl ?_)
 unfold mB
 rw[List.mem_append]
 refine or_congr Iff.rfl ?_
 split
 ·rw[List.mem_singleton]
 ·rename_i h
  refine⟨fun h=>by simp at h,fun e=>?_⟩
  omega
theorem c0r{r n:Int}{b:b6}(h:bS r n b){E:List Bool}(hE:(E.length:Int)=r)(k:Nat)(hk:k<E.length):(a9I E b).getD k false=true↔E.getD k false=true∨((k:Int)=F3 b.t∨b.t.kind=4∧(k:Int)∈n6 b.t):=by
 have h1:(Z1 E (if b.t.kind=4 then n6 b.t else[])).getD k false=true↔E.getD k false=true∨(b.t.kind=4∧(k:Int)∈n6 b.t):=by
  rw[dH _ _ _ (fun to hto=>?_)]
  ·split<;>simp [*]
  ·split at hto
   ·have:=hZ h.t to hto;omega
   ·simp at hto
 unfold a9I
 simp only
 split
 ·rename_i hd
  have hd2:=sX h.t hd
  rw[Y8,U8]
  by_cases e:(F3 b.t).toNat=k
  ·rw[if_pos ⟨e,hk⟩]
   simp only[true_iff]
   exact .inr (.inl (by omega))
  ·rw[if_neg (fun hh=>e hh.1),h1]
   constructor
   ·rintro(g|g)
    ·exact .inl g
    ·exact .inr (.inr g)
   ·rintro(g|g|g)
    ·exact .inl g
    ·omega
    ·exact .inr g
 ·rw[h1]
  constructor
  ·rintro(g|g)
   ·exact .inl g
   ·exact .inr (.inr g)
  ·rintro(g|g|g)
   ·exact .inl g
   ·omega
   ·exact .inr g
theorem b76{c:Code}(hc:y3 c)(k:Nat)(hk:k<c.regs.toNat):∀b,b≤c.b.length→
  (
   ((spR c b).1.getD k false=true↔∃b',b'<b∧fJ c.b (b':Int)∧((k:Int)∈n6 (B6 c.b b').t∨∃i∈(B6 c.b b').i,(k:Int)∈o5 i∨(k:Int)=E9 i))∧
   ((spR c b).2.getD k false=true↔∃b',b'<b∧fJ c.b (b':Int)∧((k:Int)=F3 (B6 c.b b').t∨(B6 c.b b').t.kind=4∧(k:Int)∈n6 (B6 c.b b').t)))
 |0,_=>by
  have:(List.replicate c.regs.toNat false)[k]?.getD false=false:=by
   rw[List.getElem?_replicate];split<;>rfl
  simp [spR,this]
 |b+1,hb=>by
  have hbo:=hc.b _ (S5 (show b<c.b.length by omega))
  have hl1:((spR c b).1.length:Int)=c.regs:=by have:=(lC c b).1;have:=hc.r;omega
  have hl2:((spR c b).2.length:Int)=c.regs:=by have:=(lC c b).2;have:=hc.r;omega
  have hn1:∀to∈V0 (B6 c.b b) (B6 c.b b).i.length,0≤to∧to<(spR c b).1.length:=fun to hto=>by have:=a8p hbo _ to hto;omega
  have hk2:k<(spR c b).2.length:=by have:=hc.r;omega
  obtain⟨ih1,ih2⟩:=b76 hc k hk b (by omega)
  have step:∀{Q:Nat→Prop},(∃b',b'<b+1∧fJ c.b (b':Int)∧Q b')↔(∃b',b'<b∧fJ c.b (b':Int)∧Q b')∨fJ c.b (b:Int)∧Q b:=by
   intro Q
   constructor
   ·rintro⟨b',h1,h2⟩
    rcases Nat.lt_succ_iff_lt_or_eq.1 h1 with h1|rfl
    ·exact .inl ⟨b',h1,h2⟩
    ·exact .inr h2
   ·rintro(⟨b',h1,h2⟩|h2)
    ·exact⟨b',by omega,h2⟩
    ·exact⟨b,by omega,h2⟩
  unfold spR
  rw[step,step]
  by_cases hr:(reachF c.b).getD b false=true
  ·have hR:=(V2 c.b (by omega)).1 hr
   rw[if_pos hr]
   simp only
   constructor
   ·rw[dH (V0 (B6 c.b b) (B6 c.b b).i.length) (spR c b).1 k hn1,ih1,b0g (Int.natCast_nonneg k)]
    simp [hR]
   ·rw[c0r hbo hl2 k hk2,ih2]
    simp [hR]
  ·have hR:¬fJ c.b (b:Int):=fun h=>hr ((V2 c.b (by omega)).2 h)
   rw[if_neg hr,ih1,ih2]
   simp [hR]
theorem c5t{c:Code}(hc:y3 c):dS (spR c c.b.length).1 (spR c c.b.length).2 c.regs.toNat=spF c:=by
 have hl:=lC c c.b.length
 apply List.ext_getElem?
 intro k
 unfold dS spF
 rw[hl.1]
 simp only[List.getElem?_map]
 by_cases hk:k<c.regs.toNat
 ·rw[List.getElem?_range hk]
  simp only[Option.map_some,Option.some.injEq]
  rw[if_pos hk]
  obtain⟨h1,h2⟩:=b76 hc k hk c.b.length (Nat.le_refl _)
  rw[Bool.eq_iff_iff]
  simp only[Bool.and_eq_true,Bool.not_eq_true',decide_eq_true_eq]
  refine and_congr h1 ?_
  rw[←Bool.not_eq_true]
  exact not_congr h2
 ·rw[List.getElem?_eq_none (by simp;omega)];rfl
theorem c4b(c:Code)(hc:y3 c):e8 Tryz.prog 121 [.agg c.av] (fun _=> .a8 false (u3 (spF c))) (fun _=>[]):=by
 have:=a0a c hc
 rw[c5t hc]at this;exact this
def a0b(c:Code)(i:Nat):Nat:=((c.b.take i).map fun b=>b.i.length).sum
theorem a3v(c:Code)(i:Nat)(h:i<c.b.length):a0b c (i+1)=a0b c i+(c.b.getD i B0).i.length:=by
 unfold a0b;rw[w9 c.b i B0 h,List.map_append,List.sum_append];simp
theorem a4H{c:Code}(h:∀b∈c.b,b.i.length≤1000):∀i,a0b c i≤1000*i
 |0=>by simp [a0b]
 |i+1=>by
  by_cases hi:i<c.b.length
  ·have h1:=a4H h i
   have h2:=h (c.b.getD i B0) (by rw[List.getD_eq_getElem?_getD,List.getElem?_eq_getElem hi];exact List.getElem_mem hi)
   rw[a3v c i hi];omega
  ·have h1:=a4H h i
   unfold a0b at*
   rw[List.take_of_length_le (by omega)]at h1⊢;omega
theorem b4v(c:Code)(n:Int)(h:n=(a0b c c.b.length:Nat)):fF c↔c.regs≤256∧n≤2000:=by
 unfold fF
 rw[h]
 unfold a0b
 rw[List.take_length]
 refine and_congr Iff.rfl ?_
 omega
def a2w:=ZZ.mk (Zq L5.d (Zq @D4 (Zq @Q7 (Zq @N7 (Zq @O5 (Zq @S6 (Zq @O3 (Zq @cA (Zq @L1 (Zq @b6.av.eq_1 @q9.av.eq_1))))))))))
theorem b3n(c:Code)(hb:c.b.length≤1000)(hi':∀b∈c.b,b.i.length≤1000):e8 Tryz.prog 186 [.agg c.av] (fun _=> .v (.bool (decide (fF c)))) (fun _=>[]):=by
 have hsl:=fun i=>a4H hi' i
 refine Zf Tryz.func186 Tryz.ntmps186 ?_;simp only[Code.av]
 repeat' (first|refine Za ?_|(with_reducible constructor<;>first|intro N hN mk hmk|intro N hN|intro h)|refine Zt a2w.d ?_|fail)
 refine l8 (fun i=>⟨[.Z,.ptr 0 0 0,.Z,.v (.int .i64 (a0b c i)),.Z,.Z,.Z,.a8 false (o0 c.b),.v (.int .i64 c.b.length),.v (.int .i64 i),.Z,.Z,.Z,.Z,.Z,.Z,.Z,.Z,.Z,.Z,.Z,.Z,.Z,.Z,.Z,.Z],[(0,.live ⟨8,[[.v (.int .i64 c.group),.v (.int .i64 c.sub),.v (.int .i64 c.regs),.v (.int .i64 c.w5),.v (.int .i64 c.params),.a8 false (y4 c.c9),.a8 false (Proofs.YtgdoiokalfhjoaaGreatDoor.loops c.loops),.a8 false (o0 c.b)]],0⟩)],1⟩) c.b.length (Zw [1,3,7,8,9] [0] a2w.d ?_) ?_
 ·rfl
 ·intro i hi
  have hs:=hsl i
  by_cases hlt:i<c.b.length
  ·have hs2:=a3v c i hlt
   have hbi:=hi' (c.b.getD i B0) (by rw[List.getD_eq_getElem?_getD,List.getElem?_eq_getElem hlt];exact List.getElem_mem hlt)
   obtain⟨B,hB⟩:∃B,c.b.getD i B0=B:=⟨_,rfl⟩
   rw[hB]at hs2 hbi
   repeat' (first|refine Za ?_|(with_reducible constructor<;>first|intro N hN mk hmk|intro N hN|intro h)|refine Zt (Zq a2w.d hB) ?_|fail)
   refine Zw [1,3,7,8,9] [0] (Zq a2w.d hB) ?_
   rw[hs2];rfl
  ·obtain rfl:i=c.b.length:=by omega
   have hsm:=b4v c (a0b c c.b.length) rfl
   repeat' (first|refine Za ?_|(with_reducible constructor<;>first|intro N hN mk hmk|intro N hN|intro h)|refine Zt a2w.d ?_|fail)
   all_goals(first|exact(decide_eq_true (hsm.2 ⟨by omega,by omega⟩)).symm|exact(decide_eq_false fun h=>absurd (hsm.1 h) (by omega)).symm|(refine decide_eq_decide.2 ?_;rw[hsm];omega))
theorem b3i(L:List (List Int))(r:Int)(i:Nat)(h:i<L.length):nF (L.take (i+1)) r=nF (L.take i) r+if r∈L.getD i []then 1 else 0:=by
 rw[w9 L i [] h];unfold nF
 rw[List.filter_append,List.length_append]
 congr 1
 by_cases hm:r∈L.getD i []
 ·rw[if_pos hm,List.filter_cons,if_pos (decide_eq_true hm)];rfl
 ·rw[if_neg hm,List.filter_cons,if_neg (fun h=>hm (of_decide_eq_true h))];rfl
theorem a3N(L:List (List Int))(r:Int):nF L r≤L.length:=List.length_filter_le _ _
def b7w(sp:List Bool)(L:List (List Int))(l:List Int)(n:Nat):Int:=if P8 sp L l n<0 then -1 else nF L (P8 sp L l n)
theorem c0k(sp:List Bool)(L:List (List Int))(l:List Int)(n:Nat): -1≤P8 sp L l n∧P8 sp L l n<n∧ -1≤b7w sp L l n∧b7w sp L l n≤L.length:=by
 have h: -1≤P8 sp L l n∧P8 sp L l n<n:=by
  rcases lS sp L l n with h|⟨h1,h2,_⟩<;>omega
 refine⟨h.1,h.2,?_⟩
 have:=a3N L (P8 sp L l n)
 unfold b7w
 split<;>omega
end Go.Proofs.YtgdoiokalfhjoaaGreatDoor
end
