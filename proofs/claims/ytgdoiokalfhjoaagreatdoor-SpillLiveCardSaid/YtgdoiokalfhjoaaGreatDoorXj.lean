/- Own work (by an AI agent; no person has read it): part of a proof of the seat YtgdoiokalfhjoaaGreatDoor. -/
import Derived.Maps.RangeRun
import Derived.Test.YtgdoiokalfhjoaaGreatDoorXi
set_option linter.unusedSimpArgs false
set_option linter.unusedVariables false
set_option maxRecDepth 100000
set_option maxHeartbeats 10000000
section
namespace Go.Proofs.YtgdoiokalfhjoaaGreatDoor
open Go.Ab
def jB(l:List Int)(r:Int):Int:=if r∈l then eM l r else -1
theorem b2Y:∀{l:List Int} {r:Int} {i:Nat},i<l.length→l.getD i 0=r→(∀k,k<i→l.getD k 0≠r)→l.idxOf r=i
 |[],_,_,h,_,_=>by simp at h
 |a::l,r,0,_,h,_=>by
  have h:a=r:=h
  subst h;simp [List.idxOf_cons]
 |a::l,r,i+1,hi,h,hk=>by
  have h0:a≠r:=hk 0 (by omega)
  have ih:=b2Y (l:=l) (r:=r) (i:=i) (by simpa using hi) (by simpa using h) fun k hk2=>by simpa using hk (k+1) (by omega)
  have:(a==r)=false:=by simpa using h0
  rw[List.idxOf_cons,this,ih];rfl
theorem c4Q{l:List Int}{r:Int}{i:Nat}(hi:i<l.length)(h:l.getD i 0=r)(hk:∀k,k<i→l.getD k 0≠r):eM l r=i:=by
 unfold eM;rw[b2Y hi h hk]
theorem c2v{l:List Int}{r:Int}{i:Nat}(hi:i<l.length)(h:l.getD i 0=r)(hk:∀k,k<i→l.getD k 0≠r):jB l r=i:=by
 have hm:r∈l:=by rw[←h,List.getD_eq_getElem?_getD,List.getElem?_eq_getElem hi];exact List.getElem_mem hi
 unfold jB;rw[if_pos hm,c4Q hi h hk]
theorem c2x{l:List Int}{r:Int}{i:Nat}(hi:l.length≤i)(hk:∀k,k<i→l.getD k 0≠r):jB l r= -1:=by
 unfold jB
 refine if_neg fun hm=>?_
 obtain⟨k,hk2,e⟩:=List.getElem_of_mem hm
 refine hk k (by omega) ?_
 rw[List.getD_eq_getElem?_getD,List.getElem?_eq_getElem hk2];exact e
theorem qG(l:List Int)(n:Int)(hl:l.length≤1000000):c9 Tryz.prog 190 [.a6 false (b7 l),.v (.int .i64 n)] (fun _=> .v (.int .i64 (jB l n))) (fun _=>[]):=by
 refine Zf Tryz.func190 Tryz.ntmps190 ?_
 repeat' (first|refine Za ?_|(with_reducible constructor<;>first|intro N hN mk hmk|intro N hN|intro h)|refine Zt iJ.d ?_|fail)
 refine F8 (fun i=>⟨[.a6 false (b7 l),.v (.int .i64 n),.Z,.Z,.Z,.v (.int .i64 i),.Z,.Z,.Z,.Z,.Z,.Z,.Z,.Z,.Z,.Z,.Z,.Z,.Z],[],0⟩) (fun ii=>Go.Ab.V9 ((fun i=>∀k,k<i→l.getD k 0≠n) ii)) l.length (Zw [0,1,5] [] iJ.d ?_) ?_ ?_
 ·simp
 ·exact⟨fun k hk=>by omega⟩
 ·intro i hi hI
  have hI:=hI.out
  repeat' (first|refine Za ?_|(with_reducible constructor<;>first|intro N hN mk hmk|intro N hN|intro h)|refine Zt iJ.d ?_|fail)
  ·exact(c2v (by omega) ‹_› hI).symm
  ·refine⟨⟨fun k hk=>?_⟩,?_⟩
   ·rcases Nat.lt_succ_iff_lt_or_eq.1 hk with h1|rfl
    ·exact hI k h1
    ·assumption
   ·refine Zw [0,1,5] [] iJ.d ?_
    rfl
  ·exact(c2x (by omega) hI).symm
theorem bJ{l:List Int}{r:Int}:0≤jB l r↔r∈l:=by
 unfold jB eM
 by_cases h:r∈l
 ·simp [h]
 ·simp [h]
theorem mT{l:List Int}{r:Int}(h:r∈l):jB l r=eM l r:=if_pos h
theorem fI{l u:List Int}{i:Nat}(hi:i<u.length)(h:u.getD i 0∈l):o4 l (u.take (i+1))=o4 l (u.take i)++[u.getD i 0]:=by
 rw[w4 u i 0 hi];unfold o4;rw[List.filter_append,List.filter_cons,if_pos (decide_eq_true h)];rfl
theorem jS{l u:List Int}{i:Nat}(hi:i<u.length)(h:¬u.getD i 0∈l):o4 l (u.take (i+1))=o4 l (u.take i):=by
 rw[w4 u i 0 hi];unfold o4;rw[List.filter_append,List.filter_cons,if_neg (fun e=>h (of_decide_eq_true e))];simp
theorem U4(l u:List Int):(o4 l u).length≤u.length:=List.length_filter_le _ _
theorem b2Z(l u:List Int)(hl:l.length≤1000000)(hu:u.length≤1000000):c9 Tryz.prog 191 [.a6 false (b7 l),.a6 false (b7 u)] (fun _=> .a6 false (b7 (o4 l u))) (fun _=>[]):=by
 refine Zf Tryz.func191 Tryz.ntmps191 ?_
 repeat' (first|refine Za ?_|(with_reducible constructor<;>first|intro N hN mk hmk|intro N hN|intro h)|refine Zt P8.d ?_|fail)
 refine c8 (fun i=>⟨[.a6 false (b7 l),.a6 false (b7 u),.Z,.Z,.Z,.own 0 0 (o4 l (u.take i)).length,.v (.int .i64 i),.Z,.Z,.Z,.Z,.Z,.Z,.Z,.Z,.Z,.Z,.Z,.Z,.Z,.Z,.Z,.Z,.Z,.Z,.Z,.Z,.Z,.Z],[(0,.live ⟨1,b7 (o4 l (u.take i)),0⟩)],1⟩) u.length (Zw [0,1,5,6] [8] P8.d ?_) ?_
 ·simp [o4,b7]
 ·intro i hi
  have hlen:(o4 l (u.take i)).length≤i:=Nat.le_trans (U4 _ _) (by simp;omega)
  have C1:=qG l (u.getD i 0) hl
  repeat' (first|refine Za ?_|(with_reducible constructor<;>first|intro N hN mk hmk|intro N hN|intro h)|refine Zc C1 ?_|refine Zt P8.d ?_|fail)
  ·refine Zw [0,1,5,6] [137] P8.d ?_
   rw[fI (by omega) (bJ.1 (by assumption))];simp
  ·refine Zw [0,1,5,6] [0] P8.d ?_
   rw[jS (by omega) (fun h=>absurd (bJ.2 h) (by omega))];rfl
  ·rw[List.take_of_length_le (by omega:u.length≤i)]
theorem b4F(l inn:List Int)(regs:Int)(k:Nat):((List.range (k+1)).map fun k=>yM l regs (inn.getD k 0) k)=((List.range k).map fun k=>yM l regs (inn.getD k 0) k)++[yM l regs (inn.getD k 0) k]:=by simp [List.range_succ]
def b0f:=ZZ.mk (Zq P8.d (Zq @Q6 (Zq @bC (Zq @O3 (Zq @yR (Zq @yS @oN))))))
theorem b2V(l inn:List Int)(regs:Int)(hl:l.length≤1000)(hi:inn.length≤1000)(hr:0≤regs∧regs≤1000)(h:∀r∈inn,r∈l):c9 Tryz.prog 192 [.a6 false (b7 l),.a6 false (b7 inn),.v (.int .i64 regs)] (fun _=> .a6 false (e7 (H6 l inn regs))) (fun _=>[]):=by
 refine Zf Tryz.func192 Tryz.ntmps192 ?_
 repeat' (first|refine Za ?_|(with_reducible constructor<;>first|intro N hN mk hmk|intro N hN|intro h)|refine Zt b0f.d ?_|fail)
 refine c8 (fun i=>⟨[.a6 false (b7 l),.a6 false (b7 inn),.v (.int .i64 regs),.Z,.Z,.Z,.Z,.own 0 0 ((List.range i).map fun k=>yM l regs (inn.getD k 0) k).length,.v (.int .i64 i),.Z,.Z,.Z,.Z,.Z,.Z,.Z,.Z,.Z,.Z,.Z,.Z,.Z,.Z,.Z,.Z,.Z,.Z,.Z,.Z,.Z,.Z],[(0,.live ⟨15,e7 ((List.range i).map fun k=>yM l regs (inn.getD k 0) k),0⟩)],1⟩) inn.length (Zw [0,1,2,7,8] [8] b0f.d ?_) ?_
 ·rfl
 ·intro i hi
  have hlen:((List.range i).map fun k=>yM l regs (inn.getD k 0) k).length≤i:=by simp
  by_cases hlt:i<inn.length
  ·have C1:=qG l (inn.getD i 0) (by omega)
   rw[mT (h _ (by rw[List.getD_eq_getElem?_getD,List.getElem?_eq_getElem hlt];exact List.getElem_mem hlt))]at C1
   have C2:=fM (regs+i)
   simp only[E3.av]at C2
   repeat' (first|refine Za ?_|(with_reducible constructor<;>first|intro N hN mk hmk|intro N hN|intro h)|refine Zc C1 ?_|refine Zc C2 ?_|refine Zt b0f.d ?_|fail)
   ·refine Zw [0,1,2,7,8] [137] b0f.d ?_
    rw[b4F,List.length_append];rfl
  ·obtain rfl:i=inn.length:=by omega
   repeat' (first|refine Za ?_|(with_reducible constructor<;>first|intro N hN mk hmk|intro N hN|intro h)|refine Zt b0f.d ?_|fail)
   all_goals rfl
theorem pZ{o:E3}{inn:List Int}{regs:Int}(h:¬(o.k=2∧o.n∈inn)):w8 o inn regs=o:=if_neg h
theorem a4k{o:E3}{inn:List Int}{regs:Int}(h:o.k=2∧o.n∈inn):w8 o inn regs=mR (regs+eM inn o.n):=if_pos h
theorem lJ(o:E3)(inn:List Int)(regs:Int)(hl:inn.length≤1000)(hr:0≤regs∧regs≤1000):c9 Tryz.prog 193 [.agg o.av,.a6 false (b7 inn),.v (.int .i64 regs)] (fun _=> .agg (w8 o inn regs).av) (fun _=>[]):=by
 have C1:=qG inn o.n (by omega)
 have C2:=fM (regs+jB inn o.n)
 simp only[E3.av]at C2
 have hs:jB inn o.n<1001:=by
  unfold jB eM
  split
  ·have:=List.idxOf_le_length (a:=o.n) (l:=inn);omega
  ·omega
 refine Zf Tryz.func193 Tryz.ntmps193 ?_;simp only[E3.av]
 repeat' (first|refine Za ?_|(with_reducible constructor<;>first|intro N hN mk hmk|intro N hN|intro h)|refine Zc C1 ?_|refine Zc C2 ?_|refine Zt b0f.d ?_|fail)
 ·rw[pZ (fun h=>absurd h.1 (by omega))]
 ·rw[pZ (fun h=>absurd (bJ.2 h.2) (by omega))]
 ·rw[a4k ⟨by omega,bJ.1 (by omega)⟩,mT (bJ.1 (by omega))];rfl
end Go.Proofs.YtgdoiokalfhjoaaGreatDoor
end
section
namespace Go.Ab
open Go.RowKit (Below)
open Go.ChangeMaps (setBlock)
section
section
variable {G:Gh} {M0:Nat→Nat→Prop} {w0:World} {ρ:Nat→Option (Nat×Nat×Nat)} {a:Act} {w:World} {P:Program} {s:LS}
theorem c1V (R:D7 G M0 w0 s ρ a w) {w':World} {d:Option Tmp} (hd:I9 s.o3 d) {l:List (Nat×RS)} {nx:Nat} {x:AV} {v:Value} (h1:∀id r,LS.hf l id= .live r↔LS.hf s.h id= .live r) (h2:∀id,LS.hf l id= .free→LS.hf s.h id= .free)
  (h3:∀id k cs,LS.hf l id= .s9 k cs→LS.hf s.h id= .s9 k cs) (hlok:∀p∈l,p.1<nx)
  (hc:∀(b:Nat) (arr:Array Value) (e:TypeId) (fr:Nat×Nat),w.heap[b]?=some (.cells arr e fr)→w'.heap[b]?=some (.cells arr e fr)) (hbel:Below w0.heap.size w0 w')
  (hkp:∀b o,G.kp b=some o→w.heap[b]?=some o→w'.heap[b]?=some o) (hmp:∀id b d f,LS.hf l id= .mp b d f→w0.heap.size≤b∧aQ w' b d f∧G.kp b=none)
  (hv:∀{M:Nat→Nat→Prop} {ρ:Nat→Option (Nat×Nat×Nat)} {w:World},r8 M ρ w x v):D7 G M0 w0 ((⟨s.t,l,nx⟩:LS).put d x) ρ (a.put d v) w':=by
 obtain⟨R,hok⟩:=R
 have hMo:p9 M0 ρ (LS.hf l)=p9 M0 ρ s.o3.h:=cD h1
 have hcc:∀b o c,¬p9 M0 ρ s.o3.h b o→w.cell? ⟨b,o,none⟩=some c→¬p9 M0 ρ (LS.hf l) b o∧w'.cell? ⟨b,o,none⟩=some c:=fun b o c g1 g2=>by
  rw[hMo];exact⟨g1,rH hc g2⟩
 have hs:∀r p,w.shape? r=some p→w'.shape? r=some p:=fun r p h=>fP hc h
 refine⟨?_,?_⟩
 ·have hp:((⟨s.t,l,nx⟩:LS).put d x).o3={s.o3.put d x with h:=LS.hf l}:=by
   rw[←LS.dU hd];cases d<;>rfl
  rw[hp]
  refine R.b3D hd (fun _ _ h=>h) hcc hs (fun id r hr=>?_) (fun id h=>R.free id (h2 id h)) (fun i1 i2 r1 r2 b β β' z z' g1 g2 g3 g4=>R.inj _ _ _ _ _ _ _ _ _ ((h1 _ _).1 g1) ((h1 _ _).1 g2) g3 g4) hbel (fun id k cs h=>h3 id k cs h)
   (fun id b q f h=>⟨(hmp id b q f h).1,(hmp id b q f h).2.1⟩) hkp (fun id r p h hp=>R.dV id r p ((h1 _ _).1 h) hp) (fun id b q f h=>(hmp id b q f h).2.2) hv
  obtain⟨b',β,arr,e,p1,p2,p3,p4,p5,p6⟩:=R.live id r ((h1 id r).1 hr)
  exact⟨b',β,arr,e,p1,p2,hc _ _ _ _ p3,p4,p5,fun i j e x u g1 g2 g3=>(p6 i j e x u g1 g2 g3).mono (fun _ _ h=>h) hcc hs⟩
 ·cases d<;>exact hlok
theorem b7p{es:Array MapEntry}{c:Nat}{o:Obj}(ho:b4S o=true)(h:dX (.map es c)=dX o):o= .map es c:=by
 cases o with
 |map es' c'=>
  have h0:=congrFun h (.int .i64 (-1))
  simp only[dX]at h0
  have hc:c'=c:=by
   simp at h0;omega
  subst hc
  congr 1
  refine Array.ext_getElem? fun i=>?_
  have hi:=congrFun h (.int .i64 i)
  simp only[dX]at hi
  rw[if_neg (by omega),if_neg (by omega)]at hi
  simp only[Int.toNat_natCast]at hi
  cases h1:es[i]?<;>cases h2:es'[i]?<;>rw[h1,h2]at hi<;>simp at hi⊢
  rename_i x y
  obtain⟨k1,v1,b1⟩:=x
  obtain⟨k2,v2,b2⟩:=y
  simp only at hi
  obtain⟨rfl,rfl,h⟩:=hi
  have:b1=b2:=by omega
  rw[this]
 |mapIter m s seen c'=>
  cases m with
  |none=>cases ho
  |some m=>
   have h0:=congrFun h (.bool true)
   simp [dX]at h0
 |_=>cases ho
theorem c1p{m s c:Nat}{seen:Array Nat}{o:Obj}(ho:b4S o=true)(h:dX (.mapIter (some m) s seen c)=dX o):o= .mapIter (some m) s seen c:=by
 cases o with
 |map es' c'=>
  have h0:=congrFun h (.bool true)
  simp [dX]at h0
 |mapIter m' s' seen' c'=>
  cases m' with
  |none=>cases ho
  |some m'=>
   have h0:=congrFun h (.int .i64 (-1))
   simp only[dX]at h0
   simp at h0
   obtain⟨h1,h2,h3⟩:=h0
   have e1:m'=m:=by omega
   have e2:s'=s:=by omega
   have e3:c'=c:=by omega
   subst e1;subst e2;subst e3
   congr 1
   refine Array.ext_getElem? fun i=>?_
   have hi:=congrFun h (.int .i64 i)
   simp only[dX]at hi
   rw[if_neg (by omega),if_neg (by omega)]at hi
   simp only[Int.toNat_natCast]at hi
   cases h1:seen[i]?<;>cases h2:seen'[i]?<;>rw[h1,h2]at hi<;>simp at hi⊢
   omega
 |_=>cases ho
theorem aQ.c61{b:Nat}{es:Array MapEntry}{c:Nat}(h:aQ w b .invalid (dX (.map es c))):w.heap[b]?=some (.map es c):=by
 rcases h with⟨es',c',h1,h2,_,h4,h5,_⟩|⟨_,o,h1,h2,h3⟩
 ·have:=h5 (.int .i64 (-1)) (.int .i64 c) (by simp [dX])
  obtain⟨x,hx,hk⟩:=this
  rcases h2 x hx with h|⟨h,_⟩
  ·cases hq:x.key<;>rw[hq]at h<;>simp [Go.MapKept.IsKey]at h
  ·cases h
 ·rw[h1,b7p h2 h3]
theorem aQ.c60{b m s c:Nat}{seen:Array Nat}(h:aQ w b .invalid (dX (.mapIter (some m) s seen c))):w.heap[b]?=some (.mapIter (some m) s seen c):=by
 rcases h with⟨es',c',h1,h2,_,h4,h5,_⟩|⟨_,o,h1,h2,h3⟩
 ·have:=h5 (.bool true) (.bool true) (by simp [dX])
  obtain⟨x,hx,hk⟩:=this
  rcases h2 x hx with h|⟨h,_⟩
  ·cases hq:x.key<;>rw[hq]at h<;>simp [Go.MapKept.IsKey]at h
  ·cases h
 ·rw[h1,c1p h2 h3]
end
end
end Go.Ab
end
section
namespace Go.Ab
theorem c0Y{t:List AV}{h h':List (Nat×RS)}{nx nx':Nat}(h1:∀id,LS.hf h' id=LS.hf h id∨(LS.hf h' id= .gone∧∃b d f,LS.hf h id= .mp b d f))(h2:∀p∈h',p.1<nx')(hn:nx≤nx'):N4 ⟨t,h,nx⟩ ⟨t,h',nx'⟩:=by
 intro G M0 w0 ρ a w R
 have:=c1V (d:=none) (x:= .Z) (v:=undef) (l:=h') (nx:=nx') R trivial (fun id r=>?_) (fun id hf=>?_) (fun id k cs hg=>?_) h2 (fun _ _ _ _ h=>h) R.1.S4 (fun _ _ _ h=>h) (fun id b d f hm=>?_) (.Z _)
 ·exact⟨ρ,this⟩
 ·show LS.hf h' id= .live r↔LS.hf h id= .live r
  rcases h1 id with e|⟨e,b,d,f,e2⟩
  ·rw[e]
  ·rw[e,e2];constructor<;>(intro q;cases q)
 ·show LS.hf h id= .free
  rcases h1 id with e|⟨e,_⟩
  ·rw[←e];exact hf
  ·rw[e]at hf;cases hf
 ·show LS.hf h id= .s9 k cs
  rcases h1 id with e|⟨e,_⟩
  ·rw[←e];exact hg
  ·rw[e]at hg;cases hg
 ·rcases h1 id with e|⟨e,_⟩
  ·rw[e]at hm
   obtain⟨q1,q2⟩:=R.1.kL id b d f hm
   exact⟨q1,q2,R.1.pU id b d f hm⟩
  ·rw[e]at hm;cases hm
end Go.Ab
end
section
namespace Go.Ab
open Go.RowKit (Below)
section
theorem aQ.obj{w:World}{b:Nat}{o:Obj}(ho:b4S o=true)(h:aQ w b .invalid (dX o)):w.heap[b]?=some o:=by
 cases o with
 |map es c=>exact h.c61
 |mapIter m s seen c=>
  cases m with
  |some m=>exact h.c60
  |none=>cases ho
 |_=>cases ho
def iR(fn:Func)(xs:List AV)(b:Nat)(d:TypeDesc)(F E:Value→Option Value):LS:=
 ⟨xs++List.replicate (fn.ntmps-xs.length) .Z,[(0,.mp b d F),(1,.mp b .invalid E)],8⟩
theorem b7U{fn:Func}{n:Nat}(h:fn.ntmps=n)(xs:List AV)(b:Nat)(d:TypeDesc)(F E:Value→Option Value):iR fn xs b d F E=⟨xs++List.replicate (n-xs.length) .Z,[(0,.mp b d F),(1,.mp b .invalid E)],8⟩:=by subst h;rfl
def c64(P:Program)(fn:Func)(y:AV)(b:Nat)(E:Value→Option Value)(e:Exit)(s:LS):Prop:=
 (match e with| .normal| .ret=>True|_=>False)∧qC P s.o3 fn.results.toList=some y∧LS.hf s.h 1= .mp b .invalid E
section
variable {P:Program} {f:FuncId} {fn:Func} {c:Code} {xs:List AV} {b:Nat} {d:TypeDesc} {F:Value→Option Value} {y:AV}
theorem a8y [j5 P] (hf:P.funcs[f]?=some fn) (hb:fn.body=some c) (hn:(fn.name== "runtime.NumGoroutine")=false) (hfl:y.flat=true)
  (h:∀E,fV (md:=false) P c (iR fn xs b d F E) (c64 P fn y b E)):nN P f xs b d F y:=by
 refine⟨⟨fn,hf,by simp [hb],hn⟩,fun M w0 w args hg hbel hle hmap hM hargs=>?_⟩
 obtain⟨o,ho,hob⟩:=hmap.at
 have hh:∀id,LS.hf (iR fn xs b d F (dX o)).h id=if id=0 then .mp b d F else if id=1 then .mp b .invalid (dX o)else .free:=by
  intro id
  match id with
  |0=>rfl
  |1=>rfl
  |n+2=>
   have e0:((n+2)==0)=false:=by simp
   have e1:((n+2)==1)=false:=by simp
   simp only[iR,LS.hf,List.lookup_cons,e0,e1,List.lookup_nil]
   simp
 have nolive:∀id r,LS.hf (iR fn xs b d F (dX o)).h id≠ .live r:=by
  intro id r;rw[hh];split
  ·simp
  ·split<;>simp
 let kp:Nat→Option Obj:=fun k=>if k=b then none else w.heap[k]?
 let G:Gh:=⟨fun _ _=>undef,fun _ _=>False,kp,fun _=>none,[]⟩
 let M':Nat→Nat→Prop:=fun k o=>M k o∧k≠b
 have hMM:∀k o',p9 M' (fun _=>none) (LS.hf (iR fn xs b d F (dX o)).h) k o'→M k o':=by
  rintro k o' (g|⟨id,r,β,z,g1,g2,g3⟩)
  ·exact g.1
  ·cases g2
 have hm0:∀k o',M' k o'→k<w0.heap.size∨∃x,G.kp k=some x:=by
  intro k o' g
  have hlt:=hM k o' g.1
  exact .inr ⟨w.heap[k],by show(if k=b then none else w.heap[k]?)=_;rw[if_neg g.2];simp [hlt]⟩
 have R0:D7 G M' w0 (iR fn xs b d F (dX o)) (fun _=>none) {tmps:=args++Array.replicate (fn.ntmps-args.size) undef,defers:=[]} w:=by
  refine⟨{n:=?_,tm:=?_,live:=?_,free:=fun _ _=>rfl,inj:=?_,S4:=hbel,m0:=hm0,defers:=rfl,pK:=?_,nZ:=fun _ _ h=>h.elim,kL:=?_,iV:=?_,dV:=?_,pU:=?_,qS:=fun _ _ h=>nomatch h},?_⟩
  ·simp [iR,LS.o3,hargs.1]
  ·intro t
   simp only[iR,LS.o3,LS.tf,List.getD_eq_getElem?_getD]
   by_cases ht:t<xs.length
   ·rw[List.getElem?_append_left ht,List.getElem?_eq_getElem ht,Option.getD_some]
    have h2:t<args.size:=by rw[hargs.1];exact ht
    have e:(args++Array.replicate (fn.ntmps-args.size) undef).getD t undef=args[t]:=by
     rw[Array.getD_eq_getD_getElem?,Array.getElem?_append_left h2]
     simp [h2]
    rw[e]
    exact(hargs.2 t xs[t] args[t] (by simp [ht]) (by simp [h2])).rK hMM
   ·rw[List.getElem?_append_right (by omega)]
    have:((List.replicate (fn.ntmps-xs.length) AV.Z)[t-xs.length]?).getD .Z= .Z:=by
     rw[List.getElem?_replicate];split<;>rfl
    rw[this]
    exact .Z _
  ·intro id r h;exact absurd h (nolive id r)
  ·intro id id' r r' k β β' z z' h;exact absurd h (nolive id r)
  ·intro id k cs h
   have h:LS.hf (iR fn xs b d F (dX o)).h id= .s9 k cs:=h
   rw[hh]at h
   split at h
   ·cases h
   ·split at h<;>cases h
  ·intro id k q f h
   have h:LS.hf (iR fn xs b d F (dX o)).h id= .mp k q f:=h
   rw[hh]at h
   split at h
   ·cases h;exact⟨hle,hmap⟩
   ·split at h
    ·cases h;exact⟨hle,.inr ⟨rfl,o,hob,ho,rfl⟩⟩
    ·cases h
  ·intro k x h
   have h:(if k=b then none else w.heap[k]?)=some x:=h
   split at h
   ·cases h
   ·exact h
  ·intro id r p h;exact absurd h (nolive id r)
  ·intro id k q f h
   have h:LS.hf (iR fn xs b d F (dX o)).h id= .mp k q f:=h
   have e:k=b:=by
    rw[hh]at h
    split at h
    ·cases h;rfl
    ·split at h
     ·cases h;rfl
     ·cases h
   subst e
   show(if k=k then none else w.heap[k]?)=none
   rw[if_pos rfl]
  ·intro p hp
   simp only[iR,List.mem_cons,List.not_mem_nil,or_false]at hp
   rcases hp with rfl|rfl
   ·show(0:Nat)<8;decide
   ·show(1:Nat)<8;decide
 refine callsIn_wide.1 (callsIn_of_wp_marks (F:=Fence.wide) (n:=0) hf hb trivial (h (dX o) none (fun _=>rfl) G M' w0 _ _ w _ hg R0 ?_))
 intro Ds e s' ρ' a' w' hDs k RX
 have key:∀(a':Act) (w':World),D7 G M' w0 s' ρ' a' w'→∃v,(results fn a'.tmps).run P w'= .ok v w'∧Below w.heap.size w w'∧r8 M (fun _=>none) w' y v:=by
  intro a' w' R
  obtain⟨_,hx,hm⟩:=k
  obtain⟨v,h1,h2⟩:=bE R.1 hx
  have hbo:w'.heap[b]?=some o:=((R.1.kL 1 b _ _ hm).2).obj ho
  have hbk:∀k,k<w.heap.size→w'.heap[k]?=w.heap[k]?:=by
   intro k hk
   by_cases e:k=b
   ·subst e;rw[hbo,hob]
   ·have hs:w.heap[k]?=some w.heap[k]:=by simp [hk]
    rw[hs]
    exact R.1.iV k _ (by show(if k=b then none else w.heap[k]?)=_;rw[if_neg e];exact hs)
  refine⟨v,h1,⟨R.1.S4.os.trans hbel.os.symm,R.1.S4.tape.trans hbel.tape.symm,R.1.S4.output.trans hbel.output.symm,?_,hbk⟩,h2.flat hfl⟩
  rcases Nat.lt_or_ge w'.heap.size w.heap.size with hlt|hge
  ·have:=hbk w'.heap.size hlt
   have hs:w.heap[w'.heap.size]?=some w.heap[w'.heap.size]:=by simp [hlt]
   rw[hs]at this
   exact absurd (A2 this) (Nat.lt_irrefl _)
  ·exact hge
 have fin:=lC (P:=P) (fn:=fn) (R':=fun e w'=>∃v,e= .returned v∧Below w.heap.size w w'∧r8 M (fun _=>none) w' y v) Ds hDs rfl hm0 RX.1
  (fun a2 w2 _ R2=>let⟨v,h1,h2,h3⟩:=key a2 w2 ⟨R2,RX.2⟩;⟨v,h1,v,rfl,h2,h3⟩)
 have k1:=k.1
 cases e<;>first
  |exact fin
  |exact k1.elim
variable {s:LS} {dst:Option Tmp}
theorem b29[j5 P]{xs0:List AV}{idm:Nat}{ids:List (Nat×Nat)}(C:nN P f xs b d F y)(h1:xs0.mapM (v8 (LS.hf s.h) 6)=some xs)(h2:xs0.flatMap (a8 (LS.hf s.h) 6)=ids)(hm:LS.hf s.h idm= .mp b d F)(hfl:y.flat=true):
  a8A P f xs0 (LS.hf s.h) ⟨y,((idm,0)::ids).map fun p=>(p.1,none,false),none,[],none,[]⟩:=
 .inr ⟨6,xs,idm,b,d,F,y,h1,C,hm,hfl,by rw[h2]⟩
theorem K8 [j5 P] {rest:LS→(LS→Prop)→Prop} {N:LS→Prop} {xs0:List AV} {idm:Nat} {ids:List (Nat×Nat)} (C:nN P f xs b d F y) (h1:xs0.mapM (v8 (LS.hf s.h) 6)=some xs) (h2:xs0.flatMap (a8 (LS.hf s.h) 6)=ids) (hm:LS.hf s.h idm= .mp b d F) (hfl:y.flat=true)
  (h:rest (s.cL dst ⟨y,((idm,0)::ids).map fun p=>(p.1,none,false),none,[],none,[]⟩) N):gO P rest dst s N f xs0:=
 .inr (.inr (.inr ⟨_,b29 C h1 h2 hm hfl,h⟩))
theorem H0 [j5 P] {rest:LS→qT→(LS→Prop)→Prop} {log:qT} {N:LS→Prop} {xs0:List AV} {idm:Nat} {ids:List (Nat×Nat)} (C:nN P f xs b d F y) (h1:xs0.mapM (v8 (LS.hf s.h) 6)=some xs) (h2:xs0.flatMap (a8 (LS.hf s.h) 6)=ids) (hm:LS.hf s.h idm= .mp b d F) (hfl:y.flat=true)
  (h:rest (s.cL dst ⟨y,((idm,0)::ids).map fun p=>(p.1,none,false),none,[],none,[]⟩) (log++[some (s.nx,((idm,0)::ids).map fun p=>(p.1,none,false))]) N):fC P rest dst s log N f xs0:=
 .inr ⟨_,b29 C h1 h2 hm hfl,h⟩
end
end
end Go.Ab
end
section
namespace Go.Proofs.YtgdoiokalfhjoaaGreatDoor
open Go.Ab
theorem aJ(n:Int):c9 Tryz.prog 237 [.v (.int .i64 n)] (fun _=> .agg (mR n).av) (fun _=>[]):=by
 refine Zf Tryz.func237 Tryz.ntmps237 ?_;simp only[E3.av,mR]
 repeat' (first|refine Za ?_|(with_reducible constructor<;>first|intro N hN mk hmk|intro N hN|intro h)|refine Zt I8.d ?_|fail)
def nmF(K:List Int)(regs:Int)(r:Int):Option Value:=if r∈K then some (.int .i64 (regs+eM K r))else none
theorem c1Y(K:List Int)(regs r:Int):(nmF K regs r).isSome=decide (r∈K):=by
 unfold nmF;split<;>simp [*]
theorem c1X(K:List Int)(regs r:Int):(nmF K regs r).getD (.int .i64 0)= .int .i64 (if r∈K then regs+eM K r else 0):=by
 unfold nmF;split<;>rfl
def a79:=ZZ.mk (Zq I8.d (Zq @c1Y (Zq @c1X @uS)))
theorem a9r(o:E3)(K:List Int)(regs r0:Int)(sl:Value)(O:List e8)(b:Nat):nN Tryz.prog 204 [.aF [[.v sl,.v (.int .i64 r0),.a6 false (e7 O),.v (.map (some b))]] 0 0,.agg o.av] b (.int .i64) (bQ .i64 (nmF K regs)) (.agg (w8 o K regs).av):=by
 have C1:=fun n=>aJ n
 simp only[E3.av,mR]at C1
 refine a8y Tryz.func204 rfl (by kernel_rfl) rfl fun E=>?_
 rw[b7U Tryz.ntmps204]
 simp only[E3.av,List.replicate_succ,List.replicate_zero,List.cons_append,List.nil_append,List.length_cons,List.length_nil,Nat.reduceAdd,Nat.reduceSub]
 refine u2 ?_
 repeat' (first|refine Za ?_|(with_reducible constructor<;>first|intro N hN mk hmk|intro N hN|intro h)|refine Zc (C1 _) ?_|refine Zt a79.d ?_|fail)
 ·have h1:o.n∈K:=by assumption
  have h2:o.k=2:=by assumption
  refine⟨trivial,?_,rfl⟩
  rw[a4k ⟨h2,h1⟩]
  simp only[h1,if_true]
  simp (maxSteps:=10000000) (disch:=omega) only[qC,sE,Tryz.results204,mR,a79.d,n7,T6,u4,B4,s7,o7,AV.kept,b8,n6,u5,D5,s8,s6,c7,AV.A6,n8,x5,AV.plain,rd,v8,a8,T1,stepC,AV.j3,AV.U9,AV.x7,AV.O6,AV.scalar,V7,u0,C8,D3,D4,D0,s5,B9,V8,u1,C9,B3,l0,V6,n4,A4,A3,T7,B2,m8,TD.isRow,u3,l9,n3,l7,H7,Value.oneCell',↓reduceIte,Int.reduceNe,Int.reduceEq,Nat.reduceAdd,Nat.reduceLT,Nat.reduceLeDiff,Nat.reduceSub,Nat.reduceMul,Nat.reduceBEq,Nat.reduceEqDiff,reduceCtorEq,Int.reduceToNat,←decide_not,←Bool.decide_and,sA,sN]
  try rfl
 ·have h2:¬o.k=2:=by assumption
  refine⟨trivial,?_,rfl⟩
  rw[pZ (fun h=>h2 h.1)]
  simp (maxSteps:=10000000) (disch:=omega) only[qC,sE,Tryz.results204,a79.d,n7,T6,u4,B4,s7,o7,AV.kept,b8,n6,u5,D5,s8,s6,c7,AV.A6,n8,x5,AV.plain,rd,v8,a8,T1,stepC,AV.j3,AV.U9,AV.x7,AV.O6,AV.scalar,V7,u0,C8,D3,D4,D0,s5,B9,V8,u1,C9,B3,l0,V6,n4,A4,A3,T7,B2,m8,TD.isRow,u3,l9,n3,l7,H7,Value.oneCell',↓reduceIte,Int.reduceNe,Int.reduceEq,Nat.reduceAdd,Nat.reduceLT,Nat.reduceLeDiff,Nat.reduceSub,Nat.reduceMul,Nat.reduceBEq,Nat.reduceEqDiff,reduceCtorEq,Int.reduceToNat,←decide_not,←Bool.decide_and,sA,sN]
  try rfl
 ·have h1:¬o.n∈K:=by assumption
  refine⟨trivial,?_,rfl⟩
  rw[pZ (fun h=>h1 h.2)]
  simp (maxSteps:=10000000) (disch:=omega) only[qC,sE,Tryz.results204,a79.d,n7,T6,u4,B4,s7,o7,AV.kept,b8,n6,u5,D5,s8,s6,c7,AV.A6,n8,x5,AV.plain,rd,v8,a8,T1,stepC,AV.j3,AV.U9,AV.x7,AV.O6,AV.scalar,V7,u0,C8,D3,D4,D0,s5,B9,V8,u1,C9,B3,l0,V6,n4,A4,A3,T7,B2,m8,TD.isRow,u3,l9,n3,l7,H7,Value.oneCell',↓reduceIte,Int.reduceNe,Int.reduceEq,Nat.reduceAdd,Nat.reduceLT,Nat.reduceLeDiff,Nat.reduceSub,Nat.reduceMul,Nat.reduceBEq,Nat.reduceEqDiff,reduceCtorEq,Int.reduceToNat,←decide_not,←Bool.decide_and,sA,sN]
  try rfl
end Go.Proofs.YtgdoiokalfhjoaaGreatDoor
end
