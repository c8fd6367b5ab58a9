/- Own work (by an AI agent; no person has read it): part of a proof of the seat YtgdoiokalfhjoaaGreatDoor. -/
import Derived.Maps.RangeRun
import Derived.Test.YtgdoiokalfhjoaaGreatDoorYi
set_option linter.unusedSimpArgs false
set_option linter.unusedVariables false
set_option maxRecDepth 100000
set_option maxHeartbeats 10000000
section
namespace Go.Proofs.YtgdoiokalfhjoaaGreatDoor
open Go.Ab
def jB(l:List Int)(r:Int):Int:=if r∈l then gN l r else -1
theorem b10:∀{l:List Int} {r:Int} {i:Nat},i<l.length→l.getD i 0=r→(∀k,k<i→l.getD k 0≠r)→l.idxOf r=i
 |[],_,_,h,_,_=>by simp at h
 |a::l,r,0,_,h,_=>by
  have h:a=r:=h
  subst h;simp [List.idxOf_cons]
 |a::l,r,i+1,hi,h,hk=>by
  have h0:a≠r:=hk 0 (by omega)
  have ih:=b10 (l:=l) (r:=r) (i:=i) (by simpa using hi) (by simpa using h) fun k hk2=>by simpa using hk (k+1) (by omega)
  have:(a==r)=false:=by simpa using h0
  rw[List.idxOf_cons,this,ih];rfl
theorem c3Q{l:List Int}{r:Int}{i:Nat}(hi:i<l.length)(h:l.getD i 0=r)(hk:∀k,k<i→l.getD k 0≠r):gN l r=i:=by
 unfold gN;rw[b10 hi h hk]
theorem c1v{l:List Int}{r:Int}{i:Nat}(hi:i<l.length)(h:l.getD i 0=r)(hk:∀k,k<i→l.getD k 0≠r):jB l r=i:=by
 have hm:r∈l:=by rw[←h,List.getD_eq_getElem?_getD,List.getElem?_eq_getElem hi];exact List.getElem_mem hi
 unfold jB;rw[if_pos hm,c3Q hi h hk]
theorem c1w{l:List Int}{r:Int}{i:Nat}(hi:l.length≤i)(hk:∀k,k<i→l.getD k 0≠r):jB l r= -1:=by
 unfold jB
 refine if_neg fun hm=>?_
 obtain⟨k,hk2,e⟩:=List.getElem_of_mem hm
 refine hk k (by omega) ?_
 rw[List.getD_eq_getElem?_getD,List.getElem?_eq_getElem hk2];exact e
theorem tH(l:List Int)(n:Int)(hl:l.length≤1000000):e8 Tryz.prog 190 [.a8 false (c7 l),.v (.int .i64 n)] (fun _=> .v (.int .i64 (jB l n))) (fun _=>[]):=by
 refine Zf Tryz.func190 Tryz.ntmps190 ?_
 repeat' (first|refine Za ?_|(with_reducible constructor<;>first|intro N hN mk hmk|intro N hN|intro h)|refine Zt gF.d ?_|fail)
 refine H4 (fun i=>⟨[.a8 false (c7 l),.v (.int .i64 n),.Z,.Z,.Z,.v (.int .i64 i),.Z,.Z,.Z,.Z,.Z,.Z,.Z,.Z,.Z,.Z,.Z,.Z,.Z],[],0⟩) (fun ii=>Go.Ab.W0 ((fun i=>∀k,k<i→l.getD k 0≠n) ii)) l.length (Zw [0,1,5] [] gF.d ?_) ?_ ?_
 ·simp
 ·exact⟨fun k hk=>by omega⟩
 ·intro i hi hI
  have hI:=hI.out
  repeat' (first|refine Za ?_|(with_reducible constructor<;>first|intro N hN mk hmk|intro N hN|intro h)|refine Zt gF.d ?_|fail)
  ·exact(c1v (by omega) ‹_› hI).symm
  ·refine⟨⟨fun k hk=>?_⟩,?_⟩
   ·rcases Nat.lt_succ_iff_lt_or_eq.1 hk with h1|rfl
    ·exact hI k h1
    ·assumption
   ·refine Zw [0,1,5] [] gF.d ?_
    rfl
  ·exact(c1w (by omega) hI).symm
theorem cG{l:List Int}{r:Int}:0≤jB l r↔r∈l:=by
 unfold jB gN
 by_cases h:r∈l
 ·simp [h]
 ·simp [h]
theorem kZ{l:List Int}{r:Int}(h:r∈l):jB l r=gN l r:=if_pos h
theorem eY{l u:List Int}{i:Nat}(hi:i<u.length)(h:u.getD i 0∈l):r6 l (u.take (i+1))=r6 l (u.take i)++[u.getD i 0]:=by
 rw[w9 u i 0 hi];unfold r6;rw[List.filter_append,List.filter_cons,if_pos (decide_eq_true h)];rfl
theorem iO{l u:List Int}{i:Nat}(hi:i<u.length)(h:¬u.getD i 0∈l):r6 l (u.take (i+1))=r6 l (u.take i):=by
 rw[w9 u i 0 hi];unfold r6;rw[List.filter_append,List.filter_cons,if_neg (fun e=>h (of_decide_eq_true e))];simp
theorem X0(l u:List Int):(r6 l u).length≤u.length:=List.length_filter_le _ _
theorem b11(l u:List Int)(hl:l.length≤1000000)(hu:u.length≤1000000):e8 Tryz.prog 191 [.a8 false (c7 l),.a8 false (c7 u)] (fun _=> .a8 false (c7 (r6 l u))) (fun _=>[]):=by
 refine Zf Tryz.func191 Tryz.ntmps191 ?_
 repeat' (first|refine Za ?_|(with_reducible constructor<;>first|intro N hN mk hmk|intro N hN|intro h)|refine Zt fM.d ?_|fail)
 refine l8 (fun i=>⟨[.a8 false (c7 l),.a8 false (c7 u),.Z,.Z,.Z,.own 0 0 (r6 l (u.take i)).length,.v (.int .i64 i),.Z,.Z,.Z,.Z,.Z,.Z,.Z,.Z,.Z,.Z,.Z,.Z,.Z,.Z,.Z,.Z,.Z,.Z,.Z,.Z,.Z,.Z],[(0,.live ⟨1,c7 (r6 l (u.take i)),0⟩)],1⟩) u.length (Zw [0,1,5,6] [8] fM.d ?_) ?_
 ·simp [r6,c7]
 ·intro i hi
  have hlen:(r6 l (u.take i)).length≤i:=Nat.le_trans (X0 _ _) (by simp;omega)
  have C1:=tH l (u.getD i 0) hl
  repeat' (first|refine Za ?_|(with_reducible constructor<;>first|intro N hN mk hmk|intro N hN|intro h)|refine Zc C1 ?_|refine Zt fM.d ?_|fail)
  ·refine Zw [0,1,5,6] [137] fM.d ?_
   rw[eY (by omega) (cG.1 (by assumption))];simp
  ·refine Zw [0,1,5,6] [0] fM.d ?_
   rw[iO (by omega) (fun h=>absurd (cG.2 h) (by omega))];rfl
  ·rw[List.take_of_length_le (by omega:u.length≤i)]
theorem b3B(l inn:List Int)(regs:Int)(k:Nat):((List.range (k+1)).map fun k=>a7U l regs (inn.getD k 0) k)=((List.range k).map fun k=>a7U l regs (inn.getD k 0) k)++[a7U l regs (inn.getD k 0) k]:=by simp [List.range_succ]
def a9f:=ZZ.mk (Zq fM.d (Zq @O3 (Zq @cA (Zq @L1 (Zq @nQ (Zq @lY @fH))))))
theorem b1Y(l inn:List Int)(regs:Int)(hl:l.length≤1000)(hi:inn.length≤1000)(hr:0≤regs∧regs≤1000)(h:∀r∈inn,r∈l):e8 Tryz.prog 192 [.a8 false (c7 l),.a8 false (c7 inn),.v (.int .i64 regs)] (fun _=> .a8 false (c6 (I7 l inn regs))) (fun _=>[]):=by
 refine Zf Tryz.func192 Tryz.ntmps192 ?_
 repeat' (first|refine Za ?_|(with_reducible constructor<;>first|intro N hN mk hmk|intro N hN|intro h)|refine Zt a9f.d ?_|fail)
 refine l8 (fun i=>⟨[.a8 false (c7 l),.a8 false (c7 inn),.v (.int .i64 regs),.Z,.Z,.Z,.Z,.own 0 0 ((List.range i).map fun k=>a7U l regs (inn.getD k 0) k).length,.v (.int .i64 i),.Z,.Z,.Z,.Z,.Z,.Z,.Z,.Z,.Z,.Z,.Z,.Z,.Z,.Z,.Z,.Z,.Z,.Z,.Z,.Z,.Z,.Z],[(0,.live ⟨15,c6 ((List.range i).map fun k=>a7U l regs (inn.getD k 0) k),0⟩)],1⟩) inn.length (Zw [0,1,2,7,8] [8] a9f.d ?_) ?_
 ·rfl
 ·intro i hi
  have hlen:((List.range i).map fun k=>a7U l regs (inn.getD k 0) k).length≤i:=by simp
  by_cases hlt:i<inn.length
  ·have C1:=tH l (inn.getD i 0) (by omega)
   rw[kZ (h _ (by rw[List.getD_eq_getElem?_getD,List.getElem?_eq_getElem hlt];exact List.getElem_mem hlt))]at C1
   have C2:=fB (regs+i)
   simp only[E3.av]at C2
   repeat' (first|refine Za ?_|(with_reducible constructor<;>first|intro N hN mk hmk|intro N hN|intro h)|refine Zc C1 ?_|refine Zc C2 ?_|refine Zt a9f.d ?_|fail)
   ·refine Zw [0,1,2,7,8] [137] a9f.d ?_
    rw[b3B,List.length_append];rfl
  ·obtain rfl:i=inn.length:=by omega
   repeat' (first|refine Za ?_|(with_reducible constructor<;>first|intro N hN mk hmk|intro N hN|intro h)|refine Zt a9f.d ?_|fail)
   all_goals rfl
theorem oD{o:E3}{inn:List Int}{regs:Int}(h:¬(o.k=2∧o.n∈inn)):C8 o inn regs=o:=if_neg h
theorem a3h{o:E3}{inn:List Int}{regs:Int}(h:o.k=2∧o.n∈inn):C8 o inn regs=lN (regs+gN inn o.n):=if_pos h
theorem jZ(o:E3)(inn:List Int)(regs:Int)(hl:inn.length≤1000)(hr:0≤regs∧regs≤1000):e8 Tryz.prog 193 [.agg o.av,.a8 false (c7 inn),.v (.int .i64 regs)] (fun _=> .agg (C8 o inn regs).av) (fun _=>[]):=by
 have C1:=tH inn o.n (by omega)
 have C2:=fB (regs+jB inn o.n)
 simp only[E3.av]at C2
 have hs:jB inn o.n<1001:=by
  unfold jB gN
  split
  ·have:=List.idxOf_le_length (a:=o.n) (l:=inn);omega
  ·omega
 refine Zf Tryz.func193 Tryz.ntmps193 ?_;simp only[E3.av]
 repeat' (first|refine Za ?_|(with_reducible constructor<;>first|intro N hN mk hmk|intro N hN|intro h)|refine Zc C1 ?_|refine Zc C2 ?_|refine Zt a9f.d ?_|fail)
 ·rw[oD (fun h=>absurd h.1 (by omega))]
 ·rw[oD (fun h=>absurd (cG.2 h.2) (by omega))]
 ·rw[a3h ⟨by omega,cG.1 (by omega)⟩,kZ (cG.1 (by omega))];rfl
end Go.Proofs.YtgdoiokalfhjoaaGreatDoor
end
section
namespace Go.Ab
open Go.RowKit (Below)
open Go.ChangeMaps (setBlock)
section
section
variable {G:Gh} {M0:Nat→Nat→Prop} {w0:World} {ρ:Nat→Option (Nat×Nat×Nat)} {a:Act} {w:World} {P:Program} {s:LS}
theorem c00 (R:D7 G M0 w0 s ρ a w) {w':World} {d:Option Tmp} (hd:H9 s.o4 d) {l:List (Nat×RS)} {nx:Nat} {x:AV} {v:Value} (h1:∀id r,LS.hf l id= .live r↔LS.hf s.h id= .live r) (h2:∀id,LS.hf l id= .free→LS.hf s.h id= .free)
  (h3:∀id k cs,LS.hf l id= .u5 k cs→LS.hf s.h id= .u5 k cs) (hlok:∀p∈l,p.1<nx)
  (hc:∀(b:Nat) (arr:Array Value) (e:TypeId) (fr:Nat×Nat),w.heap[b]?=some (.cells arr e fr)→w'.heap[b]?=some (.cells arr e fr)) (hbel:Below w0.heap.size w0 w')
  (hkp:∀b o,G.kp b=some o→w.heap[b]?=some o→w'.heap[b]?=some o) (hmp:∀id b d f,LS.hf l id= .mp b d f→w0.heap.size≤b∧aK w' b d f∧G.kp b=none)
  (hv:∀{M:Nat→Nat→Prop} {ρ:Nat→Option (Nat×Nat×Nat)} {w:World},s5 M ρ w x v):D7 G M0 w0 ((⟨s.t,l,nx⟩:LS).put d x) ρ (a.put d v) w':=by
 obtain⟨R,hok⟩:=R
 have hMo:p8 M0 ρ (LS.hf l)=p8 M0 ρ s.o4.h:=bT h1
 have hcc:∀b o c,¬p8 M0 ρ s.o4.h b o→w.cell? ⟨b,o,none⟩=some c→¬p8 M0 ρ (LS.hf l) b o∧w'.cell? ⟨b,o,none⟩=some c:=fun b o c g1 g2=>by
  rw[hMo];exact⟨g1,pI hc g2⟩
 have hs:∀r p,w.shape? r=some p→w'.shape? r=some p:=fun r p h=>fE hc h
 refine⟨?_,?_⟩
 ·have hp:((⟨s.t,l,nx⟩:LS).put d x).o4={s.o4.put d x with h:=LS.hf l}:=by
   rw[←LS.dO hd];cases d<;>rfl
  rw[hp]
  refine R.b2B hd (fun _ _ h=>h) hcc hs (fun id r hr=>?_) (fun id h=>R.free id (h2 id h)) (fun i1 i2 r1 r2 b β β' z z' g1 g2 g3 g4=>R.inj _ _ _ _ _ _ _ _ _ ((h1 _ _).1 g1) ((h1 _ _).1 g2) g3 g4) hbel (fun id k cs h=>h3 id k cs h)
   (fun id b q f h=>⟨(hmp id b q f h).1,(hmp id b q f h).2.1⟩) hkp (fun id r p h hp=>R.dP id r p ((h1 _ _).1 h) hp) (fun id b q f h=>(hmp id b q f h).2.2) hv
  obtain⟨b',β,arr,e,p1,p2,p3,p4,p5,p6⟩:=R.live id r ((h1 id r).1 hr)
  exact⟨b',β,arr,e,p1,p2,hc _ _ _ _ p3,p4,p5,fun i j e x u g1 g2 g3=>(p6 i j e x u g1 g2 g3).mono (fun _ _ h=>h) hcc hs⟩
 ·cases d<;>exact hlok
theorem b6n{es:Array MapEntry}{c:Nat}{o:Obj}(ho:b3N o=true)(h:dR (.map es c)=dR o):o= .map es c:=by
 cases o with
 |map es' c'=>
  have h0:=congrFun h (.int .i64 (-1))
  simp only[dR]at h0
  have hc:c'=c:=by
   simp at h0;omega
  subst hc
  congr 1
  refine Array.ext_getElem? fun i=>?_
  have hi:=congrFun h (.int .i64 i)
  simp only[dR]at hi
  rw[if_neg (by omega),if_neg (by omega)]at hi
  simp only[Int.toNat_natCast]at hi
  cases h1:es[i]?<;>cases h2:es'[i]?<;>rw[h1,h2]at hi<;>simp at hi⊢
  rename_i x y
  obtain⟨k1,v1,b1⟩:=x
  obtain⟨k2,v2,b2⟩:=y
  simp only at hi
  obtain⟨rfl,rfl,h⟩:=hi
  have:b1=b2:=by omega
  rw[this]
 |mapIter m s seen c'=>
  cases m with
  |none=>cases ho
  |some m=>
   have h0:=congrFun h (.bool true)
   simp [dR]at h0
 |_=>cases ho
theorem c0q{m s c:Nat}{seen:Array Nat}{o:Obj}(ho:b3N o=true)(h:dR (.mapIter (some m) s seen c)=dR o):o= .mapIter (some m) s seen c:=by
 cases o with
 |map es' c'=>
  have h0:=congrFun h (.bool true)
  simp [dR]at h0
 |mapIter m' s' seen' c'=>
  cases m' with
  |none=>cases ho
  |some m'=>
   have h0:=congrFun h (.int .i64 (-1))
   simp only[dR]at h0
   simp at h0
   obtain⟨h1,h2,h3⟩:=h0
   have e1:m'=m:=by omega
   have e2:s'=s:=by omega
   have e3:c'=c:=by omega
   subst e1;subst e2;subst e3
   congr 1
   refine Array.ext_getElem? fun i=>?_
   have hi:=congrFun h (.int .i64 i)
   simp only[dR]at hi
   rw[if_neg (by omega),if_neg (by omega)]at hi
   simp only[Int.toNat_natCast]at hi
   cases h1:seen[i]?<;>cases h2:seen'[i]?<;>rw[h1,h2]at hi<;>simp at hi⊢
   omega
 |_=>cases ho
theorem aK.c53{b:Nat}{es:Array MapEntry}{c:Nat}(h:aK w b .invalid (dR (.map es c))):w.heap[b]?=some (.map es c):=by
 rcases h with⟨es',c',h1,h2,_,h4,h5,_⟩|⟨_,o,h1,h2,h3⟩
 ·have:=h5 (.int .i64 (-1)) (.int .i64 c) (by simp [dR])
  obtain⟨x,hx,hk⟩:=this
  rcases h2 x hx with h|⟨h,_⟩
  ·cases hq:x.key<;>rw[hq]at h<;>simp [Go.MapKept.IsKey]at h
  ·cases h
 ·rw[h1,b6n h2 h3]
theorem aK.c52{b m s c:Nat}{seen:Array Nat}(h:aK w b .invalid (dR (.mapIter (some m) s seen c))):w.heap[b]?=some (.mapIter (some m) s seen c):=by
 rcases h with⟨es',c',h1,h2,_,h4,h5,_⟩|⟨_,o,h1,h2,h3⟩
 ·have:=h5 (.bool true) (.bool true) (by simp [dR])
  obtain⟨x,hx,hk⟩:=this
  rcases h2 x hx with h|⟨h,_⟩
  ·cases hq:x.key<;>rw[hq]at h<;>simp [Go.MapKept.IsKey]at h
  ·cases h
 ·rw[h1,c0q h2 h3]
end
end
end Go.Ab
end
section
namespace Go.Ab
theorem b9X{t:List AV}{h h':List (Nat×RS)}{nx nx':Nat}(h1:∀id,LS.hf h' id=LS.hf h id∨(LS.hf h' id= .gone∧∃b d f,LS.hf h id= .mp b d f))(h2:∀p∈h',p.1<nx')(hn:nx≤nx'):N3 ⟨t,h,nx⟩ ⟨t,h',nx'⟩:=by
 intro G M0 w0 ρ a w R
 have:=c00 (d:=none) (x:= .Z) (v:=undef) (l:=h') (nx:=nx') R trivial (fun id r=>?_) (fun id hf=>?_) (fun id k cs hg=>?_) h2 (fun _ _ _ _ h=>h) R.1.T1 (fun _ _ _ h=>h) (fun id b d f hm=>?_) (.Z _)
 ·exact⟨ρ,this⟩
 ·show LS.hf h' id= .live r↔LS.hf h id= .live r
  rcases h1 id with e|⟨e,b,d,f,e2⟩
  ·rw[e]
  ·rw[e,e2];constructor<;>(intro q;cases q)
 ·show LS.hf h id= .free
  rcases h1 id with e|⟨e,_⟩
  ·rw[←e];exact hf
  ·rw[e]at hf;cases hf
 ·show LS.hf h id= .u5 k cs
  rcases h1 id with e|⟨e,_⟩
  ·rw[←e];exact hg
  ·rw[e]at hg;cases hg
 ·rcases h1 id with e|⟨e,_⟩
  ·rw[e]at hm
   obtain⟨q1,q2⟩:=R.1.jF id b d f hm
   exact⟨q1,q2,R.1.nX id b d f hm⟩
  ·rw[e]at hm;cases hm
end Go.Ab
end
section
namespace Go.Ab
open Go.RowKit (Below)
section
theorem aK.obj{w:World}{b:Nat}{o:Obj}(ho:b3N o=true)(h:aK w b .invalid (dR o)):w.heap[b]?=some o:=by
 cases o with
 |map es c=>exact h.c53
 |mapIter m s seen c=>
  cases m with
  |some m=>exact h.c52
  |none=>cases ho
 |_=>cases ho
def gP(fn:Func)(xs:List AV)(b:Nat)(d:TypeDesc)(F E:Value→Option Value):LS:=
 ⟨xs++List.replicate (fn.ntmps-xs.length) .Z,[(0,.mp b d F),(1,.mp b .invalid E)],8⟩
theorem b6T{fn:Func}{n:Nat}(h:fn.ntmps=n)(xs:List AV)(b:Nat)(d:TypeDesc)(F E:Value→Option Value):gP fn xs b d F E=⟨xs++List.replicate (n-xs.length) .Z,[(0,.mp b d F),(1,.mp b .invalid E)],8⟩:=by subst h;rfl
def c56(P:Program)(fn:Func)(y:AV)(b:Nat)(E:Value→Option Value)(e:Exit)(s:LS):Prop:=
 (match e with| .normal| .ret=>True|_=>False)∧oH P s.o4 fn.results.toList=some y∧LS.hf s.h 1= .mp b .invalid E
section
variable {P:Program} {f:FuncId} {fn:Func} {c:Code} {xs:List AV} {b:Nat} {d:TypeDesc} {F:Value→Option Value} {y:AV}
theorem a7v [j5 P] (hf:P.funcs[f]?=some fn) (hb:fn.body=some c) (hn:(fn.name== "runtime.NumGoroutine")=false) (hfl:y.flat=true)
  (h:∀E,fI (md:=false) P c (gP fn xs b d F E) (c56 P fn y b E)):lQ P f xs b d F y:=by
 refine⟨⟨fn,hf,by simp [hb],hn⟩,fun M w0 w args hg hbel hle hmap hM hargs=>?_⟩
 obtain⟨o,ho,hob⟩:=hmap.at
 have hh:∀id,LS.hf (gP fn xs b d F (dR o)).h id=if id=0 then .mp b d F else if id=1 then .mp b .invalid (dR o)else .free:=by
  intro id
  match id with
  |0=>rfl
  |1=>rfl
  |n+2=>
   have e0:((n+2)==0)=false:=by simp
   have e1:((n+2)==1)=false:=by simp
   simp only[gP,LS.hf,List.lookup_cons,e0,e1,List.lookup_nil]
   simp
 have nolive:∀id r,LS.hf (gP fn xs b d F (dR o)).h id≠ .live r:=by
  intro id r;rw[hh];split
  ·simp
  ·split<;>simp
 let kp:Nat→Option Obj:=fun k=>if k=b then none else w.heap[k]?
 let G:Gh:=⟨fun _ _=>undef,fun _ _=>False,kp,fun _=>none,[]⟩
 let M':Nat→Nat→Prop:=fun k o=>M k o∧k≠b
 have hMM:∀k o',p8 M' (fun _=>none) (LS.hf (gP fn xs b d F (dR o)).h) k o'→M k o':=by
  rintro k o' (g|⟨id,r,β,z,g1,g2,g3⟩)
  ·exact g.1
  ·cases g2
 have hm0:∀k o',M' k o'→k<w0.heap.size∨∃x,G.kp k=some x:=by
  intro k o' g
  have hlt:=hM k o' g.1
  exact .inr ⟨w.heap[k],by show(if k=b then none else w.heap[k]?)=_;rw[if_neg g.2];simp [hlt]⟩
 have R0:D7 G M' w0 (gP fn xs b d F (dR o)) (fun _=>none) {tmps:=args++Array.replicate (fn.ntmps-args.size) undef,defers:=[]} w:=by
  refine⟨{n:=?_,tm:=?_,live:=?_,free:=fun _ _=>rfl,inj:=?_,T1:=hbel,m0:=hm0,defers:=rfl,nL:=?_,lX:=fun _ _ h=>h.elim,jF:=?_,gT:=?_,dP:=?_,nX:=?_,oS:=fun _ _ h=>nomatch h},?_⟩
  ·simp [gP,LS.o4,hargs.1]
  ·intro t
   simp only[gP,LS.o4,LS.tf,List.getD_eq_getElem?_getD]
   by_cases ht:t<xs.length
   ·rw[List.getElem?_append_left ht,List.getElem?_eq_getElem ht,Option.getD_some]
    have h2:t<args.size:=by rw[hargs.1];exact ht
    have e:(args++Array.replicate (fn.ntmps-args.size) undef).getD t undef=args[t]:=by
     rw[Array.getD_eq_getD_getElem?,Array.getElem?_append_left h2]
     simp [h2]
    rw[e]
    exact(hargs.2 t xs[t] args[t] (by simp [ht]) (by simp [h2])).pN hMM
   ·rw[List.getElem?_append_right (by omega)]
    have:((List.replicate (fn.ntmps-xs.length) AV.Z)[t-xs.length]?).getD .Z= .Z:=by
     rw[List.getElem?_replicate];split<;>rfl
    rw[this]
    exact .Z _
  ·intro id r h;exact absurd h (nolive id r)
  ·intro id id' r r' k β β' z z' h;exact absurd h (nolive id r)
  ·intro id k cs h
   have h:LS.hf (gP fn xs b d F (dR o)).h id= .u5 k cs:=h
   rw[hh]at h
   split at h
   ·cases h
   ·split at h<;>cases h
  ·intro id k q f h
   have h:LS.hf (gP fn xs b d F (dR o)).h id= .mp k q f:=h
   rw[hh]at h
   split at h
   ·cases h;exact⟨hle,hmap⟩
   ·split at h
    ·cases h;exact⟨hle,.inr ⟨rfl,o,hob,ho,rfl⟩⟩
    ·cases h
  ·intro k x h
   have h:(if k=b then none else w.heap[k]?)=some x:=h
   split at h
   ·cases h
   ·exact h
  ·intro id r p h;exact absurd h (nolive id r)
  ·intro id k q f h
   have h:LS.hf (gP fn xs b d F (dR o)).h id= .mp k q f:=h
   have e:k=b:=by
    rw[hh]at h
    split at h
    ·cases h;rfl
    ·split at h
     ·cases h;rfl
     ·cases h
   subst e
   show(if k=k then none else w.heap[k]?)=none
   rw[if_pos rfl]
  ·intro p hp
   simp only[gP,List.mem_cons,List.not_mem_nil,or_false]at hp
   rcases hp with rfl|rfl
   ·show(0:Nat)<8;decide
   ·show(1:Nat)<8;decide
 refine callsIn_wide.1 (callsIn_of_wp_marks (F:=Fence.wide) (n:=0) hf hb trivial (h (dR o) none (fun _=>rfl) G M' w0 _ _ w _ hg R0 ?_))
 intro Ds e s' ρ' a' w' hDs k RX
 have key:∀(a':Act) (w':World),D7 G M' w0 s' ρ' a' w'→∃v,(results fn a'.tmps).run P w'= .ok v w'∧Below w.heap.size w w'∧s5 M (fun _=>none) w' y v:=by
  intro a' w' R
  obtain⟨_,hx,hm⟩:=k
  obtain⟨v,h1,h2⟩:=aX R.1 hx
  have hbo:w'.heap[b]?=some o:=((R.1.jF 1 b _ _ hm).2).obj ho
  have hbk:∀k,k<w.heap.size→w'.heap[k]?=w.heap[k]?:=by
   intro k hk
   by_cases e:k=b
   ·subst e;rw[hbo,hob]
   ·have hs:w.heap[k]?=some w.heap[k]:=by simp [hk]
    rw[hs]
    exact R.1.gT k _ (by show(if k=b then none else w.heap[k]?)=_;rw[if_neg e];exact hs)
  refine⟨v,h1,⟨R.1.T1.os.trans hbel.os.symm,R.1.T1.tape.trans hbel.tape.symm,R.1.T1.output.trans hbel.output.symm,?_,hbk⟩,h2.flat hfl⟩
  rcases Nat.lt_or_ge w'.heap.size w.heap.size with hlt|hge
  ·have:=hbk w'.heap.size hlt
   have hs:w.heap[w'.heap.size]?=some w.heap[w'.heap.size]:=by simp [hlt]
   rw[hs]at this
   exact absurd (A4 this) (Nat.lt_irrefl _)
  ·exact hge
 have fin:=jV (P:=P) (fn:=fn) (R':=fun e w'=>∃v,e= .returned v∧Below w.heap.size w w'∧s5 M (fun _=>none) w' y v) Ds hDs rfl hm0 RX.1
  (fun a2 w2 _ R2=>let⟨v,h1,h2,h3⟩:=key a2 w2 ⟨R2,RX.2⟩;⟨v,h1,v,rfl,h2,h3⟩)
 have k1:=k.1
 cases e<;>first
  |exact fin
  |exact k1.elim
variable {s:LS} {dst:Option Tmp}
theorem b18[j5 P]{xs0:List AV}{idm:Nat}{ids:List (Nat×Nat)}(C:lQ P f xs b d F y)(h1:xs0.mapM (u6 (LS.hf s.h) 6)=some xs)(h2:xs0.flatMap (a6 (LS.hf s.h) 6)=ids)(hm:LS.hf s.h idm= .mp b d F)(hfl:y.flat=true):
  a7x P f xs0 (LS.hf s.h) ⟨y,((idm,0)::ids).map fun p=>(p.1,none,false),none,[],none,[]⟩:=
 .inr ⟨6,xs,idm,b,d,F,y,h1,C,hm,hfl,by rw[h2]⟩
theorem I4 [j5 P] {rest:LS→(LS→Prop)→Prop} {N:LS→Prop} {xs0:List AV} {idm:Nat} {ids:List (Nat×Nat)} (C:lQ P f xs b d F y) (h1:xs0.mapM (u6 (LS.hf s.h) 6)=some xs) (h2:xs0.flatMap (a6 (LS.hf s.h) 6)=ids) (hm:LS.hf s.h idm= .mp b d F) (hfl:y.flat=true)
  (h:rest (s.cI dst ⟨y,((idm,0)::ids).map fun p=>(p.1,none,false),none,[],none,[]⟩) N):fO P rest dst s N f xs0:=
 .inr (.inr (.inr ⟨_,b18 C h1 h2 hm hfl,h⟩))
theorem G8 [j5 P] {rest:LS→oT→(LS→Prop)→Prop} {log:oT} {N:LS→Prop} {xs0:List AV} {idm:Nat} {ids:List (Nat×Nat)} (C:lQ P f xs b d F y) (h1:xs0.mapM (u6 (LS.hf s.h) 6)=some xs) (h2:xs0.flatMap (a6 (LS.hf s.h) 6)=ids) (hm:LS.hf s.h idm= .mp b d F) (hfl:y.flat=true)
  (h:rest (s.cI dst ⟨y,((idm,0)::ids).map fun p=>(p.1,none,false),none,[],none,[]⟩) (log++[some (s.nx,((idm,0)::ids).map fun p=>(p.1,none,false))]) N):eT P rest dst s log N f xs0:=
 .inr ⟨_,b18 C h1 h2 hm hfl,h⟩
end
end
end Go.Ab
end
section
namespace Go.Proofs.YtgdoiokalfhjoaaGreatDoor
open Go.Ab
theorem aE(n:Int):e8 Tryz.prog 237 [.v (.int .i64 n)] (fun _=> .agg (lN n).av) (fun _=>[]):=by
 refine Zf Tryz.func237 Tryz.ntmps237 ?_;simp only[E3.av,lN]
 repeat' (first|refine Za ?_|(with_reducible constructor<;>first|intro N hN mk hmk|intro N hN|intro h)|refine Zt L5.d ?_|fail)
def nmF(K:List Int)(regs:Int)(r:Int):Option Value:=if r∈K then some (.int .i64 (regs+gN K r))else none
theorem c03(K:List Int)(regs r:Int):(nmF K regs r).isSome=decide (r∈K):=by
 unfold nmF;split<;>simp [*]
theorem c02(K:List Int)(regs r:Int):(nmF K regs r).getD (.int .i64 0)= .int .i64 (if r∈K then regs+gN K r else 0):=by
 unfold nmF;split<;>rfl
def a6Y:=ZZ.mk (Zq L5.d (Zq @c03 (Zq @c02 @sZ)))
theorem a8o(o:E3)(K:List Int)(regs r0:Int)(sl:Value)(O:List e7)(b:Nat):lQ Tryz.prog 204 [.aA [[.v sl,.v (.int .i64 r0),.a8 false (c6 O),.v (.map (some b))]] 0 0,.agg o.av] b (.int .i64) (bG .i64 (nmF K regs)) (.agg (C8 o K regs).av):=by
 have C1:=fun n=>aE n
 simp only[E3.av,lN]at C1
 refine a7v Tryz.func204 rfl (by kernel_rfl) rfl fun E=>?_
 rw[b6T Tryz.ntmps204]
 simp only[E3.av,List.replicate_succ,List.replicate_zero,List.cons_append,List.nil_append,List.length_cons,List.length_nil,Nat.reduceAdd,Nat.reduceSub]
 refine u4 ?_
 repeat' (first|refine Za ?_|(with_reducible constructor<;>first|intro N hN mk hmk|intro N hN|intro h)|refine Zc (C1 _) ?_|refine Zt a6Y.d ?_|fail)
 ·have h1:o.n∈K:=by assumption
  have h2:o.k=2:=by assumption
  refine⟨trivial,?_,rfl⟩
  rw[a3h ⟨h2,h1⟩]
  simp only[h1,if_true]
  simp (maxSteps:=10000000) (disch:=omega) only[oH,qB,Tryz.results204,lN,a6Y.d,l9,P7,s9,A2,p7,o3,AV.kept,b7,n4,u0,B3,p9,o9,b8,AV.y8,m8,v8,AV.plain,rd,u6,a6,P6,stepC,AV.e6,AV.S9,AV.w6,AV.L8,AV.scalar,T8,s6,A6,A9,B1,A8,o8,A5,U0,s7,A7,z8,j3,T7,l0,y7,y5,Q0,z6,j8,TD.isRow,s8,j7,j9,j6,F4,Value.oneCell',↓reduceIte,Int.reduceNe,Int.reduceEq,Nat.reduceAdd,Nat.reduceLT,Nat.reduceLeDiff,Nat.reduceSub,Nat.reduceMul,Nat.reduceBEq,Nat.reduceEqDiff,reduceCtorEq,Int.reduceToNat,←decide_not,←Bool.decide_and,sA,sN]
  try rfl
 ·have h2:¬o.k=2:=by assumption
  refine⟨trivial,?_,rfl⟩
  rw[oD (fun h=>h2 h.1)]
  simp (maxSteps:=10000000) (disch:=omega) only[oH,qB,Tryz.results204,a6Y.d,l9,P7,s9,A2,p7,o3,AV.kept,b7,n4,u0,B3,p9,o9,b8,AV.y8,m8,v8,AV.plain,rd,u6,a6,P6,stepC,AV.e6,AV.S9,AV.w6,AV.L8,AV.scalar,T8,s6,A6,A9,B1,A8,o8,A5,U0,s7,A7,z8,j3,T7,l0,y7,y5,Q0,z6,j8,TD.isRow,s8,j7,j9,j6,F4,Value.oneCell',↓reduceIte,Int.reduceNe,Int.reduceEq,Nat.reduceAdd,Nat.reduceLT,Nat.reduceLeDiff,Nat.reduceSub,Nat.reduceMul,Nat.reduceBEq,Nat.reduceEqDiff,reduceCtorEq,Int.reduceToNat,←decide_not,←Bool.decide_and,sA,sN]
  try rfl
 ·have h1:¬o.n∈K:=by assumption
  refine⟨trivial,?_,rfl⟩
  rw[oD (fun h=>h1 h.2)]
  simp (maxSteps:=10000000) (disch:=omega) only[oH,qB,Tryz.results204,a6Y.d,l9,P7,s9,A2,p7,o3,AV.kept,b7,n4,u0,B3,p9,o9,b8,AV.y8,m8,v8,AV.plain,rd,u6,a6,P6,stepC,AV.e6,AV.S9,AV.w6,AV.L8,AV.scalar,T8,s6,A6,A9,B1,A8,o8,A5,U0,s7,A7,z8,j3,T7,l0,y7,y5,Q0,z6,j8,TD.isRow,s8,j7,j9,j6,F4,Value.oneCell',↓reduceIte,Int.reduceNe,Int.reduceEq,Nat.reduceAdd,Nat.reduceLT,Nat.reduceLeDiff,Nat.reduceSub,Nat.reduceMul,Nat.reduceBEq,Nat.reduceEqDiff,reduceCtorEq,Int.reduceToNat,←decide_not,←Bool.decide_and,sA,sN]
  try rfl
end Go.Proofs.YtgdoiokalfhjoaaGreatDoor
end
