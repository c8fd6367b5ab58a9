/- Own work (by an AI agent; no person has read it): part of a proof of the seat YtgdoiokalfhjoaaDoor. -/
import Derived.Maps.RangeRun
import Derived.Test.YtgdoiokalfhjoaaDoorXj
set_option linter.unusedSimpArgs false
set_option linter.unusedVariables false
set_option maxRecDepth 100000
set_option maxHeartbeats 10000000
section
namespace Go.Proofs.YtgdoiokalfhjoaaDoor
open Go.Ab
def b4y(l:List Int)(r:Int):Int:=if r∈l then kP l r else -1
theorem rR{l:List Int}{r:Int}(h:r∈l):b4y l r=kP l r:=if_pos h
theorem fX{l u:List Int}{i:Nat}(hi:i<u.length)(h:u.getD i 0∈l):A4 l (u.take (i+1))=A4 l (u.take i)++[u.getD i 0]:=by
 rw[G6 u i 0 hi];unfold A4;rw[List.filter_append,List.filter_cons,if_pos (decide_eq_true h)];rfl
theorem jY{l u:List Int}{i:Nat}(hi:i<u.length)(h:¬u.getD i 0∈l):A4 l (u.take (i+1))=A4 l (u.take i):=by
 rw[G6 u i 0 hi];unfold A4;rw[List.filter_append,List.filter_cons,if_neg (fun e=>h (of_decide_eq_true e))];simp
theorem bZ(l u:List Int):(A4 l u).length≤u.length:=List.length_filter_le _ _
theorem a3R{o:H8}{inn:List Int}{regs:Int}(h:¬(o.k=2∧o.n∈inn)):K9 o inn regs=o:=if_neg h
theorem a8S{o:H8}{inn:List Int}{regs:Int}(h:o.k=2∧o.n∈inn):K9 o inn regs=kV (regs+kP inn o.n):=if_pos h
end Go.Proofs.YtgdoiokalfhjoaaDoor
end
section
namespace Go.Ab
open Go.RowKit (Below)
open Go.ChangeMaps (setBlock)
section
section
variable {G:Gh} {M0:Nat→Nat→Prop} {w0:World} {ρ:Nat→Option (Nat×Nat×Nat)} {a:Act} {w:World} {P:Program} {s:LS}
theorem b3u (R:E8 G M0 w0 s ρ a w) {w':World} {d:Option Tmp} (hd:L3 s.n8 d) {l:List (Nat×RS)} {nx:Nat} {x:AV} {v:Value} (h1:∀id r,LS.hf l id= .live r↔LS.hf s.h id= .live r) (h2:∀id,LS.hf l id= .free→LS.hf s.h id= .free)
  (h3:∀id k cs,LS.hf l id= .u3 k cs→LS.hf s.h id= .u3 k cs) (hlok:∀p∈l,p.1<nx)
  (hc:∀(b:Nat) (arr:Array Value) (e:TypeId) (fr:Nat×Nat),w.heap[b]?=some (.cells arr e fr)→w'.heap[b]?=some (.cells arr e fr)) (hbel:Below w0.heap.size w0 w')
  (hkp:∀b o,G.kp b=some o→w.heap[b]?=some o→w'.heap[b]?=some o) (hmp:∀id b d f,LS.hf l id= .mp b d f→w0.heap.size≤b∧aJ w' b d f∧G.kp b=none)
  (hv:∀{M:Nat→Nat→Prop} {ρ:Nat→Option (Nat×Nat×Nat)} {w:World},r7 M ρ w x v):E8 G M0 w0 ((⟨s.t,l,nx⟩:LS).put d x) ρ (a.put d v) w':=by
 obtain⟨R,hok⟩:=R
 have hMo:p7 M0 ρ (LS.hf l)=p7 M0 ρ s.n8.h:=bT h1
 have hcc:∀b o c,¬p7 M0 ρ s.n8.h b o→w.cell? ⟨b,o,none⟩=some c→¬p7 M0 ρ (LS.hf l) b o∧w'.cell? ⟨b,o,none⟩=some c:=fun b o c g1 g2=>by
  rw[hMo];exact⟨g1,oV hc g2⟩
 have hs:∀r p,w.shape? r=some p→w'.shape? r=some p:=fun r p h=>eN hc h
 refine⟨?_,?_⟩
 ·have hp:((⟨s.t,l,nx⟩:LS).put d x).n8={s.n8.put d x with h:=LS.hf l}:=by
   rw[←LS.dF hd];cases d<;>rfl
  rw[hp]
  refine R.a7H hd (fun _ _ h=>h) hcc hs (fun id r hr=>?_) (fun id h=>R.free id (h2 id h)) (fun i1 i2 r1 r2 b β β' z z' g1 g2 g3 g4=>R.inj _ _ _ _ _ _ _ _ _ ((h1 _ _).1 g1) ((h1 _ _).1 g2) g3 g4) hbel (fun id k cs h=>h3 id k cs h)
   (fun id b q f h=>⟨(hmp id b q f h).1,(hmp id b q f h).2.1⟩) hkp (fun id r p h hp=>R.dH id r p ((h1 _ _).1 h) hp) (fun id b q f h=>(hmp id b q f h).2.2) hv
  obtain⟨b',β,arr,e,p1,p2,p3,p4,p5,p6⟩:=R.live id r ((h1 id r).1 hr)
  exact⟨b',β,arr,e,p1,p2,hc _ _ _ _ p3,p4,p5,fun i j e x u g1 g2 g3=>(p6 i j e x u g1 g2 g3).mono (fun _ _ h=>h) hcc hs⟩
 ·cases d<;>exact hlok
theorem b0D{es:Array MapEntry}{c:Nat}{o:Obj}(ho:a8G o=true)(h:dJ (.map es c)=dJ o):o= .map es c:=by
 cases o with
 |map es' c'=>
  have h0:=congrFun h (.int .i64 (-1))
  simp only[dJ]at h0
  have hc:c'=c:=by
   simp at h0;omega
  subst hc
  congr 1
  refine Array.ext_getElem? fun i=>?_
  have hi:=congrFun h (.int .i64 i)
  simp only[dJ]at hi
  rw[if_neg (by omega),if_neg (by omega)]at hi
  simp only[Int.toNat_natCast]at hi
  cases h1:es[i]?<;>cases h2:es'[i]?<;>rw[h1,h2]at hi<;>simp at hi⊢
  rename_i x y
  obtain⟨k1,v1,b1⟩:=x
  obtain⟨k2,v2,b2⟩:=y
  simp only at hi
  obtain⟨rfl,rfl,h⟩:=hi
  have:b1=b2:=by omega
  rw[this]
 |mapIter m s seen c'=>
  cases m with
  |none=>cases ho
  |some m=>
   have h0:=congrFun h (.bool true)
   simp [dJ]at h0
 |_=>cases ho
theorem b2Y{m s c:Nat}{seen:Array Nat}{o:Obj}(ho:a8G o=true)(h:dJ (.mapIter (some m) s seen c)=dJ o):o= .mapIter (some m) s seen c:=by
 cases o with
 |map es' c'=>
  have h0:=congrFun h (.bool true)
  simp [dJ]at h0
 |mapIter m' s' seen' c'=>
  cases m' with
  |none=>cases ho
  |some m'=>
   have h0:=congrFun h (.int .i64 (-1))
   simp only[dJ]at h0
   simp at h0
   obtain⟨h1,h2,h3⟩:=h0
   have e1:m'=m:=by omega
   have e2:s'=s:=by omega
   have e3:c'=c:=by omega
   subst e1;subst e2;subst e3
   congr 1
   refine Array.ext_getElem? fun i=>?_
   have hi:=congrFun h (.int .i64 i)
   simp only[dJ]at hi
   rw[if_neg (by omega),if_neg (by omega)]at hi
   simp only[Int.toNat_natCast]at hi
   cases h1:seen[i]?<;>cases h2:seen'[i]?<;>rw[h1,h2]at hi<;>simp at hi⊢
   omega
 |_=>cases ho
theorem aJ.b7M{b:Nat}{es:Array MapEntry}{c:Nat}(h:aJ w b .invalid (dJ (.map es c))):w.heap[b]?=some (.map es c):=by
 rcases h with⟨es',c',h1,h2,_,h4,h5,_⟩|⟨_,o,h1,h2,h3⟩
 ·have:=h5 (.int .i64 (-1)) (.int .i64 c) (by simp [dJ])
  obtain⟨x,hx,hk⟩:=this
  rcases h2 x hx with h|⟨h,_⟩
  ·cases hq:x.key<;>rw[hq]at h<;>simp [Go.MapKept.IsKey]at h
  ·cases h
 ·rw[h1,b0D h2 h3]
theorem aJ.b7L{b m s c:Nat}{seen:Array Nat}(h:aJ w b .invalid (dJ (.mapIter (some m) s seen c))):w.heap[b]?=some (.mapIter (some m) s seen c):=by
 rcases h with⟨es',c',h1,h2,_,h4,h5,_⟩|⟨_,o,h1,h2,h3⟩
 ·have:=h5 (.bool true) (.bool true) (by simp [dJ])
  obtain⟨x,hx,hk⟩:=this
  rcases h2 x hx with h|⟨h,_⟩
  ·cases hq:x.key<;>rw[hq]at h<;>simp [Go.MapKept.IsKey]at h
  ·cases h
 ·rw[h1,b2Y h2 h3]
end
end
end Go.Ab
end
section
namespace Go.Ab
theorem b2F{t:List AV}{h h':List (Nat×RS)}{nx nx':Nat}(h1:∀id,LS.hf h' id=LS.hf h id∨(LS.hf h' id= .gone∧∃b d f,LS.hf h id= .mp b d f))(h2:∀p∈h',p.1<nx')(hn:nx≤nx'):O8 ⟨t,h,nx⟩ ⟨t,h',nx'⟩:=by
 intro G M0 w0 ρ a w R
 have:=b3u (d:=none) (x:= .Z) (v:=undef) (l:=h') (nx:=nx') R trivial (fun id r=>?_) (fun id hf=>?_) (fun id k cs hg=>?_) h2 (fun _ _ _ _ h=>h) R.1.U2 (fun _ _ _ h=>h) (fun id b d f hm=>?_) (.Z _)
 ·exact⟨ρ,this⟩
 ·show LS.hf h' id= .live r↔LS.hf h id= .live r
  rcases h1 id with e|⟨e,b,d,f,e2⟩
  ·rw[e]
  ·rw[e,e2];constructor<;>(intro q;cases q)
 ·show LS.hf h id= .free
  rcases h1 id with e|⟨e,_⟩
  ·rw[←e];exact hf
  ·rw[e]at hf;cases hf
 ·show LS.hf h id= .u3 k cs
  rcases h1 id with e|⟨e,_⟩
  ·rw[←e];exact hg
  ·rw[e]at hg;cases hg
 ·rcases h1 id with e|⟨e,_⟩
  ·rw[e]at hm
   obtain⟨q1,q2⟩:=R.1.iM id b d f hm
   exact⟨q1,q2,R.1.nD id b d f hm⟩
  ·rw[e]at hm;cases hm
end Go.Ab
end
section
namespace Go.Ab
open Go.RowKit (Below)
section
theorem aJ.obj{w:World}{b:Nat}{o:Obj}(ho:a8G o=true)(h:aJ w b .invalid (dJ o)):w.heap[b]?=some o:=by
 cases o with
 |map es c=>exact h.b7M
 |mapIter m s seen c=>
  cases m with
  |some m=>exact h.b7L
  |none=>cases ho
 |_=>cases ho
def fT(fn:Func)(xs:List AV)(b:Nat)(d:TypeDesc)(F E:Value→Option Value):LS:=
 ⟨xs++List.replicate (fn.ntmps-xs.length) .Z,[(0,.mp b d F),(1,.mp b .invalid E)],8⟩
theorem b07{fn:Func}{n:Nat}(h:fn.ntmps=n)(xs:List AV)(b:Nat)(d:TypeDesc)(F E:Value→Option Value):fT fn xs b d F E=⟨xs++List.replicate (n-xs.length) .Z,[(0,.mp b d F),(1,.mp b .invalid E)],8⟩:=by subst h;rfl
def b7P(P:Program)(fn:Func)(y:AV)(b:Nat)(E:Value→Option Value)(e:Exit)(s:LS):Prop:=
 (match e with| .normal| .ret=>True|_=>False)∧nL P s.n8 fn.results.toList=some y∧LS.hf s.h 1= .mp b .invalid E
section
variable {P:Program} {f:FuncId} {fn:Func} {c:Code} {xs:List AV} {b:Nat} {d:TypeDesc} {F:Value→Option Value} {y:AV}
theorem a2Z [j9 P] (hf:P.funcs[f]?=some fn) (hb:fn.body=some c) (hn:(fn.name== "runtime.NumGoroutine")=false) (hfl:y.flat=true)
  (h:∀E,eR (md:=false) P c (fT fn xs b d F E) (b7P P fn y b E)):kX P f xs b d F y:=by
 refine⟨⟨fn,hf,by simp [hb],hn⟩,fun M w0 w args hg hbel hle hmap hM hargs=>?_⟩
 obtain⟨o,ho,hob⟩:=hmap.at
 have hh:∀id,LS.hf (fT fn xs b d F (dJ o)).h id=if id=0 then .mp b d F else if id=1 then .mp b .invalid (dJ o)else .free:=by
  intro id
  match id with
  |0=>rfl
  |1=>rfl
  |n+2=>
   have e0:((n+2)==0)=false:=by simp
   have e1:((n+2)==1)=false:=by simp
   simp only[fT,LS.hf,List.lookup_cons,e0,e1,List.lookup_nil]
   simp
 have nolive:∀id r,LS.hf (fT fn xs b d F (dJ o)).h id≠ .live r:=by
  intro id r;rw[hh];split
  ·simp
  ·split<;>simp
 let kp:Nat→Option Obj:=fun k=>if k=b then none else w.heap[k]?
 let G:Gh:=⟨fun _ _=>undef,fun _ _=>False,kp,fun _=>none,[]⟩
 let M':Nat→Nat→Prop:=fun k o=>M k o∧k≠b
 have hMM:∀k o',p7 M' (fun _=>none) (LS.hf (fT fn xs b d F (dJ o)).h) k o'→M k o':=by
  rintro k o' (g|⟨id,r,β,z,g1,g2,g3⟩)
  ·exact g.1
  ·cases g2
 have hm0:∀k o',M' k o'→k<w0.heap.size∨∃x,G.kp k=some x:=by
  intro k o' g
  have hlt:=hM k o' g.1
  exact .inr ⟨w.heap[k],by show(if k=b then none else w.heap[k]?)=_;rw[if_neg g.2];simp [hlt]⟩
 have R0:E8 G M' w0 (fT fn xs b d F (dJ o)) (fun _=>none) {tmps:=args++Array.replicate (fn.ntmps-args.size) undef,defers:=[]} w:=by
  refine⟨{n:=?_,tm:=?_,live:=?_,free:=fun _ _=>rfl,inj:=?_,U2:=hbel,m0:=hm0,defers:=rfl,mS:=?_,lE:=fun _ _ h=>h.elim,iM:=?_,fY:=?_,dH:=?_,nD:=?_,oI:=fun _ _ h=>nomatch h},?_⟩
  ·simp [fT,LS.n8,hargs.1]
  ·intro t
   simp only[fT,LS.n8,LS.tf,List.getD_eq_getElem?_getD]
   by_cases ht:t<xs.length
   ·rw[List.getElem?_append_left ht,List.getElem?_eq_getElem ht,Option.getD_some]
    have h2:t<args.size:=by rw[hargs.1];exact ht
    have e:(args++Array.replicate (fn.ntmps-args.size) undef).getD t undef=args[t]:=by
     rw[Array.getD_eq_getD_getElem?,Array.getElem?_append_left h2]
     simp [h2]
    rw[e]
    exact(hargs.2 t xs[t] args[t] (by simp [ht]) (by simp [h2])).oY hMM
   ·rw[List.getElem?_append_right (by omega)]
    have:((List.replicate (fn.ntmps-xs.length) AV.Z)[t-xs.length]?).getD .Z= .Z:=by
     rw[List.getElem?_replicate];split<;>rfl
    rw[this]
    exact .Z _
  ·intro id r h;exact absurd h (nolive id r)
  ·intro id id' r r' k β β' z z' h;exact absurd h (nolive id r)
  ·intro id k cs h
   have h:LS.hf (fT fn xs b d F (dJ o)).h id= .u3 k cs:=h
   rw[hh]at h
   split at h
   ·cases h
   ·split at h<;>cases h
  ·intro id k q f h
   have h:LS.hf (fT fn xs b d F (dJ o)).h id= .mp k q f:=h
   rw[hh]at h
   split at h
   ·cases h;exact⟨hle,hmap⟩
   ·split at h
    ·cases h;exact⟨hle,.inr ⟨rfl,o,hob,ho,rfl⟩⟩
    ·cases h
  ·intro k x h
   have h:(if k=b then none else w.heap[k]?)=some x:=h
   split at h
   ·cases h
   ·exact h
  ·intro id r p h;exact absurd h (nolive id r)
  ·intro id k q f h
   have h:LS.hf (fT fn xs b d F (dJ o)).h id= .mp k q f:=h
   have e:k=b:=by
    rw[hh]at h
    split at h
    ·cases h;rfl
    ·split at h
     ·cases h;rfl
     ·cases h
   subst e
   show(if k=k then none else w.heap[k]?)=none
   rw[if_pos rfl]
  ·intro p hp
   simp only[fT,List.mem_cons,List.not_mem_nil,or_false]at hp
   rcases hp with rfl|rfl
   ·show(0:Nat)<8;decide
   ·show(1:Nat)<8;decide
 refine callsIn_wide.1 (callsIn_of_wp_marks (F:=Fence.wide) (n:=0) hf hb trivial (h (dJ o) none (fun _=>rfl) G M' w0 _ _ w _ hg R0 ?_))
 intro Ds e s' ρ' a' w' hDs k RX
 have key:∀(a':Act) (w':World),E8 G M' w0 s' ρ' a' w'→∃v,(results fn a'.tmps).run P w'= .ok v w'∧Below w.heap.size w w'∧r7 M (fun _=>none) w' y v:=by
  intro a' w' R
  obtain⟨_,hx,hm⟩:=k
  obtain⟨v,h1,h2⟩:=aV R.1 hx
  have hbo:w'.heap[b]?=some o:=((R.1.iM 1 b _ _ hm).2).obj ho
  have hbk:∀k,k<w.heap.size→w'.heap[k]?=w.heap[k]?:=by
   intro k hk
   by_cases e:k=b
   ·subst e;rw[hbo,hob]
   ·have hs:w.heap[k]?=some w.heap[k]:=by simp [hk]
    rw[hs]
    exact R.1.fY k _ (by show(if k=b then none else w.heap[k]?)=_;rw[if_neg e];exact hs)
  refine⟨v,h1,⟨R.1.U2.os.trans hbel.os.symm,R.1.U2.tape.trans hbel.tape.symm,R.1.U2.output.trans hbel.output.symm,?_,hbk⟩,h2.flat hfl⟩
  rcases Nat.lt_or_ge w'.heap.size w.heap.size with hlt|hge
  ·have:=hbk w'.heap.size hlt
   have hs:w.heap[w'.heap.size]?=some w.heap[w'.heap.size]:=by simp [hlt]
   rw[hs]at this
   exact absurd (B4 this) (Nat.lt_irrefl _)
  ·exact hge
 have fin:=jE (P:=P) (fn:=fn) (R':=fun e w'=>∃v,e= .returned v∧Below w.heap.size w w'∧r7 M (fun _=>none) w' y v) Ds hDs rfl hm0 RX.1
  (fun a2 w2 _ R2=>let⟨v,h1,h2,h3⟩:=key a2 w2 ⟨R2,RX.2⟩;⟨v,h1,v,rfl,h2,h3⟩)
 have k1:=k.1
 cases e<;>first
  |exact fin
  |exact k1.elim
variable {s:LS} {dst:Option Tmp}
theorem a7g[j9 P]{xs0:List AV}{idm:Nat}{ids:List (Nat×Nat)}(C:kX P f xs b d F y)(h1:xs0.mapM (B7 (LS.hf s.h) 6)=some xs)(h2:xs0.flatMap (b8 (LS.hf s.h) 6)=ids)(hm:LS.hf s.h idm= .mp b d F)(hfl:y.flat=true):
  a24 P f xs0 (LS.hf s.h) ⟨y,((idm,0)::ids).map fun p=>(p.1,none,false),none,[],none,[]⟩:=
 .inr ⟨6,xs,idm,b,d,F,y,h1,C,hm,hfl,by rw[h2]⟩
theorem L5 [j9 P] {rest:LS→(LS→Prop)→Prop} {N:LS→Prop} {xs0:List AV} {idm:Nat} {ids:List (Nat×Nat)} (C:kX P f xs b d F y) (h1:xs0.mapM (B7 (LS.hf s.h) 6)=some xs) (h2:xs0.flatMap (b8 (LS.hf s.h) 6)=ids) (hm:LS.hf s.h idm= .mp b d F) (hfl:y.flat=true)
  (h:rest (s.cE dst ⟨y,((idm,0)::ids).map fun p=>(p.1,none,false),none,[],none,[]⟩) N):eY P rest dst s N f xs0:=
 .inr (.inr (.inr ⟨_,a7g C h1 h2 hm hfl,h⟩))
theorem I4 [j9 P] {rest:LS→oJ→(LS→Prop)→Prop} {log:oJ} {N:LS→Prop} {xs0:List AV} {idm:Nat} {ids:List (Nat×Nat)} (C:kX P f xs b d F y) (h1:xs0.mapM (B7 (LS.hf s.h) 6)=some xs) (h2:xs0.flatMap (b8 (LS.hf s.h) 6)=ids) (hm:LS.hf s.h idm= .mp b d F) (hfl:y.flat=true)
  (h:rest (s.cE dst ⟨y,((idm,0)::ids).map fun p=>(p.1,none,false),none,[],none,[]⟩) (log++[some (s.nx,((idm,0)::ids).map fun p=>(p.1,none,false))]) N):eE P rest dst s log N f xs0:=
 .inr ⟨_,a7g C h1 h2 hm hfl,h⟩
end
end
end Go.Ab
end
section
namespace Go.Proofs.YtgdoiokalfhjoaaDoor
open Go.Ab
def b37:=ZZ.mk (Zq @j0 @j3)
theorem aC(n:Int):n5 Tryd.prog 68 [.v (.int .i64 n)] (fun _=> .agg (kV n).av) (fun _=>[]):=by
 refine Zf Tryd.func68 Tryd.ntmps68 ?_;simp only[H8.av,kV]
 repeat' (first|refine Za ?_|(with_reducible constructor<;>first|intro N hN mk hmk|intro N hN|intro h)|refine Zt b37.d ?_|fail)
def nmF(K:List Int)(regs:Int)(r:Int):Option Value:=if r∈K then some (.int .i64 (regs+kP K r))else none
theorem e6(K:List Int)(regs r:Int):(nmF K regs r).isSome=decide (r∈K):=by
 unfold nmF;split<;>simp [*]
theorem c9(K:List Int)(regs r:Int):(nmF K regs r).getD (.int .i64 0)= .int .i64 (if r∈K then regs+kP K r else 0):=by
 unfold nmF;split<;>rfl
def a6I:=ZZ.mk (Zq b37.d (Zq @e6 @c9))
theorem a3S(o:H8)(K:List Int)(regs r0:Int)(sl:Value)(O:List l0)(b:Nat):kX Tryd.prog 63 [.Z9 [[.v sl,.v (.int .i64 r0),.c5 false (j5 O),.v (.map (some b))]] 0 0,.agg o.av] b (.int .i64) (bE .i64 (nmF K regs)) (.agg (K9 o K regs).av):=by
 have C1:=fun n=>aC n
 simp only[H8.av,kV]at C1
 refine a2Z Tryd.func63 rfl (by kernel_rfl) rfl fun E=>?_
 rw[b07 Tryd.ntmps63]
 simp only[H8.av,List.replicate_succ,List.replicate_zero,List.cons_append,List.nil_append,List.length_cons,List.length_nil,Nat.reduceAdd,Nat.reduceSub]
 refine w5 ?_
 repeat' (first|refine Za ?_|(with_reducible constructor<;>first|intro N hN mk hmk|intro N hN|intro h)|refine Zc (C1 _) ?_|refine Zt (Zq a6I.d c6) ?_|fail)
 ·have h1:o.n∈K:=by assumption
  have h2:o.k=2:=by assumption
  refine⟨trivial,?_,rfl⟩
  rw[a8S ⟨h2,h1⟩]
  simp only[h1,if_true]
  simp (maxSteps:=10000000) (disch:=omega) only[nL,pL,Tryd.results63,kV,a6I.d,c6,w9,bL,D7,L4,B6,x7,AV.kept,e9,u1,D8,N5,B9,B2,n4,AV.J6,x4,E6,AV.plain,rd,B7,b8,bK,stepC,AV.o3,AV.cF,AV.J5,AV.Z0,AV.scalar,cX,D0,M6,M9,N0,M8,A9,M4,cY,D3,M7,L1,s8,cV,u7,I9,I6,bS,K8,u4,TD.isRow,D6,u0,u6,s9,T1,Value.oneCell',↓reduceIte,Int.reduceNe,Int.reduceEq,Nat.reduceAdd,Nat.reduceLT,Nat.reduceLeDiff,Nat.reduceSub,Nat.reduceMul,Nat.reduceBEq,Nat.reduceEqDiff,reduceCtorEq,Int.reduceToNat,←decide_not,←Bool.decide_and,sA,sN]
  try rfl
 ·have h2:¬o.k=2:=by assumption
  refine⟨trivial,?_,rfl⟩
  rw[a3R (fun h=>h2 h.1)]
  simp (maxSteps:=10000000) (disch:=omega) only[nL,pL,Tryd.results63,a6I.d,c6,w9,bL,D7,L4,B6,x7,AV.kept,e9,u1,D8,N5,B9,B2,n4,AV.J6,x4,E6,AV.plain,rd,B7,b8,bK,stepC,AV.o3,AV.cF,AV.J5,AV.Z0,AV.scalar,cX,D0,M6,M9,N0,M8,A9,M4,cY,D3,M7,L1,s8,cV,u7,I9,I6,bS,K8,u4,TD.isRow,D6,u0,u6,s9,T1,Value.oneCell',↓reduceIte,Int.reduceNe,Int.reduceEq,Nat.reduceAdd,Nat.reduceLT,Nat.reduceLeDiff,Nat.reduceSub,Nat.reduceMul,Nat.reduceBEq,Nat.reduceEqDiff,reduceCtorEq,Int.reduceToNat,←decide_not,←Bool.decide_and,sA,sN]
  try rfl
 ·have h1:¬o.n∈K:=by assumption
  refine⟨trivial,?_,rfl⟩
  rw[a3R (fun h=>h1 h.2)]
  simp (maxSteps:=10000000) (disch:=omega) only[nL,pL,Tryd.results63,a6I.d,c6,w9,bL,D7,L4,B6,x7,AV.kept,e9,u1,D8,N5,B9,B2,n4,AV.J6,x4,E6,AV.plain,rd,B7,b8,bK,stepC,AV.o3,AV.cF,AV.J5,AV.Z0,AV.scalar,cX,D0,M6,M9,N0,M8,A9,M4,cY,D3,M7,L1,s8,cV,u7,I9,I6,bS,K8,u4,TD.isRow,D6,u0,u6,s9,T1,Value.oneCell',↓reduceIte,Int.reduceNe,Int.reduceEq,Nat.reduceAdd,Nat.reduceLT,Nat.reduceLeDiff,Nat.reduceSub,Nat.reduceMul,Nat.reduceBEq,Nat.reduceEqDiff,reduceCtorEq,Int.reduceToNat,←decide_not,←Bool.decide_and,sA,sN]
  try rfl
end Go.Proofs.YtgdoiokalfhjoaaDoor
end
