/- Own work (by an AI agent; no person has read it): part of a proof of the seat YtgdoiokalfhjoaaDoor. -/
import Derived.WalkKit
import Derived.ProofKit
import Derived.Below
import Derived.Orders
import Derived.Still
import Derived.MapKept
import Derived.Carry
import Derived.RangeFuncLeaves
import Derived.RangeFuncCalls
import Derived.RangeFuncRecord
import Derived.OrdersIn
import Derived.TacticsIn
set_option linter.unusedSimpArgs false
set_option linter.unusedVariables false
section
namespace Go.Ab
open Go.RowKit (Below)
inductive AV where
 |Z
 |N6
 |v (x:Value)
 |agg (cs:List AV)
 |Q0 (cs:List AV)
 |c5 (clip:Bool) (es:List (List AV))
 |Z9 (es:List (List AV)) (i k:Nat)
 |own (id off n:Nat)
 |ptr (id i k:Nat)
 |dP (id i k:Nat)
 |fn (f:FuncId) (X2:List AV)
 |mJ (f:FuncId) (cs:List AV)
 deriving Inhabited
inductive r7 (M:Nat→Nat→Prop):(Nat→Option (Nat×Nat×Nat))→World→AV→Value→Prop
 |Z {ρ w} (u:Value):r7 M ρ w .Z u
 |N6 {ρ w} (t:Bool):r7 M ρ w .N6 (.bool t)
 |v {ρ w} (x:Value):r7 M ρ w (.v x) x
 |agg {ρ w} (cs:List AV) (vs:Array Value) (hn:vs.size=cs.length) (h:∀(i:Nat) x u,cs[i]?=some x→vs[i]?=some u→r7 M ρ w x u):r7 M ρ w (.agg cs) (.agg vs)
 |Q0 {ρ w} (cs:List AV) (vs:Array Value) (hn:vs.size=cs.length) (h:∀(i:Nat) x u,cs[i]?=some x→vs[i]?=some u→r7 M ρ w x u):r7 M ρ w (.Q0 cs) (.tuple vs)
 |c5 {ρ w} (c:Bool) (es:List (List AV)) (a:Option Addr) (cap b o sz:Nat) (cell:Nat→Nat→Value) (hc:es.length≤cap) (oH:c=true→cap=es.length) (aD:∀e∈es,e.length=sz)
   (ha:es≠[]→a=some ⟨b,o,none⟩) (hm:∀i j,i<es.length→j<sz→¬M b (o+i*sz+j)∧w.cell? ⟨b,o+i*sz+j,none⟩=some (cell i j))
   (hr:∀(i j:Nat) e x,es[i]?=some e→e[j]?=some x→r7 M (fun _=>none) w x (cell i j)):r7 M ρ w (.c5 c es) (.slice a es.length cap)
 |Z9 {ρ w} (es:List (List AV)) (i k b o sz:Nat) (cell:Nat→Nat→Value) (hi:i<es.length) (hk:k<sz) (aD:∀e∈es,e.length=sz)
   (hm:∀i j,i<es.length→j<sz→¬M b (o+i*sz+j)∧w.cell? ⟨b,o+i*sz+j,none⟩=some (cell i j))
   (hr:∀(i j:Nat) e x,es[i]?=some e→e[j]?=some x→r7 M (fun _=>none) w x (cell i j)):r7 M ρ w (.Z9 es i k) (.pointer (some ⟨b,o+i*sz+k,none⟩))
 |own {ρ w} (id off n cap b β sz N:Nat) (e:TypeId) (h:ρ id=some (b,β,sz)) (hc:n≤cap) (hs:w.shape? b=some (e,N)) (hN:β+(off+cap)*sz≤N):r7 M ρ w (.own id off n) (.slice (some ⟨b,β+off*sz,none⟩) n cap)
 |ptr {ρ w} (id i k b β sz:Nat) (h:ρ id=some (b,β,sz)):r7 M ρ w (.ptr id i k) (.pointer (some ⟨b,β+i*sz+k,none⟩))
 |dP {ρ w} (id i k b β sz:Nat) (h:ρ id=some (b,β,sz)):r7 M ρ w (.dP id i k) (.pointer (some ⟨b,β+i*sz+k,none⟩))
 |fn {ρ w} (f:FuncId) (cs:List AV) (vs:Array Value) (hn:vs.size=cs.length) (h:∀(i:Nat) x u,cs[i]?=some x→vs[i]?=some u→r7 M ρ w x u):r7 M ρ w (.fn f cs) (.func (.func f) #[] vs)
 |mJ {ρ w} (f:FuncId) (cs:List AV) (vs:Array Value) (hn:vs.size=cs.length) (h:∀(i:Nat) x u,cs[i]?=some x→vs[i]?=some u→r7 M ρ w x u):r7 M ρ w (.mJ f cs) (.func (.func f) vs #[])
theorem r7.b4s{M M':Nat→Nat→Prop}{ρ:Nat→Option (Nat×Nat×Nat)}{w:World}{x:AV}{u:Value}(h:r7 M ρ w x u):∀{ρ':Nat→Option (Nat×Nat×Nat)} {w':World},(∀id p,ρ id=some p→ρ' id=some p)→
  (∀b o c,¬M b o→w.cell? ⟨b,o,none⟩=some c→¬M' b o∧w'.cell? ⟨b,o,none⟩=some c)→
  (∀r s,w.shape? r=some s→w'.shape? r=some s)→r7 M' ρ' w' x u:=by
 induction h with
 |Z u=>intros;exact .Z u
 |N6 t=>intros;exact .N6 t
 |v x=>intros;exact .v x
 |agg cs vs hn _ ih=>intro ρ' w' hρ hc hs;exact .agg cs vs hn fun i x u h1 h2=>ih i x u h1 h2 hρ hc hs
 |Q0 cs vs hn _ ih=>intro ρ' w' hρ hc hs;exact .Q0 cs vs hn fun i x u h1 h2=>ih i x u h1 h2 hρ hc hs
 |c5 c es a cap b o sz cell h1 oH aD ha hm _ ih=>
  intro ρ' w' hρ hc hs
  exact .c5 c es a cap b o sz cell h1 oH aD ha (fun i j hi hj=>hc _ _ _ (hm i j hi hj).1 (hm i j hi hj).2) fun i j e x h1 h2=>ih i j e x h1 h2 (fun _ _ h=>h) hc hs
 |Z9 es i k b o sz cell hi hk aD hm _ ih=>
  intro ρ' w' hρ hc hs
  exact .Z9 es i k b o sz cell hi hk aD (fun i j hi hj=>hc _ _ _ (hm i j hi hj).1 (hm i j hi hj).2) fun i j e x h1 h2=>ih i j e x h1 h2 (fun _ _ h=>h) hc hs
 |own id off n cap b β sz N e h h1 h2 h3=>intro ρ' w' hρ hc hs;exact .own id off n cap b β sz N e (hρ _ _ h) h1 (hs _ _ h2) h3
 |ptr id i k b β sz h=>intro ρ' w' hρ hc hs;exact .ptr id i k b β sz (hρ _ _ h)
 |dP id i k b β sz h=>intro ρ' w' hρ hc hs;exact .dP id i k b β sz (hρ _ _ h)
 |fn f cs vs hn _ ih=>intro ρ' w' hρ hc hs;exact .fn f cs vs hn fun i x u h1 h2=>ih i x u h1 h2 hρ hc hs
 |mJ f cs vs hn _ ih=>intro ρ' w' hρ hc hs;exact .mJ f cs vs hn fun i x u h1 h2=>ih i x u h1 h2 hρ hc hs
theorem r7.mono {M M':Nat→Nat→Prop} {ρ ρ':Nat→Option (Nat×Nat×Nat)} {w w':World} (hρ:∀id p,ρ id=some p→ρ' id=some p)
  (hc:∀b o c,¬M b o→w.cell? ⟨b,o,none⟩=some c→¬M' b o∧w'.cell? ⟨b,o,none⟩=some c)
  (hs:∀r s,w.shape? r=some s→w'.shape? r=some s) {x:AV} {u:Value} (h:r7 M ρ w x u):r7 M' ρ' w' x u:=h.b4s hρ hc hs
theorem r7.up{M:Nat→Nat→Prop}{ρ:Nat→Option (Nat×Nat×Nat)}{w:World}{x:AV}{u:Value}(h:r7 M (fun _=>none) w x u):r7 M ρ w x u:=
 h.b4s (fun _ _ h=>by cases h) (fun _ _ _ h1 h2=>⟨h1,h2⟩) (fun _ _ h=>h)
structure Row where
 sz:Nat
 es:List (List AV)
 fro:Nat
inductive RS where
 |free
 |gone
 |live (r:Row)
 |u3 (k:Nat) (cs:List AV)
 |mp (b:Nat) (d:TypeDesc) (f:Value→Option Value)
def wP:TypeDesc→Prop
 | .struct _=>True
 | .array _ _=>True
 |_=>False
def wO(d:TypeDesc)(k:Value):Prop:=Go.MapKept.IsKey d k∨wP d∧∃x y,k= .agg #[.int .i64 x,.int .i64 y]
def dJ:Obj→Value→Option Value
 | .map es c,.int .i64 n=>if n<0 then some (.int .i64 c)else(es[n.toNat]?).map fun e=> .agg #[e.key,e.val,.int .i64 e.born]
 | .mapIter (some m) s seen c,.int .i64 n=>if n<0 then some (.agg #[.int .i64 m,.int .i64 s,.int .i64 c])else(seen[n.toNat]?).map fun x=> .int .i64 x
 | .mapIter (some _) _ _ _,.bool true=>some (.bool true)
 |_,_=>none
def a8G:Obj→Bool
 | .map _ _=>true
 | .mapIter (some _) _ _ _=>true
 |_=>false
def aJ(w:World)(b:Nat)(d:TypeDesc)(f:Value→Option Value):Prop:=
 (∃es c,w.heap[b]?=some (.map es c)∧(∀x∈es.toList,wO d x.key)∧(es.toList.map (·.key)).Nodup∧(∀x∈es.toList,f x.key=some x.val)∧(∀k v,f k=some v→∃x∈es.toList,x.key=k)∧Go.MapKept.Stamped es c)∨
 (d= .invalid∧∃o,w.heap[b]?=some o∧a8G o=true∧f=dJ o)
def U5(w w':World):Prop:=∀(b:Nat) (o:Obj),a8G o=true→w.heap[b]?=some o→w'.heap[b]?=some o
theorem aJ.keep{w w':World}{b:Nat}{q:TypeDesc}{f:Value→Option Value}(h:aJ w b q f)(hk:U5 w w'):aJ w' b q f:=by
 rcases h with⟨es,c,h1,h2⟩|⟨h1,o,h2,h3,h4⟩
 ·exact .inl ⟨es,c,hk _ _ rfl h1,h2⟩
 ·exact .inr ⟨h1,o,hk _ _ h3 h2,h3,h4⟩
theorem aJ.at{w:World}{b:Nat}{q:TypeDesc}{f:Value→Option Value}(h:aJ w b q f):∃o,a8G o=true∧w.heap[b]?=some o:=by
 rcases h with⟨es,c,h1,h2⟩|⟨h1,o,h2,h3,h4⟩
 ·exact⟨_,rfl,h1⟩
 ·exact⟨o,h3,h2⟩
theorem U5.refl(w:World):U5 w w:=fun _ _ _ h=>h
theorem U5.below{w w':World}(h:Below w.heap.size w w'):U5 w w':=fun b o _ hb=>by
 have hlt:b<w.heap.size:=by
  rcases Nat.lt_or_ge b w.heap.size with h'|h'
  ·exact h'
  ·simp [Array.getElem?_eq_none h']at hb
 rw[h.block b hlt];exact hb
structure St where
 n:Nat
 t:Nat→AV
 h:Nat→RS
def p7(M0:Nat→Nat→Prop)(ρ:Nat→Option (Nat×Nat×Nat))(h:Nat→RS)(b o:Nat):Prop:=
 M0 b o∨∃id r β sz,h id= .live r∧ρ id=some (b,β,sz)∧β+r.fro*sz≤o
structure Gh where
 g:Nat→Nat→Value
 fr:AV→Value→Prop
 kp:Nat→Option Obj
 sh:Nat→Option (TypeId×Nat)
 df:List Deferred
structure Rel (G:Gh) (M0:Nat→Nat→Prop) (w0:World) (s:St) (ρ:Nat→Option (Nat×Nat×Nat)) (a:Act) (w:World):Prop where
 n:a.tmps.size=s.n
 tm:∀t,r7 (p7 M0 ρ s.h) ρ w (s.t t) (a.tmps.getD t undef)
 live:∀id r,s.h id= .live r→∃b β arr e,ρ id=some (b,β,r.sz)∧w0.heap.size≤b∧w.heap[b]?=some (.cells arr e (0,0))∧β+r.es.length*r.sz≤arr.size∧
  (∀x∈r.es,x.length=r.sz)∧(∀(i j:Nat) e x u,r.es[i]?=some e→e[j]?=some x→arr[β+i*r.sz+j]?=some u→r7 (p7 M0 ρ s.h) ρ w x u)
 free:∀id,s.h id= .free→ρ id=none
 inj:∀id id' r r' b β β' z z',s.h id= .live r→s.h id'= .live r'→ρ id=some (b,β,z)→ρ id'=some (b,β',z')→id=id'
 U2:Below w0.heap.size w0 w
 m0:∀b o,M0 b o→b<w0.heap.size∨∃x,G.kp b=some x
 defers:a.defers=G.df
 mS:∀id k cs,s.h id= .u3 k cs→∀(i:Nat) x,cs[i]?=some x→r7 (p7 M0 ρ s.h) ρ w x (G.g k i)
 lE:∀x u,G.fr x u→r7 (p7 M0 ρ s.h) (fun _=>none) w x u
 iM:∀id b q f,s.h id= .mp b q f→w0.heap.size≤b∧aJ w b q f
 fY:∀b o,G.kp b=some o→w.heap[b]?=some o
 dH:∀id r p,s.h id= .live r→ρ id=some p→G.kp p.1=none
 nD:∀id b q f,s.h id= .mp b q f→G.kp b=none
 oI:∀b x,G.sh b=some x→w.shape? b=some x
section
structure TI where
 size:Nat
 agg:Bool
 bytes:Nat
 zero:List Value
def tV:TypeDesc→Bool
 | .struct _| .array _ _=>true
 |_=>false
def ti(P:Program)(t:TypeId):Option TI:=
 match P.info? t,P.underlying t with
 |some i,some d=>match i.zero with
  |some z=>if z.cells.size=i.size∧i.size≠0 then some ⟨i.size,tV d,i.bytes,z.cells.toList⟩else none
  |none=>none
 |_,_=>none
inductive TD where
 |struct (fs:List (Nat×TI))
 |array (n:Nat) (e:TI)
 |slice (e:TI)
 |str
 |int (k:IntKind)
 |other
def td(P:Program)(t:TypeId):Option TD:=
 match P.underlying t with
 |some (.struct fs)=>(fs.toList.mapM fun f=>(ti P f.type).map fun T=>(f.offset,T)).map .struct
 |some (.array n e)=>(ti P e).map (.array n)
 |some (.slice e)=>(ti P e).map .slice
 |some .string=>some .str
 |some (.int k)=>some (.int k)
 |some _=>some .other
 |none=>none
def AV.J5:Value→AV
 | .slice none 0 0=> .c5 true []
 |x=> .v x
def AV.cF:Value→AV
 | .agg cs=> .agg (cs.toList.map AV.J5)
 | .func (.func f) xs ys=>if xs.isEmpty∧ys.isEmpty then .fn f []else .v (.func (.func f) xs ys)
 |x=>AV.J5 x
def St.ev(s:St):Operand→AV
 | .tmp t=>s.t t
 | .const x=>AV.cF x
 | .global g=> .v (.pointer (some ⟨g,0,none⟩))
 | .func f=> .fn f []
def St.put(s:St)(d:Option Tmp)(x:AV):St:=
 match d with
 |some d=>{s with t:=fun t=>if t=d then x else s.t t}
 |none=>s
section
variable {M:Nat→Nat→Prop} {ρ:Nat→Option (Nat×Nat×Nat)} {w:World}
theorem r7.J5(x:Value):r7 M ρ w (AV.J5 x) x:=by
 unfold AV.J5
 split
 ·exact .c5 true [] none 0 0 0 0 (fun _ _=>undef) (by simp) (by simp) (by simp) (by simp) (by simp) (by simp)
 ·exact .v _
theorem r7.cF(x:Value):r7 M ρ w (AV.cF x) x:=by
 unfold AV.cF
 split
 ·rename_i cs
  refine .agg _ _ (by simp) fun i y u h1 h2=>?_
  simp only[List.getElem?_map]at h1
  have:cs.toList[i]?=some u:=by simpa using h2
  rw[this]at h1
  simp at h1
  subst h1
  exact .J5 u
 ·split
  ·rename_i h
   obtain⟨h1,h2⟩:=h
   have h1:=Array.isEmpty_iff.1 h1
   have h2:=Array.isEmpty_iff.1 h2
   subst h1;subst h2
   exact .fn _ _ _ rfl (by simp)
  ·exact .v _
 ·exact .J5 _
theorem r7.Y8{x u:Value}(h:r7 M ρ w (.v x) u):u=x:=by cases h;rfl
end
section
variable {G:Gh} {M0:Nat→Nat→Prop} {w0:World} {s:St} {ρ:Nat→Option (Nat×Nat×Nat)} {a:Act} {w:World}
theorem Rel.ev(R:Rel G M0 w0 s ρ a w)(x:Operand):r7 (p7 M0 ρ s.h) ρ w (s.ev x) (a.eval x):=by
 cases x with
 |tmp t=>exact R.tm t
 |const v=>exact .cF v
 |global g=>exact .v _
 |func f=>exact .fn f [] #[] rfl (by simp)
theorem b00{a:Act}{d t:Tmp}{v:Value}(hd:d<a.tmps.size):(a.put (some d) v).tmps.getD t undef=if t=d then v else a.tmps.getD t undef:=by
 simp only[Act.put]
 by_cases h:t=d
 ·subst h;simp [hd]
 ·rw[if_neg h];simp [Array.getElem?_setIfInBounds_ne (Ne.symm h)]
theorem b18(a:Act)(d:Option Tmp)(v:Value):(a.put d v).tmps.size=a.tmps.size:=by cases d<;>simp [Act.put]
theorem a4Z(a:Act)(d:Option Tmp)(v:Value):(a.put d v).defers=a.defers:=by cases d<;>simp [Act.put]
def L3(s:St):Option Tmp→Prop
 |some d=>d<s.n
 |none=>True
theorem Rel.a7H (R:Rel G M0 w0 s ρ a w) {ρ':Nat→Option (Nat×Nat×Nat)} {w':World} {h':Nat→RS} {d:Option Tmp} {val:AV} {v:Value} (hd:L3 s d)
  (hρ:∀id p,ρ id=some p→ρ' id=some p)
  (hc:∀b o c,¬p7 M0 ρ s.h b o→w.cell? ⟨b,o,none⟩=some c→¬p7 M0 ρ' h' b o∧w'.cell? ⟨b,o,none⟩=some c)
  (hs:∀r s,w.shape? r=some s→w'.shape? r=some s)
  (live:∀id r,h' id= .live r→∃b β arr e,ρ' id=some (b,β,r.sz)∧w0.heap.size≤b∧w'.heap[b]?=some (.cells arr e (0,0))∧β+r.es.length*r.sz≤arr.size∧
   (∀x∈r.es,x.length=r.sz)∧(∀(i j:Nat) e x u,r.es[i]?=some e→e[j]?=some x→arr[β+i*r.sz+j]?=some u→r7 (p7 M0 ρ' h') ρ' w' x u))
  (free:∀id,h' id= .free→ρ' id=none)
  (inj:∀id id' r r' b β β' z z',h' id= .live r→h' id'= .live r'→ρ' id=some (b,β,z)→ρ' id'=some (b,β',z')→id=id')
  (U2:Below w0.heap.size w0 w') (hgh:∀id k cs,h' id= .u3 k cs→s.h id= .u3 k cs) (hmp:∀id b q f,h' id= .mp b q f→w0.heap.size≤b∧aJ w' b q f)
  (hkp:∀b o,G.kp b=some o→w.heap[b]?=some o→w'.heap[b]?=some o) (hkl:∀id r p,h' id= .live r→ρ' id=some p→G.kp p.1=none) (hkq:∀id b q f,h' id= .mp b q f→G.kp b=none)
  (hv:r7 (p7 M0 ρ' h') ρ' w' val v):Rel G M0 w0 {s.put d val with h:=h'} ρ' (a.put d v) w' where
 n:=by rw[b18,R.n];cases d<;>rfl
 tm:=by
  intro t
  have hm:∀t,r7 (p7 M0 ρ' h') ρ' w' (s.t t) (a.tmps.getD t undef):=fun t=>(R.tm t).mono hρ hc hs
  cases d with
  |none=>exact hm t
  |some d=>
   rw[b00 (by rw[R.n];exact hd)]
   simp only[St.put]
   split
   ·exact hv
   ·exact hm t
 live:=live
 free:=free
 inj:=inj
 U2:=U2
 m0:=R.m0
 defers:=by rw[a4Z];exact R.defers
 mS:=fun id k cs h i x hx=>(R.mS id k cs (hgh id k cs h) i x hx).mono hρ hc hs
 lE:=fun x u h=>(R.lE x u h).mono (fun _ _ h=>h) hc hs
 iM:=hmp
 fY:=fun b o h=>hkp b o h (R.fY b o h)
 dH:=hkl
 nD:=hkq
 oI:=fun b x h=>hs b x (R.oI b x h)
theorem Rel.step (R:Rel G M0 w0 s ρ a w) {ρ':Nat→Option (Nat×Nat×Nat)} {w':World} {h':Nat→RS} {d:Option Tmp} {val:AV} {v:Value} (hd:L3 s d)
  (hρ:∀id p,ρ id=some p→ρ' id=some p)
  (hc:∀b o c,¬p7 M0 ρ s.h b o→w.cell? ⟨b,o,none⟩=some c→¬p7 M0 ρ' h' b o∧w'.cell? ⟨b,o,none⟩=some c)
  (hs:∀r s,w.shape? r=some s→w'.shape? r=some s)
  (live:∀id r,h' id= .live r→∃b β arr e,ρ' id=some (b,β,r.sz)∧w0.heap.size≤b∧w'.heap[b]?=some (.cells arr e (0,0))∧β+r.es.length*r.sz≤arr.size∧
   (∀x∈r.es,x.length=r.sz)∧(∀(i j:Nat) e x u,r.es[i]?=some e→e[j]?=some x→arr[β+i*r.sz+j]?=some u→r7 (p7 M0 ρ' h') ρ' w' x u))
  (free:∀id,h' id= .free→ρ' id=none)
  (inj:∀id id' r r' b β β' z z',h' id= .live r→h' id'= .live r'→ρ' id=some (b,β,z)→ρ' id'=some (b,β',z')→id=id')
  (U2:Below w0.heap.size w0 w') (hgh:∀id k cs,h' id= .u3 k cs→s.h id= .u3 k cs) (hmp:∀id b q f,h' id= .mp b q f→s.h id= .mp b q f) (hkm:U5 w w')
  (hkp:∀b o,G.kp b=some o→w.heap[b]?=some o→w'.heap[b]?=some o) (hkl:∀id r p,h' id= .live r→ρ' id=some p→G.kp p.1=none)
  (hv:r7 (p7 M0 ρ' h') ρ' w' val v):Rel G M0 w0 {s.put d val with h:=h'} ρ' (a.put d v) w':=
 R.a7H hd hρ hc hs live free inj U2 hgh (fun id b q f h=>let⟨h1,h2⟩:=R.iM id b q f (hmp id b q f h);⟨h1,h2.keep hkm⟩) hkp hkl (fun id b q f h=>R.nD id b q f (hmp id b q f h)) hv
theorem Rel.a7a(R:Rel G M0 w0 s ρ a w){b:Nat}(hb:w.heap.size≤b):G.kp b=none:=by
 cases h:G.kp b with
 |none=>rfl
 |some o=>
  have:=R.fY _ _ h
  rw[Array.getElem?_eq_none hb]at this
  cases this
theorem Rel.pure(R:Rel G M0 w0 s ρ a w){d:Option Tmp}{val:AV}{v:Value}(hd:L3 s d)(hv:r7 (p7 M0 ρ s.h) ρ w val v):Rel G M0 w0 (s.put d val) ρ (a.put d v) w:=by
 have:=R.step (ρ':=ρ) (w':=w) (h':=s.h) hd (fun _ _ h=>h) (fun _ _ _ h1 h2=>⟨h1,h2⟩) (fun _ _ h=>h) R.live R.free R.inj R.U2 (fun _ _ _ h=>h) (fun _ _ _ _ h=>h) (U5.refl w) (fun _ _ _ h=>h) R.dH hv
 cases d<;>exact this
end
end
section
structure Fx where
 val:AV
 fp:List (Nat×Option (Nat×Nat×Nat)×Bool):=[]
 wr:Option (Nat×Nat×Nat×List AV):=none
 fro:List (Nat×Nat):=[]
 kill:Option Nat:=none
 new:List Row:=[]
def u2:List AV→Nat→List AV→List AV
 |[],_,_=>[]
 |x::e,k+1,cs=>x::u2 e k cs
 |x::e,0,[]=>x::e
 |_::e,0,c::cs=>c::u2 e 0 cs
def E7(fro:List (Nat×Nat))(id m:Nat):Nat:=fro.foldl (fun m p=>if p.1=id then max m p.2 else m) m
def eU(wr:Option (Nat×Nat×Nat×List AV))(id:Nat)(es:List (List AV)):List (List AV):=
 match wr with
 |some (id',i,k,cs)=>if id'=id then es.modify i (fun e=>u2 e k cs)else es
 |none=>es
def Fx.row(fx:Fx)(id:Nat)(r:Row):Row:=⟨r.sz,eU fx.wr id r.es,E7 fx.fro id r.fro⟩
def Fx.heap(fx:Fx)(nid:Nat)(h:Nat→RS)(id:Nat):RS:=
 if nid≤id∧id<nid+fx.new.length then .live (fx.new.getD (id-nid) ⟨0,[],0⟩)
 else if fx.kill=some id then .gone
 else match h id with
  | .live r=> .live (fx.row id r)
  |x=>x
theorem Fx.oX(x:AV)(fp)(nid:Nat)(h:Nat→RS):Fx.heap {val:=x,fp:=fp} nid h=h:=by
 funext id
 simp [Fx.heap,Fx.row,eU,E7]
 split
 ·omega
 ·split<;>rename_i hh<;>simp [hh]
def m9(h:Nat→RS)(id:Nat)(x:RS):Nat→RS:=fun i=>if i=id then x else h i
theorem Fx.b04(x:AV)(fp)(r:Row)(nid:Nat)(h:Nat→RS):Fx.heap {val:=x,fp:=fp,new:=[r]} nid h=m9 h nid (.live r):=by
 funext id
 simp [Fx.heap,Fx.row,eU,E7,m9]
 by_cases hid:id=nid
 ·subst hid;simp
 ·rw[if_neg (by omega),if_neg hid]
  split<;>rename_i hh<;>simp [hh]
section
variable {G:Gh} {M0:Nat→Nat→Prop} {w0:World} {s:St} {ρ:Nat→Option (Nat×Nat×Nat)} {a:Act} {w:World} {P:Program}
theorem dT{b:Nat}{arr:Array Value}{e:TypeId}{fr:Nat×Nat}(h:w.heap[b]?=some (.cells arr e fr))(o:Nat):w.cell? ⟨b,o,none⟩=arr[o]?:=by simp [World.cell?,h]
theorem B4{b:Nat}{x:Obj}(h:w.heap[b]?=some x):b<w.heap.size:=by
 rcases Nat.lt_or_ge b w.heap.size with h'|h'
 ·exact h'
 ·simp [Array.getElem?_eq_none h']at h
theorem cK{o:Obj}{b:Nat}{x:Obj}(h:w.heap[b]?=some x):(w.alloc o).heap[b]?=some x:=by
 rw[←h];simp only[World.alloc];rw[Array.getElem?_push,if_neg (by have:=B4 h;omega)]
theorem iW{o:Obj}{r:Nat}{p}(h:w.shape? r=some p):(w.alloc o).shape? r=some p:=by
 unfold World.shape? at*
 split at h
 ·rename_i hh;rw[cK hh];exact h
 ·cases h
theorem Rel.vV(R:Rel G M0 w0 s ρ a w){id b β z:Nat}{r:Row}(h:s.h id= .live r)(hp:ρ id=some (b,β,z)):b<w.heap.size∧w0.heap.size≤b:=by
 obtain⟨b',β',arr,e,h1,h2,h3,_⟩:=R.live id r h
 rw[hp]at h1
 cases h1
 exact⟨B4 h3,h2⟩
theorem Rel.newRow (R:Rel G M0 w0 s ρ a w) {d:Option Tmp} {val:AV} {v:Value} {nid:Nat} {r:Row} {arr:Array Value} {e:TypeId} (hd:L3 s d) (hf:s.h nid= .free)
  (aD:r.es.length*r.sz≤arr.size) (hes:∀x∈r.es,x.length=r.sz)
  (hr:∀(i j:Nat) e x u,r.es[i]?=some e→e[j]?=some x→arr[i*r.sz+j]?=some u→r7 (p7 M0 ρ s.h) ρ w x u)
  (hv:r7 (p7 M0 (fun i=>if i=nid then some (w.heap.size,0,r.sz)else ρ i) (m9 s.h nid (.live r))) (fun i=>if i=nid then some (w.heap.size,0,r.sz)else ρ i) (w.alloc (.cells arr e)) val v):
  Rel G M0 w0 {s.put d val with h:=m9 s.h nid (.live r)} (fun i=>if i=nid then some (w.heap.size,0,r.sz)else ρ i) (a.put d v) (w.alloc (.cells arr e)):=by
 have hρn:ρ nid=none:=R.free nid hf
 have hρ:∀id p,ρ id=some p→(if id=nid then some (w.heap.size,0,r.sz)else ρ id)=some p:=by
  intro id p h
  by_cases hid:id=nid
  ·subst hid;rw[hρn]at h;cases h
  ·rw[if_neg hid];exact h
 have hm:∀b o,b<w.heap.size→¬p7 M0 ρ s.h b o→¬p7 M0 (fun i=>if i=nid then some (w.heap.size,0,r.sz)else ρ i) (m9 s.h nid (.live r)) b o:=by
  rintro b o hb hn (h|⟨id,r',β,z,h1,h2,h3⟩)
  ·exact hn (.inl h)
  ·by_cases hid:id=nid
   ·subst hid;simp at h2;omega
   ·simp only[m9,if_neg hid]at h1 h2
    exact hn (.inr ⟨id,r',β,z,h1,h2,h3⟩)
 have hc:∀b o c,¬p7 M0 ρ s.h b o→w.cell? ⟨b,o,none⟩=some c→¬p7 M0 (fun i=>if i=nid then some (w.heap.size,0,r.sz)else ρ i) (m9 s.h nid (.live r)) b o∧(w.alloc (.cells arr e)).cell? ⟨b,o,none⟩=some c:=by
  intro b o c h1 h2
  have hb:=World.block_lt_of_cell? w _ h2
  exact⟨hm b o hb h1,by rw[World.cell?_alloc_lt w _ _ hb];exact h2⟩
 have hsh:∀r s,w.shape? r=some s→(w.alloc (.cells arr e)).shape? r=some s:=fun _ _=>iW
 refine R.step hd hρ hc hsh ?_ ?_ ?_ (R.U2.alloc R.U2.size _) (by
  intro id k cs h
  by_cases hid:id=nid
  ·subst hid;simp [m9]at h
  ·simpa only[m9,if_neg hid]using h) (by
  intro id b q f h
  by_cases hid:id=nid
  ·subst hid;simp [m9]at h
  ·simpa only[m9,if_neg hid]using h) (fun _ _ _ h=>cK h) (fun _ _ _ h=>cK h) (by
  intro id r' p h hp
  by_cases hid:id=nid
  ·subst hid
   simp only[if_true,Option.some.injEq]at hp
   subst hp
   exact R.a7a (Nat.le_refl _)
  ·simp only[m9,if_neg hid]at h hp
   exact R.dH id r' p h hp) hv
 ·intro id r' h
  by_cases hid:id=nid
  ·subst hid
   simp only[m9,if_true,RS.live.injEq]at h
   subst h
   exact⟨w.heap.size,0,arr,e,by simp,R.U2.size,heap_alloc_new w _,by simpa using aD,hes,fun i j e' x u h1 h2 h3=>(hr i j e' x u h1 h2 (by simpa using h3)).mono hρ hc hsh⟩
  ·simp only[m9,if_neg hid]at h
   obtain⟨b,β,arr',e',h1,h2,h3,h4,h5,h6⟩:=R.live id r' h
   exact⟨b,β,arr',e',hρ _ _ h1,h2,cK h3,h4,h5,fun i j e'' x u g1 g2 g3=>(h6 i j e'' x u g1 g2 g3).mono hρ hc hsh⟩
 ·intro id h
  by_cases hid:id=nid
  ·subst hid;simp [m9]at h
  ·simp only[m9,if_neg hid]at h⊢
   exact R.free id h
 ·intro id id' r1 r2 b β β' z z' h1 h2 h3 h4
  by_cases hid:id=nid<;>by_cases hid':id'=nid
  ·rw[hid,hid']
  ·subst hid
   simp only[m9,if_neg hid',if_true]at h2 h3 h4
   cases h3
   exact absurd (R.vV h2 h4).1 (by omega)
  ·subst hid'
   simp only[m9,if_neg hid,if_true]at h1 h3 h4
   cases h4
   exact absurd (R.vV h1 h3).1 (by omega)
  ·simp only[m9,if_neg hid,if_neg hid']at h1 h2 h3 h4
   exact R.inj _ _ _ _ _ _ _ _ _ h1 h2 h3 h4
end
end
section
def AV.one:AV→Bool
 | .v x=>x.oneCell'
 | .Z| .agg _| .Q0 _=>false
 |_=>true
def AV.o3:AV→Option (List AV)
 | .agg cs=>some cs
 | .v x=>if x.oneCell' then some [.v x]else none
 | .Z| .Q0 _=>none
 |x=>some [x]
def A9(agg:Bool)(cs:List AV):Option AV:=
 if agg then some (.agg cs)else match cs with|[x]=>some x|_=>none
def rd(s:St):AV→Nat→Option (List AV)
 | .ptr id i k,n| .dP id i k,n=>match s.h id with
  | .live r=>if k+n≤r.sz then(r.es[i]?).map fun e=>(e.drop k).take n else none
  |_=>none
 | .Z9 es i k,n=>(es[i]?).bind fun e=>if k+n≤e.length then some ((e.drop k).take n)else none
 |_,_=>none
def u0(w:Bool):AV→Nat→List (Nat×Option (Nat×Nat×Nat)×Bool)
 | .ptr id i k,n=>[(id,some (i,k,k+n),w)]
 | .dP id _ _,_=>[(id,none,w)]
 |_,_=>[]
section
variable {M:Nat→Nat→Prop} {ρ:Nat→Option (Nat×Nat×Nat)} {w:World}
theorem r7.b1P{x:AV}{u:Value}(h:r7 M ρ w x u)(h1:x.one=true):u.oneCell'=true:=by
 cases h<;>first|rfl|(simp [AV.one]at h1;done)|(simpa[AV.one]using h1)
theorem r7.mL{x:AV}{u:Value}{cs:List AV}(h:r7 M ρ w x u)(h1:x.o3=some cs):
  u.cells.size=cs.length∧∀(i:Nat) y c,cs[i]?=some y→u.cells[i]?=some c→r7 M ρ w y c:=by
 have key:∀(x:AV),r7 M ρ w x u→cs=[x]→u.oneCell'=true→u.cells.size=cs.length∧∀(i:Nat) y c,cs[i]?=some y→u.cells[i]?=some c→r7 M ρ w y c:=by
  intro x hx e ho
  subst e
  have hu:u.cells= #[u]:=by cases u<;>first|rfl|simp [Value.oneCell']at ho
  rw[hu]
  refine⟨rfl,fun i y c h1 h2=>?_⟩
  cases i with
  |zero=>simp at h1 h2;subst h1;subst h2;exact hx
  |succ i=>simp at h1
 cases h with
 |Z=>simp [AV.o3]at h1
 |N6 t=>simp only[AV.o3,Option.some.injEq]at h1;exact key _ (.N6 t) h1.symm rfl
 |v=>
  simp only[AV.o3]at h1
  split at h1
  ·rename_i ho;cases h1;exact key _ (.v _) rfl ho
  ·cases h1
 |agg cs' vs hn hh=>simp only[AV.o3,Option.some.injEq]at h1;subst h1;exact⟨hn,hh⟩
 |Q0=>simp [AV.o3]at h1
 |c5 c es a cap b o sz cell g1 g2 g3 g4 g5 g6=>simp only[AV.o3,Option.some.injEq]at h1;exact key _ (.c5 c es a cap b o sz cell g1 g2 g3 g4 g5 g6) h1.symm rfl
 |Z9 es i k b o sz cell g1 g2 g3 g4 g5=>simp only[AV.o3,Option.some.injEq]at h1;exact key _ (.Z9 es i k b o sz cell g1 g2 g3 g4 g5) h1.symm rfl
 |own id off n cap b β sz N e g1 g2 g3 g4=>simp only[AV.o3,Option.some.injEq]at h1;exact key _ (.own id off n cap b β sz N e g1 g2 g3 g4) h1.symm rfl
 |ptr id i k b β sz g=>simp only[AV.o3,Option.some.injEq]at h1;exact key _ (.ptr id i k b β sz g) h1.symm rfl
 |dP id i k b β sz g=>simp only[AV.o3,Option.some.injEq]at h1;exact key _ (.dP id i k b β sz g) h1.symm rfl
 |fn f cs' vs hn hh=>simp only[AV.o3,Option.some.injEq]at h1;exact key _ (.fn f cs' vs hn hh) h1.symm rfl
 |mJ f cs' vs hn hh=>simp only[AV.o3,Option.some.injEq]at h1;exact key _ (.mJ f cs' vs hn hh) h1.symm rfl
end
section
variable {G:Gh} {M0:Nat→Nat→Prop} {w0:World} {s:St} {ρ:Nat→Option (Nat×Nat×Nat)} {a:Act} {w:World} {P:Program} {Q:Exit→Act→World→Prop}
theorem aG{t:TypeId}{T:TI}(h:ti P t=some T):∃i d z,P.info? t=some i∧P.underlying t=some d∧i.zero=some z∧z.cells.size=T.size∧i.size=T.size∧T.size≠0∧T.agg=tV d∧i.bytes=T.bytes∧T.zero=z.cells.toList:=by
 unfold ti at h
 split at h
 ·rename_i i d h1 h2
  split at h
  ·rename_i z h3
   split at h
   ·rename_i h4
    cases h
    exact⟨i,d,z,h1,h2,h3,h4.1,rfl,h4.2,rfl,rfl,rfl⟩
   ·cases h
  ·cases h
 ·cases h
theorem D9{t:TypeId}{T:TI}(h:ti P t=some T)(w:World):(sizeOf t).run P w= .ok T.size w:=by
 obtain⟨i,d,z,h1,h2,h3,h4,h5,h6,h7,h8,h9⟩:=aG h
 simp [sizeOf,typeInfo,h1,h5]
theorem lM{t:TypeId}{T:TI}(h:ti P t=some T)(w:World):(isAgg t).run P w= .ok T.agg w:=by
 obtain⟨i,d,z,h1,h2,h3,h4,h5,h6,h7,h8,h9⟩:=aG h
 rw[h7]
 simp only[isAgg,Sem.run_bind,run_underlying h2,Result.andThen_ok]
 cases d<;>rfl
theorem a1i{t:TypeId}{T:TI}(h:ti P t=some T)(b o:Nat)(f:Nat→Value)(hf:∀j,j<T.size→w.cell? ⟨b,o+j,none⟩=some (f j)):
  (loadVar t ⟨b,o,none⟩).run P w= .ok (if T.agg then .agg ((List.range T.size).map f).toArray else f 0) w:=by
 have hadd:∀j,(⟨b,o,none⟩:Addr).add j=⟨b,o+j,none⟩:=by intro j;unfold Addr.add;split<;>simp_all
 obtain⟨i,d,z,h1,h2,h3,h4,h5,h6,h7,h8,h9⟩:=aG h
 simp only[loadVar,Sem.run_bind,lM h,Result.andThen_ok]
 cases T.agg
 ·have:=hf 0 (by omega)
  simp at this
  simp [this]
 ·simp only[if_true,Sem.run_bind,D9 h,Result.andThen_ok]
  rw[run_loadCells w _ T.size f (fun j hj=>by rw[hadd];exact hf j hj)]
  rfl
theorem a34(R:Rel G M0 w0 s ρ a w){x:AV}{u:Value}{n:Nat}{cs:List AV}(hx:r7 (p7 M0 ρ s.h) ρ w x u)(h:rd s x n=some cs):
  ∃(b o:Nat) (f:Nat→Value),u= .pointer (some ⟨b,o,none⟩)∧cs.length=n∧(∀j,j<n→w.cell? ⟨b,o+j,none⟩=some (f j))∧∀(j:Nat) y,cs[j]?=some y→r7 (p7 M0 ρ s.h) ρ w y (f j):=by
 have own:∀id i k b β sz,ρ id=some (b,β,sz)→u= .pointer (some ⟨b,β+i*sz+k,none⟩)→(match s.h id with
  | .live r=>if k+n≤r.sz then(r.es[i]?).map fun e=>(e.drop k).take n else none
  |_=>none)=some cs→∃(b o:Nat) (f:Nat→Value),u= .pointer (some ⟨b,o,none⟩)∧cs.length=n∧(∀j,j<n→w.cell? ⟨b,o+j,none⟩=some (f j))∧∀(j:Nat) y,cs[j]?=some y→r7 (p7 M0 ρ s.h) ρ w y (f j):=by
  intro id i k b β sz g hu h
  split at h
  ·rename_i r hr
   split at h
   ·rename_i hk
    obtain⟨b',β',arr,e,p1,p2,p3,p4,p5,p6⟩:=R.live id r hr
    rw[g]at p1
    cases p1
    cases he:r.es[i]? with
    |none=>simp [he]at h
    |some e'=>
     simp only[he,Option.map_some,Option.some.injEq]at h
     subst h
     have hl:e'.length=r.sz:=p5 e' (List.mem_of_getElem? he)
     have hi:i<r.es.length:=(List.getElem?_eq_some_iff.1 he).1
     have hle:(i+1)*r.sz≤r.es.length*r.sz:=Nat.mul_le_mul_right _ hi
     rw[Nat.add_mul,Nat.one_mul]at hle
     have hin:∀j,j<n→β+i*r.sz+k+j<arr.size:=fun j hj=>by omega
     refine⟨b,β+i*r.sz+k,fun j=>arr.getD (β+i*r.sz+k+j) undef,hu,by simp;omega,fun j hj=>?_,fun j y hy=>?_⟩
     ·rw[dT p3];simp [hin j hj]
     ·have hj:j<n:=by
       have:=(List.getElem?_eq_some_iff.1 hy).1
       simp at this;omega
      have hy':e'[k+j]?=some y:=by
       rw[List.getElem?_take,if_pos hj,List.getElem?_drop]at hy;exact hy
      have:=p6 i (k+j) e' y (arr.getD (β+i*r.sz+k+j) undef) he hy' (by rw[←Nat.add_assoc];simp [hin j hj])
      exact this
   ·cases h
  ·cases h
 cases hx with
 |ptr id i k b β sz g=>exact own id i k b β sz g rfl h
 |dP id i k b β sz g=>exact own id i k b β sz g rfl h
 |Z9 es i k b o sz cell hi hk aD hm hr=>
  simp only[rd]at h
  have he:es[i]?=some es[i]:=by simp [hi]
  rw[he]at h
  simp only[Option.bind_some]at h
  have hl:es[i].length=sz:=aD _ (List.getElem_mem hi)
  split at h
  ·rename_i hkn
   cases h
   refine⟨b,o+i*sz+k,fun j=>cell i (k+j),rfl,by simp;omega,fun j hj=>?_,fun j y hy=>?_⟩
   ·have:=(hm i (k+j) hi (by omega)).2
    rw[←Nat.add_assoc]at this;exact this
   ·have hj:j<n:=by
     have:=(List.getElem?_eq_some_iff.1 hy).1
     simp at this;omega
    rw[List.getElem?_take,if_pos hj,List.getElem?_drop]at hy
    exact(hr i (k+j) _ y he hy).up
  ·cases h
 |_=>simp [rd]at h
theorem uE(R:Rel G M0 w0 s ρ a w){t:TypeId}{T:TI}{x:AV}{u:Value}{cs:List AV}{val:AV}(ht:ti P t=some T)(hx:r7 (p7 M0 ρ s.h) ρ w x u)(h:rd s x T.size=some cs)(hp:A9 T.agg cs=some val):
  ∃v,(Instr.loadAt t u).run P w= .ok v w∧r7 (p7 M0 ρ s.h) ρ w val v:=by
 obtain⟨b,o,f,rfl,hl,hc,hr⟩:=a34 R hx h
 refine⟨_,by simp only[Instr.loadAt,Instr.sureAddr,Sem.run_bind,Sem.run_pure,Result.andThen_ok];exact a1i ht b o f hc,?_⟩
 unfold A9 at hp
 cases hag:T.agg
 ·rw[hag]at hp
  simp only[Bool.false_eq_true,if_false]at hp⊢
  split at hp
  ·cases hp;exact hr 0 _ rfl
  ·cases hp
 ·rw[hag]at hp
  simp only[if_true,Option.some.injEq]at hp⊢
  subst hp
  refine .agg _ _ (by simp [hl]) fun i y v h1 h2=>?_
  have hi:i<T.size:=by rw[←hl];exact(List.getElem?_eq_some_iff.1 h1).1
  have:v=f i:=by simp [hi]at h2;exact h2.symm
  subst this
  exact hr i y h1
end
end
section
theorem Fx.a67(x:AV)(fp)(id i k:Nat)(cs:List AV)(nid:Nat)(h:Nat→RS)(r:Row)(hl:h id= .live r):
  Fx.heap {val:=x,fp:=fp,wr:=some (id,i,k,cs)} nid h=m9 h id (.live {r with es:=r.es.modify i (fun e=>u2 e k cs)}):=by
 funext id'
 simp only[Fx.heap,Fx.row,eU,E7,m9,List.length_nil,Nat.add_zero,List.foldl_nil]
 rw[if_neg (by omega),if_neg (by simp)]
 by_cases hid:id'=id
 ·subst hid;simp [hl]
 ·rw[if_neg hid]
  split
  ·rename_i r' hh
   rw[if_neg (Ne.symm hid)]
   simp [hh]
  ·rfl
theorem lS:∀(e:List AV) (k:Nat) (cs:List AV),(u2 e k cs).length=e.length:=by
 intro e
 induction e with
 |nil=>intro k cs;simp [u2]
 |cons x e ih=>
  intro k cs
  cases k with
  |succ k=>simp [u2,ih]
  |zero=>cases cs<;>simp [u2,ih]
theorem gG:∀(e:List AV) (k:Nat) (cs:List AV) (j:Nat),(u2 e k cs)[j]?=if k≤j∧j<k+cs.length then(if j<e.length then cs[j-k]? else none)else e[j]?:=by
 intro e
 induction e with
 |nil=>intro k cs j;simp [u2]
 |cons x e ih=>
  intro k cs j
  cases k with
  |succ k=>
   cases j with
   |zero=>simp [u2]
   |succ j=>
    simp only[u2,List.getElem?_cons_succ,ih,List.length_cons]
    by_cases h:k≤j∧j<k+cs.length
    ·have h':k+1≤j+1∧j+1<k+1+cs.length:=by omega
     rw[if_pos h,if_pos h',show j+1-(k+1)=j-k from by omega]
     by_cases h2:j<e.length
     ·rw[if_pos h2,if_pos (by omega)]
     ·rw[if_neg h2,if_neg (by omega)]
    ·have h':¬(k+1≤j+1∧j+1<k+1+cs.length):=by omega
     rw[if_neg h,if_neg h']
  |zero=>
   cases cs with
   |nil=>simp [u2]
   |cons c cs=>
    cases j with
    |zero=>simp [u2]
    |succ j=>
     simp only[u2,List.getElem?_cons_succ,ih,List.length_cons]
     by_cases h:j<cs.length
     ·have h1:0≤j∧j<0+cs.length:=by omega
      have h1':0≤j+1∧j+1<0+(cs.length+1):=by omega
      rw[if_pos h1,if_pos h1',show j+1-0=(j-0)+1 from by omega]
      by_cases h2:j<e.length
      ·rw[if_pos h2,if_pos (by omega)];simp
      ·rw[if_neg h2,if_neg (by omega)]
     ·have h1:¬(0≤j∧j<0+cs.length):=by omega
      have h1':¬(0≤j+1∧j+1<0+(cs.length+1)):=by omega
      rw[if_neg h1,if_neg h1']
theorem kW{e cs:List AV}{k:Nat}(_:k+cs.length≤e.length):(u2 e k cs).length=e.length:=lS e k cs
theorem vK{e cs:List AV}{k:Nat}(h:k+cs.length≤e.length)(j:Nat):(u2 e k cs)[j]?=if j<k then e[j]? else if j<k+cs.length then cs[j-k]? else e[j]?:=by
 rw[gG]
 by_cases h1:j<k
 ·rw[if_pos h1,if_neg (by omega)]
 ·rw[if_neg h1]
  by_cases h2:j<k+cs.length
  ·rw[if_pos h2,if_pos (by omega),if_pos (by omega)]
  ·rw[if_neg h2,if_neg (by omega)]
section
variable {G:Gh} {M0:Nat→Nat→Prop} {w0:World} {s:St} {ρ:Nat→Option (Nat×Nat×Nat)} {a:Act} {w:World} {P:Program} {Q:Exit→Act→World→Prop}
theorem qV{h:Nat→RS}{id:Nat}{r r':Row}(hl:h id= .live r)(hf:r'.fro=r.fro)(b o:Nat):p7 M0 ρ (m9 h id (.live r')) b o↔p7 M0 ρ h b o:=by
 unfold p7
 refine or_congr Iff.rfl ⟨?_,?_⟩
 ·rintro⟨id',q,β,z,h1,h2,h3⟩
  by_cases hid:id'=id
  ·subst hid
   simp only[m9,if_true,RS.live.injEq]at h1
   subst h1
   exact⟨_,r,β,z,hl,h2,by rw[←hf];exact h3⟩
  ·simp only[m9,if_neg hid]at h1
   exact⟨id',q,β,z,h1,h2,h3⟩
 ·rintro⟨id',q,β,z,h1,h2,h3⟩
  by_cases hid:id'=id
  ·subst hid
   rw[hl]at h1
   cases h1
   exact⟨_,r',β,z,by simp [m9],h2,by rw[hf];exact h3⟩
  ·exact⟨id',q,β,z,by simp only[m9,if_neg hid];exact h1,h2,h3⟩
theorem iD{g:Nat}{vV cs:Array Value}{t:TypeId}{fr:Nat×Nat}(hg:w.heap[g]?=some (.cells vV t fr))(hn:cs.size=vV.size)(r:Nat)(p)(h:w.shape? r=some p):(w.setRow g cs).shape? r=some p:=by
 by_cases hr:r=g
 ·subst hr
  simp only[World.shape?,setRow_heap w _ vV cs t fr hg]
  simp only[World.shape?,hg]at h
  rw[hn];exact h
 ·simp only[World.shape?,setRow_other w g r cs hr]
  exact h
theorem fE{B g:Nat}{w0 w:World}(hb:Below B w0 w)(hBg:B≤g)(cs:Array Value):Below B w0 (w.setRow g cs):=
 hb.trans ⟨rfl,rfl,rfl,by simp,fun k hk=>setRow_other w g k cs (by omega)⟩
theorem a0M{α:Type}(l vs:List α)(p j:Nat)(h:p+vs.length≤l.length):(l.take p++vs++l.drop (p+vs.length))[j]?=if j<p then l[j]? else if j<p+vs.length then vs[j-p]? else l[j]?:=by
 by_cases h1:j<p
 ·rw[if_pos h1,List.append_assoc,List.getElem?_append_left (by simp;omega),List.getElem?_take,if_pos h1]
 ·rw[if_neg h1]
  by_cases h2:j<p+vs.length
  ·rw[if_pos h2,List.getElem?_append_left (by simp;omega),List.getElem?_append_right (by simp;omega)]
   simp
   rw[Nat.min_eq_left (by omega)]
  ·rw[if_neg h2,List.getElem?_append_right (by simp;omega)]
   simp only[List.length_append,List.length_take,List.getElem?_drop]
   congr 1
   omega
theorem b06{i i' j sz p:Nat}(hj:j<sz)(hp:p<sz)(hne:i≠i'):i*sz+j≠i'*sz+p:=by
 intro e
 apply hne
 have h1:(i*sz+j) / sz=i:=by rw[Nat.mul_comm,Nat.mul_add_div (by omega),Nat.div_eq_of_lt hj];omega
 have h2:(i'*sz+p) / sz=i':=by rw[Nat.mul_comm,Nat.mul_add_div (by omega),Nat.div_eq_of_lt hp];omega
 rw[←h1,e,h2]
theorem a4n (R:Rel G M0 w0 s ρ a w) {d:Option Tmp} (hd:L3 s d) {t:TypeId} {T:TI} {x y:AV} {u v:Value} {cs:List AV} {id i k:Nat} {r:Row} (hx:r7 (p7 M0 ρ s.h) ρ w x u) (hy:r7 (p7 M0 ρ s.h) ρ w y v)
  (ht:ti P t=some T) (hcs:y.o3=some cs) (hlen:cs.length=T.size) (hone:cs.all AV.one=true) (haddr:x= .ptr id i k∨x= .dP id i k) (hl:s.h id= .live r) (hf:r.fro≤i) (hi:i<r.es.length) (hk:k+T.size≤r.sz):
  ∃w',(Instr.storeAt t u v).run P w= .ok () w'∧Rel G M0 w0 {s.put d .Z with h:=m9 s.h id (.live {r with es:=r.es.modify i (fun e=>u2 e k cs)})} ρ (a.put d undef) w':=by
 obtain⟨b,β,arr,e,p1,p2,p3,p4,p5,p6⟩:=R.live id r hl
 have hu:u= .pointer (some ⟨b,β+i*r.sz+k,none⟩):=by
  rcases haddr with rfl|rfl<;>cases hx<;>rename_i g<;>rw[p1]at g<;>cases g<;>rfl
 obtain⟨hvn,hvr⟩:=hy.mL hcs
 have hle:(i+1)*r.sz≤r.es.length*r.sz:=Nat.mul_le_mul_right _ hi
 rw[Nat.add_mul,Nat.one_mul]at hle
 have hvl:v.cells.toList.length=T.size:=by simp [hvn,hlen]
 have h1:∀z∈v.cells.toList,z.oneCell'=true:=by
  intro z hz
  obtain⟨j,hj,hjz⟩:=List.mem_iff_getElem.1 hz
  have hj':j<cs.length:=by simp at hj;omega
  have hjc:cs[j]?=some cs[j]:=by simp [hj']
  have:=hvr j cs[j] z hjc (by simp at hj;simp at hjz;simp [hj,hjz])
  exact this.b1P (List.all_eq_true.1 hone _ (List.getElem_mem hj'))
 have hrun:=run_storeCells_at P b (β+i*r.sz+k) e v.cells.toList 0 arr w p3 (by omega) h1
 refine⟨_,by
  subst hu
  simp only[Instr.storeAt,Instr.sureAddr,Sem.run_bind,Sem.run_pure,Result.andThen_ok,storeVar,D9 ht]
  rw[if_neg (by simp [hvn,hlen])]
  exact hrun,?_⟩
 simp only[Nat.add_zero]
 generalize hp:β+i*r.sz+k=p
 have hpn:p+v.cells.toList.length≤arr.toList.length:=by simp;simp at hvl;omega
 generalize harr:(arr.toList.take p++v.cells.toList++arr.toList.drop (p+v.cells.toList.length)).toArray=arr'
 have aD:arr'.size=arr.size:=by subst harr;simp;simp at hpn;omega
 have hget:∀j:Nat,arr'[j]?=if j<p then arr[j]? else if j<p+T.size then v.cells[j-p]? else arr[j]?:=by
  intro j
  subst harr
  have:=a0M arr.toList v.cells.toList p j hpn
  rw[hvl]at this
  simpa[hvl]using this
 have hM:=qV (M0:=M0) (ρ:=ρ) (h:=s.h) (id:=id) (r:=r) (r':={r with es:=r.es.modify i (fun e=>u2 e k cs)}) hl rfl
 have hc:∀b' o c,¬p7 M0 ρ s.h b' o→w.cell? ⟨b',o,none⟩=some c→¬p7 M0 ρ (m9 s.h id (.live {r with es:=r.es.modify i (fun e=>u2 e k cs)})) b' o∧(w.setRow b arr').cell? ⟨b',o,none⟩=some c:=by
  intro b' o c g1 g2
  refine⟨fun g=>g1 ((hM b' o).1 g),?_⟩
  by_cases hb:b'=b
  ·subst hb
   rw[cell_setRow_same w _ o arr arr' e (0,0) p3,hget]
   rw[dT p3]at g2
   have hno:¬(p≤o∧o<p+T.size):=by
    rintro⟨q1,q2⟩
    apply g1
    refine .inr ⟨id,r,β,r.sz,hl,p1,?_⟩
    have:r.fro*r.sz≤i*r.sz:=Nat.mul_le_mul_right _ hf
    omega
   by_cases q1:o<p
   ·rw[if_pos q1];exact g2
   ·rw[if_neg q1,if_neg (by omega)];exact g2
  ·rw[cell_setRow_other w b arr' _ hb];exact g2
 have hs:=iD (w:=w) p3 aD
 refine R.step hd (fun _ _ h=>h) hc hs ?_ ?_ ?_ (fE R.U2 p2 _) (by
  intro id' k' cs' h
  by_cases hid:id'=id
  ·subst hid;simp [m9]at h
  ·simpa only[m9,if_neg hid]using h) (by
  intro id' b' q f h
  by_cases hid:id'=id
  ·subst hid;simp [m9]at h
  ·simpa only[m9,if_neg hid]using h) (fun b' es c h=>by
   have hbb:b'≠b:=by intro e;subst e;rw[p3]at h;cases h;cases c
   rw[setRow_other w b b' arr' hbb];exact h) (fun b' o hk h=>by
   have hbb:b'≠b:=by intro e;subst e;rw[R.dH id r _ hl p1]at hk;cases hk
   rw[setRow_other w b b' arr' hbb];exact h) (by
   intro id' r' p h hp
   by_cases hid:id'=id
   ·subst hid;exact R.dH _ r p hl hp
   ·simp only[m9,if_neg hid]at h;exact R.dH id' r' p h hp) (.Z _)
 ·intro id' r' h
  by_cases hid:id'=id
  ·subst hid
   simp only[m9,if_true,RS.live.injEq]at h
   subst h
   refine⟨b,β,arr',e,p1,p2,setRow_heap w b arr arr' e (0,0) p3,by simp;omega,?_,?_⟩
   ·intro q hq
    simp only at hq
    obtain⟨m,hm,hmq⟩:=List.mem_iff_getElem.1 hq
    rw[List.getElem_modify]at hmq
    simp at hm
    split at hmq
    ·subst hmq;rename_i him;subst him
     rw[kW (by rw[p5 _ (List.getElem_mem _)];omega),p5 _ (List.getElem_mem _)]
    ·subst hmq;exact p5 _ (List.getElem_mem _)
   ·intro m j em z c g1 g2 g3
    simp only at g1 g2 g3
    rw[List.getElem?_modify]at g1
    cases hem:r.es[m]? with
    |none=>simp [hem]at g1
    |some em0=>
     rw[hem]at g1
     have hl0:em0.length=r.sz:=p5 _ (List.mem_of_getElem? hem)
     rw[hget]at g3
     by_cases him:i=m
     ·subst him
      simp only[if_true,Option.map_eq_map,Option.map_some,Option.some.injEq]at g1
      subst g1
      rw[vK (by omega)]at g2
      by_cases q1:j<k
      ·rw[if_pos q1]at g2
       rw[if_pos (by omega)]at g3
       exact(p6 i j em0 z c hem g2 g3).mono (fun _ _ h=>h) hc hs
      ·rw[if_neg q1]at g2
       rw[if_neg (by omega)]at g3
       by_cases q2:j<k+cs.length
       ·rw[if_pos q2]at g2
        rw[if_pos (by omega)]at g3
        refine(hvr (j-k) z c g2 ?_).mono (fun _ _ h=>h) hc hs
        rw[←g3];congr 1;omega
       ·rw[if_neg q2]at g2
        rw[if_neg (by omega)]at g3
        exact(p6 i j em0 z c hem g2 g3).mono (fun _ _ h=>h) hc hs
     ·simp only[if_neg him,Option.map_eq_map,Option.map_some,Option.some.injEq]at g1
      subst g1
      have hj:j<r.sz:=by rw[←hl0];exact(List.getElem?_eq_some_iff.1 g2).1
      have hno:¬(p≤β+m*r.sz+j∧β+m*r.sz+j<p+T.size):=by
       rintro⟨q1,q2⟩
       exact b06 (i:=m) (i':=i) (j:=j) (p:=k+(β+m*r.sz+j-p)) (sz:=r.sz) hj (by omega) (Ne.symm him) (by omega)
      refine(p6 m j em0 z c hem g2 ?_).mono (fun _ _ h=>h) hc hs
      by_cases q1:β+m*r.sz+j<p
      ·rw[if_pos q1]at g3;exact g3
      ·rw[if_neg q1,if_neg (by omega)]at g3;exact g3
  ·simp only[m9,if_neg hid]at h
   obtain⟨b',β',arr1,e1,t1,t2,t3,t4,t5,t6⟩:=R.live id' r' h
   have hbb:b'≠b:=by
    intro e
    subst e
    exact hid (R.inj _ _ _ _ _ _ _ _ _ h hl t1 p1)
   exact⟨b',β',arr1,e1,t1,t2,by rw[setRow_other w b b' arr' hbb];exact t3,t4,t5,fun m j em z c g1 g2 g3=>(t6 m j em z c g1 g2 g3).mono (fun _ _ h=>h) hc hs⟩
 ·intro id' h
  by_cases hid:id'=id
  ·subst hid;simp [m9]at h
  ·simp only[m9,if_neg hid]at h;exact R.free _ h
 ·intro i1 i2 r1 r2 b' β1 β2 z1 z2 h1 h2 h3 h4
  have lift:∀i1 r1,m9 s.h id (.live {r with es:=r.es.modify i (fun e=>u2 e k cs)}) i1= .live r1→∃r',s.h i1= .live r':=by
   intro i1 r1 h
   by_cases hid:i1=id
   ·subst hid;exact⟨r,hl⟩
   ·simp only[m9,if_neg hid]at h;exact⟨_,h⟩
  obtain⟨q1,g1⟩:=lift _ _ h1
  obtain⟨q2,g2⟩:=lift _ _ h2
  exact R.inj _ _ _ _ _ _ _ _ _ g1 g2 h3 h4
end
end
section
section
variable {M:Nat→Nat→Prop} {ρ:Nat→Option (Nat×Nat×Nat)} {w:World} {P:Program}
def RC(M:Nat→Nat→Prop)(ρ:Nat→Option (Nat×Nat×Nat))(w:World)(cs:List AV)(vs:Array Value):Prop:=
 vs.size=cs.length∧∀(i:Nat) x u,cs[i]?=some x→vs[i]?=some u→r7 M ρ w x u
def RE(M:Nat→Nat→Prop)(ρ:Nat→Option (Nat×Nat×Nat))(w:World)(sz:Nat)(es:List (List AV))(arr:Array Value):Prop:=
 arr.size=es.length*sz∧(∀e∈es,e.length=sz)∧∀(i j:Nat) e x u,es[i]?=some e→e[j]?=some x→arr[i*sz+j]?=some u→r7 M ρ w x u
theorem a8s(l:List Value):∀(k off:Nat) (cells:Array Value),off+k+l.length≤cells.size→
  let r:=(l.zipIdx k).foldl (fun cs (p:Value×Nat)=>cs.setIfInBounds (off+p.2) p.1) cells
  r.size=cells.size∧∀j:Nat,r[j]?=if j<off+k then cells[j]? else if j<off+k+l.length then l[j-(off+k)]? else cells[j]?:=by
 induction l with
 |nil=>intro k off cells h;refine⟨rfl,fun j=>?_⟩;simp;intro h1 h2;omega
 |cons v l ih=>
  intro k off cells h
  simp only[List.length_cons]at h
  have:=ih (k+1) off (cells.setIfInBounds (off+k) v) (by simp;omega)
  simp only[List.zipIdx_cons,List.foldl_cons]
  obtain⟨h1,h2⟩:=this
  refine⟨by rw[h1];simp,fun j=>?_⟩
  rw[h2]
  simp only[List.length_cons]
  by_cases q1:j<off+k
  ·rw[if_pos (by omega),if_pos q1,Array.getElem?_setIfInBounds_ne (by omega)]
  ·by_cases q2:j=off+k
   ·subst q2
    rw[if_pos (by omega),if_neg q1,if_pos (by omega)]
    have:off+k<cells.size:=by omega
    simp [this]
   ·rw[if_neg (by omega),if_neg q1]
    by_cases q3:j<off+k+(l.length+1)
    ·rw[if_pos (by omega),if_pos q3]
     rw[show j-(off+k)=(j-(off+(k+1)))+1 from by omega]
     simp
    ·rw[if_neg (by omega),if_neg q3,Array.getElem?_setIfInBounds_ne (by omega)]
theorem tN(vs:Array Value)(off:Nat)(cells:Array Value)(h:off+vs.size≤cells.size):
  (vs.zipIdx.foldl (fun cs (p:Value×Nat)=>cs.setIfInBounds (off+p.2) p.1) cells).size=cells.size∧
  ∀j:Nat,(vs.zipIdx.foldl (fun cs (p:Value×Nat)=>cs.setIfInBounds (off+p.2) p.1) cells)[j]?=if j<off then cells[j]? else if j<off+vs.size then vs[j-off]? else cells[j]?:=by
 have:=a8s vs.toList 0 off cells (by simpa using h)
 simp only[Nat.add_zero,Array.length_toList,Array.getElem?_toList]at this
 rw[←Array.foldl_toList,Array.toList_zipIdx]
 exact this
def kT(place:Nat→Option (Nat×Nat))(cells:List AV):List (Nat×AV)→Option (List AV)
 |[]=>some cells
 |(i,x)::rest=>match place i,x.o3 with
  |some (off,size),some cs=>if cs.length=size∧off+size≤cells.length then kT place (u2 cells off cs) rest else none
  |_,_=>none
inductive RP (M:Nat→Nat→Prop) (ρ:Nat→Option (Nat×Nat×Nat)) (w:World):List (Nat×AV)→List (Nat×Value)→Prop
 |nil:RP M ρ w [] []
 |cons (i:Nat) (x:AV) (u:Value) (l l') (h:r7 M ρ w x u) (t:RP M ρ w l l'):RP M ρ w ((i,x)::l) ((i,u)::l')
theorem a47(place:Nat→Option (Nat×Nat)){pa:List (Nat×AV)}{pv:List (Nat×Value)}(hp:RP M ρ w pa pv):∀(cs:List AV) (vs:Array Value) (out:List AV),RC M ρ w cs vs→kT place cs pa=some out→
  ∃vs',Instr.fill place vs pv=some vs'∧RC M ρ w out vs':=by
 induction hp with
 |nil=>intro cs vs out hc h;cases h;exact⟨vs,rfl,hc⟩
 |cons i x u l l' hx _ ih=>
  intro cs vs out hc h
  simp only[kT]at h
  split at h
  ·rename_i off size cs' h1 h2
   split at h
   ·rename_i hh
    obtain⟨g1,g2⟩:=hx.mL h2
    have hfit:off+u.cells.size≤vs.size:=by rw[g1,hc.1];omega
    obtain⟨f1,f2⟩:=tN u.cells off vs hfit
    obtain⟨vs',k1,k2⟩:=ih (u2 cs off cs') (u.cells.zipIdx.foldl (fun cs (p:Value×Nat)=>cs.setIfInBounds (off+p.2) p.1) vs) out (by
     refine⟨by rw[f1,hc.1,kW (by omega)],fun j y c e1 e2=>?_⟩
     rw[f2]at e2
     rw[vK (by omega)]at e1
     by_cases q1:j<off
     ·rw[if_pos q1]at e1 e2;exact hc.2 j y c e1 e2
     ·rw[if_neg q1]at e1 e2
      by_cases q2:j<off+cs'.length
      ·rw[if_pos q2]at e1;rw[if_pos (by omega)]at e2;exact g2 _ y c e1 e2
      ·rw[if_neg q2]at e1;rw[if_neg (by omega)]at e2;exact hc.2 j y c e1 e2) h
    refine⟨vs',?_,k2⟩
    simp only[Instr.fill,h1]
    rw[if_neg (by simp;omega)]
    exact k1
   ·cases h
  ·cases h
def qT(sz:Nat)(es:List (List AV)):List (Nat×AV)→Option (List (List AV))
 |[]=>some es
 |(i,x)::rest=>match x.o3 with
  |some cs=>if cs.length=sz∧i<es.length then qT sz (es.set i cs) rest else none
  |none=>none
theorem a5M{sz:Nat}{pa:List (Nat×AV)}{pv:List (Nat×Value)}(hp:RP M ρ w pa pv):∀(es:List (List AV)) (vs:Array Value) (out:List (List AV)),RE M ρ w sz es vs→qT sz es pa=some out→
  ∃vs',Instr.fill (fun i=>some (i*sz,sz)) vs pv=some vs'∧RE M ρ w sz out vs':=by
 induction hp with
 |nil=>intro cs vs out hc h;cases h;exact⟨vs,rfl,hc⟩
 |cons i x u l l' hx _ ih=>
  intro es vs out hc h
  simp only[qT]at h
  split at h
  ·rename_i cs' h2
   split at h
   ·rename_i hh
    obtain⟨g1,g2⟩:=hx.mL h2
    have hle:(i+1)*sz≤es.length*sz:=Nat.mul_le_mul_right _ hh.2
    rw[Nat.add_mul,Nat.one_mul]at hle
    have hfit:i*sz+u.cells.size≤vs.size:=by rw[g1,hc.1];omega
    obtain⟨f1,f2⟩:=tN u.cells (i*sz) vs hfit
    obtain⟨vs',k1,k2⟩:=ih (es.set i cs') (u.cells.zipIdx.foldl (fun cs (p:Value×Nat)=>cs.setIfInBounds (i*sz+p.2) p.1) vs) out (by
     refine⟨by rw[f1,hc.1];simp,?_,fun m j e y c e1 e2 e3=>?_⟩
     ·intro e he
      rcases List.mem_or_eq_of_mem_set he with he|rfl
      ·exact hc.2.1 e he
      ·exact hh.1
     rw[f2]at e3
     rw[List.getElem?_set]at e1
     by_cases hm:i=m
     ·subst hm
      rw[if_pos rfl,if_pos hh.2]at e1
      cases e1
      have hj:=(List.getElem?_eq_some_iff.1 e2).1
      rw[if_neg (by omega),if_pos (by omega)]at e3
      exact g2 j y c e2 (by rw[←e3];congr 1;omega)
     ·rw[if_neg hm]at e1
      have hl:e.length=sz:=hc.2.1 e (List.mem_of_getElem? e1)
      have hj:j<sz:=by rw[←hl];exact(List.getElem?_eq_some_iff.1 e2).1
      have hno:¬(i*sz≤m*sz+j∧m*sz+j<i*sz+u.cells.size):=by
       rintro⟨q1,q2⟩
       exact b06 (i:=m) (i':=i) (j:=j) (p:=m*sz+j-i*sz) (sz:=sz) hj (by omega) (Ne.symm hm) (by omega)
      refine hc.2.2 m j e y c e1 e2 ?_
      by_cases q1:m*sz+j<i*sz
      ·rw[if_pos q1]at e3;exact e3
      ·rw[if_neg q1,if_neg (by omega)]at e3;exact e3) h
    refine⟨vs',?_,k2⟩
    simp only[Instr.fill]
    rw[if_neg (by simp;omega)]
    exact k1
   ·cases h
  ·cases h
end
end
section
def sQ:AV→Nat→Option AV
 | .ptr id i k,n=>some (.ptr id i (k+n))
 | .dP id i k,n=>some (.dP id i (k+n))
 | .Z9 es i k,n=>match es[i]? with
  |some e=>if k+n<e.length then some (.Z9 es i (k+n))else none
  |none=>none
 |_,_=>none
def qK(T:TI)(cs:List AV)(off:Nat):Option AV:=if off+T.size≤cs.length then A9 T.agg ((cs.drop off).take T.size)else none
def a0R(D:TD)(s:St)(x:AV)(i:Int):Option AV:=
 match D,x with
 | .slice _,.c5 _ es=>if 0≤i∧i<es.length then some (.Z9 es i.toNat 0)else none
 | .slice _,.own id off n=>match s.h id with
  | .live r=>if 0≤i∧i<n∧off+n≤r.es.length then some (.dP id (off+i.toNat) 0)else none
  |_=>none
 | .array n e,.ptr id j k=>if 0≤i∧i<n then some (.dP id j (k+i.toNat*e.size))else none
 | .array n e,.dP id j k=>if 0≤i∧i<n then some (.dP id j (k+i.toNat*e.size))else none
 |_,_=>none
section
variable {G:Gh} {M0:Nat→Nat→Prop} {w0:World} {s:St} {ρ:Nat→Option (Nat×Nat×Nat)} {a:Act} {w:World} {P:Program} {Q:Exit→Act→World→Prop} {M:Nat→Nat→Prop}
theorem Z6{t:TypeId}{T:TI}(h:ti P t=some T)(w:World):∃z,(zeroValue t).run P w= .ok z w∧z.cells.toList=T.zero∧z.cells.size=T.size:=by
 obtain⟨i,d,z,h1,h2,h3,h4,h5,h6,h7,h8,h9⟩:=aG h
 exact⟨z,by simp [zeroValue,typeInfo,h1,h3],h9.symm,h4⟩
theorem X1(b o n:Nat):(⟨b,o,none⟩:Addr).add n=⟨b,o+n,none⟩:=by unfold Addr.add;split<;>simp_all
theorem a2K{x y:AV}{u:Value}{n:Nat}(hx:r7 M ρ w x u)(h:sQ x n=some y):∃b o,u= .pointer (some ⟨b,o,none⟩)∧r7 M ρ w y (.pointer (some ⟨b,o+n,none⟩)):=by
 cases hx with
 |ptr id i k b β sz g=>cases h;exact⟨b,_,rfl,by rw[Nat.add_assoc];exact .ptr id i (k+n) b β sz g⟩
 |dP id i k b β sz g=>cases h;exact⟨b,_,rfl,by rw[Nat.add_assoc];exact .dP id i (k+n) b β sz g⟩
 |Z9 es i k b o sz cell hi hk aD hm hr=>
  simp only[sQ]at h
  have he:es[i]?=some es[i]:=by simp [hi]
  rw[he]at h
  simp only at h
  split at h
  ·rename_i hl
   cases h
   rw[aD _ (List.getElem_mem hi)]at hl
   exact⟨b,_,rfl,by rw[Nat.add_assoc];exact .Z9 es i (k+n) b o sz cell hi hl aD hm hr⟩
  ·cases h
 |_=>simp [sQ]at h
theorem F5{α β:Type}{f:α→Option β}:∀{l:List α} {l':List β},l.mapM f=some l'→∀(i:Nat) y,l'[i]?=some y→∃x,l[i]?=some x∧f x=some y:=by
 intro l
 induction l with
 |nil=>intro l' h i y hy;simp at h;subst h;simp at hy
 |cons a l ih=>
  intro l' h i y hy
  rw[List.mapM_cons]at h
  cases h1:f a with
  |none=>rw[h1]at h;cases h
  |some b=>
   cases h2:l.mapM f with
   |none=>rw[h1,h2]at h;cases h
   |some l2=>
    rw[h1,h2]at h
    cases h
    cases i with
    |zero=>simp at hy;subst hy;exact⟨a,by simp,h1⟩
    |succ i=>simp at hy⊢;exact ih h2 i y hy
theorem a0q{t:TypeId}{fs:List (Nat×TI)}(h:td P t=some (.struct fs)):∃F,P.underlying t=some (.struct F)∧∀(i:Nat) o T,fs[i]?=some (o,T)→∃f,F[i]?=some f∧f.offset=o∧ti P f.type=some T:=by
 unfold td at h
 split at h<;>try(simp at h;done)
 ·rename_i F hF
  refine⟨F,hF,fun i o T hi=>?_⟩
  cases hm:F.toList.mapM (fun f=>(ti P f.type).map fun T=>(f.offset,T))with
  |none=>rw[hm]at h;cases h
  |some l=>
   rw[hm]at h
   cases h
   obtain⟨f,h1,h2⟩:=F5 hm i _ hi
   refine⟨f,by simpa using h1,?_⟩
   cases hT:ti P f.type with
   |none=>rw[hT]at h2;cases h2
   |some T'=>rw[hT]at h2;cases h2;exact⟨rfl,rfl⟩
theorem U1{t:TypeId}{E:TI}(h:td P t=some (.slice E)):∃e,P.underlying t=some (.slice e)∧ti P e=some E:=by
 unfold td at h
 split at h<;>try(simp at h;done)
 ·rename_i e he;cases hT:ti P e<;>rw[hT]at h<;>cases h;exact⟨e,he,hT⟩
theorem oD{t:TypeId}{n:Nat}{E:TI}(h:td P t=some (.array n E)):∃e,P.underlying t=some (.array n e)∧ti P e=some E:=by
 unfold td at h
 split at h<;>try(simp at h;done)
 ·rename_i m e he;cases hT:ti P e<;>rw[hT]at h<;>cases h;exact⟨e,he,hT⟩
theorem wE{t:TypeId}{fs:List (Nat×TI)}{f o:Nat}{T:TI}{x y:AV}{u:Value}(hD:td P t=some (.struct fs))(hf:fs[f]?=some (o,T))(hx:r7 M ρ w x u)(h:sQ x o=some y):
  ∃v,(Instr.fieldAt t u f).run P w= .ok v w∧r7 M ρ w y v:=by
 obtain⟨F,h1,h2⟩:=a0q hD
 obtain⟨F',h3,h4,h5⟩:=h2 f o T hf
 obtain⟨b,p,rfl,hr⟩:=a2K hx h
 obtain⟨i,d,z,k1,k2,k3,k4,k5,k6,_⟩:=aG h5
 refine⟨_,?_,hr⟩
 simp only[Instr.fieldAt,Sem.run_bind,run_underlying h1,Result.andThen_ok,h3,Instr.sureAddr,Sem.run_pure,fieldPlace,D9 h5]
 rw[if_neg k6]
 simp [h4,X1]
theorem uW{t:TypeId}{T:TI}{cs:List AV}{vs:Array Value}{off:Nat}{val:AV}(hT:ti P t=some T)(hn:vs.size=cs.length)(hr:∀(i:Nat) x u,cs[i]?=some x→vs[i]?=some u→r7 M ρ w x u)(h:qK T cs off=some val):
  ∃v,(part t vs off).run P w= .ok v w∧r7 M ρ w val v:=by
 obtain⟨i,d,z,k1,k2,k3,k4,k5,k6,_⟩:=aG hT
 unfold qK at h
 split at h
 ·rename_i hl
  simp only[part,Sem.run_bind,lM hT,Result.andThen_ok]
  unfold A9 at h
  cases hag:T.agg
  ·rw[hag]at h
   simp only[Bool.false_eq_true,if_false]at h⊢
   split at h
   ·rename_i x hx
    cases h
    have hlt:off<vs.size:=by omega
    have hc:cs[off]?=some val:=by
     have:((cs.drop off).take T.size)[0]?=some val:=by rw[hx];rfl
     rw[List.getElem?_take,if_pos (by omega),List.getElem?_drop]at this
     simpa using this
    have hv:vs[off]?=some vs[off]:=by simp [hlt]
    rw[hv]
    exact⟨_,rfl,hr off val _ hc hv⟩
   ·cases h
  ·rw[hag]at h
   simp only[if_true,Option.some.injEq]at h⊢
   subst h
   simp only[Sem.run_bind,D9 hT,Result.andThen_ok,Sem.run_pure]
   refine⟨_,rfl,.agg _ _ ?_ ?_⟩
   ·simp;omega
   ·intro j x u h1 h2
    have hj:j<T.size:=by have:=(List.getElem?_eq_some_iff.1 h1).1;simp at this;omega
    rw[List.getElem?_take,if_pos hj,List.getElem?_drop]at h1
    rw[Array.getElem?_extract]at h2
    split at h2
    ·exact hr _ x u h1 h2
    ·cases h2
 ·cases h
theorem a3j{t:TypeId}{fs:List (Nat×TI)}{f o:Nat}{T:TI}{cs:List AV}{val:AV}{u:Value}(hD:td P t=some (.struct fs))(hf:fs[f]?=some (o,T))(hx:r7 M ρ w (.agg cs) u)(h:qK T cs o=some val):
  ∃v,(Instr.field t u f).run P w= .ok v w∧r7 M ρ w val v:=by
 obtain⟨F,h1,h2⟩:=a0q hD
 obtain⟨F',h3,h4,h5⟩:=h2 f o T hf
 cases hx with
 |agg _ vs hn hr=>
  obtain⟨v,g1,g2⟩:=uW (w:=w) h5 hn hr h
  refine⟨v,?_,g2⟩
  simp only[Instr.field,Sem.run_bind,run_underlying h1,Result.andThen_ok,h3,asAgg,Sem.run_pure,h4]
  exact g1
theorem a3w{t:TypeId}{n:Nat}{E:TI}{cs:List AV}{val:AV}{u:Value}{k:IntKind}{i:Int}(hD:td P t=some (.array n E))(hi:0≤i∧i<n)(hx:r7 M ρ w (.agg cs) u)(h:qK E cs (i.toNat*E.size)=some val):
  ∃v,(Instr.index t u (.int k i)).run P w= .ok v w∧r7 M ρ w val v:=by
 obtain⟨e,h1,h2⟩:=oD hD
 cases hx with
 |agg _ vs hn hr=>
  obtain⟨v,g1,g2⟩:=uW (w:=w) h2 hn hr h
  refine⟨v,?_,g2⟩
  simp only[Instr.index,Sem.run_bind,asIntOf,Sem.run_pure,run_underlying h1,Result.andThen_ok]
  rw[if_pos hi]
  simp only[Sem.run_bind,D9 h2,Result.andThen_ok]
  exact g1
theorem a5g (R:Rel G M0 w0 s ρ a w) {t:TypeId} {D:TD} {x y:AV} {u:Value} {k:IntKind} {i:Int} (hD:td P t=some D) (hx:r7 (p7 M0 ρ s.h) ρ w x u)
  (hE:∀e,D= .slice e→∀c es,x= .c5 c es→∀z∈es,z.length=e.size) (hE2:∀e,D= .slice e→∀id off n r,x= .own id off n→s.h id= .live r→r.sz=e.size) (h:a0R D s x i=some y):
  ∃v,(Instr.indexAt t u (.int k i)).run P w= .ok v w∧r7 (p7 M0 ρ s.h) ρ w y v:=by
 unfold a0R at h
 split at h
 ·rename_i E c es
  obtain⟨e,h1,h2⟩:=U1 hD
  split at h
  ·rename_i hi
   cases h
   have hlen:=hE E rfl c es rfl
   cases hx with
   |c5 _ _ a cap b o sz cell hc oH aD ha hm hr=>
    have hne:es≠[]:=by intro e;subst e;simp at hi;omega
    have hin:i.toNat<es.length:=by omega
    have hsz':sz=E.size:=by rw[←aD _ (List.getElem_mem hin),hlen _ (List.getElem_mem hin)]
    have ha':=ha hne
    subst ha'
    obtain⟨q,d,z,k1,k2,k3,k4,k5,k6,_⟩:=aG h2
    refine⟨.pointer (some ⟨b,o+i.toNat*sz,none⟩),?_,.Z9 es i.toNat 0 b o sz cell hin (by omega) aD hm hr⟩
    simp only[Instr.indexAt,Sem.run_bind,asIntOf,Sem.run_pure,run_underlying h1,Result.andThen_ok]
    rw[if_pos hi]
    simp only[Sem.run_bind,D9 h2,Result.andThen_ok,Sem.run_pure,X1,hsz']
  ·cases h
 ·rename_i E id off n
  obtain⟨e,h1,h2⟩:=U1 hD
  split at h
  ·rename_i r hr
   split at h
   ·rename_i hi
    cases h
    have hz:=hE2 E rfl id off n r rfl hr
    cases hx with
    |own _ _ _ cap b β sz N e' g1 g2 g3 g4=>
     obtain⟨b',β',arr,e2,p1,_⟩:=R.live id r hr
     rw[g1]at p1
     cases p1
     refine⟨.pointer (some ⟨b,β+(off+i.toNat)*r.sz,none⟩),?_,.dP id (off+i.toNat) 0 b β r.sz g1⟩
     simp only[Instr.indexAt,Sem.run_bind,asIntOf,Sem.run_pure,run_underlying h1,Result.andThen_ok]
     rw[if_pos ⟨hi.1,hi.2.1⟩]
     simp only[Sem.run_bind,D9 h2,Result.andThen_ok,Sem.run_pure,X1,←hz]
     rw[Nat.add_mul,Nat.add_assoc]
   ·cases h
  ·cases h
 ·rename_i n E id j kk
  obtain⟨e,h1,h2⟩:=oD hD
  split at h
  ·rename_i hi
   cases h
   cases hx with
   |ptr _ _ _ b β sz g=>
    refine⟨.pointer (some ⟨b,β+j*sz+(kk+i.toNat*E.size),none⟩),?_,.dP id j _ b β sz g⟩
    simp only[Instr.indexAt,Sem.run_bind,asIntOf,Sem.run_pure,run_underlying h1,Result.andThen_ok,Instr.sureAddr]
    rw[if_pos hi]
    simp only[Sem.run_bind,D9 h2,Result.andThen_ok,Sem.run_pure,X1,Nat.add_assoc]
  ·cases h
 ·rename_i n E id j kk
  obtain⟨e,h1,h2⟩:=oD hD
  split at h
  ·rename_i hi
   cases h
   cases hx with
   |dP _ _ _ b β sz g=>
    refine⟨.pointer (some ⟨b,β+j*sz+(kk+i.toNat*E.size),none⟩),?_,.dP id j _ b β sz g⟩
    simp only[Instr.indexAt,Sem.run_bind,asIntOf,Sem.run_pure,run_underlying h1,Result.andThen_ok,Instr.sureAddr]
    rw[if_pos hi]
    simp only[Sem.run_bind,D9 h2,Result.andThen_ok,Sem.run_pure,X1,Nat.add_assoc]
  ·cases h
 ·cases h
end
end
section
def iE(x:AV)(l:Int)(hi mx:Option Int):Option AV:=
 match x with
 | .c5 c es=>
  let h:=hi.getD es.length
  if 0≤l∧l≤h∧h≤es.length then
   match mx with
   |none=>some (.c5 (c&&decide (h=es.length)) ((es.drop l.toNat).take (h-l).toNat))
   |some m=>if hi.isSome∧h≤m∧m≤es.length then some (.c5 (decide (m=h)) ((es.drop l.toNat).take (h-l).toNat))else none
  else none
 | .own id off n=>
  let h:=hi.getD n
  if 0≤l∧l≤h∧h≤n then
   match mx with
   |none=>if l<h∨l=0 then some (.own id (off+l.toNat) (h-l).toNat)else some (.c5 false [])
   |some m=>if hi.isSome∧h≤m∧m≤n then(if l<h∨l=0 then some (.own id (off+l.toNat) (h-l).toNat)else some (.c5 false []))else none
  else none
 |_=>none
section
variable {G:Gh} {M0:Nat→Nat→Prop} {w0:World} {s:St} {ρ:Nat→Option (Nat×Nat×Nat)} {a:Act} {w:World} {P:Program} {Q:Exit→Act→World→Prop} {M:Nat→Nat→Prop}
theorem N3{k:IntKind}{i:Int}{y:Nat}{c:BoundsCode}(h0:0≤i)(h1:i≤y):(Instr.sliceBound (.int k i) y c).run P w= .ok i.toNat w:=by
 simp only[Instr.sliceBound,asIntOf,Sem.run_bind,Sem.run_pure,Result.andThen_ok]
 rw[if_pos ⟨h0,h1⟩]
 rfl
def isB(v:Option Value)(i:Int)(d:Int):Prop:=(v=none∧i=d)∨∃k,v=some (.int k i)
theorem a5K {len cap:Nat} {lo hi mx:Option Value} {l:Int} {ho mo:Option Int} (hl:isB lo l 0) (hh:(hi=none∧ho=none)∨∃k h,hi=some (.int k h)∧ho=some h) (hm:(mx=none∧mo=none)∨∃k m,mx=some (.int k m)∧mo=some m)
  (hs:mo.isSome→ho.isSome) (h1:0≤l) (h2:l≤ho.getD len) (h3:ho.getD len≤mo.getD cap) (h4:mo.getD cap≤cap):
  (Instr.sliceBounds true len cap lo hi mx).run P w= .ok (l.toNat,(ho.getD len).toNat,(mo.getD cap).toNat) w:=by
 unfold Instr.sliceBounds
 rcases hm with⟨rfl,rfl⟩|⟨km,m,rfl,rfl⟩
 ·rcases hh with⟨rfl,rfl⟩|⟨kh,h,rfl,rfl⟩
  ·rcases hl with⟨rfl,rfl⟩|⟨kl,rfl⟩
   ·simp
   ·simp at h2
    simp [N3 h1 h2]
  ·simp at h2 h3
   have hb:=N3 (P:=P) (w:=w) (k:=kh) (i:=h) (y:=cap) (c:= .sliceAcap) (by omega) h3
   rcases hl with⟨rfl,rfl⟩|⟨kl,rfl⟩
   ·simp [hb]
   ·have hb2:=N3 (P:=P) (w:=w) (k:=kl) (i:=l) (y:=h.toNat) (c:= .sliceB) h1 (by omega)
    simp [hb,hb2]
 ·rcases hh with⟨rfl,rfl⟩|⟨kh,h,rfl,rfl⟩
  ·simp at hs
  ·simp at h2 h3 h4
   have hb0:=N3 (P:=P) (w:=w) (k:=km) (i:=m) (y:=cap) (c:= .slice3Acap) (by omega) h4
   have hb:=N3 (P:=P) (w:=w) (k:=kh) (i:=h) (y:=m.toNat) (c:= .slice3B) (by omega) (by omega)
   rcases hl with⟨rfl,rfl⟩|⟨kl,rfl⟩
   ·simp [hb0,hb]
   ·have hb2:=N3 (P:=P) (w:=w) (k:=kl) (i:=l) (y:=h.toNat) (c:= .slice3C) h1 (by omega)
    simp [hb0,hb,hb2]
theorem Y1{α:Type}(l:List α)(p n j:Nat):((l.drop p).take n)[j]?=if j<n then l[p+j]? else none:=by
 rw[List.getElem?_take];split
 ·rw[List.getElem?_drop]
 ·rfl
theorem a4h {t:TypeId} {E:TI} {x y:AV} {u:Value} {lo hi mx:Option Value} {l:Int} {ho mo:Option Int} (hD:td P t=some (.slice E)) (hx:r7 M ρ w x u)
  (hE:∀c es,x= .c5 c es→∀z∈es,z.length=E.size) (hE2:∀id off n,x= .own id off n→∀b β sz,ρ id=some (b,β,sz)→sz=E.size) (hl:isB lo l 0) (hh:(hi=none∧ho=none)∨∃k h,hi=some (.int k h)∧ho=some h) (hm:(mx=none∧mo=none)∨∃k m,mx=some (.int k m)∧mo=some m)
  (h:iE x l ho mo=some y):∃v,(Instr.sliceAt t u lo hi mx).run P w= .ok v w∧r7 M ρ w y v:=by
 obtain⟨e,h1,h2⟩:=U1 hD
 have hrun:∀(a:Option Addr) (len cap:Nat) (hs:mo.isSome→ho.isSome) (q1:0≤l) (q2:l≤ho.getD len) (q3:ho.getD len≤mo.getD cap) (q4:mo.getD cap≤cap),
   (Instr.sliceAt t (.slice a len cap) lo hi mx).run P w= .ok (.slice (if(mo.getD cap).toNat=l.toNat then a else a.map (·.add (l.toNat*E.size))) ((ho.getD len).toNat-l.toNat) ((mo.getD cap).toNat-l.toNat)) w:=by
  intro a len cap hs q1 q2 q3 q4
  simp only[Instr.sliceAt,Sem.run_bind,run_underlying h1,Result.andThen_ok,Instr.slice,a5K hl hh hm hs q1 q2 q3 q4,D9 h2,Sem.run_pure]
 cases hx with
 |c5 c es a cap b o sz cell hc oH aD ha hmm hr=>
  have fin:∀(c':Bool) (hs:mo.isSome→ho.isSome) (q1:0≤l) (q2:l≤ho.getD es.length) (q3:ho.getD es.length≤mo.getD cap) (q4:mo.getD cap≤cap) (q5:ho.getD es.length≤es.length) (q6:c'=true→mo.getD cap=ho.getD es.length),
    ∃v,(Instr.sliceAt t (.slice a es.length cap) lo hi mx).run P w= .ok v w∧r7 M ρ w (.c5 c' ((es.drop l.toNat).take (ho.getD es.length-l).toNat)) v:=by
   intro c' hs q1 q2 q3 q4 q5 q6
   refine⟨_,hrun a es.length cap hs q1 q2 q3 q4,?_⟩
   have hlen:((es.drop l.toNat).take (ho.getD es.length-l).toNat).length=(ho.getD es.length).toNat-l.toNat:=by simp;omega
   rw[←hlen]
   by_cases hemp:(es.drop l.toNat).take (ho.getD es.length-l).toNat=[]
   ·rw[hemp]at hlen⊢
    exact .c5 c' [] _ _ 0 0 0 (fun _ _=>undef) (by simp) (fun hc'=>by have:=q6 hc';simp at hlen⊢;omega) (by simp) (by simp) (by simp) (by simp)
   ·have hpos:0<(ho.getD es.length).toNat-l.toNat:=by rw[←hlen];exact List.length_pos_iff.2 hemp
    have hne:es≠[]:=by intro e;subst e;simp at hemp
    have hlt:l.toNat<es.length:=by omega
    have hszE:sz=E.size:=by rw[←aD _ (List.getElem_mem hlt),hE c es rfl _ (List.getElem_mem hlt)]
    have ha':=ha hne
    subst ha'
    refine .c5 c' _ _ _ b (o+l.toNat*sz) sz (fun i j=>cell (l.toNat+i) j) (by rw[hlen];omega) (fun hc'=>by have:=q6 hc';rw[hlen];omega) ?_ ?_ ?_ ?_
    ·intro z hz;exact aD z (List.mem_of_mem_drop (List.mem_of_mem_take hz))
    ·intro _
     rw[if_neg (by omega)]
     simp [X1,hszE]
    ·intro i j hi hj
     have:=hmm (l.toNat+i) j (by rw[hlen]at hi;omega) hj
     rw[Nat.add_mul,←Nat.add_assoc]at this
     exact this
    ·intro i j z x g1 g2
     rw[Y1]at g1
     split at g1
     ·exact hr _ j z x g1 g2
     ·cases g1
  simp only[iE]at h
  split at h
  ·rename_i hb
   split at h
   ·rename_i hmx
    cases h
    refine fin _ (by simp) hb.1 hb.2.1 (by simp;omega) (by simp) hb.2.2 ?_
    intro hc'
    simp at hc'
    have:=oH hc'.1
    simp;omega
   ·rename_i m hmx
    split at h
    ·rename_i hm2
     cases h
     refine fin _ (fun _=>hm2.1) hb.1 hb.2.1 (by simpa using hm2.2.1) (by simp;omega) hb.2.2 ?_
     intro hc';simpa using hc'
    ·cases h
  ·cases h
 |own id off n cap b β sz N e' g1 g2 g3 g4=>
  have hszE:=hE2 id off n rfl b β sz g1
  have fin:∀(hs:mo.isSome→ho.isSome) (q1:0≤l) (q2:l≤ho.getD n) (q3:ho.getD n≤mo.getD cap) (q4:mo.getD cap≤cap) (q5:ho.getD n≤n),(if l<ho.getD n∨l=0 then some (AV.own id (off+l.toNat) (ho.getD n-l).toNat)else some (.c5 false []))=some y→
    ∃v,(Instr.sliceAt t (.slice (some ⟨b,β+off*sz,none⟩) n cap) lo hi mx).run P w= .ok v w∧r7 M ρ w y v:=by
   intro hs q1 q2 q3 q4 q5 hy
   refine⟨_,hrun _ n cap hs q1 q2 q3 q4,?_⟩
   have hlen:(ho.getD n).toNat-l.toNat=(ho.getD n-l).toNat:=by omega
   rw[hlen]
   split at hy
   ·rename_i hc
    cases hy
    have haddr:(if(mo.getD cap).toNat=l.toNat then some (⟨b,β+off*sz,none⟩:Addr)else(some (⟨b,β+off*sz,none⟩:Addr)).map (·.add (l.toNat*E.size)))=some ⟨b,β+(off+l.toNat)*sz,none⟩:=by
     split
     ·rename_i he
      have:l.toNat=0:=by rcases hc with hc|hc<;>omega
      rw[this];simp
     ·simp only[Option.map_some,X1,hszE,Nat.add_mul,Nat.add_assoc]
    rw[haddr]
    refine .own id _ _ _ b β sz N e' g1 (by omega) g3 ?_
    have:(off+l.toNat+((mo.getD cap).toNat-l.toNat))≤off+cap:=by omega
    have:=Nat.mul_le_mul_right sz this
    omega
   ·rename_i hc
    cases hy
    have hz:(ho.getD n-l).toNat=([]:List (List AV)).length:=by simp;omega
    rw[hz]
    exact .c5 false [] _ _ 0 0 0 (fun _ _=>undef) (by simp) (by simp) (by simp) (by simp) (by simp) (by simp)
  simp only[iE]at h
  split at h
  ·rename_i hb
   split at h
   ·exact fin (by simp) hb.1 hb.2.1 (by simp;omega) (by simp) hb.2.2 h
   ·rename_i m hmx
    split at h
    ·rename_i hm2
     exact fin (fun _=>hm2.1) hb.1 hb.2.1 (by simpa using hm2.2.1) (by simp;omega) hb.2.2 h
    ·cases h
  ·cases h
 |_=>simp [iE]at h
end
end
section
section
variable {G:Gh} {M0:Nat→Nat→Prop} {w0:World} {s:St} {ρ:Nat→Option (Nat×Nat×Nat)} {a:Act} {w:World} {P:Program} {Q:Exit→Act→World→Prop} {M:Nat→Nat→Prop}
def newρ(ρ:Nat→Option (Nat×Nat×Nat))(nid b sz:Nat):Nat→Option (Nat×Nat×Nat):=fun i=>if i=nid then some (b,0,sz)else ρ i
theorem Rel.b1L(R:Rel G M0 w0 s ρ a w){d:Option Tmp}{nid:Nat}{cs:List AV}{arr:Array Value}{e:TypeId}(hd:L3 s d)(hf:s.h nid= .free)(hr:RC (p7 M0 ρ s.h) ρ w cs arr):
  Rel G M0 w0 {s.put d (.ptr nid 0 0)with h:=m9 s.h nid (.live ⟨cs.length,[cs],0⟩)} (newρ ρ nid w.heap.size cs.length) (a.put d (.pointer (some ⟨w.heap.size,0,none⟩))) (w.alloc (.cells arr e)):=by
 refine R.newRow (r:=⟨cs.length,[cs],0⟩) hd hf (by simp [hr.1]) (by simp) ?_ ?_
 ·intro i j e' x u h1 h2 h3
  cases i with
  |zero=>simp at h1 h3;subst h1;exact hr.2 j x u h2 h3
  |succ i=>simp at h1
 ·have:=r7.ptr (M:=p7 M0 (fun i=>if i=nid then some (w.heap.size,0,cs.length)else ρ i) (m9 s.h nid (.live ⟨cs.length,[cs],0⟩))) (ρ:=fun i=>if i=nid then some (w.heap.size,0,cs.length)else ρ i) (w:=w.alloc (.cells arr e)) nid 0 0 w.heap.size 0 cs.length (by simp)
  simpa using this
theorem a4g(w:World)(arr:Array Value)(e:TypeId):(w.alloc (.cells arr e)).shape? w.heap.size=some (e,arr.size):=by
 have h:(w.alloc (.cells arr e)).heap[w.heap.size]?=some (.cells arr e):=heap_alloc_new w _
 simp only[World.shape?,h]
theorem Rel.a07 (R:Rel G M0 w0 s ρ a w) {d:Option Tmp} {nid n cap sz fro:Nat} {es:List (List AV)} {arr:Array Value} {e:TypeId} (hd:L3 s d) (hf:s.h nid= .free) (hes:∀x∈es,x.length=sz)
  (hr:∀(i j:Nat) e x u,es[i]?=some e→e[j]?=some x→arr[i*sz+j]?=some u→r7 (p7 M0 ρ s.h) ρ w x u) (hn:es.length=n) (hc:n≤cap) (aD:cap*sz≤arr.size):
  Rel G M0 w0 {s.put d (.own nid 0 n)with h:=m9 s.h nid (.live ⟨sz,es,fro⟩)} (newρ ρ nid w.heap.size sz) (a.put d (.slice (some ⟨w.heap.size,0,none⟩) n cap)) (w.alloc (.cells arr e)):=by
 refine R.newRow (r:=⟨sz,es,fro⟩) hd hf (by have:=Nat.mul_le_mul_right sz hc;simp [hn];omega) hes hr ?_
 have:=r7.own (M:=p7 M0 (fun i=>if i=nid then some (w.heap.size,0,sz)else ρ i) (m9 s.h nid (.live ⟨sz,es,fro⟩))) (ρ:=fun i=>if i=nid then some (w.heap.size,0,sz)else ρ i) (w:=w.alloc (.cells arr e)) nid 0 n cap w.heap.size 0 sz arr.size e (by simp) hc (a4g w arr e) (by simpa using aD)
 simpa using this
theorem a2O(R:Rel G M0 w0 s ρ a w){d:Option Tmp}{nid:Nat}{e:TypeId}{T:TI}(hd:L3 s d)(hf:s.h nid= .free)(hT:ti P e=some T):
  ∃v w' ρ',(Instr.alloc e true (.tuple #[])).run P w= .ok v w'∧Rel G M0 w0 {s.put d (.ptr nid 0 0)with h:=m9 s.h nid (.live ⟨T.size,[T.zero.map AV.J5],0⟩)} ρ' (a.put d v) w':=by
 obtain⟨z,h1,h2,h3⟩:=Z6 hT w
 have hl:(T.zero.map AV.J5).length=T.size:=by rw[List.length_map,←h2];simpa using h3
 have hr:RC (p7 M0 ρ s.h) ρ w (T.zero.map AV.J5) z.cells:=by
  refine⟨by rw[h3,hl],fun i x u g1 g2=>?_⟩
  rw[←h2,List.getElem?_map]at g1
  have:z.cells.toList[i]?=some u:=by simpa using g2
  rw[this]at g1
  cases g1
  exact .J5 u
 have:=R.b1L (e:=e) hd hf hr
 rw[hl]at this
 refine⟨_,_,_,?_,this⟩
 simp [Instr.alloc,h1,newVar,newRow]
theorem a71(R:Rel G M0 w0 s ρ a w){d:Option Tmp}{nid:Nat}{e:TypeId}{x:AV}{u:Value}{cs:List AV}(hd:L3 s d)(hf:s.h nid= .free)(hx:r7 (p7 M0 ρ s.h) ρ w x u)(hcs:x.o3=some cs):
  ∃v w' ρ',(Instr.box e u).run P w= .ok v w'∧Rel G M0 w0 {s.put d (.ptr nid 0 0)with h:=m9 s.h nid (.live ⟨cs.length,[cs],0⟩)} ρ' (a.put d v) w':=by
 have hr:=hx.mL hcs
 refine⟨_,_,_,?_,R.b1L (e:=e) hd hf hr⟩
 simp [Instr.box,newVar,newRow]
theorem a9C(z:Array Value)(sz n i j:Nat)(hz:z.size=sz)(hi:i<n)(hj:j<sz):((Array.range (n*sz)).map (z[· %z.size]!))[i*sz+j]?=z[j]?:=by
 have hlt:i*sz+j<n*sz:=by
  have:(i+1)*sz≤n*sz:=Nat.mul_le_mul_right _ hi
  rw[Nat.add_mul]at this;omega
 have hmod:(i*sz+j)%sz=j:=by rw[Nat.mul_comm,Nat.mul_add_mod,Nat.mod_eq_of_lt hj]
 rw[Array.getElem?_map,Array.getElem?_range]
 simp [hlt,hz,hmod,hj]
theorem a55{T:TI}{z:Value}(h2:z.cells.toList=T.zero)(h3:z.cells.size=T.size)(n:Nat):RE M ρ w T.size (List.replicate n (T.zero.map AV.J5)) ((Array.range (n*T.size)).map (z.cells[· %z.cells.size]!)):=by
 have hl:(T.zero.map AV.J5).length=T.size:=by rw[List.length_map,←h2];simpa using h3
 refine⟨by simp,fun e he=>by rw[List.eq_of_mem_replicate he,hl],fun i j e x u g1 g2 g3=>?_⟩
 have hi:i<n:=by simpa using(List.getElem?_eq_some_iff.1 g1).1
 have he:e=T.zero.map AV.J5:=List.eq_of_mem_replicate (List.mem_of_getElem? g1)
 subst he
 have hj:j<T.size:=by rw[←hl];exact(List.getElem?_eq_some_iff.1 g2).1
 rw[a9C _ _ _ _ _ h3 hi hj]at g3
 rw[←h2,List.getElem?_map]at g2
 have:z.cells.toList[j]?=some u:=by simpa using g3
 rw[this]at g2
 cases g2
 exact .J5 u
theorem qS(R:Rel G M0 w0 s ρ a w){d:Option Tmp}{nid:Nat}{t:TypeId}{E:TI}{k k':IntKind}{n:Int}(hd:L3 s d)(hf:s.h nid= .free)(hD:td P t=some (.slice E))(hn:0≤n)(hb:E.bytes*n≤140737488355328)(hn2:n≤140737488355328):
  ∃v w' ρ',(Instr.makeSlice t (.int k n) (.int k' n)).run P w= .ok v w'∧Rel G M0 w0 {s.put d (.own nid 0 n.toNat)with h:=m9 s.h nid (.live ⟨E.size,List.replicate n.toNat (E.zero.map AV.J5),0⟩)} ρ' (a.put d v) w':=by
 obtain⟨e,h1,h2⟩:=U1 hD
 obtain⟨i,dd,z0,k1,k2,k3,k4,k5,k6,k7,k8,k9⟩:=aG h2
 obtain⟨z,z1,z2,z3⟩:=Z6 h2 w
 have hw:IntKind.i64.wrap n=n:=by simp [IntKind.wrap,IntKind.bits,IntKind.signed];omega
 have hRE:=a55 (M:=p7 M0 ρ s.h) (ρ:=ρ) (w:=w) z2 z3 n.toNat
 have key:∀arr:Array Value,arr=(Array.range (n.toNat*E.size)).map (z.cells[· %z.cells.size]!)→
   (Instr.makeSlice t (.int k n) (.int k' n)).run P w= .ok (.slice (some ⟨w.heap.size,0,none⟩) n.toNat n.toNat) (w.alloc (.cells arr e)):=by
  intro arr ha
  have hty:(typeInfo e).run P w= .ok i w:=by simp [typeInfo,k1]
  simp only[Instr.makeSlice,Sem.run_bind,run_underlying h1,Result.andThen_ok,asInt,asIntOf,Sem.run_pure,hty,hw]
  rw[if_neg (by simp [k8];omega)]
  simp only[Sem.run_bind,run_askRoom,Result.andThen_ok,D9 h2]
  by_cases h0:n.toNat*E.size=0
  ·rw[if_pos h0]
   have hz:((Array.range (n.toNat*E.size)).map ((#[]:Array Value)[· %(#[]:Array Value).size]!))=(Array.range (n.toNat*E.size)).map (z.cells[· %z.cells.size]!):=by rw[h0];simp
   simp only[Sem.run_pure,Result.andThen_ok,newRow,Sem.run_bind,run_newObj,hz]
   subst ha
   rfl
  ·rw[if_neg h0]
   simp only[Sem.run_bind,Sem.run_pure,Result.andThen_ok,newRow,run_newObj,z1]
   subst ha
   rfl
 have hR:=R.a07 (d:=d) (nid:=nid) (n:=n.toNat) (cap:=n.toNat) (sz:=E.size) (fro:=0) (e:=e) hd hf hRE.2.1 hRE.2.2 (by simp) (Nat.le_refl _) (by simp)
 exact⟨_,_,_,key _ rfl,hR⟩
theorem oQ (R:Rel G M0 w0 s ρ a w) {d:Option Tmp} {nid:Nat} {t:TypeId} {E:TI} {n:Nat} {pa:List (Nat×AV)} {pv:Array (Nat×Value)} {es:List (List AV)} (hd:L3 s d) (hf:s.h nid= .free) (hD:td P t=some (.slice E)) (hp:RP (p7 M0 ρ s.h) ρ w pa pv.toList)
  (hn:n*E.size≤16777216) (hs:qT E.size (List.replicate n (E.zero.map AV.J5)) pa=some es):
  ∃v w' ρ',(Instr.buildSlice t n pv).run P w= .ok v w'∧Rel G M0 w0 {s.put d (.own nid 0 n)with h:=m9 s.h nid (.live ⟨E.size,es,0⟩)} ρ' (a.put d v) w':=by
 obtain⟨e,h1,h2⟩:=U1 hD
 obtain⟨z,z1,z2,z3⟩:=Z6 h2 w
 obtain⟨vs,g1,g2⟩:=a5M hp _ _ _ (a55 (M:=p7 M0 ρ s.h) (ρ:=ρ) (w:=w) z2 z3 n) hs
 have hlen:es.length=n:=by
  have key:∀(pa:List (Nat×AV)) (es0 es:List (List AV)),qT E.size es0 pa=some es→es.length=es0.length:=by
   intro pa
   induction pa with
   |nil=>intro es0 es h;cases h;rfl
   |cons p pa ih=>
    intro es0 es h
    obtain⟨i,x⟩:=p
    simp only[qT]at h
    split at h
    ·split at h
     ·rw[ih _ _ h];simp
     ·cases h
    ·cases h
  rw[key _ _ _ hs];simp
 have hrun:(Instr.buildSlice t n pv).run P w= .ok (.slice (some ⟨w.heap.size,0,none⟩) n n) (w.alloc (.cells vs e)):=by
  simp only[Instr.buildSlice,Sem.run_bind,run_underlying h1,Result.andThen_ok,D9 h2]
  rw[if_neg (by simp;omega)]
  by_cases h0:n*E.size=0
  ·have hz:((Array.range (n*E.size)).map ((#[]:Array Value)[· %(#[]:Array Value).size]!))=(Array.range (n*E.size)).map (z.cells[· %z.cells.size]!):=by rw[h0];simp
   rw[if_pos h0]
   simp only[Sem.run_bind,Sem.run_pure,Result.andThen_ok,hz,g1,newRow,run_newObj]
   rfl
  ·rw[if_neg h0]
   simp only[Sem.run_bind,Sem.run_pure,Result.andThen_ok,z1,g1,newRow,run_newObj]
   rfl
 exact⟨_,_,_,hrun,R.a07 hd hf g2.2.1 g2.2.2 hlen (Nat.le_refl _) (by rw[g2.1,hlen];exact Nat.le_refl _)⟩
def u4(D:TD)(i:Nat):Option (Nat×Nat):=
 match D with
 | .struct fs=>(fs[i]?).map fun p=>(p.1,p.2.size)
 | .array _ e=>some (i*e.size,e.size)
 |_=>none
end
end
section
def lT(s:St):AV→Option (List (List AV))
 | .c5 _ es=>some es
 | .own id off n=>match s.h id with
  | .live r=>if off+n≤r.es.length then some ((r.es.drop off).take n)else none
  |_=>none
 |_=>none
section
variable {G:Gh} {M0:Nat→Nat→Prop} {w0:World} {s:St} {ρ:Nat→Option (Nat×Nat×Nat)} {a:Act} {w:World} {P:Program} {Q:Exit→Act→World→Prop} {M:Nat→Nat→Prop}
theorem b0O(sz:Nat)(aD:0<sz)(n:Nat)(f:Nat→Nat→Value)(i j:Nat)(hi:i<n)(hj:j<sz):((List.range (n*sz)).map fun k=>f (k / sz) (k%sz))[i*sz+j]?=some (f i j):=by
 have hlt:i*sz+j<n*sz:=by
  have:(i+1)*sz≤n*sz:=Nat.mul_le_mul_right _ hi
  rw[Nat.add_mul]at this;omega
 have hmod:(i*sz+j)%sz=j:=by rw[Nat.mul_comm,Nat.mul_add_mod,Nat.mod_eq_of_lt hj]
 have hdiv:(i*sz+j) / sz=i:=by rw[Nat.mul_comm,Nat.mul_add_div aD,Nat.div_eq_of_lt hj];omega
 simp [hlt,hmod,hdiv]
theorem gH(R:Rel G M0 w0 s ρ a w){x:AV}{u:Value}{ys:List (List AV)}{sz:Nat}(hx:r7 (p7 M0 ρ s.h) ρ w x u)(h:lT s x=some ys)(hpos:0<sz)(aD:∀e∈ys,e.length=sz)(hown:∀id off n r,x= .own id off n→s.h id= .live r→r.sz=sz):
  ∃(b:Option Addr) (cap:Nat) (news:List Value),u= .slice b ys.length cap∧(b=none→ys=[])∧news.length=ys.length*sz∧(∀A,b=some A→∀j v,news[j]?=some v→w.cell? (A.add j)=some v)∧
   ∀(i j:Nat) e y v,ys[i]?=some e→e[j]?=some y→news[i*sz+j]?=some v→r7 (p7 M0 ρ s.h) ρ w y v:=by
 cases hx with
 |c5 c es aa cap b o sz' cell hc oH hsz' ha hm hr=>
  simp only[lT,Option.some.injEq]at h
  subst h
  by_cases hne:es=[]
  ·subst hne
   exact⟨aa,cap,[],rfl,fun _=>rfl,by simp,by simp,by simp⟩
  ·have ha':=ha hne
   subst ha'
   have h0:0<es.length:=List.length_pos_iff.2 hne
   have hzz:sz'=sz:=by rw[←hsz' _ (List.getElem_mem h0),aD _ (List.getElem_mem h0)]
   subst hzz
   refine⟨_,cap,(List.range (es.length*sz')).map (fun k=>cell (k / sz') (k%sz')),rfl,by simp,by simp,?_,?_⟩
   ·intro A hA j v hj
    cases hA
    have hlt:j<es.length*sz':=by simpa using(List.getElem?_eq_some_iff.1 hj).1
    simp [hlt]at hj
    subst hj
    have h1:j / sz'<es.length:=Nat.div_lt_of_lt_mul (by rw[Nat.mul_comm];exact hlt)
    have h2:j%sz'<sz':=Nat.mod_lt _ hpos
    have:=(hm _ _ h1 h2).2
    rw[X1]
    have e:o+j / sz'*sz'+j%sz'=o+j:=by have:=Nat.div_add_mod j sz';rw[Nat.mul_comm]at this;omega
    rw[e]at this
    exact this
   ·intro i j e y v g1 g2 g3
    have hi:=(List.getElem?_eq_some_iff.1 g1).1
    have hj:j<sz':=by rw[←hsz' e (List.mem_of_getElem? g1)];exact(List.getElem?_eq_some_iff.1 g2).1
    rw[b0O sz' hpos es.length cell i j hi hj]at g3
    cases g3
    exact(hr i j e y g1 g2).up
 |own id off n cap b β sz' N e' g1 g2 g3 g4=>
  simp only[lT]at h
  split at h
  ·rename_i r hr
   split at h
   ·rename_i hl
    cases h
    have hz:=hown id off n r rfl hr
    obtain⟨b',β',arr,e2,p1,p2,p3,p4,p5,p6⟩:=R.live id r hr
    rw[g1]at p1
    cases p1
    have hlen:((r.es.drop off).take n).length=n:=by simp;omega
    have hle:(off+n)*r.sz≤r.es.length*r.sz:=Nat.mul_le_mul_right _ hl
    rw[Nat.add_mul]at hle
    refine⟨some ⟨b,β+off*r.sz,none⟩,cap,(List.range (n*sz)).map (fun k=>arr.getD (β+off*r.sz+k) undef),by rw[hlen],by simp,by simp [hlen],?_,?_⟩
    ·intro A hA j v hj
     cases hA
     have hlt:j<n*sz:=by simpa using(List.getElem?_eq_some_iff.1 hj).1
     simp only[List.getElem?_map,List.getElem?_range hlt,Option.map_some,Option.some.injEq]at hj
     rw[X1,dT p3,←hj]
     rw[←hz]at hlt
     have:β+off*r.sz+j<arr.size:=by omega
     simp [this]
    ·intro i j e y v g5 g6 g7
     rw[Y1]at g5
     split at g5
     ·rename_i hi
      have hj:j<r.sz:=by rw[←p5 e (List.mem_of_getElem? g5)];exact(List.getElem?_eq_some_iff.1 g6).1
      have hle2:(i+1)*r.sz≤n*r.sz:=Nat.mul_le_mul_right _ hi
      rw[Nat.add_mul]at hle2
      rw[←hz]at g7
      have hlt:i*r.sz+j<n*r.sz:=by omega
      simp only[List.getElem?_map,List.getElem?_range hlt,Option.map_some,Option.some.injEq]at g7
      refine p6 (off+i) j e y v g5 g6 ?_
      rw[←g7,Nat.add_mul]
      have:β+off*r.sz+(i*r.sz+j)<arr.size:=by omega
      rw[show β+(off*r.sz+i*r.sz)+j=β+off*r.sz+(i*r.sz+j)from by omega]
      simp [this]
     ·cases g5
   ·cases h
  ·cases h
 |_=>simp [lT]at h
theorem Rel.drew(R:Rel G M0 w0 s ρ a w):Rel G M0 w0 s ρ a w.drew:=
 have hm:∀{x u},r7 (p7 M0 ρ s.h) ρ w x u→r7 (p7 M0 ρ s.h) ρ w.drew x u:=fun h=>r7.mono (w:=w) (w':=w.drew) (fun _ _ h=>h) (fun _ _ _ h1 h2=>⟨h1,h2⟩) (fun _ _ h=>h) h
 {n:=R.n
  tm:=fun t=>hm (R.tm t)
  live:=fun id r h=>let⟨b,β,arr,e,h1,h2,h3,h4,h5,h6⟩:=R.live id r h;⟨b,β,arr,e,h1,h2,h3,h4,h5,fun i j e x u g1 g2 g3=>hm (h6 i j e x u g1 g2 g3)⟩
  free:=R.free
  inj:=R.inj
  U2:=R.U2.drew
  m0:=R.m0
  defers:=R.defers
  mS:=fun id k cs h i x hx=>hm (R.mS id k cs h i x hx)
  lE:=fun x u h=>r7.mono (w:=w) (w':=w.drew) (fun _ _ h=>h) (fun _ _ _ h1 h2=>⟨h1,h2⟩) (fun _ _ h=>h) (R.lE x u h)
  iM:=fun id b q f h=>let⟨h1,h2⟩:=R.iM id b q f h;⟨h1,h2.keep (fun _ _ _ h=>h)⟩
  fY:=R.fY
  dH:=R.dH
  nD:=R.nD
  oI:=R.oI}
theorem lY{h:Nat→RS}{id:Nat}{b o:Nat}(g:p7 M0 ρ (m9 h id .gone) b o):p7 M0 ρ h b o:=by
 rcases g with g|⟨id',q,β,z,h1,h2,h3⟩
 ·exact .inl g
 ·by_cases hid:id'=id
  ·subst hid;simp [m9]at h1
  ·simp only[m9,if_neg hid]at h1;exact .inr ⟨id',q,β,z,h1,h2,h3⟩
theorem Rel.kill(R:Rel G M0 w0 s ρ a w){id:Nat}{r:Row}(hl:s.h id= .live r):Rel G M0 w0 {s with h:=m9 s.h id .gone} ρ a w:=
 have hm:∀{x u},r7 (p7 M0 ρ s.h) ρ w x u→r7 (p7 M0 ρ (m9 s.h id .gone)) ρ w x u:=fun h=>h.mono (fun _ _ h=>h) (fun _ _ _ h1 h2=>⟨fun g=>h1 (lY g),h2⟩) (fun _ _ h=>h)
 have vV:∀id' r',m9 s.h id .gone id'= .live r'→s.h id'= .live r':=by
  intro id' r' h
  by_cases hid:id'=id
  ·subst hid;simp [m9]at h
  ·simp only[m9,if_neg hid]at h;exact h
 {n:=R.n
  tm:=fun t=>hm (R.tm t)
  live:=fun id' r' h=>let⟨b,β,arr,e,h1,h2,h3,h4,h5,h6⟩:=R.live id' r' (vV _ _ h);⟨b,β,arr,e,h1,h2,h3,h4,h5,fun i j e x u g1 g2 g3=>hm (h6 i j e x u g1 g2 g3)⟩
  free:=fun id' h=>by
   by_cases hid:id'=id
   ·subst hid;simp [m9]at h
   ·simp only[m9,if_neg hid]at h;exact R.free _ h
  inj:=fun i j ri rj b β β' z z' h1 h2 h3 h4=>R.inj i j ri rj b β β' z z' (vV _ _ h1) (vV _ _ h2) h3 h4
  U2:=R.U2
  m0:=R.m0
  defers:=R.defers
  mS:=fun id' k cs h i x hx=>hm (R.mS id' k cs (by
   by_cases hid:id'=id
   ·subst hid;simp [m9]at h
   ·simpa only[m9,if_neg hid]using h) i x hx)
  lE:=fun x u h=>(R.lE x u h).mono (fun _ _ h=>h) (fun _ _ _ h1 h2=>⟨fun g=>h1 (lY g),h2⟩) (fun _ _ h=>h)
  iM:=fun id' b q f h=>R.iM id' b q f (by
   by_cases hid:id'=id
   ·subst hid;simp [m9]at h
   ·simpa only[m9,if_neg hid]using h)
  fY:=R.fY
  dH:=fun id' r' p h hp=>R.dH id' r' p (vV _ _ h) hp
  nD:=fun id' b q f h=>R.nD id' b q f (by
   by_cases hid:id'=id
   ·subst hid;simp [m9]at h
   ·simpa only[m9,if_neg hid]using h)
  oI:=R.oI}
theorem aZ{sz n:Nat}{b:Option Addr}{cap:Nat}{news:List Value}(hl:news.length=n*sz)(hb:b=none→n=0)(hc:∀A,b=some A→∀j v,news[j]?=some v→w.cell? (A.add j)=some v):
  (Builtin.firstCells sz n (.slice b n cap)).run P w= .ok news.toArray w:=by
 cases b with
 |none=>have:=hb rfl;subst this;simp at hl;subst hl;rfl
 |some A=>
  have:=run_loadCells_list (P:=P) w A news (hc A rfl)
  rw[hl]at this
  simpa[Builtin.firstCells]using this
theorem jI {t t2 ty e:TypeId} {i:TypeInfo} {z:Value} (ht:P.underlying t=some (.slice e)) {e2:TypeId} (ht2:P.underlying t2=some (.slice e2)) (hi:P.info? e=some i) (hz:i.zero=some z)
  {b b2:Option Addr} {n cap m cap2:Nat} {olds news:List Value} (hlo:olds.length=n*i.size) (hln:news.length=m*i.size) (hbo:b=none→n=0) (hbn:b2=none→m=0) (hco:∀A,b=some A→∀j v,olds[j]?=some v→w.cell? (A.add j)=some v) (hcn:∀A,b2=some A→∀j v,news[j]?=some v→w.cell? (A.add j)=some v)
  (hg:cap<n+m) (h63:n+m≤140737488355328) (hb:(n+m)*i.bytes≤140737488355328):
  (Builtin.append_ #[t,t2] ty #[.slice b n cap,.slice b2 m cap2]).run P w=
   .ok (.slice (some ⟨w.heap.size,0,none⟩) (n+m) (grownCap w (n+m) cap e)) (w.drew.alloc (.cells (olds.toArray++news.toArray++Builtin.zeroCells z.cells (grownCap w (n+m) cap e-(n+m))) e)):=by
 have hn:¬(n+m≤cap):=by omega
 have h63':¬(9223372036854775807<((n:Int)+(m:Int))):=by omega
 have hfit:=growslice_fits (bytes:=i.bytes) hg hb
 have h48':¬(281474976710656<Builtin.nextslicecap (n+m) cap*i.bytes):=by omega
 have hf:=aZ (P:=P) (w:=w.drew) (cap:=cap2) hln hbn (fun A hA j v hj=>by simpa using hcn A hA j v hj)
 have hfo:=aZ (P:=P) (w:=w.drew) (cap:=cap) hlo hbo (fun A hA j v hj=>by simpa using hco A hA j v hj)
 simp [Builtin.append_,run_underlying ht,run_underlying ht2,sizeOf,typeInfo,zeroValue,hi,hz,Builtin.lenOf,hn,h63',h48',Question.forced,hf,hfo,newRow,grownCap]
 congr 2
 apply Array.ext'
 simp [List.append_assoc]
end
end
section
section
variable {G:Gh} {M0:Nat→Nat→Prop} {w0:World} {s:St} {ρ:Nat→Option (Nat×Nat×Nat)} {a:Act} {w:World} {P:Program} {Q:Exit→Act→World→Prop} {M:Nat→Nat→Prop}
theorem St.b4x(s:St)(d:Option Tmp)(x:AV)(h1 h2:Nat→RS):({({s with h:=h1}:St).put d x with h:=h2}:St)={s.put d x with h:=h2}:=by cases d<;>rfl
theorem r7.oY{M M':Nat→Nat→Prop}(h:∀b o,M' b o→M b o){x:AV}{u:Value}(hr:r7 M ρ w x u):r7 M' ρ w x u:=
 hr.mono (fun _ _ h=>h) (fun _ _ _ h1 h2=>⟨fun g=>h1 (h _ _ g),h2⟩) (fun _ _ h=>h)
theorem oK {sz n:Nat} {es ys:List (List AV)} {olds news rest:List Value} (hn:es.length=n) (hlo:olds.length=n*sz) (hln:news.length=ys.length*sz) (hls:∀e∈es,e.length=sz) (hys:∀e∈ys,e.length=sz)
  (ho:∀(i j:Nat) e x u,es[i]?=some e→e[j]?=some x→olds[i*sz+j]?=some u→r7 M ρ w x u) (hy:∀(i j:Nat) e x u,ys[i]?=some e→e[j]?=some x→news[i*sz+j]?=some u→r7 M ρ w x u):
  (∀e∈es++ys,e.length=sz)∧∀(i j:Nat) e x u,(es++ys)[i]?=some e→e[j]?=some x→(olds++news++rest)[i*sz+j]?=some u→r7 M ρ w x u:=by
 have hall:∀e∈es++ys,e.length=sz:=fun e he=>by rcases List.mem_append.1 he with h|h;exact hls e h;exact hys e h
 refine⟨hall,fun i j e x u g1 g2 g3=>?_⟩
 have hj:j<sz:=by rw[←hall e (List.mem_of_getElem? g1)];exact(List.getElem?_eq_some_iff.1 g2).1
 by_cases hi:i<n
 ·rw[List.getElem?_append_left (by omega)]at g1
  have hle:(i+1)*sz≤n*sz:=Nat.mul_le_mul_right _ hi
  rw[Nat.add_mul]at hle
  rw[List.append_assoc,List.getElem?_append_left (by omega)]at g3
  exact ho i j e x u g1 g2 g3
 ·rw[List.getElem?_append_right (by omega)]at g1
  have hi2:=(List.getElem?_eq_some_iff.1 g1).1
  have hle:(i-es.length+1)*sz≤ys.length*sz:=Nat.mul_le_mul_right _ hi2
  rw[Nat.add_mul]at hle
  have hmul:i*sz=n*sz+(i-es.length)*sz:=by rw[←Nat.add_mul];congr 1;omega
  rw[List.append_assoc,List.getElem?_append_right (by omega),List.getElem?_append_left (by omega)]at g3
  exact hy (i-es.length) j e x u g1 g2 (by rw[←g3];congr 1;omega)
theorem b6T(l m:List Value)(r:Array Value)(k:Nat):(l.toArray++m.toArray++r)[k]?=(l++m++r.toList)[k]?:=by
 rw[←Array.getElem?_toList];simp
theorem a2R {t t2 ty:TypeId} {E E2:TI} {y:AV} {u v:Value} {c:Bool} {es:List (List AV)} (R:Rel G M0 w0 s ρ a w) (hD:td P t=some (.slice E)) (hD2:td P t2=some (.slice E2)) (hx:r7 (p7 M0 ρ s.h) ρ w (.c5 c es) u) (hy:r7 (p7 M0 ρ s.h) ρ w y v)
  (hye:lT s y=some []) (hown:∀id off n r,y= .own id off n→s.h id= .live r→r.sz=E.size):(Builtin.append_ #[t,t2] ty #[u,v]).run P w= .ok u w:=by
 obtain⟨e,h1,h2⟩:=U1 hD
 obtain⟨e2,h3,h4⟩:=U1 hD2
 obtain⟨i,dd,z0,k1,k2,k3,k4,k5,k6,k7,k8,k9⟩:=aG h2
 obtain⟨b2,cap2,news,rfl,q1,q2,q3,q4⟩:=gH R hy hye (sz:=E.size) (by omega) (by simp) hown
 cases hx with
 |c5 _ _ aa cap b o sz cell hc oH aD ha hm hr=>
  simp at q2
  subst q2
  have hf:=aZ (P:=P) (w:=w) (sz:=E.size) (n:=0) (b:=b2) (cap:=cap2) (news:=[]) (by simp) (by simp) (by simp)
  cases aa<;>simp [Builtin.append_,run_underlying h1,run_underlying h3,sizeOf,typeInfo,k1,k5,Builtin.lenOf,hc,hf,storeCells]
theorem a4F {t t2 ty:TypeId} {E E2:TI} {y:AV} {u v:Value} {es ys:List (List AV)} {d:Option Tmp} {nid:Nat} (R:Rel G M0 w0 s ρ a w) (hd:L3 s d) (hf:s.h nid= .free) (hD:td P t=some (.slice E)) (hD2:td P t2=some (.slice E2)) (hx:r7 (p7 M0 ρ s.h) ρ w (.c5 true es) u) (hy:r7 (p7 M0 ρ s.h) ρ w y v)
  (hye:lT s y=some ys) (hown:∀id off n r,y= .own id off n→s.h id= .live r→r.sz=E.size) (hne:ys≠[]) (hls:∀e∈es,e.length=E.size) (hys:∀e∈ys,e.length=E.size) (h63:es.length+ys.length≤140737488355328) (hb:(es.length+ys.length)*E.bytes≤140737488355328):
  ∃v' w' ρ',(Builtin.append_ #[t,t2] ty #[u,v]).run P w= .ok v' w'∧Rel G M0 w0 {s.put d (.own nid 0 (es.length+ys.length))with h:=m9 s.h nid (.live ⟨E.size,es++ys,0⟩)} ρ' (a.put d v') w':=by
 obtain⟨e,h1,h2⟩:=U1 hD
 obtain⟨e2,h3,h4⟩:=U1 hD2
 obtain⟨i,dd,z0,k1,k2,k3,k4,k5,k6,k7,k8,k9⟩:=aG h2
 obtain⟨b1,cap1,olds,rfl,p1,p2,p3,p4⟩:=gH R hx (ys:=es) rfl (sz:=E.size) (by omega) hls (by simp)
 obtain⟨b2,cap2,news,rfl,q1,q2,q3,q4⟩:=gH R hy hye (sz:=E.size) (by omega) hys hown
 have hcap:cap1=es.length:=by cases hx with|c5 _ _ aa cap b o sz cell hc oH=>exact oH rfl
 subst hcap
 have hpos:0<ys.length:=List.length_pos_iff.2 hne
 have hrun:=jI (P:=P) (w:=w) (ty:=ty) h1 h3 k1 k3 (by rw[k5];exact p2) (by rw[k5];exact q2) (fun hb=>by rw[p1 hb];rfl) (fun hb=>by rw[q1 hb];rfl) p3 q3 (by omega) h63 (by rw[k8];exact hb) (cap:=es.length) (cap2:=cap2)
 have hge:=grownCap_ge w (es.length+ys.length) es.length e
 have hRE:=oK (M:=p7 M0 ρ s.h) (ρ:=ρ) (w:=w.drew) (rest:=(Builtin.zeroCells z0.cells (grownCap w (es.length+ys.length) es.length e-(es.length+ys.length))).toList) (n:=es.length) rfl p2 q2 hls hys
  (fun i j e x u g1 g2 g3=>(p4 i j e x u g1 g2 g3).mono (w:=w) (w':=w.drew) (fun _ _ h=>h) (fun _ _ _ h1 h2=>⟨h1,h2⟩) (fun _ _ h=>h))
  (fun i j e x u g1 g2 g3=>(q4 i j e x u g1 g2 g3).mono (w:=w) (w':=w.drew) (fun _ _ h=>h) (fun _ _ _ h1 h2=>⟨h1,h2⟩) (fun _ _ h=>h))
 have:=R.drew.a07 (d:=d) (nid:=nid) (sz:=E.size) (fro:=0) (e:=e) (n:=es.length+ys.length) (arr:=olds.toArray++news.toArray++Builtin.zeroCells z0.cells (grownCap w (es.length+ys.length) es.length e-(es.length+ys.length))) (cap:=grownCap w (es.length+ys.length) es.length e)
  hd hf hRE.1 (fun i j e x u g1 g2 g3=>hRE.2 i j e x u g1 g2 (by rw[←b6T];exact g3)) (by simp) hge (by
   simp only[Array.size_append,List.size_toArray,size_zeroCells,k4,p2,q2,←Nat.add_mul]
   refine Nat.mul_le_mul_right _ ?_
   omega)
 exact⟨_,_,_,hrun,this⟩
theorem a4G {t t2 ty:TypeId} {E E2:TI} {y:AV} {u v:Value} {ys:List (List AV)} {d:Option Tmp} {nid id off n:Nat} {r:Row} (R:Rel G M0 w0 s ρ a w) (hd:L3 s d) (hf:s.h nid= .free) (hD:td P t=some (.slice E)) (hD2:td P t2=some (.slice E2)) (hx:r7 (p7 M0 ρ s.h) ρ w (.own id off n) u) (hy:r7 (p7 M0 ρ s.h) ρ w y v)
  (hl:s.h id= .live r) (hoff:off+n≤r.es.length) (hfro:r.fro≤off+n) (hrz:r.sz=E.size)
  (hye:lT s y=some ys) (hown:∀id off n r,y= .own id off n→s.h id= .live r→r.sz=E.size) (hys:∀e∈ys,e.length=E.size) (hone:∀e∈ys,∀x∈e,AV.one x=true) (h63:n+ys.length≤140737488355328) (hb:(n+ys.length)*E.bytes≤140737488355328):
  ∃v' w' ρ',(Builtin.append_ #[t,t2] ty #[u,v]).run P w= .ok v' w'∧Rel G M0 w0 {s.put d (.own nid 0 (n+ys.length))with h:=m9 (m9 s.h id .gone) nid (.live ⟨E.size,(r.es.drop off).take n++ys,r.fro-off⟩)} ρ' (a.put d v') w':=by
 obtain⟨e,h1,h2⟩:=U1 hD
 obtain⟨e2,h3,h4⟩:=U1 hD2
 obtain⟨i,dd,z0,k1,k2,k3,k4,k5,k6,k7,k8,k9⟩:=aG h2
 obtain⟨b0,β0,arr,e',l1,l2,l3,l4,l5,l6⟩:=R.live id r hl
 have hnn:nid≠id:=by intro hh;rw[hh,hl]at hf;cases hf
 have hlso:∀e∈(r.es.drop off).take n,e.length=E.size:=fun e he=>by rw[←hrz];exact l5 e (List.mem_of_mem_drop (List.mem_of_mem_take he))
 have hno:((r.es.drop off).take n).length=n:=by simp;omega
 have hsx:lT s (.own id off n)=some ((r.es.drop off).take n):=by simp [lT,hl,hoff]
 obtain⟨b1,cap1,olds,hu,p1,p2,p3,p4⟩:=gH R hx hsx (sz:=E.size) (by omega) hlso (by intro id' off' n' r' hh hr';cases hh;rw[hl]at hr';cases hr';exact hrz)
 obtain⟨b2,cap2,news,rfl,q1,q2,q3,q4⟩:=gH R hy hye (sz:=E.size) (by omega) hys hown
 rw[hno]at hu p2
 obtain⟨cap,N,e3,s1,s2,s3,s4⟩:∃cap N e3,u= .slice (some ⟨b0,β0+off*r.sz,none⟩) n cap∧n≤cap∧w.shape? b0=some (e3,N)∧β0+(off+cap)*r.sz≤N:=by
  cases hx with
  |own _ _ _ cap b β sz N e3 g1 g2 g3 g4=>rw[l1]at g1;cases g1;exact⟨cap,N,e3,rfl,g2,g3,g4⟩
 have hsh:w.shape? b0=some (e',arr.size):=by simp only[World.shape?,l3]
 rw[hsh]at s3
 cases s3
 rw[s1]at hu
 simp only[Value.slice.injEq,true_and]at hu
 obtain⟨e1,e3⟩:=hu
 subst e1
 subst e3
 subst s1
 have hMg:∀b o,p7 M0 ρ (m9 s.h id .gone) b o→p7 M0 ρ s.h b o:=fun b o g=>lY g
 by_cases hroom:n+ys.length≤cap
 ·
  have h1c:∀c∈news,c.oneCell'=true:=by
   intro c hc
   obtain⟨k,hk,hkc⟩:=List.mem_iff_getElem.1 hc
   have hpos:0<E.size:=by omega
   have hi:k / E.size<ys.length:=Nat.div_lt_of_lt_mul (by rw[Nat.mul_comm,←q2];exact hk)
   have hj:k%E.size<E.size:=Nat.mod_lt _ hpos
   have he:=hys _ (List.getElem_mem hi)
   have hj':k%E.size<(ys[k / E.size]).length:=by rw[he];exact hj
   have:=q4 (k / E.size) (k%E.size) ys[k / E.size] ((ys[k / E.size])[k%E.size]) c (by simp [hi]) (by simp [hj']) (by
    have e:k / E.size*E.size+k%E.size=k:=by have:=Nat.div_add_mod k E.size;rw[Nat.mul_comm]at this;exact this
    rw[e];simp [hk,hkc])
   exact this.b1P (hone _ (List.getElem_mem hi) _ (List.getElem_mem hj'))
  generalize hp:β0+off*r.sz+n*E.size=p
  have hcapm:(off+(n+ys.length))*r.sz≤(off+cap)*r.sz:=Nat.mul_le_mul_right _ (by omega)
  have hfit:p+news.length≤arr.size:=by
   rw[q2,←hp,hrz]
   rw[hrz]at hcapm s4
   rw[Nat.add_mul,Nat.add_mul]at hcapm
   omega
  have hst:=run_storeCells_at P b0 p e' news 0 arr w l3 (by omega) h1c
  simp only[Nat.add_zero]at hst
  have hfc:=aZ (P:=P) (w:=w) (sz:=E.size) (n:=ys.length) (cap:=cap2) q2 (fun hb=>by rw[q1 hb];rfl) q3
  have hrun:(Builtin.append_ #[t,t2] ty #[.slice (some ⟨b0,β0+off*r.sz,none⟩) n cap,.slice b2 ys.length cap2]).run P w= .ok (.slice (some ⟨b0,β0+off*r.sz,none⟩) (n+ys.length) cap) (w.setRow b0 (arr.toList.take p++news++arr.toList.drop (p+news.length)).toArray):=by
   simp [Builtin.append_,run_underlying h1,run_underlying h3,sizeOf,typeInfo,k1,k5,Builtin.lenOf,hroom,hfc,X1,hp,hst]
  have hpn:p+news.length≤arr.toList.length:=by simpa using hfit
  generalize harr:(arr.toList.take p++news++arr.toList.drop (p+news.length)).toArray=arr' at hrun
  have aD:arr'.size=arr.size:=by subst harr;simp;omega
  have hget:∀j:Nat,arr'[j]?=if j<p then arr[j]? else if j<p+news.length then news[j-p]? else arr[j]?:=by
   intro j
   subst harr
   have:=a0M arr.toList news p j hpn
   simpa using this
  have hrow:=setRow_heap w b0 arr arr' e' (0,0) l3
  have hρn:ρ nid=none:=R.free nid hf
  have hfm:r.fro*r.sz≤(off+n)*r.sz:=Nat.mul_le_mul_right _ hfro
  rw[Nat.add_mul]at hfm
  have hM:∀b o,p7 M0 (fun i=>if i=nid then some (b0,β0+off*r.sz,r.sz)else ρ i) (m9 (m9 s.h id .gone) nid (.live ⟨E.size,(r.es.drop off).take n++ys,r.fro-off⟩)) b o→p7 M0 ρ s.h b o:=by
   rintro b o (g|⟨id',r',β,z,g1,g2,g3⟩)
   ·exact .inl g
   ·by_cases h':id'=nid
    ·subst h'
     simp only[m9,if_true,RS.live.injEq]at g1 g2
     subst g1
     cases g2
     refine .inr ⟨id,r,β0,r.sz,hl,l1,?_⟩
     simp only at g3
     rw[Nat.sub_mul]at g3
     omega
    ·simp only[m9,if_neg h']at g1 g2
     by_cases h'':id'=id
     ·rw[if_pos h'']at g1;cases g1
     ·rw[if_neg h'']at g1;exact .inr ⟨id',r',β,z,g1,g2,g3⟩
  have hρ:∀i p,ρ i=some p→(if i=nid then some (b0,β0+off*r.sz,r.sz)else ρ i)=some p:=by
   intro i p h
   by_cases hid:i=nid
   ·subst hid;rw[hρn]at h;cases h
   ·rw[if_neg hid];exact h
  have hc:∀b o c,¬p7 M0 ρ s.h b o→w.cell? ⟨b,o,none⟩=some c→¬p7 M0 (fun i=>if i=nid then some (b0,β0+off*r.sz,r.sz)else ρ i) (m9 (m9 s.h id .gone) nid (.live ⟨E.size,(r.es.drop off).take n++ys,r.fro-off⟩)) b o∧(w.setRow b0 arr').cell? ⟨b,o,none⟩=some c:=by
   intro b o c g1 g2
   refine⟨fun g=>g1 (hM b o g),?_⟩
   by_cases hb:b=b0
   ·subst hb
    rw[cell_setRow_same w _ o arr arr' e' (0,0) l3,hget]
    rw[dT l3]at g2
    have hno:¬(p≤o):=by
     intro q
     apply g1
     refine .inr ⟨id,r,β0,r.sz,hl,l1,?_⟩
     rw[←hrz]at hp
     omega
    rw[if_pos (by omega)];exact g2
   ·rw[cell_setRow_other w b0 arr' _ hb];exact g2
  have hs:=iD (w:=w) l3 aD
  refine⟨_,_,_,hrun,R.step hd hρ hc hs ?_ ?_ ?_ (fE R.U2 l2 _) (by
   intro id' k' cs' h
   by_cases h':id'=nid
   ·subst h';simp [m9]at h
   ·by_cases h2:id'=id
    ·subst h2;simp [m9,h']at h
    ·simpa only[m9,if_neg h',if_neg h2]using h) (by
   intro id' b' q f h
   by_cases h':id'=nid
   ·subst h';simp [m9]at h
   ·by_cases h2:id'=id
    ·subst h2;simp [m9,h']at h
    ·simpa only[m9,if_neg h',if_neg h2]using h) (fun b' es c h=>by
    have hbb:b'≠b0:=by intro e;subst e;rw[l3]at h;cases h;cases c
    rw[setRow_other w b0 b' arr' hbb];exact h) (fun b' o hk h=>by
   have hbb:b'≠b0:=by intro e;subst e;rw[R.dH id r _ hl l1]at hk;cases hk
   rw[setRow_other w b0 b' arr' hbb];exact h) (by
   intro id' r' p h hp
   by_cases h':id'=nid
   ·subst h'
    simp only[if_true,Option.some.injEq]at hp
    subst hp
    have q:=R.dH id r _ hl l1
    exact q
   ·simp only[if_neg h']at hp
    by_cases h2:id'=id
    ·subst h2;simp [m9,h']at h
    ·simp only[m9,if_neg h',if_neg h2]at h
     exact R.dH id' r' p h hp) ?_⟩
  ·intro id' r' h
   by_cases h':id'=nid
   ·subst h'
    simp only[m9,if_true,RS.live.injEq]at h
    subst h
    have hRE:=oK (M:=p7 M0 ρ s.h) (ρ:=ρ) (w:=w) (rest:=[]) (n:=n) hno p2 q2 hlso hys p4 q4
    refine⟨b0,β0+off*r.sz,arr',e',by simp [hrz],l2,hrow,?_,hRE.1,fun i j e x c g1 g2 g3=>?_⟩
    ·simp only[List.length_append,hno]
     rw[hrz]at hcapm s4⊢
     rw[Nat.add_mul]at hcapm
     omega
    ·simp only at g1 g2 g3
     refine(hRE.2 i j e x c g1 g2 ?_).mono hρ hc hs
     have hj:j<E.size:=by rw[←hRE.1 e (List.mem_of_getElem? g1)];exact(List.getElem?_eq_some_iff.1 g2).1
     have hi:=(List.getElem?_eq_some_iff.1 g1).1
     rw[hget]at g3
     rw[List.append_nil]
     by_cases hi2:i<n
     ·have hle:(i+1)*E.size≤n*E.size:=Nat.mul_le_mul_right _ hi2
      rw[Nat.add_mul]at hle
      rw[if_pos (by omega)]at g3
      rw[List.getElem?_append_left (by omega)]
      have hlt:i*E.size+j<olds.length:=by omega
      have:=p3 _ rfl (i*E.size+j) olds[i*E.size+j] (by simp [hlt])
      rw[X1,dT l3,show β0+off*r.sz+(i*E.size+j)=β0+off*r.sz+i*E.size+j from by omega,g3]at this
      simp [hlt,←Option.some.inj this]
     ·simp only[List.length_append,hno]at hi
      have hle:(i-n+1)*E.size≤ys.length*E.size:=Nat.mul_le_mul_right _ (by omega)
      rw[Nat.add_mul]at hle
      have hmul:i*E.size=n*E.size+(i-n)*E.size:=by rw[←Nat.add_mul];congr 1;omega
      rw[if_neg (by omega),if_pos (by omega)]at g3
      rw[List.getElem?_append_right (by omega)]
      rw[←g3];congr 1;omega
   ·simp only[m9,if_neg h']at h
    by_cases h'':id'=id
    ·rw[if_pos h'']at h;cases h
    ·rw[if_neg h'']at h
     obtain⟨b',β',arr1,e1,t1,t2,t3,t4,t5,t6⟩:=R.live id' r' h
     have hbb:b'≠b0:=by
      intro e
      subst e
      exact h'' (R.inj _ _ _ _ _ _ _ _ _ h hl t1 l1)
     exact⟨b',β',arr1,e1,hρ _ _ t1,t2,by rw[setRow_other w b0 b' arr' hbb];exact t3,t4,t5,fun m j em z c g1 g2 g3=>(t6 m j em z c g1 g2 g3).mono hρ hc hs⟩
  ·intro id' h
   by_cases h':id'=nid
   ·subst h';simp [m9]at h
   ·simp only[m9,if_neg h']at h⊢
    by_cases h'':id'=id
    ·rw[if_pos h'']at h;cases h
    ·rw[if_neg h'']at h;exact R.free _ h
  ·have vV:∀i r',i≠nid→m9 (m9 s.h id .gone) nid (.live ⟨E.size,(r.es.drop off).take n++ys,r.fro-off⟩) i= .live r'→s.h i= .live r'∧i≠id:=by
    intro i r' h' h
    simp only[m9,if_neg h']at h
    by_cases h'':i=id
    ·rw[if_pos h'']at h;cases h
    ·rw[if_neg h'']at h;exact⟨h,h''⟩
   intro i1 i2 r1 r2 b β β' z z' g1 g2 g3 g4
   by_cases c1:i1=nid<;>by_cases c2:i2=nid
   ·rw[c1,c2]
   ·obtain⟨o1,o2⟩:=vV _ _ c2 g2
    subst c1
    simp only[if_true,if_neg c2]at g3 g4
    cases g3
    exact absurd (R.inj _ _ _ _ _ _ _ _ _ o1 hl g4 l1) o2
   ·obtain⟨o1,o2⟩:=vV _ _ c1 g1
    subst c2
    simp only[if_true,if_neg c1]at g3 g4
    cases g4
    exact absurd (R.inj _ _ _ _ _ _ _ _ _ o1 hl g3 l1) o2
   ·simp only[if_neg c1,if_neg c2]at g3 g4
    exact R.inj _ _ _ _ _ _ _ _ _ (vV _ _ c1 g1).1 (vV _ _ c2 g2).1 g3 g4
  ·have:=r7.own (M:=p7 M0 (fun i=>if i=nid then some (b0,β0+off*r.sz,r.sz)else ρ i) (m9 (m9 s.h id .gone) nid (.live ⟨E.size,(r.es.drop off).take n++ys,r.fro-off⟩))) (ρ:=fun i=>if i=nid then some (b0,β0+off*r.sz,r.sz)else ρ i) (w:=w.setRow b0 arr') nid 0 (n+ys.length) cap b0 (β0+off*r.sz) r.sz arr.size e' (by simp) hroom (hs _ _ hsh) (by rw[Nat.add_mul]at s4;simp;omega)
   simpa using this
 ·
  have hrun:=jI (P:=P) (w:=w) (ty:=ty) h1 h3 k1 k3 (by rw[k5];exact p2) (by rw[k5];exact q2) (fun hb=>by cases hb) (fun hb=>by rw[q1 hb];rfl) p3 q3 (by omega) h63 (by rw[k8];exact hb) (cap:=cap) (cap2:=cap2)
  have hge:=grownCap_ge w (n+ys.length) cap e
  have mono:∀{x u},r7 (p7 M0 ρ s.h) ρ w x u→r7 (p7 M0 ρ (m9 s.h id .gone)) ρ w.drew x u:=fun h=>r7.mono (w:=w) (w':=w.drew) (fun _ _ h=>h) (fun _ _ _ h1 h2=>⟨fun g=>h1 (lY g),h2⟩) (fun _ _ h=>h) h
  have hRE:=oK (M:=p7 M0 ρ (m9 s.h id .gone)) (ρ:=ρ) (w:=w.drew) (rest:=(Builtin.zeroCells z0.cells (grownCap w (n+ys.length) cap e-(n+ys.length))).toList) (n:=n) hno p2 q2 hlso hys
   (fun i j e x u g1 g2 g3=>mono (p4 i j e x u g1 g2 g3)) (fun i j e x u g1 g2 g3=>mono (q4 i j e x u g1 g2 g3))
  have:=(R.kill hl).drew.a07 (d:=d) (nid:=nid) (sz:=E.size) (fro:=r.fro-off) (e:=e) (n:=n+ys.length) (arr:=olds.toArray++news.toArray++Builtin.zeroCells z0.cells (grownCap w (n+ys.length) cap e-(n+ys.length))) (cap:=grownCap w (n+ys.length) cap e)
   (by cases d<;>exact hd) (by simp only[m9,if_neg hnn];exact hf) hRE.1 (fun i j e x u g1 g2 g3=>hRE.2 i j e x u g1 g2 (by rw[←b6T];exact g3)) (by simp [hno]) hge (by
    simp only[Array.size_append,List.size_toArray,size_zeroCells,k4,p2,q2,←Nat.add_mul]
    refine Nat.mul_le_mul_right _ ?_
    omega)
  rw[St.b4x]at this
  exact⟨_,_,_,hrun,this⟩
end
end
section
structure kN (M0:Nat→Nat→Prop) (w0:World) (h:Nat→RS) (ρ:Nat→Option (Nat×Nat×Nat)) (w:World):Prop where
 live:∀id r,h id= .live r→∃b β arr e,ρ id=some (b,β,r.sz)∧w0.heap.size≤b∧w.heap[b]?=some (.cells arr e (0,0))∧β+r.es.length*r.sz≤arr.size∧
  (∀x∈r.es,x.length=r.sz)∧(∀(i j:Nat) e x u,r.es[i]?=some e→e[j]?=some x→arr[β+i*r.sz+j]?=some u→r7 (p7 M0 ρ h) ρ w x u)
 free:∀id,h id= .free→ρ id=none
 inj:∀id id' r r' b β β' z z',h id= .live r→h id'= .live r'→ρ id=some (b,β,z)→ρ id'=some (b,β',z')→id=id'
 U2:Below w0.heap.size w0 w
 m0:∀b o,M0 b o→b<w.heap.size∧∀id r p,h id= .live r→ρ id=some p→p.1≠b
theorem Rel.toH{G:Gh}{M0:Nat→Nat→Prop}{w0:World}{s:St}{ρ:Nat→Option (Nat×Nat×Nat)}{a:Act}{w:World}(R:Rel G M0 w0 s ρ a w):kN M0 w0 s.h ρ w where
 live:=R.live
 free:=R.free
 inj:=R.inj
 U2:=R.U2
 m0:=fun b o g=>by
  rcases R.m0 b o g with h|⟨x,h⟩
  ·refine⟨Nat.lt_of_lt_of_le h R.U2.size,fun id r p h1 h2 e=>?_⟩
   obtain⟨b',β,arr,e',l1,l2,_⟩:=R.live id r h1
   rw[h2]at l1
   cases l1
   simp only at e
   omega
  ·refine⟨B4 (R.fY b x h),fun id r p h1 h2 e=>?_⟩
   have:=R.dH id r p h1 h2
   rw[e,h]at this
   cases this
def AV.plain:AV→Bool
 | .v _=>true
 | .N6=>true
 | .c5 c _=> !c
 | .fn _ []=>true
 |_=>false
def w7(es:List (List AV)):Bool:=es.all fun e=>e.all AV.plain
def B7(h:Nat→RS):Nat→AV→Option AV
 |_,.Z=>some .Z
 |_,.v x=>some (.v x)
 |_,.N6=>some .N6
 |_,.c5 _ es=>some (.c5 false es)
 |_,.Z9 es i k=>some (.Z9 es i k)
 |n+1,.agg cs=>(cs.mapM (B7 h n)).map .agg
 |n+1,.Q0 cs=>(cs.mapM (B7 h n)).map .Q0
 |n+1,.fn f cs=>(cs.mapM (B7 h n)).map (.fn f)
 |n+1,.own id off k=>match h id with
  | .live r=>if off+k≤r.es.length then
    (if w7 ((r.es.drop off).take k)then some (.c5 false ((r.es.drop off).take k))else(((r.es.drop off).take k).mapM fun(e:List AV)=>e.mapM (B7 h n)).map (.c5 false))
   else none
  |_=>none
 |n+1,.ptr id i k=>match h id with
  | .live r=>if i+1≤r.es.length∧k<r.sz then
    (if w7 ((r.es.drop 0).take (i+1))then some (.Z9 ((r.es.drop 0).take (i+1)) i k)else(((r.es.drop 0).take (i+1)).mapM fun(e:List AV)=>e.mapM (B7 h n)).map fun es=> .Z9 es i k)
   else none
  |_=>none
 |_,_=>none
def b8(h:Nat→RS):Nat→AV→List (Nat×Nat)
 |n+1,.agg cs=>cs.flatMap (b8 h n)
 |n+1,.Q0 cs=>cs.flatMap (b8 h n)
 |n+1,.fn _ cs=>cs.flatMap (b8 h n)
 |n+1,.own id off k=>(id,off+k)::(match h id with
  | .live r=>if w7 ((r.es.drop off).take k)then[]else((r.es.drop off).take k).flatMap fun e=>e.flatMap (b8 h n)
  |_=>[])
 |n+1,.ptr id i _=>(id,i+1)::(match h id with
  | .live r=>if w7 ((r.es.drop 0).take (i+1))then[]else((r.es.drop 0).take (i+1)).flatMap fun e=>e.flatMap (b8 h n)
  |_=>[])
 |_,_=>[]
def raise(ids:List (Nat×Nat))(h:Nat→RS)(id:Nat):RS:=
 match h id with
 | .live r=> .live {r with fro:=E7 ids id r.fro}
 |x=>x
theorem a3n(ids:List (Nat×Nat))(id:Nat):∀m,m≤E7 ids id m:=by
 induction ids with
 |nil=>intro m;exact Nat.le_refl _
 |cons p ids ih=>
  intro m
  simp only[E7,List.foldl_cons]
  refine Nat.le_trans ?_ (ih _)
  split<;>omega
theorem zE{ids:List (Nat×Nat)}{id k:Nat}(h:(id,k)∈ids):∀m,k≤E7 ids id m:=by
 induction ids with
 |nil=>cases h
 |cons p ids ih=>
  intro m
  simp only[E7,List.foldl_cons]
  rcases List.mem_cons.1 h with h|h
  ·subst h
   refine Nat.le_trans ?_ (a3n ids id _)
   simp;omega
  ·exact ih h _
theorem K6{α β:Type}{f:α→Option β}:∀{l:List α} {l':List β},l.mapM f=some l'→l'.length=l.length:=by
 intro l
 induction l with
 |nil=>intro l' h;simp at h;subst h;rfl
 |cons a l ih=>
  intro l' h
  rw[List.mapM_cons]at h
  cases h1:f a with
  |none=>rw[h1]at h;cases h
  |some b=>
   cases h2:l.mapM f with
   |none=>rw[h1,h2]at h;cases h
   |some l2=>rw[h1,h2]at h;cases h;simp [ih h2]
section
variable {G:Gh} {M0:Nat→Nat→Prop} {w0:World} {ρ:Nat→Option (Nat×Nat×Nat)} {w:World} {P:Program} {h:Nat→RS}
theorem H4{ids:List (Nat×Nat)}{b o:Nat}(g:p7 M0 ρ (raise ids h) b o):p7 M0 ρ h b o:=by
 rcases g with g|⟨id,q,β,z,h1,h2,h3⟩
 ·exact .inl g
 ·unfold raise at h1
  split at h1
  ·rename_i r hr
   cases h1
   exact .inr ⟨id,r,β,z,hr,h2,Nat.le_trans (Nat.add_le_add_left (Nat.mul_le_mul_right _ (a3n ids id r.fro)) _) h3⟩
  ·rename_i hn;exact absurd h1 (hn _)
theorem r7.raise{ids:List (Nat×Nat)}{x:AV}{u:Value}(hr:r7 (p7 M0 ρ h) ρ w x u):r7 (p7 M0 ρ (raise ids h)) ρ w x u:=hr.oY fun _ _ g=>H4 g
theorem r7.Z5{M:Nat→Nat→Prop}{x:AV}{u:Value}(hr:r7 M ρ w x u)(hp:x.plain=true):r7 M (fun _=>none) w x u:=by
 cases hr with
 |v=>exact .v _
 |N6 t=>exact .N6 t
 |c5 c es a cap b o sz cell h1 h2 h3 h4 h5 h6=>exact .c5 c es a cap b o sz cell h1 h2 h3 h4 h5 h6
 |fn f cs vs hn hh=>
  cases cs with
  |nil=>exact .fn f [] vs hn (by simp)
  |cons c cs=>simp [AV.plain]at hp
 |_=>simp [AV.plain]at hp
theorem eA(H:kN M0 w0 h ρ w)(ids:List (Nat×Nat)):∀(n:Nat) (x y:AV) (u:Value),(∀p∈b8 h n x,p∈ids)→B7 h n x=some y→r7 (p7 M0 ρ h) ρ w x u→r7 (p7 M0 ρ (raise ids h)) (fun _=>none) w y u:=by
 intro n
 induction n with
 |zero=>
  intro x y u hin hf hx
  cases hx with
  |Z=>cases hf;exact .Z _
  |v=>cases hf;exact .v _
  |N6 t=>cases hf;exact .N6 t
  |c5 c es a cap b o sz cell h1 h2 h3 h4 h5 h6=>cases hf;exact .c5 false es a cap b o sz cell h1 (by simp) h3 h4 (fun i j hi hj=>⟨fun g=>(h5 i j hi hj).1 (H4 g),(h5 i j hi hj).2⟩) (fun i j e x g1 g2=>(h6 i j e x g1 g2).oY fun _ _ g=>H4 g)
  |Z9 es i k b o sz cell h1 h2 h3 h4 h5=>cases hf;exact .Z9 es i k b o sz cell h1 h2 h3 (fun i j hi hj=>⟨fun g=>(h4 i j hi hj).1 (H4 g),(h4 i j hi hj).2⟩) (fun i j e x g1 g2=>(h5 i j e x g1 g2).oY fun _ _ g=>H4 g)
  |_=>simp [B7]at hf
 |succ n ih=>
  intro x y u hin hf hx
  have many:∀(cs cs':List AV) (vs:Array Value),(∀p∈cs.flatMap (b8 h n),p∈ids)→cs.mapM (B7 h n)=some cs'→vs.size=cs.length→(∀(i:Nat) x u,cs[i]?=some x→vs[i]?=some u→r7 (p7 M0 ρ h) ρ w x u)→
    vs.size=cs'.length∧∀(i:Nat) x u,cs'[i]?=some x→vs[i]?=some u→r7 (p7 M0 ρ (raise ids h)) (fun _=>none) w x u:=by
   intro cs cs' vs hin hm hn hr
   refine⟨by rw[K6 hm];exact hn,fun i x u h1 h2=>?_⟩
   obtain⟨x0,e1,e2⟩:=F5 hm i x h1
   exact ih x0 x u (fun p hp=>hin p (List.mem_flatMap.2 ⟨x0,List.mem_of_getElem? e1,hp⟩)) e2 (hr i x0 u e1 h2)
  cases hx with
  |Z=>cases hf;exact .Z _
  |v=>cases hf;exact .v _
  |N6 t=>cases hf;exact .N6 t
  |c5 c es a cap b o sz cell h1 h2 h3 h4 h5 h6=>cases hf;exact .c5 false es a cap b o sz cell h1 (by simp) h3 h4 (fun i j hi hj=>⟨fun g=>(h5 i j hi hj).1 (H4 g),(h5 i j hi hj).2⟩) (fun i j e x g1 g2=>(h6 i j e x g1 g2).oY fun _ _ g=>H4 g)
  |Z9 es i k b o sz cell h1 h2 h3 h4 h5=>cases hf;exact .Z9 es i k b o sz cell h1 h2 h3 (fun i j hi hj=>⟨fun g=>(h4 i j hi hj).1 (H4 g),(h4 i j hi hj).2⟩) (fun i j e x g1 g2=>(h5 i j e x g1 g2).oY fun _ _ g=>H4 g)
  |agg cs vs hn hr=>
   simp only[B7,Option.map_eq_some_iff]at hf
   obtain⟨cs',hm,rfl⟩:=hf
   obtain⟨g1,g2⟩:=many cs cs' vs hin hm hn hr
   exact .agg cs' vs g1 g2
  |Q0 cs vs hn hr=>
   simp only[B7,Option.map_eq_some_iff]at hf
   obtain⟨cs',hm,rfl⟩:=hf
   obtain⟨g1,g2⟩:=many cs cs' vs hin hm hn hr
   exact .Q0 cs' vs g1 g2
  |fn f cs vs hn hr=>
   simp only[B7,Option.map_eq_some_iff]at hf
   obtain⟨cs',hm,rfl⟩:=hf
   obtain⟨g1,g2⟩:=many cs cs' vs hin hm hn hr
   exact .fn f cs' vs g1 g2
  |own id off k cap b β sz N e g1 g2 g3 g4=>
   simp only[B7]at hf
   split at hf
   ·rename_i r hr
    split at hf
    ·rename_i hle
     obtain⟨b',β',arr,e',l1,l2,l3,l4,l5,l6⟩:=H.live id r hr
     rw[g1]at l1
     cases l1
     have hfro:off+k≤E7 ids id r.fro:=zE (hin (id,off+k) (by simp [b8])) _
     have hlen:((r.es.drop off).take k).length=k:=by simp;omega
     have cells:∀i j,i<k→j<r.sz→¬p7 M0 ρ (Ab.raise ids h) b (β+off*r.sz+i*r.sz+j)∧w.cell? ⟨b,β+off*r.sz+i*r.sz+j,none⟩=some (arr.getD (β+off*r.sz+i*r.sz+j) undef):=by
      intro i j hi hj
      have hlt:(off+i+1)*r.sz≤(off+k)*r.sz:=Nat.mul_le_mul_right _ (by omega)
      rw[Nat.add_mul,Nat.add_mul]at hlt
      refine⟨?_,?_⟩
      ·rintro(g|⟨id',q,β',z,q1,q2,q3⟩)
       ·exact absurd rfl ((H.m0 _ _ g).2 id r _ hr g1)
       ·have hq:∃q',h id'= .live q':=by
         unfold Ab.raise at q1
         split at q1
         ·rename_i r' hr';exact⟨_,hr'⟩
         ·rename_i hn;exact absurd q1 (hn _)
        obtain⟨q',hq'⟩:=hq
        have:=H.inj _ _ _ _ _ _ _ _ _ hq' hr q2 g1
        subst this
        rw[g1]at q2
        cases q2
        simp only[Ab.raise,hr,RS.live.injEq]at q1
        subst q1
        simp only at q3
        have:(off+k)*r.sz≤E7 ids id' r.fro*r.sz:=Nat.mul_le_mul_right _ hfro
        omega
      ·rw[dT l3]
       have h1:(off+k)*r.sz≤r.es.length*r.sz:=Nat.mul_le_mul_right _ hle
       have:β+off*r.sz+i*r.sz+j<arr.size:=by omega
       simp [this]
     have hget:∀(i j:Nat) e x,((r.es.drop off).take k)[i]?=some e→e[j]?=some x→r7 (p7 M0 ρ h) ρ w x (arr.getD (β+off*r.sz+i*r.sz+j) undef):=by
      intro i j e x q1 q2
      rw[Y1]at q1
      split at q1
      ·rename_i hi
       have hj:j<r.sz:=by rw[←l5 e (List.mem_of_getElem? q1)];exact(List.getElem?_eq_some_iff.1 q2).1
       refine l6 (off+i) j e x _ q1 q2 ?_
       have hlt:(off+i+1)*r.sz≤(off+k)*r.sz:=Nat.mul_le_mul_right _ (by omega)
       have h1:(off+k)*r.sz≤r.es.length*r.sz:=Nat.mul_le_mul_right _ hle
       rw[Nat.add_mul,Nat.add_mul]at hlt
       rw[Nat.add_mul]
       have:β+off*r.sz+i*r.sz+j<arr.size:=by omega
       rw[show β+(off*r.sz+i*r.sz)+j=β+off*r.sz+i*r.sz+j from by omega]
       simp [this]
      ·cases q1
     have fin:∀ys:List (List AV),ys.length=k→(∀e∈ys,e.length=r.sz)→(∀(i j:Nat) e x,ys[i]?=some e→e[j]?=some x→r7 (p7 M0 ρ (Ab.raise ids h)) (fun _=>none) w x (arr.getD (β+off*r.sz+i*r.sz+j) undef))→
       r7 (p7 M0 ρ (Ab.raise ids h)) (fun _=>none) w (.c5 false ys) (.slice (some ⟨b,β+off*r.sz,none⟩) k cap):=by
      intro ys hy1 hy2 hy3
      rw[←hy1]
      exact .c5 false ys _ cap b (β+off*r.sz) r.sz (fun i j=>arr.getD (β+off*r.sz+i*r.sz+j) undef) (by rw[hy1];exact g2) (by simp) hy2 (fun _=>rfl) (fun i j hi hj=>cells i j (by rw[←hy1];exact hi) hj) hy3
     split at hf
     ·rename_i hpl
      cases hf
      refine fin _ hlen (fun e he=>l5 e (List.mem_of_mem_drop (List.mem_of_mem_take he))) fun i j e x q1 q2=>?_
      have hp:x.plain=true:=by
       have:=List.all_eq_true.1 hpl e (List.mem_of_getElem? q1)
       exact List.all_eq_true.1 this x (List.mem_of_getElem? q2)
      exact((hget i j e x q1 q2).Z5 hp).oY fun _ _ g=>H4 g
     ·rename_i hpl
      simp only[Option.map_eq_some_iff]at hf
      obtain⟨ys,hm,rfl⟩:=hf
      have hpl':w7 ((r.es.drop off).take k)=false:=by simpa using hpl
      refine fin ys (by rw[K6 hm,hlen]) (fun e he=>?_) fun i j e x q1 q2=>?_
      ·obtain⟨i,hi,hie⟩:=List.mem_iff_getElem.1 he
       obtain⟨e0,t1,t2⟩:=F5 hm i e (by simp [hi,hie])
       rw[K6 t2]
       exact l5 e0 (List.mem_of_mem_drop (List.mem_of_mem_take (List.mem_of_getElem? t1)))
      ·obtain⟨e0,t1,t2⟩:=F5 hm i e q1
       obtain⟨x0,t3,t4⟩:=F5 t2 j x q2
       refine ih x0 x _ (fun p hp=>hin p ?_) t4 (hget i j e0 x0 t1 t3)
       simp only[b8,hr,hpl',List.mem_cons,Bool.false_eq_true,if_false,List.mem_flatMap]
       exact .inr ⟨e0,List.mem_of_getElem? t1,x0,List.mem_of_getElem? t3,hp⟩
    ·cases hf
   ·cases hf
  |ptr id i0 k0 b β sz g1=>
   simp only[B7]at hf
   split at hf
   ·rename_i r hr
    split at hf
    ·rename_i hle0
     obtain⟨k,hk⟩:∃k,k=i0+1:=⟨_,rfl⟩
     obtain⟨off,ho⟩:∃off,off=0:=⟨_,rfl⟩
     have hle:off+k≤r.es.length:=by omega
     rw[←hk,←ho]at hf
     obtain⟨b',β',arr,e',l1,l2,l3,l4,l5,l6⟩:=H.live id r hr
     rw[g1]at l1
     cases l1
     have hfro:off+k≤E7 ids id r.fro:=zE (hin (id,off+k) (by simp [b8,hk,ho])) _
     have hlen:((r.es.drop off).take k).length=k:=by simp;omega
     have cells:∀i j,i<k→j<r.sz→¬p7 M0 ρ (Ab.raise ids h) b (β+off*r.sz+i*r.sz+j)∧w.cell? ⟨b,β+off*r.sz+i*r.sz+j,none⟩=some (arr.getD (β+off*r.sz+i*r.sz+j) undef):=by
      intro i j hi hj
      have hlt:(off+i+1)*r.sz≤(off+k)*r.sz:=Nat.mul_le_mul_right _ (by omega)
      rw[Nat.add_mul,Nat.add_mul]at hlt
      refine⟨?_,?_⟩
      ·rintro(g|⟨id',q,β',z,q1,q2,q3⟩)
       ·exact absurd rfl ((H.m0 _ _ g).2 id r _ hr g1)
       ·have hq:∃q',h id'= .live q':=by
         unfold Ab.raise at q1
         split at q1
         ·rename_i r' hr';exact⟨_,hr'⟩
         ·rename_i hn;exact absurd q1 (hn _)
        obtain⟨q',hq'⟩:=hq
        have:=H.inj _ _ _ _ _ _ _ _ _ hq' hr q2 g1
        subst this
        rw[g1]at q2
        cases q2
        simp only[Ab.raise,hr,RS.live.injEq]at q1
        subst q1
        simp only at q3
        have:(off+k)*r.sz≤E7 ids id' r.fro*r.sz:=Nat.mul_le_mul_right _ hfro
        omega
      ·rw[dT l3]
       have h1:(off+k)*r.sz≤r.es.length*r.sz:=Nat.mul_le_mul_right _ hle
       have:β+off*r.sz+i*r.sz+j<arr.size:=by omega
       simp [this]
     have hget:∀(i j:Nat) e x,((r.es.drop off).take k)[i]?=some e→e[j]?=some x→r7 (p7 M0 ρ h) ρ w x (arr.getD (β+off*r.sz+i*r.sz+j) undef):=by
      intro i j e x q1 q2
      rw[Y1]at q1
      split at q1
      ·rename_i hi
       have hj:j<r.sz:=by rw[←l5 e (List.mem_of_getElem? q1)];exact(List.getElem?_eq_some_iff.1 q2).1
       refine l6 (off+i) j e x _ q1 q2 ?_
       have hlt:(off+i+1)*r.sz≤(off+k)*r.sz:=Nat.mul_le_mul_right _ (by omega)
       have h1:(off+k)*r.sz≤r.es.length*r.sz:=Nat.mul_le_mul_right _ hle
       rw[Nat.add_mul,Nat.add_mul]at hlt
       rw[Nat.add_mul]
       have:β+off*r.sz+i*r.sz+j<arr.size:=by omega
       rw[show β+(off*r.sz+i*r.sz)+j=β+off*r.sz+i*r.sz+j from by omega]
       simp [this]
      ·cases q1
     have fin:∀ys:List (List AV),ys.length=k→(∀e∈ys,e.length=r.sz)→(∀(i j:Nat) e x,ys[i]?=some e→e[j]?=some x→r7 (p7 M0 ρ (Ab.raise ids h)) (fun _=>none) w x (arr.getD (β+off*r.sz+i*r.sz+j) undef))→
       r7 (p7 M0 ρ (Ab.raise ids h)) (fun _=>none) w (.Z9 ys i0 k0) (.pointer (some ⟨b,β+i0*r.sz+k0,none⟩)):=by
      intro ys hy1 hy2 hy3
      have hz:β+off*r.sz=β:=by rw[ho];omega
      rw[hz]at cells hy3
      exact .Z9 ys i0 k0 b β r.sz (fun i j=>arr.getD (β+i*r.sz+j) undef) (by omega) hle0.2 hy2 (fun i j hi hj=>cells i j (by rw[←hy1];exact hi) hj) hy3
     split at hf
     ·rename_i hpl
      cases hf
      refine fin _ hlen (fun e he=>l5 e (List.mem_of_mem_drop (List.mem_of_mem_take he))) fun i j e x q1 q2=>?_
      have hp:x.plain=true:=by
       have:=List.all_eq_true.1 hpl e (List.mem_of_getElem? q1)
       exact List.all_eq_true.1 this x (List.mem_of_getElem? q2)
      exact((hget i j e x q1 q2).Z5 hp).oY fun _ _ g=>H4 g
     ·rename_i hpl
      simp only[Option.map_eq_some_iff]at hf
      obtain⟨ys,hm,rfl⟩:=hf
      have hpl':w7 ((r.es.drop off).take k)=false:=by simpa using hpl
      refine fin ys (by rw[K6 hm,hlen]) (fun e he=>?_) fun i j e x q1 q2=>?_
      ·obtain⟨i,hi,hie⟩:=List.mem_iff_getElem.1 he
       obtain⟨e0,t1,t2⟩:=F5 hm i e (by simp [hi,hie])
       rw[K6 t2]
       exact l5 e0 (List.mem_of_mem_drop (List.mem_of_mem_take (List.mem_of_getElem? t1)))
      ·obtain⟨e0,t1,t2⟩:=F5 hm i e q1
       obtain⟨x0,t3,t4⟩:=F5 t2 j x q2
       refine ih x0 x _ (fun p hp=>hin p ?_) t4 (hget i j e0 x0 t1 t3)
       rw[ho,hk]at hpl' t1
       simp only[b8,hr,hpl',List.mem_cons,Bool.false_eq_true,if_false,List.mem_flatMap]
       exact .inr ⟨e0,List.mem_of_getElem? t1,x0,List.mem_of_getElem? t3,hp⟩
    ·cases hf
   ·cases hf
  |_=>simp [B7]at hf
end
end
section
def s7(nid:Nat)(rs:List Row)(id:Nat):RS:=if nid≤id∧id<nid+rs.length then .live (rs.getD (id-nid) ⟨0,[],0⟩)else .free
def eF(P:Program)(f:FuncId):Prop:=∃fn,P.funcs[f]?=some fn∧fn.body.isSome=true∧(fn.name== "runtime.NumGoroutine")=false
class j9 (P:Program) where
 ok:World→Prop
 mono:∀{w w':World},ok w→Below w.heap.size w w'→ok w'
def n5(P:Program)[j9 P](f:FuncId)(xs:List AV)(y:Nat→AV)(rows:Nat→List Row):Prop:=
 eF P f∧∀(nid:Nat) (M:Nat→Nat→Prop) (w:World) (args:Array Value),j9.ok P w→(∀b o,M b o→b<w.heap.size)→RC M (fun _=>none) w xs args→
  Calls P f args w fun e w'=>∃v ρ,e= .returned v∧kN M w (s7 nid (rows nid)) ρ w'∧r7 (p7 M ρ (s7 nid (rows nid))) ρ w' (y nid) v
def AV.b0N:AV→Bool
 | .v _=>true
 | .N6=>true
 |_=>false
def AV.flat:AV→Bool
 | .v _=>true
 | .N6=>true
 | .agg cs=>cs.all AV.b0N
 | .Q0 cs=>cs.all AV.b0N
 |_=>false
theorem Fx.a8A(x:AV)(fp)(ids:List (Nat×Nat))(rs:List Row)(nid:Nat)(h:Nat→RS)(id:Nat):
  Fx.heap {val:=x,fp:=fp,fro:=ids,new:=rs} nid h id=if nid≤id∧id<nid+rs.length then .live (rs.getD (id-nid) ⟨0,[],0⟩)else raise ids h id:=by
 simp only[Fx.heap,Fx.row,eU,raise]
 split
 ·rfl
 ·rw[if_neg (by simp)]
  all_goals(cases h id<;>rfl)
section
variable {G:Gh} {M0:Nat→Nat→Prop} {w0:World} {s:St} {ρ:Nat→Option (Nat×Nat×Nat)} {a:Act} {w:World} {P:Program}
theorem Rel.b5W(R:Rel G M0 w0 s ρ a w){b o:Nat}(g:p7 M0 ρ s.h b o):b<w.heap.size:=by
 rcases g with g|⟨id,r,β,z,h1,h2,_⟩
 ·rcases R.m0 _ _ g with h|⟨x,h⟩
  ·exact Nat.lt_of_lt_of_le h R.U2.size
  ·exact B4 (R.fY _ _ h)
 ·exact(R.vV h1 h2).1
theorem lB{w w':World}(h:Below w.heap.size w w'){b o:Nat}{c:Value}(hc:w.cell? ⟨b,o,none⟩=some c):w'.cell? ⟨b,o,none⟩=some c:=by
 rw[h.cell (World.block_lt_of_cell? w _ hc)];exact hc
theorem jK{w w':World}(h:Below w.heap.size w w'){r:Nat}{p}(hs:w.shape? r=some p):w'.shape? r=some p:=by
 unfold World.shape? at*
 split at hs
 ·rename_i hh
  rw[h.block r (B4 hh),hh];exact hs
 ·cases hs
theorem a8b (R:Rel G M0 w0 s ρ a w) {d:Option Tmp} (hd:L3 s d) {y:AV} {v:Value} {rows:List Row} {nid:Nat} {ids:List (Nat×Nat)} {ρc:Nat→Option (Nat×Nat×Nat)} {w':World} (hfree:∀k,k<8→s.h (nid+k)= .free) (hlen:rows.length≤8)
  (H:kN (p7 M0 ρ (raise ids s.h)) w (s7 nid rows) ρc w') (hv:r7 (p7 (p7 M0 ρ (raise ids s.h)) ρc (s7 nid rows)) ρc w' y v):
  Rel G M0 w0 {s.put d y with h:=Fx.heap {val:=y,fro:=ids,new:=rows} nid s.h} (fun id=>if nid≤id∧id<nid+rows.length then ρc id else ρ id) (a.put d v) w'∧
  r7 (p7 M0 (fun id=>if nid≤id∧id<nid+rows.length then ρc id else ρ id) (Fx.heap {val:=y,fro:=ids,new:=rows} nid s.h)) (fun id=>if nid≤id∧id<nid+rows.length then ρc id else ρ id) w' y v:=by
 have hheap:Fx.heap {val:=y,fro:=ids,new:=rows} nid s.h=fun id=>if nid≤id∧id<nid+rows.length then RS.live (rows.getD (id-nid) ⟨0,[],0⟩)else raise ids s.h id:=by
  funext id;exact Fx.a8A _ _ _ _ _ _ _
 rw[hheap]
 have hin:∀id,nid≤id∧id<nid+rows.length→ρ id=none:=by
  intro id h
  refine R.free id ?_
  have:=hfree (id-nid) (by omega)
  rwa [show nid+(id-nid)=id from by omega]at this
 have hρ:∀id p,ρ id=some p→(if nid≤id∧id<nid+rows.length then ρc id else ρ id)=some p:=by
  intro id p h
  by_cases hid:nid≤id∧id<nid+rows.length
  ·rw[hin id hid]at h;cases h
  ·rw[if_neg hid];exact h
 have hρc:∀id p,ρc id=some p→(if nid≤id∧id<nid+rows.length then ρc id else ρ id)=some p:=by
  intro id p h
  by_cases hid:nid≤id∧id<nid+rows.length
  ·rw[if_pos hid];exact h
  ·have:=H.free id (by unfold s7;rw[if_neg hid])
   rw[this]at h;cases h
 have rlive:∀{id:Nat},(nid≤id∧id<nid+rows.length)→s7 nid rows id= .live (rows.getD (id-nid) ⟨0,[],0⟩):=by
  intro id h;unfold s7;rw[if_pos h]
 have newblk:∀{id b β z:Nat},(nid≤id∧id<nid+rows.length)→ρc id=some (b,β,z)→w.heap.size≤b:=by
  intro id b β z h1 h2
  obtain⟨b',β',arr,e,p1,p2,_⟩:=H.live id _ (rlive h1)
  rw[h2]at p1;cases p1;exact p2
 have raised:∀{id:Nat} {r:Row},raise ids s.h id= .live r→∃r0,s.h id= .live r0∧r={r0 with fro:=E7 ids id r0.fro}:=by
  intro id r h
  unfold raise at h
  split at h
  ·rename_i r0 h0;cases h;exact⟨r0,h0,rfl⟩
  ·rename_i hn;exact absurd h (hn _)
 have hMM:∀b o,p7 M0 (fun id=>if nid≤id∧id<nid+rows.length then ρc id else ρ id) (fun id=>if nid≤id∧id<nid+rows.length then RS.live (rows.getD (id-nid) ⟨0,[],0⟩)else raise ids s.h id) b o→
   p7 (p7 M0 ρ (raise ids s.h)) ρc (s7 nid rows) b o:=by
  rintro b o (g|⟨id,r,β,z,g1,g2,g3⟩)
  ·exact .inl (.inl g)
  ·by_cases hid:nid≤id∧id<nid+rows.length
   ·simp only[if_pos hid]at g1 g2
    exact .inr ⟨id,r,β,z,by rw[rlive hid];exact g1,g2,g3⟩
   ·simp only[if_neg hid]at g1 g2
    exact .inl (.inr ⟨id,r,β,z,g1,g2,g3⟩)
 have hc:∀b o c,¬p7 M0 ρ s.h b o→w.cell? ⟨b,o,none⟩=some c→¬p7 M0 (fun id=>if nid≤id∧id<nid+rows.length then ρc id else ρ id) (fun id=>if nid≤id∧id<nid+rows.length then RS.live (rows.getD (id-nid) ⟨0,[],0⟩)else raise ids s.h id) b o∧w'.cell? ⟨b,o,none⟩=some c:=by
  intro b o c g1 g2
  refine⟨?_,lB H.U2 g2⟩
  intro g
  rcases hMM b o g with g|⟨id,r,β,z,q1,q2,q3⟩
  ·exact g1 (H4 g)
  ·have hid:nid≤id∧id<nid+rows.length:=by
    by_cases hid:nid≤id∧id<nid+rows.length
    ·exact hid
    ·unfold s7 at q1;rw[if_neg hid]at q1;cases q1
   exact absurd (newblk hid q2) (by have:=World.block_lt_of_cell? w _ g2;simp only at this;omega)
 have hs:∀r p,w.shape? r=some p→w'.shape? r=some p:=fun r p h=>jK H.U2 h
 have up:∀{x u},r7 (p7 (p7 M0 ρ (raise ids s.h)) ρc (s7 nid rows)) ρc w' x u→r7 (p7 M0 (fun id=>if nid≤id∧id<nid+rows.length then ρc id else ρ id) (fun id=>if nid≤id∧id<nid+rows.length then RS.live (rows.getD (id-nid) ⟨0,[],0⟩)else raise ids s.h id)) (fun id=>if nid≤id∧id<nid+rows.length then ρc id else ρ id) w' x u:=
  fun h=>r7.mono (w:=w') (w':=w') hρc (fun b o c g1 g2=>⟨fun g=>g1 (hMM b o g),g2⟩) (fun _ _ h=>h) h
 refine⟨R.step hd hρ hc hs ?_ ?_ ?_ ?_ (by
  intro id k cs h
  by_cases hid:nid≤id∧id<nid+rows.length
  ·simp only[if_pos hid]at h;cases h
  ·simp only[if_neg hid]at h
   unfold raise at h
   split at h
   ·cases h
   ·exact h) (by
  intro id b q f h
  by_cases hid:nid≤id∧id<nid+rows.length
  ·simp only[if_pos hid]at h;cases h
  ·simp only[if_neg hid]at h
   unfold raise at h
   split at h
   ·cases h
   ·exact h) (U5.below H.U2) (fun b o _ h=>by rw[H.U2.block b (B4 h)];exact h) (by
  intro id r p h hp
  by_cases hid:nid≤id∧id<nid+rows.length
  ·simp only[if_pos hid]at h hp
   exact R.a7a (newblk (b:=p.1) (β:=p.2.1) (z:=p.2.2) hid hp)
  ·simp only[if_neg hid]at h hp
   obtain⟨r0,h0,_⟩:=raised h
   exact R.dH id r0 p h0 hp) (up hv),up hv⟩
 ·intro id r h
  by_cases hid:nid≤id∧id<nid+rows.length
  ·simp only[if_pos hid]at h⊢
   obtain⟨b,β,arr,e',p1,p2,p3,p4,p5,p6⟩:=H.live id r (by rw[rlive hid];exact h)
   exact⟨b,β,arr,e',p1,Nat.le_trans R.U2.size p2,p3,p4,p5,fun i j e x u g1 g2 g3=>up (p6 i j e x u g1 g2 g3)⟩
  ·simp only[if_neg hid]at h⊢
   obtain⟨r0,h0,rfl⟩:=raised h
   obtain⟨b,β,arr,e',p1,p2,p3,p4,p5,p6⟩:=R.live id r0 h0
   exact⟨b,β,arr,e',p1,p2,by rw[H.U2.block b (B4 p3)];exact p3,p4,p5,fun i j e x u g1 g2 g3=>(p6 i j e x u g1 g2 g3).mono hρ hc hs⟩
 ·intro id h
  by_cases hid:nid≤id∧id<nid+rows.length
  ·simp only[if_pos hid]at h;cases h
  ·simp only[if_neg hid]at h⊢
   refine R.free id ?_
   unfold raise at h
   split at h
   ·cases h
   ·exact h
 ·intro i1 i2 r1 r2 b β β' z z' g1 g2 g3 g4
  by_cases c1:nid≤i1∧i1<nid+rows.length<;>by_cases c2:nid≤i2∧i2<nid+rows.length
  ·simp only[if_pos c1,if_pos c2]at g1 g2 g3 g4
   exact H.inj i1 i2 r1 r2 b β β' z z' (by rw[rlive c1];exact g1) (by rw[rlive c2];exact g2) g3 g4
  ·simp only[if_pos c1,if_neg c2]at g1 g2 g3 g4
   obtain⟨r0,h0,_⟩:=raised g2
   exact absurd (newblk c1 g3) (by have:=(R.vV h0 g4).1;omega)
  ·simp only[if_neg c1,if_pos c2]at g1 g2 g3 g4
   obtain⟨r0,h0,_⟩:=raised g1
   exact absurd (newblk c2 g4) (by have:=(R.vV h0 g3).1;omega)
  ·simp only[if_neg c1,if_neg c2]at g1 g2 g3 g4
   obtain⟨q1,h1,_⟩:=raised g1
   obtain⟨q2,h2,_⟩:=raised g2
   exact R.inj _ _ _ _ _ _ _ _ _ h1 h2 g3 g4
 ·exact R.U2.trans (H.U2.mono R.U2.size)
theorem a4R [j9 P] (hg:j9.ok P w0) (R:Rel G M0 w0 s ρ a w) {d:Option Tmp} (hd:L3 s d) {f:FuncId} {xs0 xs:List AV} {y:Nat→AV} {rows:Nat→List Row} {nid n:Nat} {args:Array Value} (hfree:∀k,k<8→s.h (nid+k)= .free) (hlen:(rows nid).length≤8)
  (hargs:RC (p7 M0 ρ s.h) ρ w xs0 args) (hfz:xs0.mapM (B7 s.h n)=some xs) (C:n5 P f xs y rows):
  Calls P f args w fun e w'=>∃v ρ',e= .returned v∧Rel G M0 w0 {s.put d (y nid)with h:=Fx.heap {val:=y nid,fro:=xs0.flatMap (b8 s.h n),new:=rows nid} nid s.h} ρ' (a.put d v) w':=by
 generalize hids:xs0.flatMap (b8 s.h n)=ids
 have hM:∀b o,p7 M0 ρ (raise ids s.h) b o→b<w.heap.size:=fun b o g=>R.b5W (H4 g)
 have hRC:RC (p7 M0 ρ (raise ids s.h)) (fun _=>none) w xs args:=by
  refine⟨by rw[K6 hfz];exact hargs.1,fun i x u h1 h2=>?_⟩
  obtain⟨x0,e1,e2⟩:=F5 hfz i x h1
  exact eA R.toH ids n x0 x u (fun p hp=>by rw[←hids];exact List.mem_flatMap.2 ⟨x0,List.mem_of_getElem? e1,hp⟩) e2 (hargs.2 i x0 u e1 h2)
 refine(C.2 nid _ w args (j9.mono hg R.U2) hM hRC).mono fun e w' ⟨v,ρc,he,H,hv⟩=>⟨v,_,he,(a8b R hd hfree hlen H hv).1⟩
theorem r7.flat{M M':Nat→Nat→Prop}{ρ ρ':Nat→Option (Nat×Nat×Nat)}{w w':World}{x:AV}{v:Value}(hx:r7 M ρ w x v)(hf:x.flat=true):r7 M' ρ' w' x v:=by
 have one:∀{x:AV} {v:Value},r7 M ρ w x v→x.b0N=true→r7 M' ρ' w' x v:=by
  intro x v h hf
  cases h with
  |v=>exact .v _
  |N6 t=>exact .N6 t
  |_=>cases hf
 cases hx with
 |v=>exact .v _
 |N6 t=>exact .N6 t
 |agg cs vs hn hr=>exact .agg cs vs hn fun i x u h1 h2=>one (hr i x u h1 h2) (List.all_eq_true.1 hf x (List.mem_of_getElem? h1))
 |Q0 cs vs hn hr=>exact .Q0 cs vs hn fun i x u h1 h2=>one (hr i x u h1 h2) (List.all_eq_true.1 hf x (List.mem_of_getElem? h1))
 |_=>cases hf
theorem a8a [j9 P] (hg:j9.ok P w0) (R:Rel G M0 w0 s ρ a w) {d:Option Tmp} (hd:L3 s d) {f:FuncId} {xs0 xs:List AV} {y:Nat→AV} {rows:Nat→List Row} {nid n:Nat} {args:Array Value}
  (hargs:RC (p7 M0 ρ s.h) ρ w xs0 args) (hfz:xs0.mapM (B7 s.h n)=some xs) (C:n5 P f xs y rows) (hfl:(y nid).flat=true):
  Calls P f args w fun e w'=>∃v,e= .returned v∧Rel G M0 w0 (s.put d (y nid)) ρ (a.put d v) w':=by
 generalize hids:xs0.flatMap (b8 s.h n)=ids
 have hM:∀b o,p7 M0 ρ (raise ids s.h) b o→b<w.heap.size:=fun b o g=>R.b5W (H4 g)
 have hRC:RC (p7 M0 ρ (raise ids s.h)) (fun _=>none) w xs args:=by
  refine⟨by rw[K6 hfz];exact hargs.1,fun i x u h1 h2=>?_⟩
  obtain⟨x0,e1,e2⟩:=F5 hfz i x h1
  exact eA R.toH ids n x0 x u (fun p hp=>by rw[←hids];exact List.mem_flatMap.2 ⟨x0,List.mem_of_getElem? e1,hp⟩) e2 (hargs.2 i x0 u e1 h2)
 refine(C.2 nid _ w args (j9.mono hg R.U2) hM hRC).mono fun e w' ⟨v,ρc,he,H,hv⟩=>⟨v,he,?_⟩
 have hc:∀b o c,¬p7 M0 ρ s.h b o→w.cell? ⟨b,o,none⟩=some c→¬p7 M0 ρ s.h b o∧w'.cell? ⟨b,o,none⟩=some c:=fun b o c g1 g2=>⟨g1,lB H.U2 g2⟩
 have hs:∀r p,w.shape? r=some p→w'.shape? r=some p:=fun r p h=>jK H.U2 h
 have:=R.step (ρ':=ρ) (w':=w') (h':=s.h) (val:=y nid) (v:=v) hd (fun _ _ h=>h) hc hs (by
  intro id r h0
  obtain⟨b,β,arr,e',p1,p2,p3,p4,p5,p6⟩:=R.live id r h0
  exact⟨b,β,arr,e',p1,p2,by rw[H.U2.block b (B4 p3)];exact p3,p4,p5,fun i j e x u g1 g2 g3=>(p6 i j e x u g1 g2 g3).mono (fun _ _ h=>h) hc hs⟩) R.free R.inj
  (R.U2.trans (H.U2.mono R.U2.size)) (fun _ _ _ h=>h) (fun _ _ _ _ h=>h) (U5.below H.U2) (fun b o _ h=>by rw[H.U2.block b (B4 h)];exact h) R.dH (hv.flat hfl)
 cases d<;>exact this
end
end
end Go.Ab
end
section
namespace Go.Ab
open Go.RowKit (Below)
open Go.MapKept
section
def tm(P:Program)(t:TypeId):Option (TypeDesc×Value):=
 match P.underlying t with
 |some (.map kt et)=>match P.underlying kt,P.info? et with
  |some d,some i=>i.zero.map fun z=>(d,z)
  |_,_=>none
 |_=>none
open Classical in
noncomputable def aH (f:Value→Option Value) (k x:Value):Value→Option Value:=fun c=>if c=k then some x else f c
def bE(q:IntKind)(g:Int→Option Value):Value→Option Value
 | .int k c=>if k=q then g c else none
 |_=>none
theorem c6(q:IntKind)(g:Int→Option Value)(a:Int):bE q g (.int q a)=g a:=by simp [bE]
theorem b9(q:IntKind)(g:Int→Option Value)(a:Int)(x:Value):aH (bE q g) (.int q a) x=bE q (fun c=>if c=a then some x else g c):=by
 funext v
 unfold aH
 by_cases h:v= .int q a
 ·subst h;simp [bE]
 ·rw[if_neg h]
  cases v<;>simp [bE]
  rename_i k c
  by_cases hk:k=q
  ·subst hk
   simp only[if_true]
   rw[if_neg (fun e=>h (by rw[e]))]
  ·rw[if_neg hk,if_neg hk]
section
variable {P:Program} {w:World} {t:TypeId} {b:Nat} {d:TypeDesc} {z k x:Value} {f:Value→Option Value}
theorem a5V(h:tm P t=some (d,z)):∃kt et i,P.underlying t=some (.map kt et)∧P.underlying kt=some d∧P.info? et=some i∧i.zero=some z:=by
 unfold tm at h
 split at h
 ·rename_i kt et h1
  split at h
  ·rename_i d' i h2 h3
   simp only[Option.map_eq_some_iff,Prod.mk.injEq]at h
   obtain⟨z',hz,rfl,rfl⟩:=h
   exact⟨kt,et,i,h1,h2,h3,hz⟩
  ·cases h
 ·cases h
end
def a52(P:Program)(kt:TypeId):Prop:=∀(a b:Int) (w:World),(∀e,(Instr.checkKey e 10000 kt (.agg #[.int .i64 a,.int .i64 b])).run P w= .ok () w)∧
 ∀c d,(Op.equal kt (.agg #[.int .i64 a,.int .i64 b]) (.agg #[.int .i64 c,.int .i64 d])).run P w= .ok (decide (a=c∧b=d)) w
def b2L(P:Program)(t:TypeId):Prop:=∃kt et,P.underlying t=some (.map kt et)∧a52 P kt
def kY(P:Program)(t:TypeId)(d:TypeDesc)(k:Value):Prop:=IsKey d k∨b2L P t∧wP d∧∃x y,k= .agg #[.int .i64 x,.int .i64 y]
section
variable {P:Program} {w:World} {t:TypeId} {b:Nat} {d:TypeDesc} {z k x:Value} {f:Value→Option Value}
theorem kY.ok(h:kY P t d k):wO d k:=h.imp id (·.2)
theorem wP.no(h:wP d){k:Value}:¬IsKey d k:=by cases d<;>first|exact h.elim|(intro g;cases k<;>exact g.elim)
theorem wP.now(h:wP d)(a b:Array Value):Instr.sameNow d (.agg a) (.agg b)=none:=by cases d<;>first|exact h.elim|rfl
theorem b0b{kt:TypeId}(hp:a52 P kt){x y:Int}:∀(l:List MapEntry) (i:Nat),(∀e∈l,∃x y,e.key= .agg #[.int .i64 x,.int .i64 y])→
  ((Instr.findAsking kt (.agg #[.int .i64 x,.int .i64 y]) l i).run P w= .ok none w∧∀e∈l,e.key≠ .agg #[.int .i64 x,.int .i64 y])∨
  ∃j e,(Instr.findAsking kt (.agg #[.int .i64 x,.int .i64 y]) l i).run P w= .ok (some (i+j,e.val)) w∧l[j]?=some e∧e.key= .agg #[.int .i64 x,.int .i64 y]:=by
 intro l
 induction l with
 |nil=>intro i _;exact .inl ⟨by simp [Instr.findAsking],by simp⟩
 |cons e l ih=>
  intro i h
  obtain⟨x',y',he⟩:=h e (by simp)
  have hr:=(hp x y w).2 x' y'
  by_cases hxy:x=x'∧y=y'
  ·obtain⟨rfl,rfl⟩:=hxy
   refine .inr ⟨0,e,?_,rfl,he⟩
   simp [Instr.findAsking,he,hr,Result.andThen]
  ·have hne:e.key≠ .agg #[.int .i64 x,.int .i64 y]:=by
    rw[he];intro e'
    simp only[Value.agg.injEq,Array.mk.injEq,List.cons.injEq,Value.int.injEq,true_and,and_true]at e'
    exact hxy ⟨e'.1.symm,e'.2.symm⟩
   have hd:decide (x=x'∧y=y')=false:=by simp [hxy]
   rw[hd]at hr
   rcases ih (i+1) (fun e h'=>h e (by simp [h']))with⟨h1,h2⟩|⟨j,e',h1,h2,h3⟩
   ·refine .inl ⟨by simp [Instr.findAsking,he,hr,h1,Result.andThen],fun q hq=>?_⟩
    simp only[List.mem_cons]at hq
    rcases hq with rfl|hq
    ·exact hne
    ·exact h2 q hq
   ·exact .inr ⟨j+1,e',by simp [Instr.findAsking,he,hr,h1,Result.andThen];omega,by simpa using h2,h3⟩
theorem a3E{kt et:TypeId}(h1:P.underlying t=some (.map kt et))(h2:P.underlying kt=some d)(hk:kY P t d k){l:List MapEntry}(hl:∀x∈l,wO d x.key):
  (∀e,(Instr.checkKey e 10000 kt k).run P w= .ok () w)∧(Instr.keyThatStays k k).run P w= .ok k w∧
  (((Instr.findKey kt k l).run P w= .ok none w∧∀x∈l,x.key≠k)∨∃j e,(Instr.findKey kt k l).run P w= .ok (some (j,e.val)) w∧l[j]?=some e∧e.key=k):=by
 rcases hk with hk|⟨⟨kt',et',q1,hp⟩,hpd,x,y,rfl⟩
 ·refine⟨fun e=>Go.MapKept.run_checkKey h2 hk e 9999,Go.MapKept.run_keyThatStays hk,?_⟩
  have hl':∀x∈l,IsKey d x.key:=fun x hx=>by
   rcases hl x hx with h|⟨hp,_⟩
   ·exact h
   ·exact absurd hk hp.no
  rcases findNow_spec hk l 0 hl' with⟨g1,g2⟩|⟨j,e,g1,g2,g3⟩
  ·exact .inl ⟨Go.MapKept.run_findKey h2 g1,g2⟩
  ·rw[Nat.zero_add]at g1
   exact .inr ⟨j,e,Go.MapKept.run_findKey h2 g1,g2,g3⟩
 ·rw[h1]at q1
  cases q1
  refine⟨(hp x y w).1,?_,?_⟩
  ·have:Instr.sameBits 10000 (.agg #[.int .i64 x,.int .i64 y]) (.agg #[.int .i64 x,.int .i64 y])=true:=by
    rw[show(10000:Nat)=9998+1+1 from rfl,Instr.sameBits]
    simp [Instr.sameBits]
   simp [Instr.keyThatStays,this]
  ·have hl':∀e∈l,∃x y,e.key= .agg #[.int .i64 x,.int .i64 y]:=fun e he=>by
    rcases hl e he with h|⟨_,x',y',h⟩
    ·exact absurd h hpd.no
    ·exact⟨x',y',h⟩
   cases l with
   |nil=>exact .inl ⟨by simp [Instr.findKey,run_underlying h2,Result.andThen,Instr.findNow],by simp⟩
   |cons e l=>
    have hn:Instr.findNow d (.agg #[.int .i64 x,.int .i64 y]) (e::l) 0=none:=by
     obtain⟨x',y',he⟩:=hl' e (by simp)
     simp [Instr.findNow,he,hpd.now]
    have:=b0b (w:=w) hp (x:=x) (y:=y) (e::l) 0 hl'
    simp only[Nat.zero_add]at this
    simp only[Instr.findKey,run_underlying h2,Result.andThen,Sem.run_bind,hn]
    exact this
theorem kY.ne(h:kY P t d k):d≠ .invalid:=by
 rcases h with h|⟨_,h,_⟩
 ·intro e;subst e;cases k<;>simp [IsKey]at h
 ·intro e;subst e;exact h
theorem aJ.map(hM:aJ w b d f)(hd:d≠ .invalid):∃es c,w.heap[b]?=some (.map es c)∧(∀x∈es.toList,wO d x.key)∧(es.toList.map (·.key)).Nodup∧(∀x∈es.toList,f x.key=some x.val)∧(∀k v,f k=some v→∃x∈es.toList,x.key=k)∧Go.MapKept.Stamped es c:=by
 rcases hM with h|⟨h,_⟩
 ·exact h
 ·exact absurd h hd
theorem a3I(ht:tm P t=some (d,z))(hM:aJ w b d f)(hk:kY P t d k)(c:Bool):
  (Instr.lookup t (.map (some b)) k c).run P w= .ok (if c then .tuple #[(f k).getD z,.bool (f k).isSome]else(f k).getD z) w:=by
 obtain⟨kt,et,i,h1,h2,h3,h4⟩:=a5V ht
 obtain⟨es,cl,m1,m2,m3,m4,m5,_⟩:=hM.map hk.ne
 have hz:(zeroValue et).run P w= .ok z w:=by simp [zeroValue,typeInfo,h3,h4]
 obtain⟨c1,_,c2⟩:=a3E (w:=w) h1 h2 hk m2
 rcases c2 with⟨g1,g2⟩|⟨j,e,g1,g2,g3⟩
 ·have hf:f k=none:=by
   cases hf:f k with
   |none=>rfl
   |some v=>obtain⟨y,hy,e⟩:=m5 k v hf;exact absurd e (g2 y hy)
  rw[hf]
  cases c<;>simp [Instr.lookup,run_underlying h1,Go.MapKept.run_getObj_map m1,c1,g1,hz,Result.andThen]
 ·have hf:f k=some e.val:=by rw[←g3];exact m4 e (List.mem_of_getElem? g2)
  rw[hf]
  cases c<;>simp [Instr.lookup,run_underlying h1,Go.MapKept.run_getObj_map m1,c1,g1,Result.andThen]
end
open Classical in
noncomputable def mapLen (f:Value→Option Value):Nat:=if h:∃K:List Value,K.Nodup∧∀k,(f k).isSome=true↔k∈K then(Classical.choose h).length else 0
theorem zU{f:Value→Option Value}{K:List Value}(h1:K.Nodup)(h2:∀k,(f k).isSome=true↔k∈K):mapLen f=K.length:=by
 have h:∃K:List Value,K.Nodup∧∀k,(f k).isSome=true↔k∈K:=⟨K,h1,h2⟩
 unfold mapLen
 rw[dif_pos h]
 obtain⟨c1,c2⟩:=Classical.choose_spec h
 exact((List.perm_ext_iff_of_nodup c1 h1).2 fun x=>(c2 x).symm.trans (h2 x)).length_eq
section
variable {P:Program} {w:World} {t ty:TypeId} {b:Nat} {d:TypeDesc} {z:Value} {f:Value→Option Value}
theorem b1I(ht:tm P t=some (d,z))(hM:aJ w b d f)(hd:d≠ .invalid):(Builtin.len_ #[t] ty #[.map (some b)]).run P w= .ok (goInt (mapLen f)) w:=by
 obtain⟨kt,et,i,h1,h2,h3,h4⟩:=a5V ht
 obtain⟨es,cl,m1,m2,m3,m4,m5,_⟩:=hM.map hd
 have hl:mapLen f=es.size:=by
  rw[zU (K:=es.toList.map (·.key)) m3 fun k=>?_]
  ·simp
  ·constructor
   ·intro h
    obtain⟨v,hv⟩:=Option.isSome_iff_exists.1 h
    obtain⟨x,hx,rfl⟩:=m5 k v hv
    exact List.mem_map.2 ⟨x,hx,rfl⟩
   ·intro h
    obtain⟨x,hx,rfl⟩:=List.mem_map.1 h
    rw[m4 x hx];rfl
 rw[hl]
 simp [Builtin.len_,run_underlying h1,Go.MapKept.run_getObj_map m1,Result.andThen]
end
def B9(b:Nat):List (Nat×RS)→Option (Nat×TypeDesc×(Value→Option Value))
 |[]=>none
 |(id,.mp b' d f)::l=>if b'=b then some (id,d,f)else B9 b l
 |_::l=>B9 b l
end
end Go.Ab
end
section
namespace Go.Ab
open Go.RowKit (Below)
section
structure a9H (M0:Nat→Nat→Prop) (ρ:Nat→Option (Nat×Nat×Nat)) (h:Nat→RS) (w:World) (ρ':Nat→Option (Nat×Nat×Nat)) (h':Nat→RS) (w':World):Prop where
 hc:∀b o c,¬p7 M0 ρ h b o→w.cell? ⟨b,o,none⟩=some c→¬p7 M0 ρ' h' b o∧w'.cell? ⟨b,o,none⟩=some c
 hs:∀r s,w.shape? r=some s→w'.shape? r=some s
 hk:∀b x,w.heap[b]?=some x→(∀j p,ρ j=some p→p.1≠b)→w'.heap[b]?=some x
 hn:∀id r p,h' id= .live r→ρ' id=some p→(∃j q,ρ j=some q∧q.1=p.1)∨w.heap.size≤p.1
def y9(P:Program)[j9 P](f:FuncId)(xs:List AV)(rs:List Row)(m:Nat){α:Type}(I:α→Prop)(y:α→AV)(rs':α→List Row):Prop:=
 eF P f∧∀(M0:Nat→Nat→Prop) (w0:World) (ρ:Nat→Option (Nat×Nat×Nat)) (w:World) (args:Array Value),j9.ok P w0→kN M0 w0 (s7 0 rs) ρ w→RC (p7 M0 ρ (s7 0 rs)) ρ w xs args→
  Calls P f args w fun e w'=>∃v a ρ',e= .returned v∧I a∧kN M0 w0 (s7 0 (rs' a)) ρ' w'∧r7 (p7 M0 ρ' (s7 0 (rs' a))) ρ' w' (y a) v∧(∀i,i<m→ρ' i=ρ i)∧a9H M0 ρ (s7 0 rs) w ρ' (s7 0 (rs' a)) w'
def iQ(P:Program)[j9 P](f:FuncId)(n:Nat)(xs:List AV)(cs cs':List AV)(val:AV):Prop:=
 eF P f∧∀rest:List Value,cs.length+rest.length=n→y9 P f xs [⟨n,[cs++rest.map AV.v],0⟩] 1 (fun _:Unit=>True) (fun _=>val) (fun _=>[⟨n,[cs'++rest.map AV.v],0⟩])
def a9e(id:Nat):AV→Option AV
 | .ptr i 0 0=>if i=id then some (.ptr 0 0 0)else none
 | .v x=>some (.v x)
 |_=>none
def b5N(P:Program)[j9 P](f:FuncId)(xs:List AV)(h:Nat→RS)(fx:Fx):Prop:=
 ∃id r ys cs cs' val,iQ P f r.sz ys cs cs' val∧xs.mapM (a9e id)=some ys∧h id= .live r∧r.es.length=1∧r.fro=0∧(∀j,j<cs.length→(r.es[0]?).bind (·[j]?)=cs[j]?)∧
  cs'.length=cs.length∧cs.all AV.plain=true∧cs'.all AV.plain=true∧val.flat=true∧fx={val:=val,fp:=[(id,some (0,0,cs.length),true)],wr:=some (id,0,0,cs')}
def kX(P:Program)[j9 P](f:FuncId)(xs:List AV)(b:Nat)(d:TypeDesc)(F:Value→Option Value)(y:AV):Prop:=
 eF P f∧∀(M:Nat→Nat→Prop) (w0 w:World) (args:Array Value),j9.ok P w0→Below w0.heap.size w0 w→w0.heap.size≤b→aJ w b d F→(∀b o,M b o→b<w.heap.size)→RC M (fun _=>none) w xs args→
  Calls P f args w fun e w'=>∃v,e= .returned v∧Below w.heap.size w w'∧r7 M (fun _=>none) w' y v
def b7K(P:Program)[j9 P](f:FuncId)(zs:List AV)(h:Nat→RS)(fx:Fx):Prop:=
 ∃n xs idm b d F y,zs.mapM (B7 h n)=some xs∧kX P f xs b d F y∧h idm= .mp b d F∧y.flat=true∧fx={val:=y,fp:=((idm,0)::zs.flatMap (b8 h n)).map fun p=>(p.1,none,false)}
def a24(P:Program)[j9 P](f:FuncId)(xs:List AV)(h:Nat→RS)(fx:Fx):Prop:=b5N P f xs h fx∨b7K P f xs h fx
section
variable {G:Gh} {M0:Nat→Nat→Prop} {w0:World} {s:St} {ρ:Nat→Option (Nat×Nat×Nat)} {a:Act} {w:World} {P:Program}
theorem a4a{row r:Row}{i:Nat}(h:s7 0 [row] i= .live r):i=0∧r=row:=by
 unfold s7 at h
 split at h
 ·rename_i hi
  have:i=0:=by simp at hi;omega
  subst this
  cases h
  exact⟨rfl,rfl⟩
 ·cases h
theorem a4T [j9 P] (hg:j9.ok P w0) (R:Rel G M0 w0 s ρ a w) {d:Option Tmp} (hd:L3 s d) {f:FuncId} {id:Nat} {r:Row} {cs cs' xs0 xs:List AV} {val:AV} {args:Array Value}
  (hl:s.h id= .live r) (hes:r.es.length=1) (hfro:r.fro=0) (hcs:∀j,j<cs.length→(r.es[0]?).bind (·[j]?)=cs[j]?) (oH:cs'.length=cs.length) (hpl:cs.all AV.plain=true) (hpl':cs'.all AV.plain=true) (hval:val.flat=true)
  (hx:xs0.mapM (a9e id)=some xs) (hargs:RC (p7 M0 ρ s.h) ρ w xs0 args) (C:iQ P f r.sz xs cs cs' val):
  Calls P f args w fun e w'=>∃v ρ',e= .returned v∧Rel G M0 w0 {s.put d val with h:=m9 s.h id (.live {r with es:=r.es.modify 0 (fun e=>u2 e 0 cs')})} ρ' (a.put d v) w':=by
 obtain⟨b,β,arr,ety,l1,l2,l3,l4,l5,l6⟩:=R.live id r hl
 obtain⟨e,he⟩:∃e,r.es=[e]:=by
  match hq:r.es with
  |[]=>rw[hq]at hes;cases hes
  |[e]=>exact⟨e,rfl⟩
  |e1::e2::l=>rw[hq]at hes;simp at hes
 have hez:e.length=r.sz:=l5 e (by rw[he];simp)
 have hce:∀j,j<cs.length→e[j]?=cs[j]?:=fun j hj=>by have:=hcs j hj;rw[he]at this;simpa using this
 have hk:cs.length≤e.length:=by
  rcases Nat.eq_zero_or_pos cs.length with h|h
  ·omega
  ·have h1:=hce (cs.length-1) (by omega)
   have h2:cs.length-1<cs.length:=by omega
   rw[List.getElem?_eq_getElem h2]at h1
   have:=(List.getElem?_eq_some_iff.1 h1).1
   omega
 rw[he]at l4
 simp only[List.length_cons,List.length_nil,Nat.zero_add,Nat.one_mul]at l4
 have l6':∀(j:Nat) x u,e[j]?=some x→arr[β+j]?=some u→r7 (p7 M0 ρ s.h) ρ w x u:=fun j x u h1 h2=>l6 0 j e x u (by rw[he];rfl) h1 (by simpa using h2)
 obtain⟨raws,hraws⟩:∃raws:List Value,raws=(List.range (r.sz-cs.length)).map fun j=>arr.getD (β+cs.length+j) undef:=⟨_,rfl⟩
 have hrl:raws.length=r.sz-cs.length:=by rw[hraws];simp
 have hrg:∀j,j<r.sz-cs.length→raws[j]?=some (arr.getD (β+cs.length+j) undef):=fun j hj=>by rw[hraws];simp [hj]
 have hag:∀j,j<r.sz→arr[β+j]?=some (arr.getD (β+j) undef):=fun j hj=>by
  have:β+j<arr.size:=by omega
  simp [this]
 have aD:cs.length+raws.length=r.sz:=by omega
 let M1:Nat→Nat→Prop:=fun b' o=>M0 b' o∨∃i r' β' z',i≠id∧s.h i= .live r'∧ρ i=some (b',β',z')∧β'+r'.fro*z'≤o
 let ρ0:Nat→Option (Nat×Nat×Nat):=fun i=>if i=0 then some (b,β,r.sz)else none
 let row0:Row:=⟨r.sz,[cs++raws.map AV.v],0⟩
 have hM1:∀b' o,M1 b' o→p7 M0 ρ s.h b' o:=by
  rintro b' o (g|⟨i,r',β',z',_,g1,g2,g3⟩)
  ·exact .inl g
  ·exact .inr ⟨i,r',β',z',g1,g2,g3⟩
 have hMR:∀b' o,p7 M1 ρ0 (s7 0 [row0]) b' o→p7 M0 ρ s.h b' o:=by
  rintro b' o (g|⟨i,r',β',z',g1,g2,g3⟩)
  ·exact hM1 b' o g
  ·obtain⟨rfl,rfl⟩:=a4a g1
   simp only[ρ0,if_true,Option.some.injEq,Prod.mk.injEq]at g2
   obtain⟨rfl,rfl,rfl⟩:=g2
   exact .inr ⟨id,r,β,r.sz,hl,l1,by rw[hfro];simpa[row0]using g3⟩
 have pl:∀{x:AV} {u:Value},r7 (p7 M0 ρ s.h) ρ w x u→x.plain=true→r7 (p7 M1 ρ0 (s7 0 [row0])) ρ0 w x u:=fun h hp=>((h.Z5 hp).up).oY hMR
 have hM1b:∀b' o,M1 b' o→b'<w.heap.size∧b'≠b:=by
  rintro b' o (g|⟨i,r',β',z',g0,g1,g2,g3⟩)
  ·obtain⟨h1,h2⟩:=R.toH.m0 b' o g
   exact⟨h1,fun e=>h2 id r _ hl l1 e.symm⟩
  ·refine⟨(R.vV g1 g2).1,fun e=>?_⟩
   subst e
   exact g0 (R.inj _ _ _ _ _ _ _ _ _ g1 hl g2 l1)
 have H:kN M1 w0 (s7 0 [row0]) ρ0 w:=by
  refine⟨?_,?_,?_,R.U2,?_⟩
  ·intro i r' hi
   obtain⟨rfl,rfl⟩:=a4a hi
   refine⟨b,β,arr,ety,rfl,l2,l3,by simp [row0];omega,by simp [row0];omega,?_⟩
   intro i j e' x u g1 g2 g3
   match i,g1 with
   |0,g1=>
    simp only[row0,List.getElem?_cons_zero,Option.some.injEq]at g1
    subst g1
    simp only[Nat.zero_mul,Nat.add_zero]at g3
    by_cases hj:j<cs.length
    ·rw[List.getElem?_append_left hj]at g2
     refine pl (l6' j x u (by rw[hce j hj];exact g2) g3) ?_
     exact List.all_eq_true.1 hpl x (List.mem_of_getElem? g2)
    ·rw[List.getElem?_append_right (by omega),List.getElem?_map]at g2
     have hj2:j-cs.length<r.sz-cs.length:=by
      rcases Nat.lt_or_ge (j-cs.length) (r.sz-cs.length)with h|h
      ·exact h
      ·rw[List.getElem?_eq_none (by omega)]at g2;cases g2
     rw[hrg _ hj2]at g2
     cases g2
     rw[show β+cs.length+(j-cs.length)=β+j from by omega]
     rw[hag j (by omega)]at g3
     cases g3
     exact .v _
  ·intro i hi
   simp only[ρ0]
   rw[if_neg]
   intro e
   subst e
   simp [s7]at hi
  ·intro i j r1 r2 b' β' β'' z z' g1 g2 _ _
   rw[(a4a g1).1,(a4a g2).1]
  ·intro b' o g
   obtain⟨h1,h2⟩:=hM1b b' o g
   refine⟨h1,fun i r' p hi hp e=>?_⟩
   obtain⟨rfl,_⟩:=a4a hi
   simp only[ρ0,if_true,Option.some.injEq]at hp
   subst hp
   exact h2 e.symm
 have hargs':RC (p7 M1 ρ0 (s7 0 [row0])) ρ0 w xs args:=by
  refine⟨by rw[K6 hx];exact hargs.1,fun i x u e1 e2=>?_⟩
  obtain⟨x0,e3,e4⟩:=F5 hx i x e1
  have hr:=hargs.2 i x0 u e3 e2
  unfold a9e at e4
  split at e4
  ·rename_i i0
   split at e4
   ·rename_i h0
    subst h0
    cases e4
    cases hr with
    |ptr _ _ _ b2 β2 sz2 g=>
     rw[l1]at g
     cases g
     have:=r7.ptr (M:=p7 M1 ρ0 (s7 0 [row0])) (ρ:=ρ0) (w:=w) 0 0 0 b β r.sz rfl
     simpa using this
   ·cases e4
  ·cases e4
   rw[hr.Y8];exact .v _
  ·cases e4
 refine((C.2 raws aD).2 M1 w0 ρ0 w args hg H hargs').mono ?_
 rintro e1 w' ⟨v,_,ρ',hev,_,H',hv,hst,F⟩
 have hρ0:ρ' 0=some (b,β,r.sz):=by rw[hst 0 (by omega)];rfl
 obtain⟨b2,β2,arr',ety',t1,t2,t3,t4,t5,t6⟩:=H'.live 0 ⟨r.sz,[cs'++raws.map AV.v],0⟩ (by simp [s7])
 rw[hρ0]at t1
 cases t1
 have t6':∀(j:Nat) x u,(cs'++raws.map AV.v)[j]?=some x→arr'[β+j]?=some u→r7 (p7 M1 ρ' (s7 0 [⟨r.sz,[cs'++raws.map AV.v],0⟩])) ρ' w' x u:=fun j x u h1 h2=>t6 0 j _ x u rfl h1 (by simpa using h2)
 refine⟨v,ρ,hev,?_⟩
 obtain⟨r2,hr2⟩:∃r2:Row,r2={r with es:=r.es.modify 0 (fun e=>u2 e 0 cs')}:=⟨_,rfl⟩
 rw[←hr2]
 have hes2:r2.es=[u2 e 0 cs']:=by rw[hr2,he];rfl
 have hM2:∀b' o,p7 M0 ρ (m9 s.h id (.live r2)) b' o↔p7 M0 ρ s.h b' o:=fun b' o=>qV hl (by rw[hr2]) b' o
 have hM3:∀b' o,p7 M0 ρ s.h b' o→p7 M1 ρ' (s7 0 [⟨r.sz,[cs'++raws.map AV.v],0⟩]) b' o:=by
  rintro b' o (g|⟨i,r',β',z',g1,g2,g3⟩)
  ·exact .inl (.inl g)
  ·by_cases hi:i=id
   ·subst hi
    rw[hl]at g1
    cases g1
    rw[l1]at g2
    cases g2
    exact .inr ⟨0,_,β,r.sz,by simp only[s7];rfl,hρ0,by rw[hfro]at g3;simpa using g3⟩
   ·exact .inl (.inr ⟨i,r',β',z',hi,g1,g2,g3⟩)
 have hc:∀b' o c,¬p7 M0 ρ s.h b' o→w.cell? ⟨b',o,none⟩=some c→¬p7 M0 ρ (m9 s.h id (.live r2)) b' o∧w'.cell? ⟨b',o,none⟩=some c:=by
  intro b' o c g1 g2
  obtain⟨q1,q2⟩:=F.hc b' o c (fun h=>g1 (hMR b' o h)) g2
  exact⟨fun h=>g1 ((hM2 b' o).1 h),q2⟩
 have hkeep:∀b' x,w.heap[b']?=some x→b'≠b→w'.heap[b']?=some x:=fun b' x h1 h2=>by
  refine F.hk b' x h1 fun j p hp e=>?_
  simp only[ρ0]at hp
  split at hp
  ·cases hp;exact h2 e.symm
  ·cases hp
 refine R.step hd (fun _ _ h=>h) hc F.hs ?_ ?_ ?_ H'.U2 (by
  intro id' k' cs0 h
  by_cases hid:id'=id
  ·subst hid;simp [m9]at h
  ·simpa only[m9,if_neg hid]using h) (by
  intro id' b' q f h
  by_cases hid:id'=id
  ·subst hid;simp [m9]at h
  ·simpa only[m9,if_neg hid]using h) (fun b' es c h=>hkeep b' _ h (fun e=>by subst e;rw[l3]at h;cases h;cases c))
  (fun b' o hk' h=>hkeep b' o h (fun e=>by subst e;rw[R.dH id r _ hl l1]at hk';cases hk')) (by
  intro id' r' p h hp
  by_cases hid:id'=id
  ·subst hid;exact R.dH _ r p hl hp
  ·simp only[m9,if_neg hid]at h;exact R.dH id' r' p h hp) (hv.flat hval)
 ·intro id' r' h
  by_cases hid:id'=id
  ·subst hid
   simp only[m9,if_true,RS.live.injEq]at h
   subst h
   refine⟨b,β,arr',ety',by rw[l1,hr2],t2,t3,?_,?_,?_⟩
   ·rw[hes2,hr2];simpa using t4
   ·rw[hes2,hr2]
    intro z hz
    simp only[List.mem_singleton]at hz
    subst hz
    rw[lS];exact hez
   ·rw[hes2]
    intro i j em x u g1 g2 g3
    match i,g1 with
    |0,g1=>
     cases g1
     simp only[Nat.zero_mul,Nat.add_zero]at g3
     rw[gG]at g2
     by_cases hj:j<cs'.length
     ·rw[if_pos ⟨Nat.zero_le _,by omega⟩,if_pos (by omega),Nat.sub_zero]at g2
      have hp:x.plain=true:=List.all_eq_true.1 hpl' x (List.mem_of_getElem? g2)
      exact(((t6' j x u (by rw[List.getElem?_append_left hj];exact g2) g3).Z5 hp).up).oY fun b' o h=>hM3 b' o ((hM2 b' o).1 h)
     ·rw[if_neg (by omega)]at g2
      have hjz:j<r.sz:=by rw[←hez];exact(List.getElem?_eq_some_iff.1 g2).1
      have h1:(cs'++raws.map AV.v)[j]?=some (.v (arr.getD (β+j) undef)):=by
       rw[List.getElem?_append_right (by omega),List.getElem?_map,hrg _ (by omega),show β+cs.length+(j-cs'.length)=β+j from by omega];rfl
      have h2:=(t6' j _ u h1 g3).Y8
      rw[h2]
      exact(l6' j x _ g2 (hag j hjz)).mono (fun _ _ h=>h) hc F.hs
  ·simp only[m9,if_neg hid]at h
   obtain⟨b',β',arr1,e1',p1,p2,p3,p4,p5,p6⟩:=R.live id' r' h
   have hbb:b'≠b:=by
    intro e
    subst e
    exact hid (R.inj _ _ _ _ _ _ _ _ _ h hl p1 l1)
   exact⟨b',β',arr1,e1',p1,p2,hkeep _ _ p3 hbb,p4,p5,fun m j em z c g1 g2 g3=>(p6 m j em z c g1 g2 g3).mono (fun _ _ h=>h) hc F.hs⟩
 ·intro id' h
  by_cases hid:id'=id
  ·subst hid;simp [m9]at h
  ·simp only[m9,if_neg hid]at h;exact R.free _ h
 ·intro i1 i2 r1 r2' b' β1 β2 z1 z2 h1 h2 h3 h4
  have lift:∀i1 r1,m9 s.h id (.live r2) i1= .live r1→∃r',s.h i1= .live r':=by
   intro i1 r1 h
   by_cases hid:i1=id
   ·subst hid;exact⟨r,hl⟩
   ·simp only[m9,if_neg hid]at h;exact⟨_,h⟩
  obtain⟨q1,g1⟩:=lift _ _ h1
  obtain⟨q2,g2⟩:=lift _ _ h2
  exact R.inj _ _ _ _ _ _ _ _ _ g1 g2 h3 h4
theorem a8O [j9 P] (hg:j9.ok P w0) (R:Rel G M0 w0 s ρ a w) {d:Option Tmp} (hd:L3 s d) {f:FuncId} {xs0 xs:List AV} {y:AV} {n idm b:Nat} {kd:TypeDesc} {F:Value→Option Value} {args:Array Value}
  (hargs:RC (p7 M0 ρ s.h) ρ w xs0 args) (hfz:xs0.mapM (B7 s.h n)=some xs) (C:kX P f xs b kd F y) (hm:s.h idm= .mp b kd F) (hfl:y.flat=true):
  Calls P f args w fun e w'=>∃v,e= .returned v∧Rel G M0 w0 (s.put d y) ρ (a.put d v) w':=by
 generalize hids:xs0.flatMap (b8 s.h n)=ids
 have hM:∀b o,p7 M0 ρ (raise ids s.h) b o→b<w.heap.size:=fun b o g=>R.b5W (H4 g)
 have hRC:RC (p7 M0 ρ (raise ids s.h)) (fun _=>none) w xs args:=by
  refine⟨by rw[K6 hfz];exact hargs.1,fun i x u h1 h2=>?_⟩
  obtain⟨x0,e1,e2⟩:=F5 hfz i x h1
  exact eA R.toH ids n x0 x u (fun p hp=>by rw[←hids];exact List.mem_flatMap.2 ⟨x0,List.mem_of_getElem? e1,hp⟩) e2 (hargs.2 i x0 u e1 h2)
 obtain⟨m1,m2⟩:=R.iM idm b kd F hm
 refine(C.2 _ w0 w args hg R.U2 m1 m2 hM hRC).mono fun e w' ⟨v,he,hbel,hv⟩=>⟨v,he,?_⟩
 have hc:∀b o c,¬p7 M0 ρ s.h b o→w.cell? ⟨b,o,none⟩=some c→¬p7 M0 ρ s.h b o∧w'.cell? ⟨b,o,none⟩=some c:=fun b o c g1 g2=>⟨g1,lB hbel g2⟩
 have hs:∀r p,w.shape? r=some p→w'.shape? r=some p:=fun r p h=>jK hbel h
 have:=R.step (ρ':=ρ) (w':=w') (h':=s.h) (val:=y) (v:=v) hd (fun _ _ h=>h) hc hs (by
  intro id r h0
  obtain⟨b,β,arr,e',p1,p2,p3,p4,p5,p6⟩:=R.live id r h0
  exact⟨b,β,arr,e',p1,p2,by rw[hbel.block b (B4 p3)];exact p3,p4,p5,fun i j e x u g1 g2 g3=>(p6 i j e x u g1 g2 g3).mono (fun _ _ h=>h) hc hs⟩) R.free R.inj
  (R.U2.trans (hbel.mono R.U2.size)) (fun _ _ _ h=>h) (fun _ _ _ _ h=>h) (U5.below hbel) (fun b o _ h=>by rw[hbel.block b (B4 h)];exact h) R.dH (hv.flat hfl)
 cases d<;>exact this
end
end
section
def AV.scalar:AV→Option Value
 | .v x=>some x
 |_=>none
def AV.Z0:AV→Option Value
 | .v x=>some x
 | .agg cs=>(cs.mapM AV.scalar).map fun(l:List Value)=> .agg l.toArray
 |_=>none
def AV.J6:AV→Option Value
 | .v x=>some x
 | .agg [.v x,.v y]=>some (.agg #[x,y])
 |_=>none
theorem tZ{M:Nat→Nat→Prop}{ρ:Nat→Option (Nat×Nat×Nat)}{w:World}{x:AV}{u k:Value}(h:r7 M ρ w x u)(hk:x.J6=some k):u=k:=by
 cases h with
 |v=>simpa[AV.J6]using hk
 |agg cs vs hn hr=>
  match cs,hk,hn,hr with
  |[.v a,.v b],hk,hn,hr=>
   simp only[AV.J6,Option.some.injEq]at hk
   subst hk
   have h2:vs.size=2:=hn
   have e0:=hr 0 (.v a) vs[0] rfl (by simp [h2])
   have e1:=hr 1 (.v b) vs[1] rfl (by simp [h2])
   congr 1
   refine Array.ext (by simpa using h2) fun i hi1 hi2=>?_
   match i,hi1,hi2 with
   |0,_,_=>generalize vs[0]=q at e0⊢;cases e0;rfl
   |1,_,_=>generalize vs[1]=q at e1⊢;cases e1;rfl
   |n+2,_,hi2=>simp at hi2;omega
 |_=>cases hk
def TD.isRow:TD→Bool
 | .struct _| .array _ _=>true
 |_=>false
def b1q(x:AV)(id i k:Nat):Prop:=x= .ptr id i k∨x= .dP id i k
def a8W(s:St):Option Operand→Option Int→Prop
 |none,none=>True
 |some x,some i=>∃k,s.ev x= .v (.int k i)
 |_,_=>False
def pR(s:St)(sz:Nat):AV→Prop
 | .c5 _ es=>∀e∈es,e.length=sz
 | .own id _ _=>∃r,s.h id= .live r∧r.sz=sz
 |_=>True
def u6:AV→List (Nat×Option (Nat×Nat×Nat)×Bool)
 | .own id _ _=>[(id,some (0,0,0),false)]
 |_=>[]
def s9:AV→List (Nat×Option (Nat×Nat×Nat)×Bool)
 | .own id _ _=>[(id,none,false)]
 |_=>[]
def b0k(P:Program)(op:BinOp)(t:TypeId)(x y:Operand)(vx vy z:Value):Prop:=∀w,(do eqGuard op t x y vx vy;binOp op t vx vy:Sem Value).run P w= .ok z w
def unR(P:Program)(op:UnOp)(vx z:Value):Prop:=∀w,(Op.unary op vx).run P w= .ok z w
def b4f(P:Program)(src dst:TypeId)(vx z:Value):Prop:=∀w,(convert src dst vx).run P w= .ok z w
def biR(P:Program)(b:Builtin)(argTypes:Array TypeId)(type:TypeId)(consts:Array Bool)(vs:Array Value)(z:Value):Prop:=∀w,(builtin b argTypes type consts vs).run P w= .ok (.value z) w
def b68(P:Program)(t:TypeId)(vx vi z:Value):Prop:=∀w,(Instr.index t vx vi).run P w= .ok z w
def b7k(P:Program)(t:TypeId)(vx:Value)(lo hi mx:Option Value)(z:Value):Prop:=∀w,(Instr.sliceAt t vx lo hi mx).run P w= .ok z w
def b3h:AV→Option Nat
 | .c5 _ es=>some es.length
 | .own _ _ n=>some n
 |_=>none
def u7(op:BinOp)(x:AV):Option AV:=
 match op,x with
 | .eql,.c5 _ es=>some (if es.isEmpty then .N6 else .v (.bool false))
 | .neq,.c5 _ es=>some (if es.isEmpty then .N6 else .v (.bool true))
 | .eql,.own .. =>some (.v (.bool false))
 | .neq,.own .. =>some (.v (.bool true))
 |_,_=>none
def wJ(s:St):Option Operand→Option (Option Value)
 |none=>some none
 |some x=>(s.ev x).Z0.map some
def w9:AV→Bool
 | .ptr .. | .dP .. | .Z9 .. | .own .. | .fn .. | .mJ .. =>true
 |_=>false
def gP(fv:AV)(xs:List AV):Option (FuncId×List AV):=
 match fv with
 | .fn f X2=>some (f,xs++X2)
 | .mJ f cs=>some (f,cs++xs)
 |_=>none
theorem gQ{M:Nat→Nat→Prop}{ρ:Nat→Option (Nat×Nat×Nat)}{w:World}{x:AV}{u:Value}{xs zs:List AV}{args:Array Value}{f:FuncId}(h:r7 M ρ w x u)(hx:gP x xs=some (f,zs))(ha:RC M ρ w xs args):
  ∃first vs,u= .func (.func f) first vs∧RC M ρ w zs (first++args++vs):=by
 have two:∀{a00 bs:List AV} {us vs:Array Value},RC M ρ w a00 us→RC M ρ w bs vs→RC M ρ w (a00++bs) (us++vs):=by
  intro a00 bs us vs g1 g2
  refine⟨by simp [g1.1,g2.1],fun i x u e1 e2=>?_⟩
  by_cases hi:i<us.size
  ·rw[List.getElem?_append_left (by rw[←g1.1];exact hi)]at e1
   rw[Array.getElem?_append_left hi]at e2
   exact g1.2 i x u e1 e2
  ·rw[List.getElem?_append_right (by rw[←g1.1];omega)]at e1
   rw[Array.getElem?_append_right (by omega)]at e2
   refine g2.2 _ x u (by rw[g1.1];exact e1) e2
 cases h with
 |fn g cs vs hn hr=>cases hx;exact⟨#[],vs,rfl,by rw[Array.empty_append];exact two ha ⟨hn,hr⟩⟩
 |mJ g cs vs hn hr=>cases hx;exact⟨vs, #[],rfl,by rw[Array.append_empty];exact two ⟨hn,hr⟩ ha⟩
 |_=>cases hx
def ex(P:Program)[j9 P](o:Oper)(s:St)(nid:Nat)(fx:Fx):Prop:=
 match o.op with
 | .move x| .assign x=>fx={val:=s.ev x}
 | .nilCheck x=>w9 (s.ev x)=true∧fx={val:=s.ev x}
 | .pick c a b=>∃t,s.ev c= .v (.bool t)∧fx={val:=if t then s.ev a else s.ev b}
 | .alloc e=>∃T,ti P e=some T∧fx={val:= .ptr nid 0 0,new:=[⟨T.size,[T.zero.map AV.J5],0⟩]}
 | .box _ x=>∃cs,(s.ev x).o3=some cs∧fx={val:= .ptr nid 0 0,new:=[⟨cs.length,[cs],0⟩]}
 | .build t ps=>∃D,td P t=some D∧D.isRow=true∧∃T,ti P t=some T∧∃cs,kT (u4 D) (T.zero.map AV.J5) (ps.toList.map fun p=>(p.1,s.ev p.2))=some cs∧fx={val:= .agg cs}
 | .buildSlice t len ps=>∃E,td P t=some (.slice E)∧len*E.size≤16777216∧∃es,qT E.size (List.replicate len (E.zero.map AV.J5)) (ps.toList.map fun p=>(p.1,s.ev p.2))=some es∧fx={val:= .own nid 0 len,new:=[⟨E.size,es,0⟩]}
 | .load t a=>∃T,ti P t=some T∧∃cs,rd s (s.ev a) T.size=some cs∧∃val,A9 T.agg cs=some val∧fx={val:=val,fp:=u0 false (s.ev a) T.size}
 | .store t a x=>∃T,ti P t=some T∧∃cs,(s.ev x).o3=some cs∧cs.length=T.size∧cs.all AV.one=true∧∃id i k,b1q (s.ev a) id i k∧∃r,s.h id= .live r∧r.fro≤i∧i<r.es.length∧k+T.size≤r.sz∧
   fx={val:= .Z,fp:=u0 true (s.ev a) T.size,wr:=some (id,i,k,cs)}
 | .binOp op t x y _=>(∃vx,(s.ev x).Z0=some vx∧∃vy,(s.ev y).Z0=some vy∧∃z,b0k P op t x y vx vy z∧fx={val:= .v z})∨
   (y= .const (.slice none 0 0)∧∃E,td P t=some (.slice E)∧∃val,u7 op (s.ev x)=some val∧fx={val:=val})
 | .unOp op _ x=>∃vx,(s.ev x).Z0=some vx∧∃z,unR P op vx z∧fx={val:= .v z}
 | .convert src dst x=>∃vx,(s.ev x).Z0=some vx∧∃z,b4f P src dst vx z∧fx={val:= .v z}
 | .makeFunc fn first X2=>∃f,fn= .func f∧(first= #[]∧fx={val:= .fn f (X2.toList.map s.ev)}∨X2= #[]∧fx={val:= .mJ f (first.toList.map s.ev)})
 | .makeSlice t l c=>∃E,td P t=some (.slice E)∧∃k n,s.ev l= .v (.int k n)∧∃k',s.ev c= .v (.int k' n)∧0≤n∧E.bytes*n≤140737488355328∧n≤140737488355328∧
   fx={val:= .own nid 0 n.toNat,new:=[⟨E.size,List.replicate n.toNat (E.zero.map AV.J5),0⟩]}
 | .slice t x lo hi mx=>(∃E,td P t=some (.slice E)∧pR s E.size (s.ev x)∧∃l,(lo=none∧l=0∨∃lx k,lo=some lx∧s.ev lx= .v (.int k l))∧∃ho,a8W s hi ho∧∃mo,a8W s mx mo∧∃val,iE (s.ev x) l ho mo=some val∧fx={val:=val,fp:=u6 (s.ev x)})∨
   (∃vx,(s.ev x).Z0=some vx∧∃vlo,wJ s lo=some vlo∧∃vhi,wJ s hi=some vhi∧∃vmx,wJ s mx=some vmx∧∃z,b7k P t vx vlo vhi vmx z∧fx={val:= .v z})
 | .fieldAddr t x f=>∃fs,td P t=some (.struct fs)∧∃p,fs[f]?=some p∧∃val,sQ (s.ev x) p.1=some val∧fx={val:=val}
 | .field t x f=>∃fs,td P t=some (.struct fs)∧∃p,fs[f]?=some p∧∃cs,s.ev x= .agg cs∧∃val,qK p.2 cs p.1=some val∧fx={val:=val}
 | .indexAddr t x ix=>∃D,td P t=some D∧(∀E,D= .slice E→pR s E.size (s.ev x))∧∃k i,s.ev ix= .v (.int k i)∧∃val,a0R D s (s.ev x) i=some val∧fx={val:=val,fp:=u6 (s.ev x)}
 | .index t x ix=>(∃n E,td P t=some (.array n E)∧∃cs,s.ev x= .agg cs∧∃k i,s.ev ix= .v (.int k i)∧0≤i∧i<n∧∃val,qK E cs (i.toNat*E.size)=some val∧fx={val:=val})∨
   (∃vx,(s.ev x).Z0=some vx∧∃vi,(s.ev ix).Z0=some vi∧∃z,b68 P t vx vi z∧fx={val:= .v z})
 | .extract x i=>∃cs,s.ev x= .Q0 cs∧∃val,cs[i]?=some val∧fx={val:=val}
 | .lookup t m k c=>∃d z,tm P t=some (d,z)∧∃b,s.ev m= .v (.map (some b))∧∃kv,(s.ev k).J6=some kv∧kY P t d kv∧∃id f,s.h id= .mp b d f∧fx={val:=if c then .Q0 [.v ((f kv).getD z),.v (.bool (f kv).isSome)]else .v ((f kv).getD z),fp:=[(id,none,false)]}
 | .call c=>match c.callee with
  | .builtin b=>
   (b= .len∧∃x,c.args= #[x]∧∃t,c.argTypes= #[t]∧∃E,td P t=some (.slice E)∧∃n,b3h (s.ev x)=some n∧fx={val:= .v (.int .i64 n)})∨
   (b= .append∧∃x y,c.args= #[x,y]∧∃t t2,c.argTypes= #[t,t2]∧∃E,td P t=some (.slice E)∧∃E2,td P t2=some (.slice E2)∧pR s E.size (s.ev x)∧pR s E.size (s.ev y)∧∃ys,lT s (s.ev y)=some ys∧(∀e∈ys,e.length=E.size)∧
    (
     (∃cl es,s.ev x= .c5 cl es∧ys=[]∧fx={val:= .c5 cl es,fp:=s9 (s.ev y)})∨
     (∃es,s.ev x= .c5 true es∧ys≠[]∧es.length+ys.length≤140737488355328∧(es.length+ys.length)*E.bytes≤140737488355328∧fx={val:= .own nid 0 (es.length+ys.length),fp:=s9 (s.ev y),new:=[⟨E.size,es++ys,0⟩]})∨
     (∃id off n,s.ev x= .own id off n∧∃r,s.h id= .live r∧off+n≤r.es.length∧r.fro≤off+n∧(∀e∈ys,∀x∈e,AV.one x=true)∧n+ys.length≤140737488355328∧(n+ys.length)*E.bytes≤140737488355328∧
      fx={val:= .own nid 0 (n+ys.length),fp:=(id,none,true)::s9 (s.ev y),kill:=some id,new:=[⟨E.size,(r.es.drop off).take n++ys,r.fro-off⟩]})))∨
   (∃vs,c.args.toList.mapM (fun x=>(s.ev x).Z0)=some vs∧∃z,biR P b c.argTypes o.type (c.args.map fun| .const _=>true|_=>false) vs.toArray z∧fx={val:= .v z})∨
   (b= .len∧∃x,c.args= #[x]∧∃t,c.argTypes= #[t]∧∃kd z,tm P t=some (kd,z)∧kd≠ .invalid∧∃bk,s.ev x= .v (.map (some bk))∧∃id f,s.h id= .mp bk kd f∧fx={val:= .v (.int .i64 (mapLen f)),fp:=[(id,none,false)]})
  | .value fv=>(∃f zs,gP (s.ev fv) (c.args.toList.map s.ev)=some (f,zs)∧∃n xs,zs.mapM (B7 s.h n)=some xs∧∃y rows,n5 P f xs y rows∧(rows nid).length≤8∧∃lend:Bool,(lend=true→rows nid=[]∧(y nid).flat=true)∧
    fx={val:=y nid,fp:=(zs.flatMap (b8 s.h n)).map (fun p=>(p.1,none, !lend)),fro:=if lend then[]else zs.flatMap (b8 s.h n),new:=rows nid})∨
    ∃f zs,gP (s.ev fv) (c.args.toList.map s.ev)=some (f,zs)∧a24 P f zs s.h fx
  |_=>False
 |_=>False
def St.cE(s:St)(d:Option Tmp)(nid:Nat)(fx:Fx):St:={s.put d fx.val with h:=fx.heap nid s.h}
section
variable {G:Gh} {M0:Nat→Nat→Prop} {w0:World} {s:St} {ρ:Nat→Option (Nat×Nat×Nat)} {a:Act} {w:World} {P:Program} {Q:Exit→Act→World→Prop} {M:Nat→Nat→Prop} {K:Act→World→Prop}
theorem r7.dY{x:AV}{u z:Value}(hx:r7 M ρ w x u)(h:x.Z0=some z):u=z:=by
 cases hx with
 |v x=>cases h;rfl
 |agg cs vs hn hr=>
  simp only[AV.Z0,Option.map_eq_some_iff]at h
  obtain⟨l,hm,rfl⟩:=h
  have hl:=K6 hm
  have:vs.toList=l:=by
   apply List.ext_getElem?
   intro i
   by_cases hi:i<cs.length
   ·have hi2:i<l.length:=by omega
    have hi3:i<vs.size:=by omega
    obtain⟨x0,e1,e2⟩:=F5 hm i l[i] (by simp [hi2])
    have hv:=hr i x0 vs[i] e1 (by simp [hi3])
    cases x0<;>simp only[AV.scalar]at e2<;>cases e2
    have e3:=hv.Y8
    rw[List.getElem?_eq_getElem hi2,Array.getElem?_toList,Array.getElem?_eq_getElem hi3,e3]
   ·rw[List.getElem?_eq_none (l:=l) (by omega),List.getElem?_eq_none (l:=vs.toList) (by simp;omega)]
  rw[←this]
 |_=>simp [AV.Z0]at h
theorem H6 {o:Oper} {v:Value} {val:AV} {fp} (R:Rel G M0 w0 s ρ a w) (hd:L3 s o.dst) (hrun:(execOp a.eval o).run P w= .ok (.value v) w) (hv:r7 (p7 M0 ρ s.h) ρ w val v) (nid:Nat)
  (hK:∀ρ' a' w',Rel G M0 w0 (s.cE o.dst nid {val:=val,fp:=fp}) ρ' a' w'→K a' w'):o.wp P a w K Q:=by
 unfold Oper.wp
 rw[hrun]
 refine hK ρ _ _ ?_
 have:=R.pure hd hv
 unfold St.cE
 rw[Fx.oX]
 have e:({s.put o.dst val with h:=s.h}:St)=s.put o.dst val:=by cases o.dst<;>rfl
 show Rel G M0 w0 {s.put o.dst val with h:=s.h} ρ _ _
 rw[e]
 exact this
theorem RP.of_map(R:Rel G M0 w0 s ρ a w)(ps:List (Nat×Operand)):RP (p7 M0 ρ s.h) ρ w (ps.map fun p=>(p.1,s.ev p.2)) (ps.map fun p=>(p.1,a.eval p.2)):=by
 induction ps with
 |nil=>exact .nil
 |cons p ps ih=>exact .cons p.1 _ _ _ _ (R.ev p.2) ih
theorem RC.of_map(R:Rel G M0 w0 s ρ a w)(xs:Array Operand):RC (p7 M0 ρ s.h) ρ w (xs.toList.map s.ev) (xs.map a.eval):=by
 refine⟨by simp,fun i x u h1 h2=>?_⟩
 simp only[List.getElem?_map,Array.getElem?_toList]at h1
 simp only[Array.getElem?_map]at h2
 cases hx:xs[i]? with
 |none=>rw[hx]at h1;cases h1
 |some y=>rw[hx]at h1 h2;cases h1;cases h2;exact R.ev y
end
end
section
section
variable {G:Gh} {M0:Nat→Nat→Prop} {w0:World} {s:St} {ρ:Nat→Option (Nat×Nat×Nat)} {a:Act} {w:World} {P:Program} {Q:Exit→Act→World→Prop} {M:Nat→Nat→Prop} {K:Act→World→Prop} {x:AV} {u:Value} {n:Nat} {t ty e:TypeId} {E:TI} {val:AV}
theorem uS {o:Oper} {v:Value} {w':World} {ρ':Nat→Option (Nat×Nat×Nat)} {val:AV} {r:Row} {fp} {nid:Nat} (hrun:(execOp a.eval o).run P w= .ok (.value v) w') (hR:Rel G M0 w0 {s.put o.dst val with h:=m9 s.h nid (.live r)} ρ' (a.put o.dst v) w')
  (hK:∀ρ' a' w',Rel G M0 w0 (s.cE o.dst nid {val:=val,fp:=fp,new:=[r]}) ρ' a' w'→K a' w'):o.wp P a w K Q:=by
 unfold Oper.wp
 rw[hrun]
 refine hK ρ' _ _ ?_
 unfold St.cE
 rw[Fx.b04]
 exact hR
theorem a4p{sz:Nat}{x:AV}(h:pR s sz x):∀c es,x= .c5 c es→∀z∈es,z.length=sz:=by
 intro c es hx;subst hx;exact h
theorem oB{sz:Nat}{x:AV}(h:pR s sz x):∀id off n r,x= .own id off n→s.h id= .live r→r.sz=sz:=by
 intro id off n r hx hr;subst hx;obtain⟨r',h1,h2⟩:=h;rw[hr]at h1;cases h1;exact h2
theorem szOK_ρ(R:Rel G M0 w0 s ρ a w){sz:Nat}{x:AV}(h:pR s sz x):∀id off n,x= .own id off n→∀b β z,ρ id=some (b,β,z)→z=sz:=by
 intro id off n hx b β z hz;subst hx;obtain⟨r',h1,h2⟩:=h
 obtain⟨b',β',arr,e,p1,_⟩:=R.live id r' h1
 rw[hz]at p1;cases p1;exact h2
theorem b3j(hx:r7 M ρ w x u)(h:b3h x=some n)(hD:td P t=some (.slice E)):(Builtin.len_ #[t] ty #[u]).run P w= .ok (.int .i64 n) w:=by
 obtain⟨e,h1,h2⟩:=U1 hD
 cases hx with
 |c5 c es a cap b o sz cell=>cases h;simp [Builtin.len_,goInt,run_underlying h1]
 |own=>cases h;simp [Builtin.len_,goInt,run_underlying h1]
 |_=>simp [b3h]at h
theorem a9k(h:P.underlying t=some (.slice e))(aa:Option Addr)(n c d:Nat):(Op.equalIn (d+1) t (.slice aa n c) (.slice none 0 0)).run P w= .ok aa.isNone w:=by
 cases aa<;>simp [Op.equalIn,run_underlying h]
theorem b3v{op:BinOp}{xo yo:Operand}(hx:r7 M ρ w x u)(h:u7 op x=some val)(hD:td P t=some (.slice E)):
  ∃v,(do eqGuard op t xo yo u (.slice none 0 0);binOp op t u (.slice none 0 0):Sem Value).run P w= .ok v w∧r7 M ρ w val v:=by
 obtain⟨e,h1,h2⟩:=U1 hD
 have key:∀(aa:Option Addr) (n c:Nat),(do eqGuard .eql t xo yo (.slice aa n c) (.slice none 0 0);binOp .eql t (.slice aa n c) (.slice none 0 0):Sem Value).run P w= .ok (.bool aa.isNone) w∧
   (do eqGuard .neq t xo yo (.slice aa n c) (.slice none 0 0);binOp .neq t (.slice aa n c) (.slice none 0 0):Sem Value).run P w= .ok (.bool (!aa.isNone)) w:=by
  intro aa n c
  have:=a9k (w:=w) h1 aa n c 9999
  constructor<;>simp [eqGuard,binOp,Op.equal,Op.maxDepth,this]
 cases hx with
 |c5 c es aa cap b o sz cell hc oH aD ha=>
  have hemp:es.isEmpty=false→aa.isNone=false:=by
   intro h;rw[ha (by intro e;subst e;simp at h)];rfl
  cases op<;>simp only[u7]at h<;>try(cases h;done)
  ·cases h
   refine⟨_,(key aa _ _).1,?_⟩
   cases he:es.isEmpty
   ·rw[hemp he];exact .v _
   ·exact .N6 _
  ·cases h
   refine⟨_,(key aa _ _).2,?_⟩
   cases he:es.isEmpty
   ·rw[hemp he];exact .v _
   ·exact .N6 _
 |own id off n cap b β sz N e' h1 h2 h3 h4=>
  cases op<;>simp only[u7]at h<;>try(cases h;done)
  ·cases h;exact⟨_,(key _ _ _).1,.v _⟩
  ·cases h;exact⟨_,(key _ _ _).2,.v _⟩
 |_=>cases op<;>simp [u7]at h
theorem a3X(R:Rel G M0 w0 s ρ a w){x:Option Operand}{i:Option Int}(h:a8W s x i):(x.map a.eval=none∧i=none)∨∃k j,x.map a.eval=some (.int k j)∧i=some j:=by
 cases x with
 |none=>cases i with
  |none=>exact .inl ⟨rfl,rfl⟩
  |some _=>exact h.elim
 |some x=>cases i with
  |none=>exact h.elim
  |some i=>obtain⟨k,hk⟩:=h;have:=R.ev x;rw[hk]at this;exact .inr ⟨k,i,by simp [this.Y8],rfl⟩
theorem uU(R:Rel G M0 w0 s ρ a w){x:Option Operand}{v:Option Value}(h:wJ s x=some v):x.map a.eval=v:=by
 cases x with
 |none=>cases h;rfl
 |some x=>
  simp only[wJ,Option.map_eq_some_iff]at h
  obtain⟨z,hz,rfl⟩:=h
  simp [(R.ev x).dY hz]
theorem a99(R:Rel G M0 w0 s ρ a w){xs:Array Operand}{vs:List Value}(h:xs.toList.mapM (fun x=>(s.ev x).Z0)=some vs):xs.map a.eval=vs.toArray:=by
 apply Array.ext'
 apply List.ext_getElem?
 intro i
 have hl:=K6 h
 by_cases hi:i<xs.size
 ·have hi2:i<vs.length:=by simp at hl;omega
  obtain⟨x,e1,e2⟩:=F5 h i vs[i] (by simp [hi2])
  have:=(R.ev x).dY e2
  simp only[Array.toList_map,List.getElem?_map,e1,Option.map_some,this]
  simp [hi2]
 ·rw[List.getElem?_eq_none (by simp;omega),List.getElem?_eq_none (by simp at hl⊢;omega)]
theorem H7{α:Type}{x:Sem α}{f:α→Next}{v:α}{w':World}(h:x.run P w= .ok v w'):Sem.run P (x>>=fun z=>pure (f z)) w= .ok (f v) w':=by
 simp only[Sem.run_bind,h,Result.andThen_ok,Sem.run_pure]
theorem a4e:∀(fs:List Field) (ps:List (Nat×TI)),fs.mapM (fun f=>(ti P f.type).map fun T=>(f.offset,T))=some ps→
  (fs.mapM fun f=>Functor.map (Prod.mk f.offset) (sizeOf f.type)).run P w= .ok (ps.map fun p=>(p.1,p.2.size)) w:=by
 intro fs
 induction fs with
 |nil=>intro ps h;simp at h;subst h;rfl
 |cons f fs ih=>
  intro ps h
  rw[List.mapM_cons]at h
  cases h1:ti P f.type with
  |none=>rw[h1]at h;cases h
  |some T=>
   cases h2:fs.mapM (fun f=>(ti P f.type).map fun T=>(f.offset,T))with
   |none=>rw[h1,h2]at h;cases h
   |some l=>
    rw[h1,h2]at h
    cases h
    simp [List.mapM_cons,D9 h1,ih l h2]
theorem a2U{D:TD}{T:TI}{pa:List (Nat×AV)}{pv:Array (Nat×Value)}{cs:List AV}(hD:td P t=some D)(hrow:D.isRow=true)(hT:ti P t=some T)(hp:RP M ρ w pa pv.toList)(hs:kT (u4 D) (T.zero.map AV.J5) pa=some cs):
  ∃v,(Instr.build t pv).run P w= .ok v w∧r7 M ρ w (.agg cs) v:=by
 obtain⟨z,z1,z2,z3⟩:=Z6 hT w
 have hl:(T.zero.map AV.J5).length=T.size:=by rw[List.length_map,←z2];simpa using z3
 have hz:RC M ρ w (T.zero.map AV.J5) z.cells:=by
  refine⟨by rw[z3,hl],fun i x u g1 g2=>?_⟩
  rw[←z2,List.getElem?_map]at g1
  have:z.cells.toList[i]?=some u:=by simpa using g2
  rw[this]at g1
  cases g1
  exact .J5 u
 have fin:∀place:Nat→Option (Nat×Nat),(∀i,u4 D i=place i)→∃vs',Instr.fill place z.cells pv.toList=some vs'∧RC M ρ w cs vs':=by
  intro place hpl
  have:u4 D=place:=funext hpl
  subst this
  exact a47 (u4 D) hp _ _ _ hz hs
 unfold td at hD
 split at hD<;>rename_i hu
 ·rename_i F
  cases hm:F.toList.mapM (fun f=>(ti P f.type).map fun T=>(f.offset,T))with
  |none=>rw[hm]at hD;cases hD
  |some fs=>
   rw[hm]at hD
   cases hD
   have hpl:=a4e (w:=w) F.toList fs hm
   obtain⟨vs',g1,g2⟩:=fin (fun i=>(fs.map fun p=>(p.1,p.2.size)).toArray[i]?) (fun i=>by simp [u4])
   refine⟨_,?_,.agg cs vs' g2.1 g2.2⟩
   simp [Instr.build,z1,run_underlying hu,Array.mapM_eq_mapM_toList,hpl]
   simp at g1
   rw[g1]
   rfl
 ·rename_i n e
  cases hE:ti P e with
  |none=>rw[hE]at hD;cases hD
  |some E=>
   rw[hE]at hD
   cases hD
   obtain⟨vs',g1,g2⟩:=fin (fun i=>some (i*E.size,E.size)) (fun i=>rfl)
   refine⟨_,?_,.agg cs vs' g2.1 g2.2⟩
   simp only[Instr.build,Sem.run_bind,z1,Result.andThen_ok,run_underlying hu,D9 hE,g1,Sem.run_pure]
 ·rename_i e
  cases hE:ti P e<;>rw[hE]at hD<;>cases hD
  cases hrow
 all_goals(first|(cases hD;cases hrow;done)|(cases hD;done))
theorem mP [j9 P] (hgl:j9.ok P w0) (R:Rel G M0 w0 s ρ a w) {o:Oper} {nid:Nat} {fx:Fx} (hd:L3 s o.dst) (hfree:∀k,k<8→s.h (nid+k)= .free) (h:ex P o s nid fx)
  (hK:∀ρ' a' w',Rel G M0 w0 (s.cE o.dst nid fx) ρ' a' w'→K a' w'):o.wp P a w K Q:=by
 have hf0:s.h nid= .free:=hfree 0 (by omega)
 unfold ex at h
 split at h
 ·rename_i x ho
  subst h
  exact H6 R hd (by simp only[execOp,ho,Sem.run_pure]) (R.ev x) nid hK
 ·rename_i x ho
  subst h
  exact H6 R hd (by simp only[execOp,ho,Sem.run_pure]) (R.ev x) nid hK
 ·rename_i x ho
  obtain⟨h0,rfl⟩:=h
  refine H6 (v:=a.eval x) R hd ?_ (R.ev x) nid hK
  have hx:=R.ev x
  simp only[execOp,ho]
  generalize s.ev x=y at hx h0
  generalize a.eval x=u at hx⊢
  cases hx<;>first|(simp only[Sem.run_pure];done)|(simp [w9]at h0;done)|rfl
 ·rename_i c x y ho
  obtain⟨t,ht,rfl⟩:=h
  have hc:=R.ev c
  rw[ht]at hc
  have hc:=hc.Y8
  refine H6 (v:=if t then a.eval x else a.eval y) R hd (by simp only[execOp,ho,hc,asBool,Sem.run_bind,Sem.run_pure,Result.andThen_ok]) ?_ nid hK
  cases t
  ·exact R.ev y
  ·exact R.ev x
 ·rename_i e ho
  obtain⟨T,hT,rfl⟩:=h
  obtain⟨v,w',ρ',h1,h2⟩:=a2O R hd hf0 hT
  exact uS (by simp only[execOp,ho];exact H7 h1) h2 hK
 ·rename_i e x ho
  obtain⟨cs,hcs,rfl⟩:=h
  obtain⟨v,w',ρ',h1,h2⟩:=a71 (e:=e) R hd hf0 (R.ev x) hcs
  exact uS (by simp only[execOp,ho];exact H7 h1) h2 hK
 ·rename_i t ps ho
  obtain⟨D,hD,hrow,T,hT,cs,hcs,rfl⟩:=h
  obtain⟨v,h1,h2⟩:=a2U (w:=w) (M:=p7 M0 ρ s.h) (ρ:=ρ) (pv:=ps.map fun(i,x)=>(i,a.eval x)) hD hrow hT (by
   have:=RP.of_map R ps.toList
   simpa using this) hcs
  exact H6 R hd (by simp only[execOp,ho];exact H7 h1) h2 nid hK
 ·rename_i t len ps ho
  obtain⟨E,hD,hn,es,hs,rfl⟩:=h
  obtain⟨v,w',ρ',h1,h2⟩:=oQ (pv:=ps.map fun(i,x)=>(i,a.eval x)) R hd hf0 hD (by
   have:=RP.of_map R ps.toList
   simpa using this) hn hs
  exact uS (by simp only[execOp,ho];exact H7 h1) h2 hK
 ·rename_i t x ho
  obtain⟨T,hT,cs,hcs,val,hp,rfl⟩:=h
  obtain⟨v,h1,h2⟩:=uE R hT (R.ev x) hcs hp
  exact H6 R hd (by simp only[execOp,ho];exact H7 h1) h2 nid hK
 ·rename_i t x y ho
  obtain⟨T,hT,cs,hcs,hl,hone,id,i,k,haddr,r,hr,hfro,hi,hk,rfl⟩:=h
  obtain⟨w',h1,h2⟩:=a4n R hd (R.ev x) (R.ev y) hT hcs hl hone haddr hr hfro hi hk
  unfold Oper.wp
  have hrun:(execOp a.eval o).run P w= .ok .skip w':=by
   simp only[execOp,ho,Sem.run_bind,h1,Result.andThen_ok,Sem.run_pure]
  rw[hrun]
  refine hK ρ _ _ ?_
  unfold St.cE
  rw[Fx.a67 _ _ _ _ _ _ _ _ r hr]
  exact h2
 ·rename_i op t x y yt ho
  rcases h with⟨vx,hx,vy,hy,z,hz,rfl⟩|⟨rfl,E,hD,val,hv,rfl⟩
  ·have h1:=(R.ev x).dY hx
   have h2:=(R.ev y).dY hy
   exact H6 (v:=z) R hd (by simp only[execOp,ho,h1,h2];exact H7 (hz w)) (.v z) nid hK
  ·obtain⟨v,h1,h2⟩:=b3v (P:=P) (xo:=x) (yo:= .const (.slice none 0 0)) (R.ev x) hv hD
   exact H6 R hd (by simp only[execOp,ho];exact H7 h1) h2 nid hK
 ·rename_i op t x ho
  obtain⟨vx,hx,z,hz,rfl⟩:=h
  have h1:=(R.ev x).dY hx
  exact H6 (v:=z) R hd (by simp only[execOp,ho,h1];exact H7 (hz w)) (.v z) nid hK
 ·rename_i src dst x ho
  obtain⟨vx,hx,z,hz,rfl⟩:=h
  have h1:=(R.ev x).dY hx
  exact H6 (v:=z) R hd (by simp only[execOp,ho,h1];exact H7 (hz w)) (.v z) nid hK
 ·rename_i fn first X2 ho
  obtain⟨f,rfl,⟨rfl,rfl⟩|⟨rfl,rfl⟩⟩:=h
  ·obtain⟨g1,g2⟩:=RC.of_map R X2
   exact H6 R hd (by simp only[execOp,ho,Instr.makeFunc,Sem.run_bind,Sem.run_pure,Result.andThen_ok];simp) (.fn f _ _ g1 g2) nid hK
  ·obtain⟨g1,g2⟩:=RC.of_map R first
   exact H6 R hd (by simp only[execOp,ho,Instr.makeFunc,Sem.run_bind,Sem.run_pure,Result.andThen_ok];simp) (.mJ f _ _ g1 g2) nid hK
 ·rename_i t l c ho
  obtain⟨E,hD,k,n,hl,k',hc,h0,hb,hn,rfl⟩:=h
  have h1:=R.ev l
  rw[hl]at h1
  have h2:=R.ev c
  rw[hc]at h2
  obtain⟨v,w',ρ',g1,g2⟩:=qS (k:=k) (k':=k') R hd hf0 hD h0 hb hn
  exact uS (by simp only[execOp,ho,h1.Y8,h2.Y8];exact H7 g1) g2 hK
 ·rename_i t x lo hi mx ho
  rcases h with⟨E,hD,hz,l,hl,ho',hh,mo,hm,val,hv,rfl⟩|⟨vx,hx,vlo,hlo,vhi,hhi,vmx,hmx,z,hz,rfl⟩
  ·have hlo:isB (lo.map a.eval) l 0:=by
    rcases hl with⟨rfl,rfl⟩|⟨lx,k,rfl,hlx⟩
    ·exact .inl ⟨rfl,rfl⟩
    ·have:=R.ev lx;rw[hlx]at this;exact .inr ⟨k,by simp [this.Y8]⟩
   obtain⟨v,g1,g2⟩:=a4h (w:=w) hD (R.ev x) (a4p hz) (szOK_ρ R hz) hlo (a3X R hh) (a3X R hm) hv
   exact H6 R hd (by simp only[execOp,ho];exact H7 g1) g2 nid hK
  ·have h1:=(R.ev x).dY hx
   exact H6 (v:=z) R hd (by simp only[execOp,ho,h1,uU R hlo,uU R hhi,uU R hmx];exact H7 (hz w)) (.v z) nid hK
 ·rename_i t x f ho
  obtain⟨fs,hD,p,hp,val,hv,rfl⟩:=h
  obtain⟨v,g1,g2⟩:=wE (w:=w) hD hp (R.ev x) hv
  exact H6 R hd (by simp only[execOp,ho];exact H7 g1) g2 nid hK
 ·rename_i t x f ho
  obtain⟨fs,hD,p,hp,cs,hcs,val,hv,rfl⟩:=h
  have hx:=R.ev x
  rw[hcs]at hx
  obtain⟨v,g1,g2⟩:=a3j (w:=w) hD hp hx hv
  exact H6 R hd (by simp only[execOp,ho];exact H7 g1) g2 nid hK
 ·rename_i t x ix ho
  obtain⟨D,hD,hz,k,i,hi,val,hv,rfl⟩:=h
  have hix:=R.ev ix
  rw[hi]at hix
  obtain⟨v,g1,g2⟩:=a5g (k:=k) R hD (R.ev x) (fun E hE=>a4p (hz E hE)) (fun E hE=>oB (hz E hE)) hv
  exact H6 R hd (by simp only[execOp,ho,hix.Y8];exact H7 g1) g2 nid hK
 ·rename_i t x ix ho
  rcases h with⟨n,E,hD,cs,hcs,k,i,hi,h0,h1,val,hv,rfl⟩|⟨vx,hx,vi,hvi,z,hz,rfl⟩
  ·have hix:=R.ev ix
   rw[hi]at hix
   have hx:=R.ev x
   rw[hcs]at hx
   obtain⟨v,g1,g2⟩:=a3w (w:=w) (k:=k) hD ⟨h0,h1⟩ hx hv
   exact H6 R hd (by simp only[execOp,ho,hix.Y8];exact H7 g1) g2 nid hK
  ·exact H6 (v:=z) R hd (by simp only[execOp,ho,(R.ev x).dY hx,(R.ev ix).dY hvi];exact H7 (hz w)) (.v z) nid hK
 ·rename_i x i ho
  obtain⟨cs,hcs,val,hv,rfl⟩:=h
  have hx:=R.ev x
  rw[hcs]at hx
  generalize hu:a.eval x=u at hx
  cases hx with
  |Q0 _ vs hn hr=>
   have hi:=(List.getElem?_eq_some_iff.1 hv).1
   have hvs:vs[i]?=some vs[i]:=by simp [hn,hi]
   exact H6 R hd (by simp only[execOp,ho,hu,Instr.extract,hvs,Sem.run_bind,Sem.run_pure,Result.andThen_ok]) (hr i val _ hv hvs) nid hK
 ·rename_i t m k c ho
  obtain⟨d,z,ht,b,hm,kv,hkv,hik,id,f,hh,rfl⟩:=h
  obtain⟨hb0,hM⟩:=R.iM id b d f hh
  have e1:=R.ev m
  rw[hm]at e1
  have e1:=e1.Y8
  have e2:=R.ev k
  have e2:=tZ e2 hkv
  have hl:=a3I ht hM hik c
  refine H6 (v:=if c then .tuple #[(f kv).getD z,.bool (f kv).isSome]else(f kv).getD z) R hd (by simp only[execOp,ho,e1,e2];exact H7 hl) ?_ nid hK
  cases c
  ·exact .v _
  ·refine .Q0 _ _ rfl fun i x u h1 h2=>?_
   match i,h1,h2 with
   |0,h1,h2=>cases h1;cases h2;exact .v _
   |1,h1,h2=>cases h1;cases h2;exact .v _
 ·rename_i c ho
  split at h
  ·rename_i b hb
   have hrun:∀{v w'},(builtin b c.argTypes o.type (c.args.map fun| .const _=>true|_=>false) (c.args.map a.eval)).run P w= .ok (.value v) w'→(execOp a.eval o).run P w= .ok (.value v) w':=by
    intro v w' h
    simp only[execOp,ho,resolve,hb,Sem.run_bind,Sem.run_pure,Result.andThen_ok,invoke]
    exact h
   rcases h with⟨rfl,x,hx,t,ht,E,hD,n,hn,rfl⟩|⟨rfl,x,y,hxy,t,t2,htt,E,hD,E2,hD2,hz1,hz2,ys,hys,hyl,h⟩|⟨vs,hvs,z,hz,rfl⟩|⟨rfl,x,hx,t,ht,kd,z,htm,hne,bk,hev,id,f,hh,rfl⟩
   ·refine H6 (v:= .int .i64 n) R hd (hrun ?_) (.v _) nid hK
    simp only[builtin,hx,ht,List.map_toArray,List.map_cons,List.map_nil]
    exact H7 (b3j (R.ev x) hn hD)
   ·have happ:∀{v w'},(Builtin.append_ #[t,t2] o.type #[a.eval x,a.eval y]).run P w= .ok v w'→(execOp a.eval o).run P w= .ok (.value v) w':=by
     intro v w' h
     refine hrun ?_
     simp only[builtin,hxy,htt,List.map_toArray,List.map_cons,List.map_nil]
     exact H7 h
    rcases h with⟨cl,es,hx,rfl,rfl⟩|⟨es,hx,hne,h63,hb2,rfl⟩|⟨id,off,n,hx,r,hr,hoff,hfro,hone,h63,hb2,rfl⟩
    ·have h1:=R.ev x
     rw[hx]at h1
     exact H6 R hd (happ (a2R R hD hD2 h1 (R.ev y) hys (oB hz2))) h1 nid hK
    ·have h1:=R.ev x
     rw[hx]at h1 hz1
     obtain⟨v,w',ρ',g1,g2⟩:=a4F (ty:=o.type) R hd hf0 hD hD2 h1 (R.ev y) hys (oB hz2) hne hz1 hyl h63 hb2
     exact uS (happ g1) g2 hK
    ·have h1:=R.ev x
     rw[hx]at h1 hz1
     obtain⟨r',q1,q2⟩:=hz1
     rw[hr]at q1
     cases q1
     obtain⟨v,w',ρ',g1,g2⟩:=a4G (ty:=o.type) R hd hf0 hD hD2 h1 (R.ev y) hr hoff hfro q2 hys (oB hz2) hyl hone h63 hb2
     unfold Oper.wp
     rw[happ g1]
     refine hK ρ' _ _ ?_
     unfold St.cE
     have:Fx.heap {val:=AV.own nid 0 (n+ys.length),fp:=(id,none,true)::s9 (s.ev y),kill:=some id,new:=[⟨E.size,(r.es.drop off).take n++ys,r.fro-off⟩]} nid s.h=m9 (m9 s.h id .gone) nid (.live ⟨E.size,(r.es.drop off).take n++ys,r.fro-off⟩):=by
      funext id'
      simp only[Fx.heap,Fx.row,eU,E7,m9,List.length_singleton,List.foldl_nil]
      by_cases h1:id'=nid
      ·subst h1;simp
      ·rw[if_neg (by omega),if_neg h1]
       by_cases h2:id'=id
       ·subst h2;simp
       ·rw[if_neg (by simp;exact fun h=>h2 h.symm),if_neg h2]
        cases s.h id'<;>rfl
     rw[this]
     exact g2
   ·refine H6 (v:=z) R hd (hrun ?_) (.v z) nid hK
    rw[a99 R hvs]
    exact hz w
   ·obtain⟨_,hM⟩:=R.iM id bk kd f hh
    have e1:=R.ev x
    rw[hev]at e1
    have e1:=e1.Y8
    refine H6 (v:= .int .i64 (mapLen f)) R hd (hrun ?_) (.v _) nid hK
    simp only[builtin,hx,ht,List.map_toArray,List.map_cons,List.map_nil,e1]
    exact H7 (b1I htm hM hne)
  ·rename_i fv hfv
   rcases h with h|⟨f,zs,hf,hX⟩
   case inr=>
     have h1:=R.ev fv
     generalize hu:a.eval fv=u at h1
     obtain⟨first,vs,rfl,hargs⟩:=gQ h1 hf (RC.of_map R c.args)
     rcases hX with⟨id,r,ys,cs,cs',val,C,hx,hl,hes,hfro,hcs,oH,hpl,hpl',hval,rfl⟩|⟨n,xs,idm,b,d,F,y,hxs,C,hm,hfl,rfl⟩
     case inl=>
      obtain⟨fn,k1,k2,k3⟩:=C.1
      have hb:fn.body.isNone=false:=by cases hb:fn.body<;>simp [hb]at k2⊢
      have hrun:(execOp a.eval o).run P w= .ok (.enter f (first++c.args.map a.eval++vs)) w:=by
       simp only[execOp,ho,resolve,hfv,hu,Deferred.ofValue,Sem.run_bind,Sem.run_pure,Result.andThen_ok,invoke,callFunc,run_program,k1,k3,hb,Bool.false_eq_true,if_false]
      unfold Oper.wp
      rw[hrun]
      refine(a4T hgl R hd hl hes hfro hcs oH hpl hpl' hval hx hargs C).mono fun e w' ⟨v,ρ',he,hR⟩=>?_
      subst he
      refine hK ρ' _ _ ?_
      unfold St.cE
      rw[Fx.a67 _ _ _ _ _ _ _ _ r hl]
      exact hR
     case inr=>
      obtain⟨fn,k1,k2,k3⟩:=C.1
      have hb:fn.body.isNone=false:=by cases hb:fn.body<;>simp [hb]at k2⊢
      have hrun:(execOp a.eval o).run P w= .ok (.enter f (first++c.args.map a.eval++vs)) w:=by
       simp only[execOp,ho,resolve,hfv,hu,Deferred.ofValue,Sem.run_bind,Sem.run_pure,Result.andThen_ok,invoke,callFunc,run_program,k1,k3,hb,Bool.false_eq_true,if_false]
      unfold Oper.wp
      rw[hrun]
      refine(a8O hgl R hd hargs hxs C hm hfl).mono fun e w' ⟨v,he,hR⟩=>?_
      subst he
      refine hK ρ _ _ ?_
      unfold St.cE
      rw[Fx.oX]
      have e:({s.put o.dst y with h:=s.h}:St)=s.put o.dst y:=by cases o.dst<;>rfl
      show Rel G M0 w0 {s.put o.dst y with h:=s.h} ρ _ _
      rw[e]
      exact hR
   obtain⟨f,zs,hf,n,xs,hxs,y,rows,C,hrl,lend,hlend,rfl⟩:=h
   have h1:=R.ev fv
   generalize hu:a.eval fv=u at h1
   obtain⟨first,vs,rfl,hargs⟩:=gQ h1 hf (RC.of_map R c.args)
   obtain⟨fn,k1,k2,k3⟩:=C.1
   have hb:fn.body.isNone=false:=by cases hb:fn.body<;>simp [hb]at k2⊢
   have hrun:(execOp a.eval o).run P w= .ok (.enter f (first++c.args.map a.eval++vs)) w:=by
    simp only[execOp,ho,resolve,hfv,hu,Deferred.ofValue,Sem.run_bind,Sem.run_pure,Result.andThen_ok,invoke,callFunc,run_program,k1,k3,hb,Bool.false_eq_true,if_false]
   unfold Oper.wp
   rw[hrun]
   cases lend with
   |false=>
    refine(a4R hgl R hd hfree hrl hargs hxs C).mono fun e w' ⟨v,ρ',he,hR⟩=>?_
    subst he
    exact hK ρ' _ _ hR
   |true=>
    obtain⟨hl1,hl2⟩:=hlend rfl
    refine(a8a hgl R hd hargs hxs C hl2).mono fun e w' ⟨v,he,hR⟩=>?_
    subst he
    refine hK ρ _ _ ?_
    unfold St.cE
    simp only[if_true,hl1]
    rw[Fx.oX]
    have e:({s.put o.dst (y nid)with h:=s.h}:St)=s.put o.dst (y nid):=by cases o.dst<;>rfl
    show Rel G M0 w0 {s.put o.dst (y nid)with h:=s.h} ρ _ _
    rw[e]
    exact hR
  ·cases h
 ·cases h
end
end
structure LS where
 t:List AV
 h:List (Nat×RS)
 nx:Nat
def LS.hf(l:List (Nat×RS))(id:Nat):RS:=(l.lookup id).getD .free
def LS.tf(l:List AV)(t:Nat):AV:=l.getD t .Z
def LS.n8(s:LS):St:=⟨s.t.length,LS.tf s.t,LS.hf s.h⟩
def LS.ok(s:LS):Prop:=∀p∈s.h,p.1<s.nx
def j7(nid:Nat):List Row→List (Nat×RS)
 |[]=>[]
 |r::rs=>(nid,.live r)::j7 (nid+1) rs
def vN(fx:Fx)(id:Nat)(x:RS):RS:=
 if fx.kill=some id then .gone
 else match x with
  | .live r=> .live (fx.row id r)
  |x=>x
def Fx.cH(fx:Fx)(nid:Nat)(l:List (Nat×RS)):List (Nat×RS):=(l.map fun p=>(p.1,vN fx p.1 p.2))++j7 nid fx.new
def LS.put(s:LS)(d:Option Tmp)(x:AV):LS:=
 match d with
 |some d=>{s with t:=s.t.set d x}
 |none=>s
def LS.cE(s:LS)(d:Option Tmp)(fx:Fx):LS:={s.put d fx.val with h:=fx.cH s.nx s.h,nx:=s.nx+8}
theorem dD:∀(rs:List Row) (nid id:Nat),(j7 nid rs).lookup id=if nid≤id∧id<nid+rs.length then some (.live (rs.getD (id-nid) ⟨0,[],0⟩))else none:=by
 intro rs
 induction rs with
 |nil=>intro nid id;simp [j7]
 |cons r rs ih=>
  intro nid id
  simp only[j7,List.lookup_cons,List.length_cons]
  by_cases h:id=nid
  ·subst h;simp
  ·have:(id==nid)=false:=by simpa using h
   rw[this]
   simp only[ih]
   by_cases h2:nid+1≤id∧id<nid+1+rs.length
   ·rw[if_pos h2,if_pos (by omega)]
    rw[show id-nid=(id-(nid+1))+1 from by omega]
    simp
   ·rw[if_neg h2,if_neg (by omega)]
theorem lookup_append(l1 l2:List (Nat×RS))(id:Nat):(l1++l2).lookup id=match l1.lookup id with|some x=>some x|none=>l2.lookup id:=by
 induction l1 with
 |nil=>rfl
 |cons p l1 ih=>
  obtain⟨i,x⟩:=p
  simp only[List.cons_append,List.lookup_cons]
  split
  ·rfl
  ·exact ih
theorem uF(f:Nat→RS→RS)(l:List (Nat×RS))(id:Nat):(l.map fun p=>(p.1,f p.1 p.2)).lookup id=(l.lookup id).map (f id):=by
 induction l with
 |nil=>rfl
 |cons p l ih=>
  obtain⟨i,x⟩:=p
  simp only[List.map_cons,List.lookup_cons]
  split
  ·rename_i h;simp at h;subst h;rfl
  ·exact ih
theorem pG{l:List (Nat×RS)}{nx id:Nat}(h:∀p∈l,p.1<nx)(hi:nx≤id):l.lookup id=none:=by
 induction l with
 |nil=>rfl
 |cons p l ih=>
  obtain⟨i,x⟩:=p
  have:=h (i,x) (by simp)
  simp only[List.lookup_cons]
  have hne:(id==i)=false:=by simp;simp at this;omega
  rw[hne]
  exact ih fun p hp=>h p (by simp [hp])
theorem LS.free{s:LS}(h:s.ok){id:Nat}(hi:s.nx≤id):s.n8.h id= .free:=by
 simp only[LS.n8,LS.hf,pG h hi,Option.getD_none]
theorem b03{s:LS}(h:s.ok)(fx:Fx)(hk:∀id,fx.kill=some id→∃r,LS.hf s.h id= .live r):LS.hf (fx.cH s.nx s.h)=fx.heap s.nx (LS.hf s.h):=by
 funext id
 simp only[LS.hf,Fx.cH,lookup_append,uF,dD,Fx.heap]
 by_cases hid:s.nx≤id∧id<s.nx+fx.new.length
 ·rw[if_pos hid,if_pos hid,pG h hid.1]
  rfl
 ·rw[if_neg hid,if_neg hid]
  cases hl:s.h.lookup id with
  |none=>
   have:fx.kill≠some id:=by
    intro e
    obtain⟨r,hr⟩:=hk id e
    simp [LS.hf,hl]at hr
   rw[if_neg this]
   all_goals rfl
  |some x=>
   simp only[Option.map_some,Option.getD_some,vN]
   all_goals rfl
theorem LS.dF{s:LS}{d:Option Tmp}(hd:L3 s.n8 d)(x:AV):(s.put d x).n8=s.n8.put d x:=by
 cases d with
 |none=>rfl
 |some d=>
  simp only[LS.put,LS.n8,St.put,List.length_set]
  congr 1
  funext t
  have hd:d<s.t.length:=hd
  simp only[LS.tf,List.getD_eq_getElem?_getD,List.getElem?_set]
  by_cases h:t=d
  ·subst h;simp [hd]
  ·rw[if_neg (Ne.symm h),if_neg h]
theorem b0I{P:Program}[j9 P]{o:Oper}{s:St}{nid:Nat}{fx:Fx}(h:ex P o s nid fx):fx.new.length≤8∧∀id,fx.kill=some id→∃r,s.h id= .live r:=by
 unfold ex at h
 split at h
 ·subst h;simp
 ·subst h;simp
 ·obtain⟨_,rfl⟩:=h;simp
 ·obtain⟨_,_,rfl⟩:=h;simp
 ·obtain⟨_,_,rfl⟩:=h;simp
 ·obtain⟨_,_,rfl⟩:=h;simp
 ·obtain⟨_,_,_,_,_,_,_,rfl⟩:=h;simp
 ·obtain⟨_,_,_,_,_,rfl⟩:=h;simp
 ·obtain⟨_,_,_,_,_,_,rfl⟩:=h;simp
 ·obtain⟨_,_,_,_,_,_,_,_,_,_,_,_,_,_,_,rfl⟩:=h;simp
 ·rcases h with⟨_,_,_,_,_,_,rfl⟩|⟨_,_,_,_,_,rfl⟩<;>simp
 ·obtain⟨_,_,_,_,rfl⟩:=h;simp
 ·obtain⟨_,_,_,_,rfl⟩:=h;simp
 ·obtain⟨_,_,⟨_,rfl⟩|⟨_,rfl⟩⟩:=h<;>simp
 ·obtain⟨_,_,_,_,_,_,_,_,_,_,rfl⟩:=h;simp
 ·rcases h with⟨_,_,_,_,_,_,_,_,_,_,_,rfl⟩|⟨_,_,_,_,_,_,_,_,_,_,rfl⟩<;>simp
 ·obtain⟨_,_,_,_,_,_,rfl⟩:=h;simp
 ·obtain⟨_,_,_,_,_,_,_,_,rfl⟩:=h;simp
 ·obtain⟨_,_,_,_,_,_,_,_,rfl⟩:=h;simp
 ·rcases h with⟨_,_,_,_,_,_,_,_,_,_,_,_,rfl⟩|⟨_,_,_,_,_,_,rfl⟩<;>simp
 ·obtain⟨_,_,_,_,rfl⟩:=h;simp
 ·obtain⟨_,_,_,_,_,_,_,_,_,_,_,rfl⟩:=h;simp
 ·split at h
  ·rcases h with⟨_,_,_,_,_,_,_,_,_,rfl⟩|⟨_,_,_,_,_,_,_,_,_,_,_,_,_,_,_,_,h⟩|⟨_,_,_,_,rfl⟩|⟨_,_,_,_,_,_,_,_,_,_,_,_,_,_,rfl⟩
   ·simp
   ·rcases h with⟨_,_,_,_,rfl⟩|⟨_,_,_,_,_,rfl⟩|⟨id,_,_,_,r,hr,_,_,_,_,_,rfl⟩
    ·simp
    ·simp
    ·simp;exact⟨r,hr⟩
   ·simp
   ·simp
  ·rcases h with⟨_,_,_,_,_,_,_,_,_,hl,_,_,rfl⟩|⟨_,_,_,⟨_,_,_,_,_,_,_,_,_,_,_,_,_,_,_,_,rfl⟩|⟨_,_,_,_,_,_,_,_,_,_,_,rfl⟩⟩
   ·simpa using hl
   ·simp
   ·simp
  ·cases h
 ·cases h
def E8(G:Gh)(M0:Nat→Nat→Prop)(w0:World)(s:LS)(ρ:Nat→Option (Nat×Nat×Nat))(a:Act)(w:World):Prop:=Rel G M0 w0 s.n8 ρ a w∧s.ok
theorem sW{P:Program}[j9 P]{o:Oper}{s:LS}{fx:Fx}(hs:s.ok)(hd:L3 s.n8 o.dst)(h:ex P o s.n8 s.nx fx):(s.cE o.dst fx).n8=s.n8.cE o.dst s.nx fx∧(s.cE o.dst fx).ok:=by
 obtain⟨h1,h2⟩:=b0I h
 have hp:=LS.dF hd fx.val
 have hh:=b03 hs fx h2
 constructor
 ·unfold LS.cE St.cE
  have:({s.put o.dst fx.val with h:=fx.cH s.nx s.h,nx:=s.nx+8}:LS).n8={(s.put o.dst fx.val).n8 with h:=LS.hf (fx.cH s.nx s.h)}:=rfl
  rw[this,hp,hh]
  rfl
 ·intro p hp
  simp only[LS.cE,Fx.cH,List.mem_append,List.mem_map]at hp⊢
  rcases hp with⟨q,hq,rfl⟩|hp
  ·have:=hs q hq;simp only;omega
  ·have key:∀(rs:List Row) (nid:Nat),∀p∈j7 nid rs,p.1<nid+rs.length:=by
    intro rs
    induction rs with
    |nil=>intro nid p hp;cases hp
    |cons r rs ih=>
     intro nid p hp
     simp only[j7,List.mem_cons]at hp
     rcases hp with rfl|hp
     ·simp
     ·have:=ih _ p hp;simp;omega
   have:=key _ _ p hp
   omega
section
def pL(P:Program)(s:St):ResultVar→Option AV
 | .tmp t=>some (s.t t)
 | .cell a ty=>(ti P ty).bind fun T=>(rd s (s.t a) T.size).bind fun cs=>A9 T.agg cs
def nL(P:Program)(s:St)(rs:List ResultVar):Option AV:=
 (rs.mapM (pL P s)).map fun l=>match l with
  |[x]=>x
  |l=> .Q0 l
section
variable {G:Gh} {M0:Nat→Nat→Prop} {w0:World} {s:St} {ρ:Nat→Option (Nat×Nat×Nat)} {a:Act} {w:World} {P:Program}
def b3R(tmps:Array Value):ResultVar→Sem Value
 | .tmp t=>pure (tmps.getD t undef)
 | .cell a t=>do loadVar t (←asAddr (tmps.getD a undef))
theorem a5I(R:Rel G M0 w0 s ρ a w){r:ResultVar}{x:AV}(h:pL P s r=some x):∃v,(b3R a.tmps r).run P w= .ok v w∧r7 (p7 M0 ρ s.h) ρ w x v:=by
 cases r with
 |tmp t=>cases h;exact⟨_,rfl,R.tm t⟩
 |cell p ty=>
  simp only[pL]at h
  cases hT:ti P ty with
  |none=>rw[hT]at h;cases h
  |some T=>
   rw[hT]at h
   simp only[Option.bind_some]at h
   cases hcs:rd s (s.t p) T.size with
   |none=>rw[hcs]at h;cases h
   |some cs=>
    rw[hcs]at h
    simp only[Option.bind_some]at h
    obtain⟨v,h1,h2⟩:=uE R hT (R.tm p) hcs h
    refine⟨v,?_,h2⟩
    obtain⟨b,o,f,e1,_⟩:=a34 R (R.tm p) hcs
    rw[e1]at h1
    simp only[b3R,e1,asAddr,Sem.run_bind,Sem.run_pure,Result.andThen_ok]
    simpa[Instr.loadAt,Instr.sureAddr]using h1
theorem a5H(R:Rel G M0 w0 s ρ a w):∀(rs:List ResultVar) {l:List AV},rs.mapM (pL P s)=some l→∃vs:List Value,(rs.mapM (b3R a.tmps)).run P w= .ok vs w∧RC (p7 M0 ρ s.h) ρ w l vs.toArray:=by
 intro rs
 induction rs with
 |nil=>intro l h;simp at h;subst h;exact⟨[],rfl,by simp [RC]⟩
 |cons r rs ih=>
  intro l h
  rw[List.mapM_cons]at h
  cases h1:pL P s r with
  |none=>rw[h1]at h;cases h
  |some x=>
   cases h2:rs.mapM (pL P s)with
   |none=>rw[h1,h2]at h;cases h
   |some l'=>
    rw[h1,h2]at h
    cases h
    obtain⟨v,g1,g2⟩:=a5I R h1
    obtain⟨vs,g3,g4⟩:=ih h2
    refine⟨v::vs,?_,by simp;exact g4.1,fun i x u e1 e2=>?_⟩
    ·simp only[List.mapM_cons,Sem.run_bind,g1,Result.andThen_ok,g3,Sem.run_pure]
    ·cases i with
     |zero=>simp at e1 e2;subst e1;subst e2;exact g2
     |succ i=>simp at e1 e2;exact g4.2 i x u e1 (by simpa using e2)
theorem aV(R:Rel G M0 w0 s ρ a w){fn:Func}{x:AV}(h:nL P s fn.results.toList=some x):∃v,(results fn a.tmps).run P w= .ok v w∧r7 (p7 M0 ρ s.h) ρ w x v:=by
 unfold nL at h
 simp only[Option.map_eq_some_iff]at h
 obtain⟨l,hl,hx⟩:=h
 obtain⟨vs,g1,g2⟩:=a5H R _ hl
 have hrun:(results fn a.tmps).run P w= .ok (if h:vs.toArray.size=1 then vs.toArray[0]else .tuple vs.toArray) w:=by
  have e:results fn a.tmps=(do
    let vs ←fn.results.mapM (b3R a.tmps)
    pure (if h:vs.size=1 then vs[0]else .tuple vs)):=by
   unfold results
   congr 1
  rw[e,Array.mapM_eq_mapM_toList]
  simp [g1]
 refine⟨_,hrun,?_⟩
 have aD:=g2.1
 match l,hx with
 |[y],hx=>
  simp only at hx
  subst hx
  have h1:vs.toArray.size=1:=by rw[aD];rfl
  rw[dif_pos h1]
  exact g2.2 0 y _ rfl (by simp at h1⊢)
 |[],hx=>
  simp only at hx
  subst hx
  rw[dif_neg (by rw[aD];simp)]
  exact .Q0 _ _ aD g2.2
 |y::z::l,hx=>
  simp only at hx
  subst hx
  rw[dif_neg (by rw[aD];simp)]
  exact .Q0 _ _ aD g2.2
end
def AV.kept:Nat→AV→Bool
 |_,.Z=>true
 |_,.N6=>true
 |_,.v _=>true
 |_,.c5 _ _=>true
 |_,.Z9 _ _ _=>true
 |n+1,.agg cs=>cs.all (AV.kept n)
 |n+1,.Q0 cs=>cs.all (AV.kept n)
 |n+1,.fn _ cs=>cs.all (AV.kept n)
 |_,_=>false
theorem a8J{M:Nat→Nat→Prop}{ρ:Nat→Option (Nat×Nat×Nat)}{w:World}:∀(n:Nat) {x:AV} {u:Value},x.kept n=true→r7 M ρ w x u→r7 M (fun _=>none) w x u:=by
 intro n
 induction n with
 |zero=>
  intro x u hk hx
  cases hx with
  |Z u=>exact .Z u
  |N6 t=>exact .N6 t
  |v=>exact .v _
  |c5 c es a cap b o sz cell h1 h2 h3 h4 h5 h6=>exact .c5 c es a cap b o sz cell h1 h2 h3 h4 h5 h6
  |Z9 es i k b o sz cell h1 h2 h3 h4 h5=>exact .Z9 es i k b o sz cell h1 h2 h3 h4 h5
  |_=>simp [AV.kept]at hk
 |succ n ih=>
  intro x u hk hx
  have many:∀(cs:List AV) (vs:Array Value),cs.all (AV.kept n)=true→(∀(i:Nat) x u,cs[i]?=some x→vs[i]?=some u→r7 M ρ w x u)→∀(i:Nat) x u,cs[i]?=some x→vs[i]?=some u→r7 M (fun _=>none) w x u:=
   fun cs vs hk hr i x u h1 h2=>ih (List.all_eq_true.1 hk x (List.mem_of_getElem? h1)) (hr i x u h1 h2)
  cases hx with
  |Z u=>exact .Z u
  |N6 t=>exact .N6 t
  |v=>exact .v _
  |c5 c es a cap b o sz cell h1 h2 h3 h4 h5 h6=>exact .c5 c es a cap b o sz cell h1 h2 h3 h4 h5 h6
  |Z9 es i k b o sz cell h1 h2 h3 h4 h5=>exact .Z9 es i k b o sz cell h1 h2 h3 h4 h5
  |agg cs vs hn hr=>exact .agg cs vs hn (many cs vs (by simpa[AV.kept]using hk) hr)
  |Q0 cs vs hn hr=>exact .Q0 cs vs hn (many cs vs (by simpa[AV.kept]using hk) hr)
  |fn f cs vs hn hr=>exact .fn f cs vs hn (many cs vs (by simpa[AV.kept]using hk) hr)
  |_=>simp [AV.kept]at hk
def Y7(t:List AV):List AV:=t.map fun x=>if x.kept 4 then x else .Z
def x7(t:List AV):List Nat→List AV→List AV
 |j::js,x::xs=>x7 (t.set j x) js xs
 |_,_=>t
def e9(k:Nat):List (Nat×RS)→Prop
 |[]=>True
 |(_,.u3 k' _)::l=>k'≠k∧e9 k l
 |_::l=>e9 k l
def C9(id:Nat):List (Nat×RS)→List (Nat×RS)
 |[]=>[]
 |p::l=>(if p.1=id then(p.1,.gone)else p)::C9 id l
def B6(k:Nat):List (Nat×RS)→Option (Nat×List AV)
 |[]=>none
 |(id,.u3 k' cs)::l=>if k'=k then some (id,cs)else B6 k l
 |_::l=>B6 k l
end
end Go.Ab
end
section
namespace Go.Ab
open Go.RowKit (Below)
open Go.MapKept
section
section
variable {P:Program} {w:World} {t:TypeId} {b:Nat} {d:TypeDesc} {z k x:Value} {f:Value→Option Value}
theorem b1C(w:World)(d:TypeDesc):aJ (w.alloc (.map #[] 0)) w.heap.size d (fun _=>none):=
 .inl ⟨#[],0,(Go.MapKept.heap_alloc w _).1,by simp,by simp,by simp,by simp,stamped_empty 0⟩
theorem a0U{es:Array MapEntry}(h:∀x∈es.toList,wO d x.key)(i:Nat)(f:MapEntry→MapEntry)(hk:∀e,es[i]?=some e→(f e).key=e.key):∀x∈(es.modify i f).toList,wO d x.key:=by
 intro x hx
 have:x.key∈(es.modify i f).toList.map (·.key):=List.mem_map.2 ⟨x,hx,rfl⟩
 rw[modify_keys i f hk]at this
 obtain⟨y,hy,e⟩:=List.mem_map.1 this
 rw[←e];exact h y hy
theorem b33(ht:tm P t=some (d,z))(hM:aJ w b d f)(hk:kY P t d k):
  ∃es c,(Instr.mapUpdate t (.map (some b)) k x).run P w= .ok () {w with heap:=w.heap.setIfInBounds b (.map es c)}∧aJ {w with heap:=w.heap.setIfInBounds b (.map es c)} b d (aH f k x):=by
 obtain⟨kt,et,i,h1,h2,h3,h4⟩:=a5V ht
 obtain⟨es,cl,m1,m2,m3,m4,m5,m6⟩:=hM.map hk.ne
 obtain⟨c1,c2,c3⟩:=a3E (w:=w) h1 h2 hk m2
 rcases c3 with⟨g1,g2⟩|⟨j,e,g1,g2,g3⟩
 ·refine⟨es.push {key:=k,val:=x,born:=cl},cl+1,by simp [Instr.mapUpdate,run_underlying h1,Go.MapKept.run_getObj_map m1,c1,g1,Go.MapKept.run_setObj_map _ m1,Result.andThen],.inl ⟨_,_,(Go.MapKept.heap_set m1).1,?_,?_,?_,?_,stamped_push m6 g2⟩⟩
  ·intro y hy
   simp only[Array.toList_push,List.mem_append,List.mem_singleton]at hy
   rcases hy with hy|rfl
   ·exact m2 y hy
   ·exact hk.ok
  ·simp only[Array.toList_push,List.map_append,List.map_cons,List.map_nil]
   refine List.nodup_append.2 ⟨m3,by simp,?_⟩
   intro a ha c hc e
   simp only[List.mem_singleton]at hc
   obtain⟨y,hy,rfl⟩:=List.mem_map.1 ha
   exact g2 y hy (by rw[e,hc])
  ·intro y hy
   simp only[Array.toList_push,List.mem_append,List.mem_singleton]at hy
   rcases hy with hy|rfl
   ·unfold aH;rw[if_neg (g2 y hy)];exact m4 y hy
   ·simp [aH]
  ·intro c v hv
   simp only[Array.toList_push]
   by_cases hc:c=k
   ·exact⟨_,List.mem_append_right _ (List.mem_singleton.2 rfl),hc.symm⟩
   ·unfold aH at hv
    rw[if_neg hc]at hv
    obtain⟨y,hy,e⟩:=m5 c v hv
    exact⟨y,List.mem_append_left _ hy,e⟩
 ·have hj:es[j]?=some e:=by simpa using g2
  have hks:∀e',es[j]?=some e'→({e' with key:=k,val:=x}:MapEntry).key=e'.key:=fun e' he=>by rw[hj]at he;cases he;exact g3.symm
  refine⟨es.modify j fun e=>{e with key:=k,val:=x},cl,by
   have hst:(Instr.keyThatStays ((Option.map (fun x=>x.key) es[j]?).getD k) k).run P w= .ok k w:=by rw[hj];simp only[Option.map_some,Option.getD_some,g3];exact c2
   simp [Instr.mapUpdate,run_underlying h1,Go.MapKept.run_getObj_map m1,c1,g1,Go.MapKept.run_setObj_map _ m1,Result.andThen,hst],.inl ⟨_,_,(Go.MapKept.heap_set m1).1,?_,?_,?_,?_,stamped_modify m6 j _ (fun _ _=>rfl) (fun e' _ he=>hks e' he)⟩⟩
  ·exact a0U m2 j _ hks
  ·rw[modify_keys j _ hks];exact m3
  ·intro y hy
   obtain⟨n,hn,rfl⟩:=List.getElem_of_mem hy
   simp only[Array.getElem_toList,Array.getElem_modify]
   have hn':n<es.size:=by simpa using hn
   by_cases hjn:j=n
   ·simp [hjn,aH]
   ·rw[if_neg hjn]
    have hne:es[n].key≠k:=by
     intro e'
     have hj2:j<es.toList.length:=(List.getElem?_eq_some_iff.1 g2).1
     have hn2:n<es.toList.length:=by simpa using hn'
     have pw:=List.pairwise_iff_getElem.1 m3
     have ej:es.toList[j]=e:=(List.getElem?_eq_some_iff.1 g2).2
     rcases Nat.lt_or_gt_of_ne hjn with h|h
     ·exact pw j n (by simpa using hj2) (by simpa using hn2) h (by simp only[List.getElem_map];rw[ej,g3];simpa using e'.symm)
     ·exact pw n j (by simpa using hn2) (by simpa using hj2) h (by simp only[List.getElem_map];rw[ej,g3];simpa using e')
    unfold aH
    rw[if_neg hne]
    exact m4 _ (by simp)
  ·intro c v hv
   have key:∃y∈es.toList,y.key=c:=by
    by_cases hc:c=k
    ·exact⟨e,List.mem_of_getElem? g2,by rw[g3,hc]⟩
    ·unfold aH at hv
     rw[if_neg hc]at hv
     exact m5 c v hv
   obtain⟨y,hy,e'⟩:=key
   have:c∈es.toList.map (·.key):=List.mem_map.2 ⟨y,hy,e'⟩
   rw[←modify_keys j _ hks]at this
   obtain⟨y',hy',e''⟩:=List.mem_map.1 this
   exact⟨y',hy',e''⟩
end
end
end Go.Ab
end
section
namespace Go.Ab
open Go.RowKit (Below)
section
def W9(es:List (List AV))(off n sz:Nat):List (List AV):=es.take off++List.replicate n (List.replicate sz .Z)++es.drop (off+n)
section
variable {G:Gh} {M0:Nat→Nat→Prop} {w0:World} {s:St} {ρ:Nat→Option (Nat×Nat×Nat)} {a:Act} {w:World} {P:Program} {Q:Exit→Act→World→Prop}
theorem a4Y{es:List (List AV)}{off n sz:Nat}(h:off+n≤es.length):(W9 es off n sz).length=es.length:=by
 unfold W9;simp;omega
theorem a4X{es:List (List AV)}{off n sz:Nat}(h:off+n≤es.length)(i:Nat):(W9 es off n sz)[i]?=if i<off then es[i]? else if i<off+n then some (List.replicate sz .Z)else es[i]?:=by
 unfold W9
 by_cases h1:i<off
 ·rw[if_pos h1,List.append_assoc,List.getElem?_append_left (by simp;omega),List.getElem?_take,if_pos h1]
 ·rw[if_neg h1]
  by_cases h2:i<off+n
  ·rw[if_pos h2,List.getElem?_append_left (by simp;omega),List.getElem?_append_right (by simp;omega),List.getElem?_replicate,if_pos (by simp;omega)]
  ·rw[if_neg h2,List.getElem?_append_right (by simp;omega)]
   simp only[List.length_append,List.length_take,List.length_replicate,List.getElem?_drop]
   congr 1
   omega
theorem a29 (R:Rel G M0 w0 s ρ a w) {d:Option Tmp} (hd:L3 s d) {t ty:TypeId} {E:TI} {u:Value} {id off n:Nat} {r:Row} (hx:r7 (p7 M0 ρ s.h) ρ w (.own id off n) u)
  (hD:td P t=some (.slice E)) (hz:E.zero.all Value.oneCell'=true) (hl:s.h id= .live r) (aD:r.sz=E.size) (hle:off+n≤r.es.length) (hf:r.fro≤off):
  ∃w',(Builtin.clear_ #[t] ty #[u]).run P w= .ok (.tuple #[]) w'∧Rel G M0 w0 {s.put d (.Q0 [])with h:=m9 s.h id (.live {r with es:=W9 r.es off n r.sz})} ρ (a.put d (.tuple #[])) w':=by
 obtain⟨e',k1,k2⟩:=U1 hD
 obtain⟨z,z1,z2,z3⟩:=Z6 k2 w
 obtain⟨b,β,arr,e,p1,p2,p3,p4,p5,p6⟩:=R.live id r hl
 cases hx with
 |own _ _ _ cap b1 β1 sz1 N e1 g1 g2 g3 g4=>
 rw[p1]at g1
 cases g1
 have hle':(off+n)*r.sz≤r.es.length*r.sz:=Nat.mul_le_mul_right _ hle
 rw[Nat.add_mul]at hle'
 have hM:∀r':Row,r'.fro=r.fro→∀b' o,p7 M0 ρ (m9 s.h id (.live r')) b' o↔p7 M0 ρ s.h b' o:=fun r' h=>qV hl h
 have main:∀(vs:List Value),vs.length=n*r.sz→∀arr':Array Value,arr'=(arr.toList.take (β+off*r.sz)++vs++arr.toList.drop (β+off*r.sz+vs.length)).toArray→
   Rel G M0 w0 {s.put d (.Q0 [])with h:=m9 s.h id (.live {r with es:=W9 r.es off n r.sz})} ρ (a.put d (.tuple #[])) (w.setRow b arr'):=by
  intro vs hvl arr' harr
  generalize hp:β+off*r.sz=p at harr
  have hpn:p+vs.length≤arr.toList.length:=by simp;omega
  have hsize:arr'.size=arr.size:=by subst harr;simp;simp at hpn;omega
  have hget:∀j:Nat,arr'[j]?=if j<p then arr[j]? else if j<p+n*r.sz then vs[j-p]? else arr[j]?:=by
   intro j
   subst harr
   have:=a0M arr.toList vs p j hpn
   simpa[hvl]using this
  have hc:∀b' o c,¬p7 M0 ρ s.h b' o→w.cell? ⟨b',o,none⟩=some c→¬p7 M0 ρ (m9 s.h id (.live {r with es:=W9 r.es off n r.sz})) b' o∧(w.setRow b arr').cell? ⟨b',o,none⟩=some c:=by
   intro b' o c g1 g2
   refine⟨fun g=>g1 ((hM _ (by rfl) b' o).1 g),?_⟩
   by_cases hb:b'=b
   ·subst hb
    rw[cell_setRow_same w _ o arr arr' e (0,0) p3,hget]
    rw[dT p3]at g2
    have hno:¬(p≤o):=by
     intro q1
     apply g1
     refine .inr ⟨id,r,β,r.sz,hl,p1,?_⟩
     have:r.fro*r.sz≤off*r.sz:=Nat.mul_le_mul_right _ hf
     omega
    rw[if_pos (by omega)];exact g2
   ·rw[cell_setRow_other w b arr' _ hb];exact g2
  have hs:=iD (w:=w) p3 hsize
  refine R.step hd (fun _ _ h=>h) hc hs ?_ ?_ ?_ (fE R.U2 p2 _) (by
   intro id' k' cs' h
   by_cases hid:id'=id
   ·subst hid;simp [m9]at h
   ·simpa only[m9,if_neg hid]using h) (by
   intro id' b' q f h
   by_cases hid:id'=id
   ·subst hid;simp [m9]at h
   ·simpa only[m9,if_neg hid]using h) (fun b' es c h=>by
    have hbb:b'≠b:=by intro e;subst e;rw[p3]at h;cases h;cases c
    rw[setRow_other w b b' arr' hbb];exact h) (fun b' o hk h=>by
   have hbb:b'≠b:=by intro e;subst e;rw[R.dH id r _ hl p1]at hk;cases hk
   rw[setRow_other w b b' arr' hbb];exact h) (by
   intro id' r' p h hp
   by_cases hid:id'=id
   ·subst hid;exact R.dH _ r p hl hp
   ·simp only[m9,if_neg hid]at h;exact R.dH id' r' p h hp) (.Q0 _ _ rfl (by simp))
  ·intro id' r' h
   by_cases hid:id'=id
   ·subst hid
    simp only[m9,if_true,RS.live.injEq]at h
    subst h
    refine⟨b,β,arr',e,p1,p2,setRow_heap w b arr arr' e (0,0) p3,by simp only;rw[a4Y hle,hsize];exact p4,?_,?_⟩
    ·intro q hq
     simp only at hq⊢
     unfold W9 at hq
     simp only[List.mem_append]at hq
     rcases hq with(hq|hq)|hq
     ·exact p5 _ (List.mem_of_mem_take hq)
     ·rw[List.eq_of_mem_replicate hq];simp
     ·exact p5 _ (List.mem_of_mem_drop hq)
    ·intro m j em z' c g1 g2 g3
     simp only at g1 g2 g3
     rw[a4X hle]at g1
     have hkeep:∀(hm:m<off∨off+n≤m),r.es[m]?=some em→r7 (p7 M0 ρ (m9 s.h id' (.live {r with es:=W9 r.es off n r.sz}))) ρ (w.setRow b arr') z' c:=by
      intro hm hem
      have hl0:em.length=r.sz:=p5 _ (List.mem_of_getElem? hem)
      have hj:j<r.sz:=by rw[←hl0];exact(List.getElem?_eq_some_iff.1 g2).1
      refine(p6 m j em z' c hem g2 ?_).mono (fun _ _ h=>h) hc hs
      rw[hget]at g3
      rcases hm with hm|hm
      ·have:(m+1)*r.sz≤off*r.sz:=Nat.mul_le_mul_right _ hm
       rw[Nat.add_mul]at this
       rw[if_pos (by omega)]at g3;exact g3
      ·have:(off+n)*r.sz≤m*r.sz:=Nat.mul_le_mul_right _ hm
       rw[Nat.add_mul]at this
       rw[if_neg (by omega),if_neg (by omega)]at g3;exact g3
     by_cases h1:m<off
     ·rw[if_pos h1]at g1;exact hkeep (.inl h1) g1
     ·rw[if_neg h1]at g1
      by_cases h2:m<off+n
      ·rw[if_pos h2]at g1
       cases g1
       rw[List.getElem?_replicate]at g2
       split at g2
       ·cases g2;exact .Z _
       ·cases g2
      ·rw[if_neg h2]at g1;exact hkeep (.inr (by omega)) g1
   ·simp only[m9,if_neg hid]at h
    obtain⟨b',β',arr1,e1,t1,t2,t3,t4,t5,t6⟩:=R.live id' r' h
    have hbb:b'≠b:=by
     intro e
     subst e
     exact hid (R.inj _ _ _ _ _ _ _ _ _ h hl t1 p1)
    exact⟨b',β',arr1,e1,t1,t2,by rw[setRow_other w b b' arr' hbb];exact t3,t4,t5,fun m j em z c g1 g2 g3=>(t6 m j em z c g1 g2 g3).mono (fun _ _ h=>h) hc hs⟩
  ·intro id' h
   by_cases hid:id'=id
   ·subst hid;simp [m9]at h
   ·simp only[m9,if_neg hid]at h;exact R.free _ h
  ·intro i1 i2 r1 r2 b' β1 β2 z1 z2 h1 h2 h3 h4
   have lift:∀i1 r1,m9 s.h id (.live {r with es:=W9 r.es off n r.sz}) i1= .live r1→∃r',s.h i1= .live r':=by
    intro i1 r1 h
    by_cases hid:i1=id
    ·subst hid;exact⟨r,hl⟩
    ·simp only[m9,if_neg hid]at h;exact⟨_,h⟩
   obtain⟨q1,g1⟩:=lift _ _ h1
   obtain⟨q2,g2⟩:=lift _ _ h2
   exact R.inj _ _ _ _ _ _ _ _ _ g1 g2 h3 h4
 by_cases hn:n=0
 ·subst hn
  have e0:W9 r.es off 0 r.sz=r.es:=by unfold W9;simp
  refine⟨w,by simp [Builtin.clear_,run_underlying k1],?_⟩
  rw[e0]
  have hu:m9 s.h id (.live {r with es:=r.es})=s.h:=by
   funext i
   by_cases hi:i=id
   ·subst hi;simp [m9,hl]
   ·simp [m9,hi]
  rw[hu]
  have:=R.pure hd (.Q0 (M:=p7 M0 ρ s.h) (ρ:=ρ) (w:=w) [] #[] rfl (by simp))
  cases d<;>exact this
 ·have hone:∀v∈(Builtin.zeroCells z.cells n).toList,v.oneCell'=true:=by
   intro v hv
   have:v∈z.cells.toList:=by
    simp only[Builtin.zeroCells]at hv
    simp at hv
    obtain⟨j,hj,rfl⟩:=hv
    have hpos:0<z.cells.size:=by
     rcases Nat.eq_zero_or_pos z.cells.size with h|h
     ·rw[h]at hj;omega
     ·exact h
    rw[getElem!_pos z.cells _ (Nat.mod_lt _ hpos)]
    simp
   rw[z2]at this
   exact List.all_eq_true.1 hz v this
  have hvl:(Builtin.zeroCells z.cells n).toList.length=n*r.sz:=by
   have:=size_zeroCells z.cells n
   simp only[Array.length_toList,this,z3,aD]
  have hrun:=run_storeCells_at P b (β+off*r.sz) e (Builtin.zeroCells z.cells n).toList 0 arr w p3 (by simp at hvl⊢;omega) hone
  simp only[Nat.add_zero]at hrun
  refine⟨_,?_,main _ hvl _ rfl⟩
  obtain⟨n,rfl⟩:∃m,n=m+1:=⟨n-1,by omega⟩
  simp [Builtin.clear_,run_underlying k1,z1,hrun]
end
end
section
def a04(D:Nat):Deferred:={target:= .collected D,args:= #[]}
def Z2(G:Gh)(Ds:List Nat):Gh:={G with kp:=fun b=>if b∈Ds then some (.deferred (some []))else G.kp b,df:=Ds.map a04++G.df}
def iS(w0:World)(G:Gh)(Ds:List Nat):Prop:=Ds.Nodup∧∀D∈Ds,w0.heap.size≤D∧G.kp D=none
theorem aS(G:Gh):Z2 G []=G:=by cases G;simp [Z2]
theorem tL(G:Gh)(D1 D2:List Nat):Z2 (Z2 G D1) D2=Z2 G (D2++D1):=by
 unfold Z2
 congr 1
 ·funext b
  simp only[List.mem_append]
  by_cases h2:b∈D2
  ·simp [h2]
  ·by_cases h1:b∈D1<;>simp [h1,h2]
 ·simp
theorem iS.nil{w0:World}{G:Gh}:iS w0 G []:=⟨List.nodup_nil,fun _ h=>by simp at h⟩
theorem iS.cE{w0:World}{G:Gh}{D1 D2:List Nat}(h1:iS w0 G D1)(h2:iS w0 (Z2 G D1) D2):iS w0 G (D2++D1):=by
 have key:∀D∈D2,D∉D1∧G.kp D=none:=fun D hD=>by
  have:=(h2.2 D hD).2
  simp only[Z2]at this
  by_cases h:D∈D1
  ·simp [h]at this
  ·simp only[h,if_false]at this;exact⟨h,this⟩
 refine⟨List.nodup_append.2 ⟨h2.1,h1.1,fun a ha b hb e=>(key a ha).1 (e ▸ hb)⟩,fun D hD=>?_⟩
 rcases List.mem_append.1 hD with h|h
 ·exact⟨(h2.2 D h).1,(key D h).2⟩
 ·exact h1.2 D h
def bP:Option Nat→Fence
 |none=> .wide
 |some l=>Fence.wide.inRound l
theorem jG(m:Option Nat)(f:FuncId):(bP m).fn f:=by cases m<;>trivial
theorem dC(m:Option Nat):(bP m).depth=none:=by cases m<;>rfl
theorem a4S{P:Program}{f:FuncId}{args:Array Value}{w:World}{R:Ending→World→Prop}(m:Option Nat)(n:Nat)(h:Calls P f args w R):CallsIn (bP m) n P f args w R:=by
 cases m with
 |none=>exact callsIn_wide.2 h
 |some l=>exact CallsIn.inRound l (callsIn_wide.2 h)
theorem a9j{P:Program}{row:String}{args:Array Value}{w:World}{R:Value→World→Prop}(m:Option Nat)(n:Nat)(h:Rows P row args w R):RowsIn (bP m) n P row args w R:=by
 cases m with
 |none=>exact fun c cs _=>let⟨v,w',r,s⟩:=h c cs;⟨v,w',r,stepsIn_wide.2 s⟩
 |some l=>exact fun c cs _=>let⟨v,w',r,s⟩:=h c cs;⟨v,w',r,(stepsIn_wide (P:=P)).2 s⟩
theorem bH{P:Program}{o:Oper}{a:Act}{w:World}{K:Act→World→Prop}{Q:Exit→Act→World→Prop}(m:Option Nat)(hnd:∀c,o.op≠ .defer c)(h:o.wp P a w K Q):
  o.wpIn (bP m) 0 P a w K Q:=by
 refine⟨fun f _=>jG m f,?_⟩
 have hs:o.semAt (bP m).round a.eval=execOp a.eval o:=by
  cases m with
  |none=>exact Oper.semAt_none a.eval o
  |some l=>exact Oper.semAt_some l a.eval o hnd
 rw[hs]
 unfold Oper.wp at h
 generalize hr:(execOp a.eval o).run P w=r at h
 match r,h with
 | .ok (.value v) w',h=>exact h
 | .ok .skip w',h=>exact h
 | .ok (.defer d) w',h=>exact h
 | .ok (.enter f args) w',h=>exact⟨fun hd=>by simp [dC]at hd,a4S m _ h⟩
 | .ok (.row row args) w',h=>exact⟨fun hd=>by simp [dC]at hd,a9j m _ h⟩
 | .halt (.panic v) w',h=>exact h
section
variable {M0:Nat→Nat→Prop} {w0:World} {s:St} {ρ:Nat→Option (Nat×Nat×Nat)} {a a2:Act} {w w2:World} {G G2:Gh} {P:Program}
theorem oV(h1:∀(b:Nat) (arr:Array Value) (e:TypeId) (fr:Nat×Nat),w.heap[b]?=some (.cells arr e fr)→w2.heap[b]?=some (.cells arr e fr)){b o:Nat}{c:Value}(h:w.cell? ⟨b,o,none⟩=some c):w2.cell? ⟨b,o,none⟩=some c:=by
 unfold World.cell? at h⊢
 simp only at h⊢
 cases hb:w.heap[b]? with
 |none=>rw[hb]at h;simp at h
 |some x=>
  cases x with
  |cells arr e fr=>rw[hb]at h;rw[h1 _ _ _ _ hb];exact h
  |_=>rw[hb]at h;simp at h
theorem eN(h1:∀(b:Nat) (arr:Array Value) (e:TypeId) (fr:Nat×Nat),w.heap[b]?=some (.cells arr e fr)→w2.heap[b]?=some (.cells arr e fr)){r:Nat}{p:TypeId×Nat}(h:w.shape? r=some p):w2.shape? r=some p:=by
 unfold World.shape? at h⊢
 cases hb:w.heap[r]? with
 |none=>rw[hb]at h;simp at h
 |some x=>
  cases x with
  |cells arr e fr=>rw[hb]at h;rw[h1 _ _ _ _ hb];exact h
  |_=>rw[hb]at h;simp at h
theorem Rel.b7S (R:Rel G M0 w0 s ρ a w) (ht:a2.tmps=a.tmps) (hg:G2.g=G.g) (hf:G2.fr=G.fr) (hsh:G2.sh=G.sh)
  (h1:∀(b:Nat) (arr:Array Value) (e:TypeId) (fr:Nat×Nat),w.heap[b]?=some (.cells arr e fr)→w2.heap[b]?=some (.cells arr e fr)) (h2:U5 w w2)
  (hb:Below w0.heap.size w0 w2) (hk:∀b o,G2.kp b=some o→w2.heap[b]?=some o) (hkn:∀b,b<w.heap.size→G.kp b=none→G2.kp b=none)
  (hm:∀b o,M0 b o→b<w0.heap.size∨∃x,G2.kp b=some x) (hd:a2.defers=G2.df):Rel G2 M0 w0 s ρ a2 w2:=by
 have mono:∀{M:Nat→Nat→Prop} {ρ':Nat→Option (Nat×Nat×Nat)} {x:AV} {u:Value},r7 M ρ' w x u→r7 M ρ' w2 x u:=fun hr=>hr.mono (fun _ _ h=>h) (fun _ _ _ g1 g2=>⟨g1,oV h1 g2⟩) (fun _ _ h=>eN h1 h)
 have lt:∀{b:Nat} {x:Obj},w.heap[b]?=some x→b<w.heap.size:=fun h=>B4 h
 refine⟨by rw[ht];exact R.n,fun t=>by rw[ht];exact mono (R.tm t),fun id r hr=>?_,R.free,R.inj,hb,hm,hd,fun id k cs hc i x hx=>by rw[hg];exact mono (R.mS id k cs hc i x hx),fun x u hx=>mono (R.lE x u (by rw[←hf];exact hx)),fun id b q f hmp=>?_,hk,fun id r p hr hp=>?_,fun id b q f hmp=>?_,fun b x hx=>eN h1 (R.oI b x (by rw[←hsh];exact hx))⟩
 ·obtain⟨b,β,arr,e,l1,l2,l3,l4,l5,l6⟩:=R.live id r hr
  exact⟨b,β,arr,e,l1,l2,h1 _ _ _ _ l3,l4,l5,fun i j e' x u g1 g2 g3=>mono (l6 i j e' x u g1 g2 g3)⟩
 ·obtain⟨q1,q2⟩:=R.iM id b q f hmp
  exact⟨q1,q2.keep h2⟩
 ·obtain⟨b,β,arr,e,l1,l2,l3,_⟩:=R.live id r hr
  rw[l1]at hp;cases hp
  exact hkn _ (lt l3) (R.dH id r _ hr l1)
 ·obtain⟨_,qq⟩:=R.iM id b q f hmp
  obtain⟨o,_,q2⟩:=qq.at
  exact hkn _ (lt q2) (R.nD id b q f hmp)
theorem jE{fn:Func}{R':Ending→World→Prop}(Ds:List Nat)(hD:iS w0 G Ds)(hdf:G.df=[])(hm0:∀b o,M0 b o→b<w0.heap.size∨∃x,G.kp b=some x):∀{a:Act} {w:World},Rel (Z2 G Ds) M0 w0 s ρ a w→
  (∀a2 w2,a2.tmps=a.tmps→Rel G M0 w0 s ρ a2 w2→∃v,(results fn a2.tmps).run P w2= .ok v w2∧R' (.returned v) w2)→LeavesInM Fence.wide 0 P fn a.tmps R' a.defers .returning w:=by
 induction Ds with
 |nil=>
  intro a w R key
  rw[aS]at R
  obtain⟨v,h1,h2⟩:=key a w rfl R
  rw[R.defers,hdf]
  exact⟨v,h1,h2⟩
 |cons D Ds ih=>
  intro a w R key
  have hk:w.heap[D]?=some (.deferred (some [])):=R.fY D _ (by simp [Z2])
  have hlt:=B4 hk
  obtain⟨hnd,hnds⟩:=List.nodup_cons.1 hD.1
  have hD2:iS w0 G Ds:=⟨hnds,fun x hx=>hD.2 x (by simp [hx])⟩
  have hDD:=hD.2 D (by simp)
  obtain⟨a2,ha2⟩:∃a2:Act,a2={a with defers:=Ds.map a04++G.df}:=⟨_,rfl⟩
  have R2:Rel (Z2 G Ds) M0 w0 s ρ a2 (w.putObj D (.deferred none)):=by
   refine R.b7S (by rw[ha2]) rfl rfl rfl (fun b arr e fr h=>?_) (fun b es c h=>?_) ?_ (fun b o h=>?_) (fun b _ h=>?_) (fun b o h=>?_) (by rw[ha2];rfl)
   ·rw[World.putObj_heap_other (fun e=>by rw[e,hk]at h;cases h)];exact h
   ·rw[World.putObj_heap_other (fun e=>by rw[e,hk]at h;cases h;cases c)];exact h
   ·have hb:=R.U2
    refine⟨hb.os,hb.tape,hb.output,by simpa[World.putObj]using hb.size,fun k hk2=>?_⟩
    rw[World.putObj_heap_other (by omega)]
    exact hb.block k hk2
   ·have hne:b≠D:=fun e=>by
     subst e
     simp only[Z2,hnd,if_false]at h
     rw[hDD.2]at h;cases h
    rw[World.putObj_heap_other hne]
    refine R.fY b o ?_
    simp only[Z2,List.mem_cons,hne,false_or]
    exact h
   ·simp only[Z2,List.mem_cons]at h⊢
    by_cases hb:b∈Ds
    ·simp [hb]at h
    ·simp only[hb,or_false,if_false]at h⊢
     split at h
     ·cases h
     ·exact h
   ·rcases hm0 b o h with h|⟨x,h⟩
    ·exact .inl h
    ·right
     by_cases hb:b∈Ds
     ·exact⟨_,by simp only[Z2,hb,if_true];rfl⟩
     ·exact⟨x,by simp only[Z2,hb,if_false];exact h⟩
  have hL:=ih hD2 R2 (fun a3 w3 e3 R3=>key a3 w3 (by rw[e3,ha2]) R3)
  rw[R.defers]
  refine⟨by simp,.inl ⟨D,_,rfl,run_takeDeferred hk,?_⟩⟩
  rw[ha2]at hL
  exact hL
end
end
section
def AV.jN:AV:= .v undef
def a0N(ops:List Oper)(o:Oper)(s:LS)(Kw Ks:LS→Prop):Prop:=
 match o.guard with
 |none=>Kw s
 |some (j,want)=>match(ops[j]?).bind (·.dst)with
  |some d=>(∃b,LS.tf s.t d= .v (.bool b)∧(b=want→Kw (s.put (some d) (.v (.bool want))))∧(b=(!want)→Ks (s.put (some d) (.v (.bool (!want))))))∨(LS.tf s.t d=AV.jN∧Ks s)
  |none=>False
def eR{md:Bool}(P:Program)[j9 P](c:Code)(s:LS)(K:Exit→LS→Prop):Prop:=
 ∀(m:Option Nat),(md=false→m=none)→∀(G:Gh) (M0:Nat→Nat→Prop) (w0:World) (ρ:Nat→Option (Nat×Nat×Nat)) (a:Act) (w:World) (Q:Exit→Act→World→Prop),j9.ok P w0→E8 G M0 w0 s ρ a w→
  (∀Ds e s' ρ' a' w',iS w0 G Ds→K e s'→E8 (Z2 G Ds) M0 w0 s' ρ' a' w'→Q e a' w')→c.wpIn (bP m) 0 P Q a w
def wF(fn:Func)(xs:List AV)(k:Nat)(keep:List Nat)(s:LS):LS:=
 ⟨xs++List.replicate (fn.ntmps-xs.length) .Z,s.h++[(s.nx,.u3 k (keep.map (LS.tf s.t)))],s.nx+8⟩
def L4(P:Program)(fn:Func)(k:Nat)(keep:List Nat)(t:List AV)(d:Option Tmp)(K:LS→Prop)(e:Exit)(s':LS):Prop:=
 (match e with| .normal| .ret=>True|_=>False)∧∃x,nL P s'.n8 fn.results.toList=some x∧
  match B6 k s'.h with
  |some (id,cs)=>LS.hf s'.h id= .u3 k cs∧e9 k (C9 id s'.h)∧K (LS.put ⟨x7 (Y7 t) keep cs,C9 id s'.h,s'.nx⟩ d x)
  |none=>False
def B2(b:Nat)(d:TypeDesc)(f:Value→Option Value):RS→RS
 | .mp b' d' f'=>if b'=b then .mp b d f else .mp b' d' f'
 |x=>x
def iP(b:Nat)(d:TypeDesc)(f:Value→Option Value):List (Nat×RS)→List (Nat×RS)
 |[]=>[]
 |p::l=>(p.1,B2 b d f p.2)::iP b d f l
theorem mT(b:Nat)(d:TypeDesc)(f:Value→Option Value)(l:List (Nat×RS))(id:Nat):LS.hf (iP b d f l) id=B2 b d f (LS.hf l id):=by
 simp only[LS.hf]
 induction l with
 |nil=>rfl
 |cons p l ih=>
  obtain⟨i,x⟩:=p
  simp only[iP,List.lookup_cons]
  cases h:(id==i)with
  |true=>rfl
  |false=>exact ih
theorem b32{b:Nat}{d:TypeDesc}{f:Value→Option Value}{n:Nat}{l:List (Nat×RS)}(h:∀p∈l,p.1<n):∀p∈iP b d f l,p.1<n:=by
 induction l with
 |nil=>intro p hp;cases hp
 |cons q l ih=>
  intro p hp
  simp only[iP,List.mem_cons]at hp
  rcases hp with rfl|hp
  ·exact h q (by simp)
  ·exact ih (fun p hp=>h p (List.mem_cons_of_mem _ hp)) p hp
def Z7(id:Nat)(x:RS):List (Nat×RS)→List (Nat×RS)
 |[]=>[]
 |p::l=>(if p.1=id then(p.1,x)else p)::Z7 id x l
theorem a0P{id:Nat}{x y:RS}{l:List (Nat×RS)}(h:LS.hf l id=y)(hy:y≠ .free):LS.hf (Z7 id x l)=m9 (LS.hf l) id x:=by
 funext i
 have key:(Z7 id x l).lookup i=if i=id then(l.lookup i).map (fun _=>x)else l.lookup i:=by
  clear h
  induction l with
  |nil=>simp [Z7]
  |cons p l ih=>
   obtain⟨j,z⟩:=p
   simp only[Z7]
   by_cases h1:j=id
   ·subst h1
    rw[if_pos rfl]
    by_cases h2:i=j
    ·subst h2;simp
    ·have:(i==j)=false:=by simpa using h2
     simp only[List.lookup_cons,this]
     rw[ih,if_neg h2]
   ·rw[if_neg h1]
    by_cases h2:i=j
    ·subst h2;simp [h1]
    ·have:(i==j)=false:=by simpa using h2
     simp only[List.lookup_cons,this]
     exact ih
 simp only[LS.hf,key,m9]
 by_cases hi:i=id
 ·subst hi
  rw[if_pos rfl,if_pos rfl]
  cases hl:l.lookup i with
  |none=>simp only[LS.hf,hl]at h;exact absurd h.symm hy
  |some v=>rfl
 ·rw[if_neg hi,if_neg hi]
theorem a1j{id:Nat}{x:RS}{n:Nat}{l:List (Nat×RS)}(h:∀p∈l,p.1<n):∀p∈Z7 id x l,p.1<n:=by
 induction l with
 |nil=>intro p hp;cases hp
 |cons q l ih=>
  intro p hp
  simp only[Z7,List.mem_cons]at hp
  rcases hp with rfl|hp
  ·have:=h q (by simp)
   split<;>exact this
  ·exact ih (fun p hp=>h p (List.mem_cons_of_mem _ hp)) p hp
def wQ(P:Program)[j9 P](f:FuncId)(xs:List AV)(s:LS)(K:AV→LS→Prop):Prop:=
 eF P f∧∀(G:Gh) (M0:Nat→Nat→Prop) (w0:World) (ρ:Nat→Option (Nat×Nat×Nat)) (a:Act) (w:World) (args:Array Value),j9.ok P w0→E8 G M0 w0 s ρ a w→RC (p7 M0 ρ s.n8.h) ρ w xs args→
  Calls P f args w fun e w'=>∃v x s' ρ',e= .returned v∧K x s'∧E8 G M0 w0 s' ρ' a w'∧r7 (p7 M0 ρ' s'.n8.h) ρ' w' x v
theorem wQ.mono{P:Program}[j9 P]{f:FuncId}{xs:List AV}{s:LS}{K K':AV→LS→Prop}(h:wQ P f xs s K)(hK:∀x s,K x s→K' x s):wQ P f xs s K':=
 ⟨h.1,fun G M0 w0 ρ a w args h1 h2 h3=>(h.2 G M0 w0 ρ a w args h1 h2 h3).mono fun _ _ ⟨v,x,s',ρ',h1,h2,h3⟩=>⟨v,x,s',ρ',h1,hK _ _ h2,h3⟩⟩
def inl(P:Program)[j9 P](o:Oper)(s:LS)(K:LS→Prop):Prop:=
 match o.op with
 | .call c=>match c.callee with
  | .value fv=>(∃f zs fn body k keep,gP (s.n8.ev fv) (c.args.toList.map s.n8.ev)=some (f,zs)∧P.funcs[f]?=some fn∧fn.body=some body∧(fn.name== "runtime.NumGoroutine")=false∧e9 k s.h∧
    eR (md:=false) P body (wF fn zs k keep s) (L4 P fn k keep s.t o.dst K))∨
    ∃f zs,gP (s.n8.ev fv) (c.args.toList.map s.n8.ev)=some (f,zs)∧wQ P f zs s (fun x s'=>K (s'.put o.dst x))
  | .builtin .clear=>∃x t E id off n r,c.args= #[x]∧c.argTypes= #[t]∧td P t=some (.slice E)∧E.zero.all Value.oneCell'=true∧s.n8.ev x= .own id off n∧LS.hf s.h id= .live r∧r.sz=E.size∧off+n≤r.es.length∧r.fro≤off∧
    K {s.put o.dst (.Q0 [])with h:=Z7 id (.live {r with es:=W9 r.es off n r.sz}) s.h}
  |_=>False
 | .makeMap t none=>∃d z,tm P t=some (d,z)∧∀b,K ⟨(s.put o.dst (.v (.map (some b)))).t,s.h++[(s.nx,.mp b d fun _=>none)],s.nx+8⟩
 | .lookup t m k c=>∃d z b kv f id,tm P t=some (d,z)∧s.n8.ev m= .v (.map (some b))∧(s.n8.ev k).J6=some kv∧kY P t d kv∧LS.hf s.h id= .mp b d f∧
   K (s.put o.dst (if c then .Q0 [.v ((f kv).getD z),.v (.bool (f kv).isSome)]else .v ((f kv).getD z)))
 | .mapUpdate t m k v=>∃d z b kv xv f id,tm P t=some (d,z)∧s.n8.ev m= .v (.map (some b))∧(s.n8.ev k).J6=some kv∧s.n8.ev v= .v xv∧kY P t d kv∧LS.hf s.h id= .mp b d f∧
   K {s.put o.dst .Z with h:=iP b d (aH f kv xv) s.h}
 |_=>False
def aO(P:Program)[j9 P](ops:List Oper):List Oper→LS→(LS→Prop)→Prop
 |[],s,K=>K s
 |o::rest,s,K=>a0N ops o s
   (fun s=>L3 s.n8 o.dst∧((∃fx,ex P o s.n8 s.nx fx∧aO P ops rest (s.cE o.dst fx) K)∨inl P o s (fun s'=>aO P ops rest s' K)))
   (fun s=>L3 s.n8 o.dst∧aO P ops rest (s.put o.dst AV.jN) K)
section
variable {G:Gh} {M0:Nat→Nat→Prop} {w0:World} {s:LS} {ρ:Nat→Option (Nat×Nat×Nat)} {a:Act} {w:World} {P:Program} {Q:Exit→Act→World→Prop} {M:Nat→Nat→Prop}
theorem E8.put(R:E8 G M0 w0 s ρ a w){d:Option Tmp}{x:AV}{v:Value}(hd:L3 s.n8 d)(hv:r7 (p7 M0 ρ s.n8.h) ρ w x v):E8 G M0 w0 (s.put d x) ρ (a.put d v) w:=by
 refine⟨?_,?_⟩
 ·rw[LS.dF hd];exact R.1.pure hd hv
 ·cases d<;>exact R.2
theorem b1W{l:List AV}{d:Nat}{x:AV}(h:LS.tf l d=x):(if d<l.length then l.set d x else l)=l:=by
 split
 ·rename_i hd
  apply List.ext_getElem?
  intro i
  rw[List.getElem?_set]
  split
  ·rename_i h2
   subst h2
   simp only[LS.tf,List.getD_eq_getElem?_getD]at h
   rw[List.getElem?_eq_getElem hd]at h⊢
   simpa using h.symm
  ·rfl
 ·rfl
theorem nJ{d:Nat}{x:AV}(h:LS.tf s.t d=x):s.put (some d) x=s:=by
 have:=b1W h
 simp only[LS.put]
 by_cases hd:d<s.t.length
 ·rw[if_pos hd]at this;rw[this]
 ·rw[List.set_eq_of_length_le (by omega)]
theorem a3s(R:E8 G M0 w0 s ρ a w){ops:List Oper}{o:Oper}{Kw Ks:LS→Prop}(h:a0N ops o s Kw Ks):(Region.wanted o (yielded ops.toArray a.tmps)=true∧Kw s)∨(Region.wanted o (yielded ops.toArray a.tmps)=false∧Ks s):=by
 unfold a0N at h
 unfold Region.wanted
 cases hg:o.guard with
 |none=>rw[hg]at h;exact .inl ⟨rfl,h⟩
 |some p=>
  obtain⟨j,want⟩:=p
  rw[hg]at h
  simp only at h⊢
  split at h
  ·rename_i d hd
   rcases h with h|⟨hb,h1⟩
   case inr=>
    refine .inr ⟨?_,h1⟩
    have hy:yielded ops.toArray a.tmps j=none:=by
     have:=R.1.tm d
     simp only[LS.n8]at this
     rw[hb]at this
     have:=this.Y8
     unfold yielded
     simp only[List.getElem?_toArray,hd,Option.bind_some]
     by_cases hlt:d<a.tmps.size
     ·simp [hlt]at this⊢
      rw[this];rfl
     ·simp [hlt]
    rw[hy];rfl
   obtain⟨b,hb,h1,h2⟩:=h
   have hy:yielded ops.toArray a.tmps j=some b:=by
    have:=R.1.tm d
    simp only[LS.n8]at this
    rw[hb]at this
    have:=this.Y8
    unfold yielded
    simp only[List.getElem?_toArray,hd,Option.bind_some]
    have hn:=R.1.n
    by_cases hlt:d<a.tmps.size
    ·simp [hlt]at this⊢
     rw[this]
    ·simp [hlt,undef]at this
   rw[hy]
   by_cases hbw:b=want
   ·refine .inl ⟨by simp [hbw],?_⟩
    have:=h1 hbw
    rwa [nJ (by rw[hb,hbw])]at this
   ·have hbn:b= !want:=by cases b<;>cases want<;>simp_all
    refine .inr ⟨by simp [hbw],?_⟩
    have:=h2 hbn
    rwa [nJ (by rw[hb,hbn])]at this
  ·exact h.elim
theorem a0Q{l:List (Nat×RS)}{nx:Nat}{x:RS}(h:∀p∈l,p.1<nx)(id:Nat):LS.hf (l++[(nx,x)]) id=if id=nx then x else LS.hf l id:=by
 simp only[LS.hf,lookup_append]
 by_cases hid:id=nx
 ·subst hid
  rw[pG h (Nat.le_refl _)]
  simp
 ·rw[if_neg hid]
  cases hl:l.lookup id with
  |some y=>rfl
  |none=>
   have:(id==nx)=false:=by simpa using hid
   simp only[List.lookup_cons,this,List.lookup_nil]
theorem a3u(id:Nat)(l:List (Nat×RS))(id':Nat)(hl:LS.hf l id≠ .free):LS.hf (C9 id l) id'=if id'=id then .gone else LS.hf l id':=by
 have key:(C9 id l).lookup id'=if id'=id then(l.lookup id').map (fun _=>RS.gone)else l.lookup id':=by
  clear hl
  induction l with
  |nil=>simp [C9]
  |cons p l ih=>
   obtain⟨i,x⟩:=p
   simp only[C9]
   by_cases h1:i=id
   ·subst h1
    rw[if_pos rfl]
    by_cases h2:id'=i
    ·subst h2;simp
    ·simp only[if_neg h2]at ih⊢
     have:(id'==i)=false:=by simpa using h2
     simp only[List.lookup_cons,this]
     exact ih
   ·rw[if_neg h1]
    by_cases h2:id'=i
    ·subst h2;simp [h1]
    ·have:(id'==i)=false:=by simpa using h2
     simp only[List.lookup_cons,this]
     exact ih
 simp only[LS.hf,key]
 by_cases h:id'=id
 ·subst h
  simp only[LS.hf]at hl
  cases hh:l.lookup id' with
  |none=>rw[hh]at hl;exact absurd rfl hl
  |some y=>simp
 ·simp [h]
theorem jS{k:Nat}:∀{l:List (Nat×RS)},e9 k l→∀{id k':Nat} {cs:List AV},LS.hf l id= .u3 k' cs→k'≠k:=by
 intro l
 induction l with
 |nil=>intro _ id k' cs h;simp [LS.hf]at h
 |cons p l ih=>
  obtain⟨i,x⟩:=p
  intro hf id k' cs h
  have hl:e9 k l:=by
   cases x<;>simp only[e9]at hf<;>first|exact hf|exact hf.2
  simp only[LS.hf,List.lookup_cons]at h
  split at h
  ·simp only[Option.getD_some]at h
   subst h
   simp only[e9]at hf
   exact hf.1
  ·exact ih hl h
theorem bT{h h':Nat→RS}(hh:∀id r,h' id= .live r↔h id= .live r):p7 M0 ρ h'=p7 M0 ρ h:=by
 funext b o
 refine propext (or_congr Iff.rfl ⟨?_,?_⟩)
 ·rintro⟨id,r,β,z,h1,h2,h3⟩;exact⟨id,r,β,z,(hh id r).1 h1,h2,h3⟩
 ·rintro⟨id,r,β,z,h1,h2,h3⟩;exact⟨id,r,β,z,(hh id r).2 h1,h2,h3⟩
theorem a2T{M:Nat→Nat→Prop}{ts:Array Value}:∀(keep:List Nat) (t cs:List AV),(∀i,r7 M ρ w (LS.tf t i) (ts.getD i undef))→(∀(i:Nat) x,cs[i]?=some x→i<keep.length→r7 M ρ w x (ts.getD (keep.getD i 0) undef))→
  (x7 t keep cs).length=t.length∧∀i,r7 M ρ w (LS.tf (x7 t keep cs) i) (ts.getD i undef):=by
 intro keep
 induction keep with
 |nil=>intro t cs h1 _;exact⟨by simp [x7],by simpa[x7]using h1⟩
 |cons j js ih=>
  intro t cs h1 h2
  cases cs with
  |nil=>exact⟨by simp [x7],by simpa[x7]using h1⟩
  |cons x xs=>
   simp only[x7]
   obtain⟨g1,g2⟩:=ih (t.set j x) xs (fun i=>by
    simp only[LS.tf,List.getD_eq_getElem?_getD,List.getElem?_set]
    by_cases hij:j=i
    ·subst hij
     rw[if_pos rfl]
     split
     ·exact h2 0 x rfl (by simp)
     ·exact .Z _
    ·rw[if_neg hij]
     have:=h1 i
     simp only[LS.tf,List.getD_eq_getElem?_getD]at this
     exact this) (fun i y hy hi=>by
    have:=h2 (i+1) y (by simpa using hy) (by simpa using hi)
    simpa using this)
   exact⟨by rw[g1];simp,g2⟩
theorem a3D(R:E8 G M0 w0 s ρ a w)(i:Nat):r7 (p7 M0 ρ s.n8.h) (fun _=>none) w (LS.tf (Y7 s.t) i) (a.tmps.getD i undef):=by
 have h:=R.1.tm i
 simp only[LS.n8]at h
 simp only[LS.tf,Y7,List.getD_eq_getElem?_getD,List.getElem?_map]at h⊢
 cases hx:s.t[i]? with
 |none=>exact .Z _
 |some x=>
  rw[hx]at h
  simp only[Option.map_some,Option.getD_some]at h⊢
  split
  ·rename_i hk;exact a8J 4 hk h
  ·exact .Z _
theorem a28{b:Nat}{es es':Array MapEntry}{c c':Nat}(hb:w.heap[b]?=some (.map es c))(a:Addr):({w with heap:=w.heap.setIfInBounds b (.map es' c')}:World).cell? a=w.cell? a:=by
 obtain⟨h1,h2⟩:=Go.MapKept.heap_set (o':= .map es' c') hb
 unfold World.cell?
 by_cases e:a.block=b
 ·simp only[e,h1,hb]
 ·simp only[h2 _ e]
theorem a1l{b:Nat}{es es':Array MapEntry}{c c':Nat}(hb:w.heap[b]?=some (.map es c))(r:Nat):({w with heap:=w.heap.setIfInBounds b (.map es' c')}:World).shape? r=w.shape? r:=by
 obtain⟨h1,h2⟩:=Go.MapKept.heap_set (o':= .map es' c') hb
 unfold World.shape?
 by_cases e:r=b
 ·simp only[e,h1,hb]
 ·simp only[h2 _ e]
theorem a0A{b n:Nat}{es es':Array MapEntry}{c c':Nat}{w0:World}(h:Below n w0 w)(hb:w.heap[b]?=some (.map es c))(hn:n≤b):Below n w0 {w with heap:=w.heap.setIfInBounds b (.map es' c')}:=by
 obtain⟨h1,h2⟩:=Go.MapKept.heap_set (o':= .map es' c') hb
 obtain⟨g1,g2,g3,g4,g5⟩:=h
 refine⟨g1,g2,g3,by simpa using g4,fun i hi=>?_⟩
 rw[show({w with heap:=w.heap.setIfInBounds b (.map es' c')}:World).heap[i]?=w.heap[i]? from h2 i (by omega)]
 exact g5 i hi
theorem a03(R:E8 G M0 w0 s ρ a w){t:TypeId}{d:TypeDesc}{z kv xv:Value}{b id:Nat}{f:Value→Option Value}{dst:Option Tmp}(hd:L3 s.n8 dst)(ht:tm P t=some (d,z))(hk:kY P t d kv)(hh:LS.hf s.h id= .mp b d f):
  ∃w',(Instr.mapUpdate t (.map (some b)) kv xv).run P w= .ok () w'∧E8 G M0 w0 {s.put dst .Z with h:=iP b d (aH f kv xv) s.h} ρ (a.put dst undef) w':=by
 obtain⟨hb0,hM⟩:=R.1.iM id b d f hh
 obtain⟨es,c,h1,h2⟩:=b33 (x:=xv) ht hM hk
 obtain⟨es0,c0,hb,_⟩:=hM.map hk.ne
 refine⟨_,h1,?_,?_⟩
 ·have hp:({s.put dst .Z with h:=iP b d (aH f kv xv) s.h}:LS).n8={s.n8.put dst .Z with h:=LS.hf (iP b d (aH f kv xv) s.h)}:=by
   rw[←LS.dF hd];cases dst<;>rfl
  rw[hp]
  have hl:∀id' r,LS.hf (iP b d (aH f kv xv) s.h) id'= .live r↔s.n8.h id'= .live r:=by
   intro id' r
   rw[mT]
   show B2 b d _ (LS.hf s.h id')= .live r↔LS.hf s.h id'= .live r
   cases LS.hf s.h id'<;>simp only[B2]<;>(try split)<;>simp
  have hMo:p7 M0 ρ (LS.hf (iP b d (aH f kv xv) s.h))=p7 M0 ρ s.n8.h:=bT hl
  have hc:∀b' o v,¬p7 M0 ρ s.n8.h b' o→w.cell? ⟨b',o,none⟩=some v→¬p7 M0 ρ (LS.hf (iP b d (aH f kv xv) s.h)) b' o∧({w with heap:=w.heap.setIfInBounds b (.map es c)}:World).cell? ⟨b',o,none⟩=some v:=by
   intro b' o v g1 g2
   rw[hMo,a28 hb];exact⟨g1,g2⟩
  have hs:∀r p,w.shape? r=some p→({w with heap:=w.heap.setIfInBounds b (.map es c)}:World).shape? r=some p:=fun r p h=>by rw[a1l hb];exact h
  have hoth:∀b' x,w.heap[b']?=some x→b'≠b→({w with heap:=w.heap.setIfInBounds b (.map es c)}:World).heap[b']?=some x:=fun b' x h hne=>by
   rw[←h];exact(Go.MapKept.heap_set (o':= .map es c) hb).2 b' hne
  refine R.1.a7H hd (fun _ _ h=>h) hc hs ?_ ?_ ?_ (a0A R.1.U2 hb hb0) ?_ ?_ (fun b' o hk h=>hoth b' o h (fun e=>by subst e;rw[R.1.nD id _ _ _ hh]at hk;cases hk)) (fun id' r p h hp=>R.1.dH id' r p ((hl id' r).1 h) hp) (by
   intro id' b' d' f' h
   rw[mT]at h
   cases hx:LS.hf s.h id'<;>rw[hx]at h<;>simp only[B2]at h<;>try(cases h;done)
   rename_i b1 d1 f1
   have:=R.1.nD id' b1 d1 f1 hx
   split at h
   ·rename_i he;cases h;rw[←he];exact this
   ·cases h;exact this) (.Z _)
  ·intro id' r h
   obtain⟨b',β,arr,e,p1,p2,p3,p4,p5,p6⟩:=R.1.live id' r ((hl id' r).1 h)
   have hne:b'≠b:=by intro e;subst e;rw[hb]at p3;cases p3
   exact⟨b',β,arr,e,p1,p2,hoth _ _ p3 hne,p4,p5,fun i j e x u g1 g2 g3=>(p6 i j e x u g1 g2 g3).mono (fun _ _ h=>h) hc hs⟩
  ·intro id' h
   rw[mT]at h
   refine R.1.free id' ?_
   show LS.hf s.h id'= .free
   cases hx:LS.hf s.h id'<;>rw[hx]at h<;>simp only[B2]at h<;>(try split at h)<;>first|rfl|cases h
  ·intro i1 i2 r1 r2 b' β β' z z' g1 g2 g3 g4
   exact R.1.inj _ _ _ _ _ _ _ _ _ ((hl _ _).1 g1) ((hl _ _).1 g2) g3 g4
  ·intro id' k cs h
   rw[mT]at h
   show LS.hf s.h id'= .u3 k cs
   cases hx:LS.hf s.h id'<;>rw[hx]at h<;>simp only[B2]at h<;>(try split at h)<;>first|cases h|exact h
   rfl
  ·intro id' b' d' f' h
   rw[mT]at h
   cases hx:LS.hf s.h id'<;>rw[hx]at h<;>simp only[B2]at h<;>try(cases h;done)
   rename_i b1 d1 f1
   obtain⟨q1,q2⟩:=R.1.iM id' b1 d1 f1 hx
   split at h
   ·rename_i he
    cases h
    exact⟨hb0,h2⟩
   ·rename_i he
    cases h
    refine⟨q1,?_⟩
    rcases q2 with⟨es1,c1,m1,m2⟩|⟨m0,o,m1,m2⟩
    ·exact .inl ⟨es1,c1,hoth _ _ m1 he,m2⟩
    ·exact .inr ⟨m0,o,hoth _ _ m1 he,m2⟩
 ·intro p hp
  have:∀p∈s.h,p.1<s.nx:=R.2
  have hp:p∈iP b d (aH f kv xv) s.h:=hp
  have h3:=b32 this p hp
  cases dst<;>exact h3
theorem wI(R:E8 G M0 w0 s ρ a w){d:TypeDesc}{dst:Option Tmp}(hd:L3 s.n8 dst):
  E8 G M0 w0 ⟨(s.put dst (.v (.map (some w.heap.size)))).t,s.h++[(s.nx,.mp w.heap.size d fun _=>none)],s.nx+8⟩ ρ (a.put dst (.map (some w.heap.size))) (w.alloc (.map #[] 0)):=by
 have hh:∀id,LS.hf (s.h++[(s.nx,.mp w.heap.size d fun _=>none)]) id=if id=s.nx then .mp w.heap.size d (fun _=>none)else LS.hf s.h id:=fun id=>a0Q R.2 id
 have hfree:s.n8.h s.nx= .free:=LS.free R.2 (Nat.le_refl _)
 refine⟨?_,?_⟩
 ·have hp:(⟨(s.put dst (.v (.map (some w.heap.size)))).t,s.h++[(s.nx,.mp w.heap.size d fun _=>none)],s.nx+8⟩:LS).n8={s.n8.put dst (.v (.map (some w.heap.size)))with h:=LS.hf (s.h++[(s.nx,.mp w.heap.size d fun _=>none)])}:=by
   rw[←LS.dF hd];cases dst<;>rfl
  rw[hp]
  have hl:∀id' r,LS.hf (s.h++[(s.nx,.mp w.heap.size d fun _=>none)]) id'= .live r↔s.n8.h id'= .live r:=by
   intro id' r
   rw[hh]
   by_cases hid:id'=s.nx
   ·subst hid;rw[if_pos rfl,hfree];simp
   ·rw[if_neg hid];exact Iff.rfl
  have hMo:p7 M0 ρ (LS.hf (s.h++[(s.nx,.mp w.heap.size d fun _=>none)]))=p7 M0 ρ s.n8.h:=bT hl
  have hc:∀b' o v,¬p7 M0 ρ s.n8.h b' o→w.cell? ⟨b',o,none⟩=some v→¬p7 M0 ρ (LS.hf (s.h++[(s.nx,.mp w.heap.size d fun _=>none)])) b' o∧(w.alloc (.map #[] 0)).cell? ⟨b',o,none⟩=some v:=by
   intro b' o v g1 g2
   rw[hMo]
   exact⟨g1,by rw[World.cell?_alloc_lt w _ _ (World.block_lt_of_cell? w _ g2)];exact g2⟩
  refine R.1.a7H hd (fun _ _ h=>h) hc (fun _ _=>iW) ?_ ?_ ?_ (R.1.U2.alloc R.1.U2.size _) ?_ ?_ (fun _ _ _ h=>cK h) (fun id' r p h hp=>R.1.dH id' r p ((hl id' r).1 h) hp) (by
   intro id' b' d' f' h
   rw[hh]at h
   by_cases hid:id'=s.nx
   ·rw[if_pos hid]at h
    cases h
    exact R.1.a7a (Nat.le_refl _)
   ·rw[if_neg hid]at h
    exact R.1.nD id' b' d' f' h) (.v _)
  ·intro id' r h
   obtain⟨b',β,arr,e,p1,p2,p3,p4,p5,p6⟩:=R.1.live id' r ((hl id' r).1 h)
   exact⟨b',β,arr,e,p1,p2,cK p3,p4,p5,fun i j e x u g1 g2 g3=>(p6 i j e x u g1 g2 g3).mono (fun _ _ h=>h) hc (fun _ _=>iW)⟩
  ·intro id' h
   rw[hh]at h
   by_cases hid:id'=s.nx
   ·rw[if_pos hid]at h;cases h
   ·rw[if_neg hid]at h;exact R.1.free id' h
  ·intro i1 i2 r1 r2 b' β β' z z' g1 g2 g3 g4
   exact R.1.inj _ _ _ _ _ _ _ _ _ ((hl _ _).1 g1) ((hl _ _).1 g2) g3 g4
  ·intro id' k cs h
   rw[hh]at h
   by_cases hid:id'=s.nx
   ·rw[if_pos hid]at h;cases h
   ·rw[if_neg hid]at h;exact h
  ·intro id' b' d' f' h
   rw[hh]at h
   by_cases hid:id'=s.nx
   ·rw[if_pos hid]at h
    cases h
    exact⟨R.1.U2.size,b1C w d⟩
   ·rw[if_neg hid]at h
    obtain⟨q1,q2⟩:=R.1.iM id' b' d' f' h
    exact⟨q1,q2.keep (fun _ _ _ h=>cK h)⟩
 ·intro p hp
  simp only[List.mem_append,List.mem_singleton]at hp
  rcases hp with hp|rfl
  ·have:=R.2 p hp;simp only;omega
  ·simp only;omega
theorem zL [j9 P] (hgl:j9.ok P w0) (R:E8 G M0 w0 s ρ a w) {o:Oper} {K:LS→Prop} {Kw:Act→World→Prop} (hd:L3 s.n8 o.dst) (h:inl P o s K)
  (hK:∀s' ρ' a' w',K s'→E8 G M0 w0 s' ρ' a' w'→Kw a' w'):o.wp P a w Kw Q:=by
 unfold inl at h
 split at h
 ·rename_i c ho
  split at h
  ·rename_i fv hfv
   rcases h with h|⟨f,xs,hf,⟨fn,hfn,hbody,hname⟩,hC⟩
   case inr=>
     have h1:=R.1.ev fv
     generalize hu:a.eval fv=u at h1
     obtain⟨first,vs,rfl,hargs⟩:=gQ h1 hf (RC.of_map R.1 c.args)
     generalize hvs:first++c.args.map a.eval++vs=args at hargs
     have hb:fn.body.isNone=false:=by cases hq:fn.body<;>simp_all
     have hrun:(execOp a.eval o).run P w= .ok (.enter f args) w:=by
      simp only[execOp,ho,resolve,hfv,hu,Deferred.ofValue,Sem.run_bind,Sem.run_pure,Result.andThen_ok,invoke,callFunc,run_program,hfn,hname,hb,Bool.false_eq_true,if_false,hvs]
     unfold Oper.wp
     rw[hrun]
     refine(hC G M0 w0 ρ a w args hgl R hargs).mono fun e w' ⟨v,x,s',ρ',he,hk,R',hv⟩=>?_
     subst he
     refine hK _ ρ' _ w' hk (R'.put ?_ hv)
     cases hdd:o.dst with
     |none=>trivial
     |some d=>
      rw[hdd]at hd
      have e1:a.tmps.size=s.t.length:=R.1.n
      have e2:a.tmps.size=s'.t.length:=R'.1.n
      show d<s'.t.length
      rw[←e2,e1]
      exact hd
   obtain⟨f,xs,fn,body,k,keep,hf,hfn,hbody,hname,hfresh,hA⟩:=h
   have h1:=R.1.ev fv
   generalize hu:a.eval fv=u at h1
   obtain⟨first,vs,rfl,hargs⟩:=gQ h1 hf (RC.of_map R.1 c.args)
   generalize hvs:first++c.args.map a.eval++vs=args at hargs
   have hb:fn.body.isNone=false:=by simp [hbody]
   have hrun:(execOp a.eval o).run P w= .ok (.enter f args) w:=by
    simp only[execOp,ho,resolve,hfv,hu,Deferred.ofValue,Sem.run_bind,Sem.run_pure,Result.andThen_ok,invoke,callFunc,run_program,hfn,hname,hb,Bool.false_eq_true,if_false,hvs]
   unfold Oper.wp
   rw[hrun]
   have hh:∀id,(wF fn xs k keep s).n8.h id=if id=s.nx then .u3 k (keep.map (LS.tf s.t))else s.n8.h id:=fun id=>a0Q R.2 id
   have hfree:s.n8.h s.nx= .free:=LS.free R.2 (Nat.le_refl _)
   have hM:p7 M0 ρ (wF fn xs k keep s).n8.h=p7 M0 ρ s.n8.h:=bT fun id r=>by
    rw[hh]
    by_cases hid:id=s.nx
    ·subst hid;rw[if_pos rfl,hfree];simp
    ·rw[if_neg hid]
   have R0:E8 {g:=fun l i=>if l=k then a.tmps.getD (keep.getD i 0) undef else G.g l i,fr:=fun x u=>G.fr x u∨∃t,x=LS.tf (Y7 s.t) t∧u=a.tmps.getD t undef,kp:=G.kp,sh:=G.sh,df:=[]} M0 w0 (wF fn xs k keep s) ρ {tmps:=args++Array.replicate (fn.ntmps-args.size) undef,defers:=[]} w:=by
    refine⟨⟨?_,?_,?_,?_,?_,R.1.U2,R.1.m0,rfl,?_,?_,?_,R.1.fY,?_,?_,R.1.oI⟩,?_⟩
    ·simp [wF,LS.n8,hargs.1]
    ·intro t
     rw[hM]
     simp only[wF,LS.n8,LS.tf,List.getD_eq_getElem?_getD]
     by_cases ht:t<xs.length
     ·rw[List.getElem?_append_left ht,List.getElem?_eq_getElem ht,Option.getD_some]
      have h2:t<args.size:=by rw[hargs.1];exact ht
      have e:(args++Array.replicate (fn.ntmps-args.size) undef).getD t undef=args[t]:=by
       rw[Array.getD_eq_getD_getElem?,Array.getElem?_append_left h2]
       simp [h2]
      rw[e]
      exact hargs.2 t xs[t] args[t] (by simp [ht]) (by simp [h2])
     ·rw[List.getElem?_append_right (by omega)]
      have:((List.replicate (fn.ntmps-xs.length) AV.Z)[t-xs.length]?).getD .Z= .Z:=by
       rw[List.getElem?_replicate];split<;>rfl
      rw[this]
      exact .Z _
    ·intro id r h
     rw[hh]at h
     by_cases hid:id=s.nx
     ·rw[if_pos hid]at h;cases h
     ·rw[if_neg hid]at h;rw[hM];exact R.1.live id r h
    ·intro id h
     rw[hh]at h
     by_cases hid:id=s.nx
     ·rw[if_pos hid]at h;cases h
     ·rw[if_neg hid]at h;exact R.1.free id h
    ·intro id id' r r' b β β' z z' h h'
     rw[hh]at h h'
     by_cases hid:id=s.nx
     ·rw[if_pos hid]at h;cases h
     ·by_cases hid':id'=s.nx
      ·rw[if_pos hid']at h';cases h'
      ·rw[if_neg hid]at h;rw[if_neg hid']at h';exact R.1.inj id id' r r' b β β' z z' h h'
    ·intro id l cs h i x hx
     rw[hM]
     rw[hh]at h
     by_cases hid:id=s.nx
     ·rw[if_pos hid]at h
      cases h
      simp only[if_true]
      rw[List.getElem?_map]at hx
      cases hk:keep[i]? with
      |none=>rw[hk]at hx;cases hx
      |some j=>
       rw[hk]at hx
       cases hx
       rw[List.getD_eq_getElem?_getD,hk,Option.getD_some]
       exact R.1.tm j
     ·rw[if_neg hid]at h
      have:=jS hfresh h
      simp only[if_neg this]
      exact R.1.mS id l cs h i x hx
    ·intro x u hx
     rw[hM]
     rcases hx with hx|⟨t,rfl,rfl⟩
     ·exact R.1.lE x u hx
     ·exact a3D R t
    ·intro id b q f h
     rw[hh]at h
     by_cases hid:id=s.nx
     ·rw[if_pos hid]at h;cases h
     ·rw[if_neg hid]at h;exact R.1.iM id b q f h
    ·intro id r p h hp
     rw[hh]at h
     by_cases hid:id=s.nx
     ·rw[if_pos hid]at h;cases h
     ·rw[if_neg hid]at h;exact R.1.dH id r p h hp
    ·intro id b q f h
     rw[hh]at h
     by_cases hid:id=s.nx
     ·rw[if_pos hid]at h;cases h
     ·rw[if_neg hid]at h;exact R.1.nD id b q f h
    ·intro p hp
     simp only[wF,List.mem_append,List.mem_singleton]at hp⊢
     rcases hp with hp|rfl
     ·have:=R.2 p hp;omega
     ·simp
   have C:Calls P f args w fun e w'=>∃v,e= .returned v∧Kw (a.put o.dst v) w':=by
    refine callsIn_wide.1 (callsIn_of_wp_marks (F:=Fence.wide) (n:=0) hfn hbody trivial (hA none (fun _=>rfl) _ M0 w0 ρ _ w _ hgl R0 ?_))
    intro Ds e s' ρ' a' w' hDs hk RX
    have key:∀(a':Act) (w':World),E8 {g:=fun l i=>if l=k then a.tmps.getD (keep.getD i 0) undef else G.g l i,fr:=fun x u=>G.fr x u∨∃t,x=LS.tf (Y7 s.t) t∧u=a.tmps.getD t undef,kp:=G.kp,sh:=G.sh,df:=[]} M0 w0 s' ρ' a' w'→∃v,(results fn a'.tmps).run P w'= .ok v w'∧Kw (a.put o.dst v) w':=by
     intro a' w' R'
     obtain⟨_,x,hx,hm⟩:=hk
     obtain⟨v,e1,e2⟩:=aV R'.1 hx
     refine⟨v,e1,?_⟩
     split at hm
     ·rename_i id cs hfg
      obtain⟨q1,q2,q3⟩:=hm
      have hg:∀id',LS.hf (C9 id s'.h) id'=if id'=id then .gone else LS.hf s'.h id':=fun id'=>a3u id s'.h id' (by rw[q1];intro h;cases h)
      have hM2:p7 M0 ρ' (LS.hf (C9 id s'.h))=p7 M0 ρ' s'.n8.h:=bT fun id' r=>by
       rw[hg]
       by_cases hid:id'=id
       ·subst hid
        rw[if_pos rfl]
        show RS.gone=RS.live r↔LS.hf s'.h id'= .live r
        rw[q1];simp
       ·rw[if_neg hid];rfl
      have hkt:∀i,r7 (p7 M0 ρ' s'.n8.h) ρ' w' (LS.tf (Y7 s.t) i) (a.tmps.getD i undef):=fun i=>(R'.1.lE _ _ (.inr ⟨i,rfl,rfl⟩)).up
      obtain⟨l1,l2⟩:=a2T (ρ:=ρ') (w:=w') keep (Y7 s.t) cs hkt (fun i y hy hi=>by
       have:=R'.1.mS id k cs q1 i y hy
       simpa using this)
      refine hK _ ρ' _ w' q3 ?_
      refine E8.put (G:=G) (s:=⟨x7 (Y7 s.t) keep cs,C9 id s'.h,s'.nx⟩) ⟨⟨?_,?_,?_,?_,?_,R'.1.U2,R'.1.m0,R.1.defers,?_,?_,?_,R'.1.fY,?_,?_,R'.1.oI⟩,?_⟩ ?_ ?_
      ·show a.tmps.size=(x7 (Y7 s.t) keep cs).length
       rw[l1];simp [Y7];exact R.1.n
      ·intro i
       show r7 (p7 M0 ρ' (LS.hf (C9 id s'.h))) ρ' w' _ _
       rw[hM2];exact l2 i
      ·intro id' r h
       show∃b β arr e,_
       have h:LS.hf (C9 id s'.h) id'= .live r:=h
       rw[hg]at h
       by_cases hid:id'=id
       ·rw[if_pos hid]at h;cases h
       ·rw[if_neg hid]at h
        show∃b β arr e,ρ' id'=some (b,β,r.sz)∧_∧_∧_∧_∧∀(i j:Nat) e x u,_→_→_→r7 (p7 M0 ρ' (LS.hf (C9 id s'.h))) ρ' w' x u
        rw[hM2];exact R'.1.live id' r h
      ·intro id' h
       have h:LS.hf (C9 id s'.h) id'= .free:=h
       rw[hg]at h
       by_cases hid:id'=id
       ·rw[if_pos hid]at h;cases h
       ·rw[if_neg hid]at h;exact R'.1.free id' h
      ·intro i1 i2 r r' b β β' z z' h h'
       have h:LS.hf (C9 id s'.h) i1= .live r:=h
       have h':LS.hf (C9 id s'.h) i2= .live r':=h'
       rw[hg]at h h'
       by_cases hid:i1=id
       ·rw[if_pos hid]at h;cases h
       ·by_cases hid':i2=id
        ·rw[if_pos hid']at h';cases h'
        ·rw[if_neg hid]at h;rw[if_neg hid']at h';exact R'.1.inj i1 i2 r r' b β β' z z' h h'
      ·intro id' l cs' h i y hy
       show r7 (p7 M0 ρ' (LS.hf (C9 id s'.h))) ρ' w' _ _
       rw[hM2]
       have h:LS.hf (C9 id s'.h) id'= .u3 l cs':=h
       have hlk:=jS q2 h
       rw[hg]at h
       by_cases hid:id'=id
       ·rw[if_pos hid]at h;cases h
       ·rw[if_neg hid]at h
        have:=R'.1.mS id' l cs' h i y hy
        simpa only[if_neg hlk]using this
      ·intro y u hy
       show r7 (p7 M0 ρ' (LS.hf (C9 id s'.h))) (fun _=>none) w' _ _
       rw[hM2];exact R'.1.lE y u (.inl hy)
      ·intro id' b q f h
       have h:LS.hf (C9 id s'.h) id'= .mp b q f:=h
       rw[hg]at h
       by_cases hid:id'=id
       ·rw[if_pos hid]at h;cases h
       ·rw[if_neg hid]at h;exact R'.1.iM id' b q f h
      ·intro id' r p h hp
       have h:LS.hf (C9 id s'.h) id'= .live r:=h
       rw[hg]at h
       by_cases hid:id'=id
       ·rw[if_pos hid]at h;cases h
       ·rw[if_neg hid]at h;exact R'.1.dH id' r p h hp
      ·intro id' b q f h
       have h:LS.hf (C9 id s'.h) id'= .mp b q f:=h
       rw[hg]at h
       by_cases hid:id'=id
       ·rw[if_pos hid]at h;cases h
       ·rw[if_neg hid]at h;exact R'.1.nD id' b q f h
      ·intro p hp
       have hmem:∀(l:List (Nat×RS)),p∈C9 id l→∃q∈l,q.1=p.1:=by
        intro l
        induction l with
        |nil=>intro h;cases h
        |cons q l ih=>
         intro h
         simp only[C9,List.mem_cons]at h
         rcases h with h|h
         ·refine⟨q,by simp,?_⟩
          split at h
          ·rw[h]
          ·rw[h]
         ·obtain⟨q',h1,h2⟩:=ih h
          exact⟨q',List.mem_cons_of_mem _ h1,h2⟩
       obtain⟨q,h1,h2⟩:=hmem _ hp
       rw[←h2];exact R'.2 q h1
      ·cases hdd:o.dst with
       |none=>trivial
       |some d=>
        rw[hdd]at hd
        show d<(x7 (Y7 s.t) keep cs).length
        have hd:d<s.t.length:=hd
        rw[l1];simpa[Y7]using hd
      ·show r7 (p7 M0 ρ' (LS.hf (C9 id s'.h))) ρ' w' x v
       rw[hM2];exact e2
     ·exact hm.elim
    have fin:=jE (P:=P) (fn:=fn) (R':=fun e w'=>∃v,e= .returned v∧Kw (a.put o.dst v) w') Ds hDs rfl R.1.m0 RX.1 (fun a2 w2 _ R2=>let⟨v,e1,e2⟩:=key a2 w2 ⟨R2,RX.2⟩;⟨v,e1,v,rfl,e2⟩)
    have k1:=hk.1
    cases e<;>first
     |exact fin
     |exact k1.elim
   refine C.mono fun e w' ⟨v,he,hv⟩=>?_
   subst he
   exact hv
  ·rename_i hcal
   obtain⟨x,t,E,id,off,n,r,hx,ht,hD,hz,hev,hh,h1,h2,h3,hk⟩:=h
   have e1:=R.1.ev x
   rw[hev]at e1
   obtain⟨w',hr,hR⟩:=a29 (P:=P) (ty:=o.type) R.1 hd e1 hD hz hh h1 h2 h3
   unfold Oper.wp
   have hrun:(execOp a.eval o).run P w= .ok (.value (.tuple #[])) w':=by
    have hr':(builtin .clear c.argTypes o.type (c.args.map fun| .const _=>true|_=>false) (c.args.map a.eval)).run P w= .ok (.value (.tuple #[])) w':=by
     simp only[builtin,hx,ht,List.map_toArray,List.map_cons,List.map_nil]
     exact H7 hr
    simp only[execOp,ho,resolve,hcal,Sem.run_bind,Sem.run_pure,Result.andThen_ok,invoke]
    exact hr'
   rw[hrun]
   refine hK _ ρ _ _ hk ⟨?_,?_⟩
   ·have hp:({s.put o.dst (.Q0 [])with h:=Z7 id (.live {r with es:=W9 r.es off n r.sz}) s.h}:LS).n8={s.n8.put o.dst (.Q0 [])with h:=m9 s.n8.h id (.live {r with es:=W9 r.es off n r.sz})}:=by
     have hs:LS.hf (Z7 id (.live {r with es:=W9 r.es off n r.sz}) s.h)=m9 s.n8.h id (.live {r with es:=W9 r.es off n r.sz}):=a0P hh (by simp)
     rw[←LS.dF hd,←hs];cases o.dst<;>rfl
    rw[hp];exact hR
   ·have hnx:(s.put o.dst (.Q0 [])).nx=s.nx:=by cases o.dst<;>rfl
    intro p hp
    show p.1<(s.put o.dst (.Q0 [])).nx
    rw[hnx]
    exact a1j R.2 p hp
  ·exact h.elim
 ·rename_i t ho
  obtain⟨d,z,ht,h⟩:=h
  unfold Oper.wp
  have hrun:(execOp a.eval o).run P w= .ok (.value (.map (some w.heap.size))) (w.alloc (.map #[] 0)):=by
   simp only[execOp,ho];exact H7 (Go.RowKit.run_makeMap t w)
  rw[hrun]
  exact hK _ ρ _ _ (h w.heap.size) (wI R hd)
 ·rename_i t m k c ho
  obtain⟨d,z,b,kv,f,id,ht,hm,hkv,hik,hh,h⟩:=h
  obtain⟨hb0,hM⟩:=R.1.iM id b d f hh
  have e1:=R.1.ev m
  rw[hm]at e1
  have e1:=e1.Y8
  have e2:=R.1.ev k
  have e2:=tZ e2 hkv
  have hl:=a3I ht hM hik c
  unfold Oper.wp
  have hrun:(execOp a.eval o).run P w= .ok (.value (if c then .tuple #[(f kv).getD z,.bool (f kv).isSome]else(f kv).getD z)) w:=by
   simp only[execOp,ho,e1,e2];exact H7 hl
  rw[hrun]
  refine hK _ ρ _ _ h (R.put hd ?_)
  cases c
  ·exact .v _
  ·refine .Q0 _ _ rfl fun i x u h1 h2=>?_
   match i,h1,h2 with
   |0,h1,h2=>cases h1;cases h2;exact .v _
   |1,h1,h2=>cases h1;cases h2;exact .v _
 ·rename_i t m k v ho
  obtain⟨d,z,b,kv,xv,f,id,ht,hm,hkv,hxv,hik,hh,h⟩:=h
  have e1:=R.1.ev m
  rw[hm]at e1
  have e1:=e1.Y8
  have e2:=R.1.ev k
  have e2:=tZ e2 hkv
  have e3:=R.1.ev v
  rw[hxv]at e3
  have e3:=e3.Y8
  obtain⟨w',hr,hR⟩:=a03 (P:=P) (xv:=xv) (dst:=o.dst) R hd ht hik hh
  unfold Oper.wp
  have hrun:(execOp a.eval o).run P w= .ok .skip w':=by
   simp only[execOp,ho,e1,e2,e3,Sem.run_bind,hr,Result.andThen_ok,Sem.run_pure]
  rw[hrun]
  exact hK _ ρ _ _ h hR
 ·exact h.elim
theorem gT[j9 P]{o:Oper}{s:St}{nid:Nat}{fx:Fx}(h:ex P o s nid fx):∀c,o.op≠ .defer c:=by
 intro c e
 unfold ex at h
 rw[e]at h
 exact h
theorem qH[j9 P]{o:Oper}{K:LS→Prop}(h:inl P o s K):∀c,o.op≠ .defer c:=by
 intro c e
 unfold inl at h
 rw[e]at h
 exact h
theorem iC[j9 P](m:Option Nat)(hgl:j9.ok P w0){ops:List Oper}:∀(l:List Oper) {s:LS} {ρ:Nat→Option (Nat×Nat×Nat)} {a:Act} {w:World} {K:LS→Prop},E8 G M0 w0 s ρ a w→aO P ops l s K→
  (∀s' ρ' a' w',K s'→E8 G M0 w0 s' ρ' a' w'→Q .normal a' w')→wpListIn (bP m) 0 P ops.toArray Q l a w:=by
 intro l
 induction l with
 |nil=>intro s ρ a w K R h hK;exact hK _ _ _ _ h R
 |cons o rest ih=>
  intro s ρ a w K R h hK
  simp only[aO]at h
  unfold wpListIn
  rcases a3s R h with⟨hw,hd,hx⟩|⟨hw,hd,hr⟩
  ·rw[if_pos hw]
   rcases hx with⟨fx,hx,hr⟩|hx
   ·refine bH m (gT hx) (mP hgl R.1 hd (fun k _=>LS.free R.2 (by omega)) hx fun ρ' a' w' R'=>?_)
    obtain⟨h1,h2⟩:=sW R.2 hd hx
    exact ih ⟨by rw[h1];exact R',h2⟩ hr hK
   ·exact bH m (qH hx) (zL hgl R hd hx fun s' ρ' a' w' hs R'=>ih R' hs hK)
  ·rw[if_neg (by simp [hw])]
   exact⟨fun f _=>jG m f,ih (R.put hd (.v _)) hr hK⟩
end
def O8(s s':LS):Prop:=∀G M0 w0 ρ a w,E8 G M0 w0 s ρ a w→∃ρ',E8 G M0 w0 s' ρ' a w
section
variable {md:Bool} {P:Program} {s:LS} {K K':Exit→LS→Prop}
theorem eR.mono[j9 P]{c:Code}(h:eR (md:=md) P c s K)(hk:∀e s,K e s→K' e s):eR (md:=md) P c s K':=
 fun m hm G M0 w0 ρ a w Q hg R hQ=>h m hm G M0 w0 ρ a w Q hg R fun Ds e s' ρ' a' w' hD k r=>hQ Ds e s' ρ' a' w' hD (hk _ _ k) r
theorem eR.b7w[j9 P]{c:Code}{s':LS}(hw:O8 s s')(h:eR (md:=md) P c s' K):eR (md:=md) P c s K:=
 fun m hm G M0 w0 ρ a w Q hg R hQ=>let⟨ρ',R'⟩:=hw G M0 w0 ρ a w R;h m hm G M0 w0 ρ' a w Q hg R' hQ
theorem b0g[j9 P](h:K .normal s):eR (md:=md) P .skip s K:=fun _ _ _ _ _ _ _ _ _ _ R hQ=>wpIn_skip (hQ [] _ _ _ _ _ .nil h (by rw[aS];exact R))
theorem b2R[j9 P](h:K .ret s):eR (md:=md) P .ret s K:=fun _ _ _ _ _ _ _ _ _ _ R hQ=>wpIn_ret (hQ [] _ _ _ _ _ .nil h (by rw[aS];exact R))
theorem b0e[j9 P]{id:Nat}(h:K (.exit id) s):eR (md:=md) P (.exit id) s K:=fun _ _ _ _ _ _ _ _ _ _ R hQ=>wpIn_exit (hQ [] _ _ _ _ _ .nil h (by rw[aS];exact R))
def S4(N:LS→Prop)(K:Exit→LS→Prop):Exit→LS→Prop
 | .normal,s=>N s
 |e,s=>K e s
theorem a6U[j9 P]{x y:Code}(h:eR (md:=md) P x s (S4 (fun s=>eR (md:=md) P y s K) K)):eR (md:=md) P (.seq x y) s K:=by
 intro m hm G M0 w0 ρ a w Q hg R hQ
 refine wpIn_seq (h m hm G M0 w0 ρ a w _ hg R fun Ds e s' ρ' a' w' hD k r=>?_)
 cases e<;>first
  |exact k m hm (Z2 G Ds) M0 w0 ρ' a' w' Q hg r fun D2 e2 s2 ρ2 a2 w2 hD2 k2 r2=>hQ (D2++Ds) e2 s2 ρ2 a2 w2 (hD.cE hD2) k2 (by rw[←tL];exact r2)
  |exact hQ _ _ _ _ _ _ hD k r
theorem b0d[j9 P]{c:Operand}{x y:Code}{b:Bool}(hc:s.n8.ev c= .v (.bool b))(h1:b=true→eR (md:=md) P x s K)(h2:b=false→eR (md:=md) P y s K):eR (md:=md) P (.cond c x y) s K:=by
 intro m hm G M0 w0 ρ a w Q hg R hQ
 have:=R.1.ev c
 rw[hc]at this
 exact wpIn_cond_split this.Y8 (fun h=>h1 h m hm G M0 w0 ρ a w Q hg R hQ) (fun h=>h2 h m hm G M0 w0 ρ a w Q hg R hQ)
theorem a0z[j9 P]{c:Operand}{x y:Code}(hc:s.n8.ev c= .N6)(h1:eR (md:=md) P x s K)(h2:eR (md:=md) P y s K):eR (md:=md) P (.cond c x y) s K:=by
 intro m hm G M0 w0 ρ a w Q hg R hQ
 have:=R.1.ev c
 rw[hc]at this
 generalize hu:a.eval c=u at this
 cases this with
 |N6 t=>exact wpIn_cond_split hu (fun h=>h1 m hm G M0 w0 ρ a w Q hg R hQ) (fun h=>h2 m hm G M0 w0 ρ a w Q hg R hQ)
def a4K(id:Nat)(K:Exit→LS→Prop):Exit→LS→Prop
 | .exit id',s=>if id'=id then K .normal s else K (.exit id') s
 |e,s=>K e s
theorem a7V[j9 P]{id:Nat}{c:Code}(h:eR (md:=md) P c s (a4K id K)):eR (md:=md) P (.block id c) s K:=by
 intro m hm G M0 w0 ρ a w Q hg R hQ
 refine wpIn_block (h m hm G M0 w0 ρ a w _ hg R fun Ds e s' ρ' a' w' hD k r=>?_)
 cases e with
 |exit id'=>
  simp only[a4K]at k
  simp only[Exit.inBlock]
  by_cases hid:id'=id
  ·rw[if_pos hid]at k⊢;exact hQ _ _ _ _ _ _ hD k r
  ·rw[if_neg hid]at k⊢;exact hQ _ _ _ _ _ _ hD k r
 |_=>exact hQ _ _ _ _ _ _ hD k r
theorem a4H[j9 P]{id:Nat}{l:List Oper}(h:aO P l l s (K .normal)):eR (md:=md) P (.region id l.toArray false) s K:=by
 intro m hm G M0 w0 ρ a w Q hg R hQ
 exact wpIn_region_lit (iC m hg l R h fun s' ρ' a' w' k r=>hQ [] _ _ _ _ _ .nil k (by rw[aS];exact r))
theorem b4r(p:Nat→Prop)(h:∃n,p n):∃n,p n∧∀m,p m→n≤m:=by
 obtain⟨n,hn⟩:=h
 induction n using Nat.strongRecOn with
 |_ n ih=>
  by_cases hx:∃m,m<n∧p m
  ·obtain⟨m,h1,h2⟩:=hx
   exact ih m h1 h2
  ·refine⟨n,hn,fun m hm=>?_⟩
   rcases Nat.lt_or_ge m n with h|h
   ·exact absurd ⟨m,h,hm⟩ hx
   ·exact h
theorem b0f[j9 P]{c:Code}(I:Nat→LS→Prop)(n0:Nat)(h0:I n0 s)(round:∀n s,I n s→eR (md:=md) P c s (S4 (fun s'=>∃m s'',m<n∧O8 s' s''∧I m s'') K)):eR (md:=md) P (.loop c) s K:=by
 intro m hm G M0 w0 ρ a w Q hg R hQ
 have dec:∀(a:Act) (w:World),∃n:Nat,(∃m s ρ Ds,iS w0 G Ds∧I m s∧E8 (Z2 G Ds) M0 w0 s ρ a w)→(∃s ρ Ds,iS w0 G Ds∧I n s∧E8 (Z2 G Ds) M0 w0 s ρ a w)∧∀m,(∃s ρ Ds,iS w0 G Ds∧I m s∧E8 (Z2 G Ds) M0 w0 s ρ a w)→n≤m:=by
  intro a w
  by_cases h:∃m s ρ Ds,iS w0 G Ds∧I m s∧E8 (Z2 G Ds) M0 w0 s ρ a w
  ·obtain⟨n,h1,h2⟩:=b4r (fun m=>∃s ρ Ds,iS w0 G Ds∧I m s∧E8 (Z2 G Ds) M0 w0 s ρ a w) h
   exact⟨n,fun _=>⟨h1,h2⟩⟩
  ·exact⟨0,fun h'=>absurd h' h⟩
 refine wpIn_loop (fun a w=>∃m s ρ Ds,iS w0 G Ds∧I m s∧E8 (Z2 G Ds) M0 w0 s ρ a w) (fun a w=>Classical.choose (dec a w)) ⟨n0,s,ρ,[],.nil,h0,by rw[aS];exact R⟩ ?_
 intro a w hI
 obtain⟨⟨s1,ρ1,D1,hD1,hI1,R1⟩,_⟩:=Classical.choose_spec (dec a w) hI
 refine round _ s1 hI1 m hm (Z2 G D1) M0 w0 ρ1 a w _ hg R1 fun D2 e s' ρ' a' w' hD2 k r=>?_
 have hD:=hD1.cE hD2
 rw[tL]at r
 cases e with
 |normal=>
  obtain⟨n,s'',hlt,hw,hm⟩:=k
  obtain⟨ρ'',R''⟩:=hw _ M0 w0 ρ' a' w' r
  have hex:∃m s ρ Ds,iS w0 G Ds∧I m s∧E8 (Z2 G Ds) M0 w0 s ρ a' w':=⟨n,s'',ρ'',_,hD,hm,R''⟩
  exact⟨hex,Nat.lt_of_le_of_lt ((Classical.choose_spec (dec a' w') hex).2 n ⟨s'',ρ'',_,hD,hm,R''⟩) hlt⟩
 |_=>exact hQ _ _ _ _ _ _ hD k r
end
end
end Go.Ab
end
