/- Own work (by an AI agent; no person has read it): part of a proof of the seat YtgdoiokalfhjoaaDoor. -/
import Derived.Laws.StructEq
import Derived.ChangeKeysEq
import Derived.Test.YtgdoiokalfhjoaaDoorRows
import Derived.Lib.LaidTab
import Derived.Lib.TrailingZeros
import Derived.Test.YtgdoiokalfhjoaaDoorXa
set_option linter.unusedSimpArgs false
set_option linter.unusedVariables false
section
namespace Go.Ab
open Go.RowKit (Below)
section
def n6(r:Nat→Option Nat):Nat→AV→Option AV
 |_,.Z=>some .Z
 |_,.N6=>some .N6
 |_,.v x=>some (.v x)
 |_,.c5 c es=>some (.c5 c es)
 |_,.Z9 es i k=>some (.Z9 es i k)
 |_,.own id off k=>(r id).map fun j=> .own j off k
 |_,.ptr id i k=>(r id).map fun j=> .ptr j i k
 |_,.dP id i k=>(r id).map fun j=> .dP j i k
 |n+1,.agg cs=>(cs.mapM (n6 r n)).map .agg
 |n+1,.Q0 cs=>(cs.mapM (n6 r n)).map .Q0
 |n+1,.fn f cs=>(cs.mapM (n6 r n)).map (.fn f)
 |n+1,.mJ f cs=>(cs.mapM (n6 r n)).map (.mJ f)
 |0,_=>none
def e7(r:Nat→Option Nat)(row:Row):Option Row:=
 if w7 row.es then some row else(row.es.mapM fun(e:List AV)=>e.mapM (n6 r 3)).map fun es=>⟨row.sz,es,row.fro⟩
def p8(ids:List Nat)(nid:Nat)(id:Nat):Option Nat:=(ids.idxOf? id).map (nid+·)
def b6(h:Nat→RS)(r:Nat→Option Nat):List Nat→Option (List Row)
 |[]=>some []
 |id::ids=>match h id with
  | .live row=>(e7 r row).bind fun row'=>(b6 h r ids).map (row'::·)
  |_=>none
def n7(keep:List Nat)(r:Nat→Option Nat)(i:Nat):List AV→Option (List AV)
 |[]=>some []
 |x::xs=>(if keep.contains i then n6 r 3 x else some .Z).bind fun y=>(n7 keep r (i+1) xs).map (y::·)
section
variable {G:Gh} {M0:Nat→Nat→Prop} {w0:World} {ρ:Nat→Option (Nat×Nat×Nat)} {w:World} {P:Program} {h:Nat→RS}
theorem cC{r:Nat→Option Nat}:∀{ids:List Nat} {rows:List Row},b6 h r ids=some rows→rows.length=ids.length∧∀(j:Nat) row',rows[j]?=some row'→∃id row,ids[j]?=some id∧h id= .live row∧e7 r row=some row':=by
 intro ids
 induction ids with
 |nil=>intro rows hp;cases hp;exact⟨rfl,by simp⟩
 |cons id ids ih=>
  intro rows hp
  simp only[b6]at hp
  split at hp
  ·rename_i row hrow
   cases h1:e7 r row with
   |none=>rw[h1]at hp;cases hp
   |some row'=>
    cases h2:b6 h r ids with
    |none=>rw[h1,h2]at hp;cases hp
    |some rows'=>
     rw[h1,h2]at hp
     cases hp
     obtain⟨g1,g2⟩:=ih h2
     refine⟨by simp [g1],fun j q hq=>?_⟩
     cases j with
     |zero=>simp at hq;subst hq;exact⟨id,row,by simp,hrow,h1⟩
     |succ j=>simp at hq;simpa using g2 j q hq
  ·cases hp
theorem a0S{ids:List Nat}{id j:Nat}(hi:ids.idxOf? id=some j):ids[j]?=some id:=by
 rw[List.idxOf?_eq_some_iff]at hi
 obtain⟨h1,h2,_⟩:=hi
 rw[List.getElem?_eq_getElem h1]
 simpa using h2
def renρ(ρ:Nat→Option (Nat×Nat×Nat))(ids:List Nat)(nid:Nat)(i:Nat):Option (Nat×Nat×Nat):=if nid≤i then(ids[i-nid]?).bind ρ else none
theorem renId_ρ{ids:List Nat}{nid id j:Nat}(hr:p8 ids nid id=some j):renρ ρ ids nid j=ρ id:=by
 simp only[p8,Option.map_eq_some_iff]at hr
 obtain⟨k,h1,rfl⟩:=hr
 simp only[renρ]
 rw[if_pos (by omega),show nid+k-nid=k from by omega,a0S h1]
 rfl
theorem a5F{M:Nat→Nat→Prop}{ids:List Nat}{nid:Nat}:∀(n:Nat) (x y:AV) (u:Value),n6 (p8 ids nid) n x=some y→r7 M ρ w x u→r7 M (renρ ρ ids nid) w y u:=by
 intro n
 induction n with
 |zero=>
  intro x y u hr hx
  cases hx with
  |Z=>cases hr;exact .Z _
  |N6 t=>cases hr;exact .N6 t
  |v=>cases hr;exact .v _
  |c5 c es a cap b o sz cell h1 h2 h3 h4 h5 h6=>cases hr;exact .c5 c es a cap b o sz cell h1 h2 h3 h4 h5 h6
  |Z9 es i k b o sz cell h1 h2 h3 h4 h5=>cases hr;exact .Z9 es i k b o sz cell h1 h2 h3 h4 h5
  |own id off n cap b β sz N e h1 h2 h3 h4=>simp only[n6,Option.map_eq_some_iff]at hr;obtain⟨j,hj,rfl⟩:=hr;exact .own j off n cap b β sz N e (by rw[renId_ρ hj];exact h1) h2 h3 h4
  |ptr id i k b β sz h1=>simp only[n6,Option.map_eq_some_iff]at hr;obtain⟨j,hj,rfl⟩:=hr;exact .ptr j i k b β sz (by rw[renId_ρ hj];exact h1)
  |dP id i k b β sz h1=>simp only[n6,Option.map_eq_some_iff]at hr;obtain⟨j,hj,rfl⟩:=hr;exact .dP j i k b β sz (by rw[renId_ρ hj];exact h1)
  |_=>simp [n6]at hr
 |succ n ih=>
  intro x y u hr hx
  have many:∀(cs cs':List AV) (vs:Array Value),cs.mapM (n6 (p8 ids nid) n)=some cs'→vs.size=cs.length→(∀(i:Nat) x u,cs[i]?=some x→vs[i]?=some u→r7 M ρ w x u)→
    vs.size=cs'.length∧∀(i:Nat) x u,cs'[i]?=some x→vs[i]?=some u→r7 M (renρ ρ ids nid) w x u:=by
   intro cs cs' vs hm hn hr
   refine⟨by rw[K6 hm];exact hn,fun i x u h1 h2=>?_⟩
   obtain⟨x0,e1,e2⟩:=F5 hm i x h1
   exact ih x0 x u e2 (hr i x0 u e1 h2)
  cases hx with
  |Z=>cases hr;exact .Z _
  |N6 t=>cases hr;exact .N6 t
  |v=>cases hr;exact .v _
  |c5 c es a cap b o sz cell h1 h2 h3 h4 h5 h6=>cases hr;exact .c5 c es a cap b o sz cell h1 h2 h3 h4 h5 h6
  |Z9 es i k b o sz cell h1 h2 h3 h4 h5=>cases hr;exact .Z9 es i k b o sz cell h1 h2 h3 h4 h5
  |own id off n cap b β sz N e h1 h2 h3 h4=>simp only[n6,Option.map_eq_some_iff]at hr;obtain⟨j,hj,rfl⟩:=hr;exact .own j off n cap b β sz N e (by rw[renId_ρ hj];exact h1) h2 h3 h4
  |ptr id i k b β sz h1=>simp only[n6,Option.map_eq_some_iff]at hr;obtain⟨j,hj,rfl⟩:=hr;exact .ptr j i k b β sz (by rw[renId_ρ hj];exact h1)
  |dP id i k b β sz h1=>simp only[n6,Option.map_eq_some_iff]at hr;obtain⟨j,hj,rfl⟩:=hr;exact .dP j i k b β sz (by rw[renId_ρ hj];exact h1)
  |agg cs vs hn hh=>
   simp only[n6,Option.map_eq_some_iff]at hr
   obtain⟨cs',hm,rfl⟩:=hr
   obtain⟨g1,g2⟩:=many cs cs' vs hm hn hh
   exact .agg cs' vs g1 g2
  |Q0 cs vs hn hh=>
   simp only[n6,Option.map_eq_some_iff]at hr
   obtain⟨cs',hm,rfl⟩:=hr
   obtain⟨g1,g2⟩:=many cs cs' vs hm hn hh
   exact .Q0 cs' vs g1 g2
  |fn f cs vs hn hh=>
   simp only[n6,Option.map_eq_some_iff]at hr
   obtain⟨cs',hm,rfl⟩:=hr
   obtain⟨g1,g2⟩:=many cs cs' vs hm hn hh
   exact .fn f cs' vs g1 g2
  |mJ f cs vs hn hh=>
   simp only[n6,Option.map_eq_some_iff]at hr
   obtain⟨cs',hm,rfl⟩:=hr
   obtain⟨g1,g2⟩:=many cs cs' vs hm hn hh
   exact .mJ f cs' vs g1 g2
theorem qM(H:kN M0 w0 h ρ w){M1:Nat→Nat→Prop}(hM1:∀b o,M1 b o→p7 M0 ρ h b o){ids:List Nat}{nid:Nat}{rows:List Row}(hnd:ids.Nodup)(hm1:∀b o,M1 b o→b<w.heap.size∧∀id∈ids,∀r p,h id= .live r→ρ id=some p→p.1≠b)(hp:b6 h (p8 ids nid) ids=some rows):
  kN M1 w0 (s7 nid rows) (renρ ρ ids nid) w∧(∀n x y u,n6 (p8 ids nid) n x=some y→r7 (p7 M0 ρ h) ρ w x u→r7 (p7 M1 (renρ ρ ids nid) (s7 nid rows)) (renρ ρ ids nid) w y u)∧∀b o,p7 M1 (renρ ρ ids nid) (s7 nid rows) b o→p7 M0 ρ h b o:=by
 obtain⟨hlen,hget⟩:=cC hp
 have look:∀{i:Nat} {row':Row},s7 nid rows i= .live row'→nid≤i∧∃id row,ids[i-nid]?=some id∧h id= .live row∧e7 (p8 ids nid) row=some row':=by
  intro i row' hi
  unfold s7 at hi
  split at hi
  ·rename_i hr
   have hlt:i-nid<rows.length:=by omega
   have e:rows[i-nid]?=some row':=by
    simp only[List.getD_eq_getElem?_getD,List.getElem?_eq_getElem hlt,Option.getD_some,RS.live.injEq]at hi
    rw[List.getElem?_eq_getElem hlt,hi]
   exact⟨hr.1,hget _ _ e⟩
  ·cases hi
 have rsz:∀{row row':Row},e7 (p8 ids nid) row=some row'→row'.sz=row.sz∧row'.fro=row.fro∧row'.es.length=row.es.length:=by
  intro row row' hr
  unfold e7 at hr
  split at hr
  ·cases hr;exact⟨rfl,rfl,rfl⟩
  ·simp only[Option.map_eq_some_iff]at hr
   obtain⟨es,hm,rfl⟩:=hr
   exact⟨rfl,rfl,K6 hm⟩
 have hM:∀b o,p7 M1 (renρ ρ ids nid) (s7 nid rows) b o→p7 M0 ρ h b o:=by
  rintro b o (g|⟨i,row',β,z,g1,g2,g3⟩)
  ·exact hM1 b o g
  ·obtain⟨hi,id,row,e1,e2,e3⟩:=look g1
   simp only[renρ,if_pos hi,e1,Option.bind_some]at g2
   exact .inr ⟨id,row,β,z,e2,g2,by rw[←(rsz e3).2.1];exact g3⟩
 have up:∀n x y u,n6 (p8 ids nid) n x=some y→r7 (p7 M0 ρ h) ρ w x u→r7 (p7 M1 (renρ ρ ids nid) (s7 nid rows)) (renρ ρ ids nid) w y u:=
  fun n x y u h1 h2=>(a5F n x y u h1 h2).oY hM
 refine⟨⟨?_,?_,?_,H.U2,fun b o g=>⟨(hm1 b o g).1,fun i row' p hi hp=>?_⟩⟩,up,hM⟩
 case refine_4=>
  obtain⟨h1,id,row,e1,e2,e3⟩:=look hi
  simp only[renρ,if_pos h1,e1,Option.bind_some]at hp
  exact(hm1 b o g).2 id (List.mem_of_getElem? e1) row p e2 hp
 ·intro i row' hi
  obtain⟨h1,id,row,e1,e2,e3⟩:=look hi
  obtain⟨b,β,arr,e,p1,p2,p3,p4,p5,p6⟩:=H.live id row e2
  obtain⟨q1,q2,q3⟩:=rsz e3
  have hρ:renρ ρ ids nid i=some (b,β,row'.sz):=by simp only[renρ,if_pos h1,e1,Option.bind_some,p1,q1]
  unfold e7 at e3
  split at e3
  ·rename_i hpl
   cases e3
   refine⟨b,β,arr,e,hρ,p2,p3,p4,p5,fun m j e' x u g1 g2 g3=>?_⟩
   have hp:x.plain=true:=by
    have:=List.all_eq_true.1 hpl e' (List.mem_of_getElem? g1)
    exact List.all_eq_true.1 this x (List.mem_of_getElem? g2)
   exact(((p6 m j e' x u g1 g2 g3).Z5 hp).up).oY hM
  ·simp only[Option.map_eq_some_iff]at e3
   obtain⟨es,hm,rfl⟩:=e3
   simp only at q3 hρ⊢
   refine⟨b,β,arr,e,hρ,p2,p3,by rw[q3];exact p4,fun x hx=>?_,fun m j e' x u g1 g2 g3=>?_⟩
   ·obtain⟨m,hm1,hm2⟩:=List.mem_iff_getElem.1 hx
    obtain⟨e0,t1,t2⟩:=F5 hm m x (by simp [hm1,hm2])
    rw[K6 t2]
    exact p5 e0 (List.mem_of_getElem? t1)
   ·obtain⟨e0,t1,t2⟩:=F5 hm m e' g1
    obtain⟨x0,t3,t4⟩:=F5 t2 j x g2
    exact up 3 x0 x u t4 (p6 m j e0 x0 u t1 t3 g3)
 ·intro i hi
  unfold s7 at hi
  simp only[renρ]
  by_cases h1:nid≤i
  ·rw[if_pos h1]
   by_cases h2:i<nid+rows.length
   ·rw[if_pos ⟨h1,h2⟩]at hi;cases hi
   ·rw[List.getElem?_eq_none (by omega)];rfl
  ·rw[if_neg h1]
 ·intro i j r1 r2 b β β' z z' g1 g2 g3 g4
  obtain⟨h1,id1,row1,e1,e2,e3⟩:=look g1
  obtain⟨h2,id2,row2,f1,f2,f3⟩:=look g2
  simp only[renρ,if_pos h1,e1,Option.bind_some]at g3
  simp only[renρ,if_pos h2,f1,Option.bind_some]at g4
  have:=H.inj _ _ _ _ _ _ _ _ _ e2 f2 g3 g4
  subst this
  obtain⟨l1,k1⟩:=List.getElem?_eq_some_iff.1 e1
  obtain⟨l2,k2⟩:=List.getElem?_eq_some_iff.1 f1
  have pw:=List.pairwise_iff_getElem.1 hnd
  rcases Nat.lt_trichotomy (i-nid) (j-nid)with hlt|heq|hlt
  ·exact absurd (by rw[k1,k2]) (pw _ _ l1 l2 hlt)
  ·omega
  ·exact absurd (by rw[k1,k2]) (pw _ _ l2 l1 hlt)
theorem lK(H:kN M0 w0 h ρ w){ids:List Nat}{nid:Nat}{rows:List Row}(hnd:ids.Nodup)(hp:b6 h (p8 ids nid) ids=some rows):
  kN M0 w0 (s7 nid rows) (renρ ρ ids nid) w∧(∀n x y u,n6 (p8 ids nid) n x=some y→r7 (p7 M0 ρ h) ρ w x u→r7 (p7 M0 (renρ ρ ids nid) (s7 nid rows)) (renρ ρ ids nid) w y u)∧∀b o,p7 M0 (renρ ρ ids nid) (s7 nid rows) b o→p7 M0 ρ h b o:=
 qM H (fun _ _ g=> .inl g) hnd (fun b o g=>⟨(H.m0 b o g).1,fun id _ r p=>(H.m0 b o g).2 id r p⟩) hp
end
def y5(r:Nat→Option Nat)(h0:List (Nat×RS)):Nat→List (Nat×RS)→List (Nat×RS)
 |_,[]=>[]
 |n,p::l=>match LS.hf h0 p.1 with
  | .u3 k cs=>(n,.u3 k (cs.map fun x=>(n6 r 3 x).getD .Z))::y5 r h0 (n+1) l
  | .mp b q f=>(n,.mp b q f)::y5 r h0 (n+1) l
  |_=>y5 r h0 n l
def c8(keep ids:List Nat)(s:LS):Option LS:=
 if ids.Nodup then(n7 keep (p8 ids 0) 0 s.t).bind fun t=>(b6 (LS.hf s.h) (p8 ids 0) ids).map fun rows=>
  ⟨t,j7 0 rows++y5 (p8 ids 0) s.h rows.length s.h,rows.length+(y5 (p8 ids 0) s.h rows.length s.h).length⟩else none
theorem b11{r:Nat→Option Nat}{h0:List (Nat×RS)}:∀(l:List (Nat×RS)) (n:Nat) (p:Nat×RS),p∈y5 r h0 n l→n≤p.1∧p.1<n+(y5 r h0 n l).length∧
  ((∃id k cs,LS.hf h0 id= .u3 k cs∧p.2= .u3 k (cs.map fun x=>(n6 r 3 x).getD .Z))∨∃id b q f,LS.hf h0 id= .mp b q f∧p.2= .mp b q f):=by
 intro l
 induction l with
 |nil=>intro n p h;cases h
 |cons q l ih=>
  intro n p h
  simp only[y5]at h⊢
  split at h
  ·rename_i k cs hg
   simp only[List.mem_cons]at h
   rcases h with rfl|h
   ·exact⟨Nat.le_refl _,by simp,.inl ⟨q.1,k,cs,hg,rfl⟩⟩
   ·obtain⟨h1,h2,h3⟩:=ih (n+1) p h
    exact⟨by omega,by simp only[List.length_cons];omega,h3⟩
  ·rename_i b q' f hg
   simp only[List.mem_cons]at h
   rcases h with rfl|h
   ·exact⟨Nat.le_refl _,by simp,.inr ⟨q.1,b,q',f,hg,rfl⟩⟩
   ·obtain⟨h1,h2,h3⟩:=ih (n+1) p h
    exact⟨by omega,by simp only[List.length_cons];omega,h3⟩
  ·exact ih n p h
theorem uG{l:List (Nat×RS)}{id:Nat}{x:RS}(h:l.lookup id=some x):(id,x)∈l:=by
 induction l with
 |nil=>cases h
 |cons p l ih=>
  obtain⟨i,y⟩:=p
  simp only[List.lookup_cons]at h
  split at h
  ·rename_i hi
   cases h
   have:id=i:=by simpa using hi
   subst this;simp
  ·exact List.mem_cons_of_mem _ (ih h)
theorem b29(nid:Nat)(rows:List Row):LS.hf (j7 nid rows)=s7 nid rows:=by
 funext id
 simp only[LS.hf,dD,s7]
 split<;>rfl
theorem rN(rows:List Row):∀(nid:Nat),∀p∈j7 nid rows,p.1<nid+rows.length:=by
 induction rows with
 |nil=>intro nid p hp;cases hp
 |cons r rs ih=>
  intro nid p hp
  simp only[j7,List.mem_cons]at hp
  rcases hp with rfl|hp
  ·simp
  ·have:=ih _ p hp;simp;omega
theorem a0a{keep:List Nat}{r:Nat→Option Nat}:∀{l l':List AV} {i:Nat},n7 keep r i l=some l'→l'.length=l.length∧∀(j:Nat) y,l'[j]?=some y→∃x,l[j]?=some x∧(n6 r 3 x=some y∨y= .Z):=by
 intro l
 induction l with
 |nil=>intro l' i h;cases h;exact⟨rfl,by simp⟩
 |cons x xs ih=>
  intro l' i h
  simp only[n7]at h
  cases h1:(if keep.contains i then n6 r 3 x else some AV.Z)with
  |none=>rw[h1]at h;cases h
  |some y=>
   cases h2:n7 keep r (i+1) xs with
   |none=>rw[h1,h2]at h;cases h
   |some ys=>
    rw[h1,h2]at h
    cases h
    obtain⟨g1,g2⟩:=ih h2
    refine⟨by simp [g1],fun j z hz=>?_⟩
    cases j with
    |zero=>
     simp at hz
     subst hz
     refine⟨x,by simp,?_⟩
     split at h1
     ·exact .inl h1
     ·cases h1;exact .inr rfl
    |succ j=>simp at hz;simpa using g2 j z hz
theorem a0F{keep ids:List Nat}{s s':LS}(h:c8 keep ids s=some s'):O8 s s':=by
 intro G M0 w0 ρ a w ⟨R,hok⟩
 unfold c8 at h
 split at h
 ·rename_i hnd
  cases h1:n7 keep (p8 ids 0) 0 s.t with
  |none=>rw[h1]at h;cases h
  |some t=>
   cases h2:b6 (LS.hf s.h) (p8 ids 0) ids with
   |none=>rw[h1,h2]at h;cases h
   |some rows=>
    rw[h1,h2]at h
    simp only[Option.bind_some,Option.map_some,Option.some.injEq]at h
    subst h
    obtain⟨H,up,hM⟩:=lK R.toH hnd h2
    obtain⟨g1,g2⟩:=a0a h1
    generalize hgs:y5 (p8 ids 0) s.h rows.length s.h=gs
    have hgm:∀p∈gs,rows.length≤p.1∧p.1<rows.length+gs.length∧((∃id k cs,LS.hf s.h id= .u3 k cs∧p.2= .u3 k (cs.map fun x=>(n6 (p8 ids 0) 3 x).getD .Z))∨∃id b q f,LS.hf s.h id= .mp b q f∧p.2= .mp b q f):=by
     intro p hp
     rw[←hgs]at hp⊢
     exact b11 _ _ p hp
    have hcase:∀id,LS.hf (j7 0 rows++gs) id=s7 0 rows id∨(s7 0 rows id= .free∧((∃i k cs,LS.hf s.h i= .u3 k cs∧LS.hf (j7 0 rows++gs) id= .u3 k (cs.map fun x=>(n6 (p8 ids 0) 3 x).getD .Z))∨∃i b q f,LS.hf s.h i= .mp b q f∧LS.hf (j7 0 rows++gs) id= .mp b q f)):=by
     intro id
     have hr:=congrFun (b29 0 rows) id
     simp only[LS.hf]at hr
     simp only[LS.hf,lookup_append]
     cases hl:(j7 0 rows).lookup id with
     |some x=>rw[hl]at hr;exact .inl hr
     |none=>
      rw[hl]at hr
      cases hl2:gs.lookup id with
      |none=>exact .inl hr
      |some x=>
       obtain⟨_,_,⟨i,k,cs,e1,e2⟩|⟨i,b,q,f,e1,e2⟩⟩:=hgm _ (uG hl2)
       ·exact .inr ⟨hr.symm,.inl ⟨i,k,cs,e1,e2⟩⟩
       ·exact .inr ⟨hr.symm,.inr ⟨i,b,q,f,e1,e2⟩⟩
    have hh:p7 M0 (renρ ρ ids 0) (LS.hf (j7 0 rows++gs))=p7 M0 (renρ ρ ids 0) (s7 0 rows):=bT fun id r=>by
     rcases hcase id with h|⟨h,⟨_,_,_,_,h'⟩|⟨_,_,_,_,_,h'⟩⟩
     ·rw[h]
     ·rw[h,h'];simp
     ·rw[h,h'];simp
    refine⟨renρ ρ ids 0,⟨?_,?_,?_,?_,?_,H.U2,R.m0,R.defers,?_,?_,?_,R.fY,?_,?_,R.oI⟩,?_⟩
    ·rw[R.n];exact g1.symm
    ·intro i
     show r7 (p7 M0 (renρ ρ ids 0) (LS.hf (j7 0 rows++gs))) (renρ ρ ids 0) w (LS.tf t i) _
     rw[hh]
     simp only[LS.tf,List.getD_eq_getElem?_getD]
     cases hy:t[i]? with
     |none=>exact .Z _
     |some y=>
      obtain⟨x,e1,e2⟩:=g2 i y hy
      rcases e2 with e2|rfl
      ·have hx:=R.tm i
       simp only[LS.n8,LS.tf,List.getD_eq_getElem?_getD,e1,Option.getD_some]at hx
       exact up 3 x y _ e2 hx
      ·exact .Z _
    ·intro id r h
     have h:LS.hf (j7 0 rows++gs) id= .live r:=h
     show∃b β arr e,renρ ρ ids 0 id=some (b,β,r.sz)∧_∧_∧_∧_∧∀(i j:Nat) e x u,_→_→_→r7 (p7 M0 (renρ ρ ids 0) (LS.hf (j7 0 rows++gs))) (renρ ρ ids 0) w x u
     rw[hh]
     rcases hcase id with h3|⟨_,⟨_,_,_,_,h'⟩|⟨_,_,_,_,_,h'⟩⟩
     ·rw[h3]at h;exact H.live id r h
     ·rw[h']at h;cases h
     ·rw[h']at h;cases h
    ·intro id h
     have h:LS.hf (j7 0 rows++gs) id= .free:=h
     rcases hcase id with h3|⟨_,⟨_,_,_,_,h'⟩|⟨_,_,_,_,_,h'⟩⟩
     ·rw[h3]at h;exact H.free id h
     ·rw[h']at h;cases h
     ·rw[h']at h;cases h
    ·intro id id' r r' b β β' z z' h h'
     have h:LS.hf (j7 0 rows++gs) id= .live r:=h
     have h':LS.hf (j7 0 rows++gs) id'= .live r':=h'
     rcases hcase id with h3|⟨_,⟨_,_,_,_,h4⟩|⟨_,_,_,_,_,h4⟩⟩
     ·rcases hcase id' with h5|⟨_,⟨_,_,_,_,h6⟩|⟨_,_,_,_,_,h6⟩⟩
      ·rw[h3]at h;rw[h5]at h';exact H.inj id id' r r' b β β' z z' h h'
      ·rw[h6]at h';cases h'
      ·rw[h6]at h';cases h'
     ·rw[h4]at h;cases h
     ·rw[h4]at h;cases h
    ·intro id k cs' h i x hx
     have h:LS.hf (j7 0 rows++gs) id= .u3 k cs':=h
     show r7 (p7 M0 (renρ ρ ids 0) (LS.hf (j7 0 rows++gs))) (renρ ρ ids 0) w x _
     rw[hh]
     rcases hcase id with h3|⟨_,⟨i0,k0,cs,h4,h5⟩|⟨_,_,_,_,_,h5⟩⟩
     ·rw[h3]at h
      unfold s7 at h
      split at h<;>cases h
     ·rw[h5]at h
      cases h
      rw[List.getElem?_map]at hx
      cases hc:cs[i]? with
      |none=>rw[hc]at hx;cases hx
      |some x0=>
       rw[hc]at hx
       cases hx
       have h6:=R.mS i0 k cs h4 i x0 hc
       simp only
       cases hr:n6 (p8 ids 0) 3 x0 with
       |none=>exact .Z _
       |some y=>exact up 3 x0 y _ hr h6
     ·rw[h5]at h;cases h
    ·intro x u hx
     show r7 (p7 M0 (renρ ρ ids 0) (LS.hf (j7 0 rows++gs))) (fun _=>none) w x u
     rw[hh]
     exact(R.lE x u hx).oY hM
    ·intro id b q f h
     have h:LS.hf (j7 0 rows++gs) id= .mp b q f:=h
     rcases hcase id with h3|⟨_,⟨_,_,_,_,h5⟩|⟨i0,b0,q0,f0,h4,h5⟩⟩
     ·rw[h3]at h
      unfold s7 at h
      split at h<;>cases h
     ·rw[h5]at h;cases h
     ·rw[h5]at h;cases h;exact R.iM i0 _ _ _ h4
    ·intro id r p h hp
     have h:LS.hf (j7 0 rows++gs) id= .live r:=h
     rcases hcase id with h3|⟨_,⟨_,_,_,_,h5⟩|⟨_,_,_,_,_,h5⟩⟩
     ·rw[h3]at h
      unfold s7 at h
      split at h
      ·rename_i hr
       have hlt:id-0<rows.length:=by omega
       obtain⟨id1,row1,e1,e2,_⟩:=(cC h2).2 (id-0) (rows.getD (id-0) ⟨0,[],0⟩) (by rw[List.getD_eq_getElem?_getD,List.getElem?_eq_getElem hlt,Option.getD_some])
       simp only[renρ,if_pos hr.1,e1,Option.bind_some]at hp
       exact R.dH id1 row1 p e2 hp
      ·cases h
     ·rw[h5]at h;cases h
     ·rw[h5]at h;cases h
    ·intro id b q f h
     have h:LS.hf (j7 0 rows++gs) id= .mp b q f:=h
     rcases hcase id with h3|⟨_,⟨_,_,_,_,h5⟩|⟨i0,b0,q0,f0,h4,h5⟩⟩
     ·rw[h3]at h
      unfold s7 at h
      split at h<;>cases h
     ·rw[h5]at h;cases h
     ·rw[h5]at h;cases h;exact R.nD i0 _ _ _ h4
    ·intro p hp
     simp only[List.mem_append]at hp
     rcases hp with hp|hp
     ·have:=rN rows 0 p hp
      simp only;omega
     ·exact(hgm p hp).2.1
 ·cases h
end
section
def a1f(P:Program)(fn:Func)(y:AV)(e:Exit)(s:LS):Prop:=
 (match e with| .normal| .ret=>True|_=>False)∧∃x,nL P s.n8 fn.results.toList=some x∧B7 s.n8.h 6 x=some y
def a1h(P:Program)(fn:Func)(y:Nat→AV)(rows:Nat→List Row)(e:Exit)(s:LS):Prop:=
 (match e with| .normal| .ret=>True|_=>False)∧∃x,nL P s.n8 fn.results.toList=some x∧∃ids:List Nat,ids.Nodup∧∀nid,n6 (p8 ids nid) 4 x=some (y nid)∧b6 s.n8.h (p8 ids nid) ids=some (rows nid)
def G0:Gh:=⟨fun _ _=>undef,fun _ _=>False,fun _=>none,fun _=>none,[]⟩
def mU(fn:Func)(xs:List AV):LS:=⟨xs++List.replicate (fn.ntmps-xs.length) .Z,[],0⟩
section
variable {P:Program} {f:FuncId} {fn:Func} {c:Code} {xs:List AV}
theorem a3x{M:Nat→Nat→Prop}{w:World}{args:Array Value}(hM:∀b o,M b o→b<w.heap.size)(hargs:RC M (fun _=>none) w xs args):
  E8 G0 M w (mU fn xs) (fun _=>none) {tmps:=args++Array.replicate (fn.ntmps-args.size) undef,defers:=[]} w:=by
 have hh:(mU fn xs).n8.h=fun _=> .free:=by funext id;simp [mU,LS.n8,LS.hf]
 have hMM:∀b o,p7 M (fun _=>none) (mU fn xs).n8.h b o→M b o:=by
  rintro b o (g|⟨id,r,β,z,g1,g2,g3⟩)
  ·exact g
  ·cases g2
 refine⟨⟨?_,?_,?_,fun _ _=>rfl,?_,Below.refl _ _,(fun b o h=> .inl (hM b o h)),rfl,?_,fun _ _ h=>h.elim,?_,(fun _ _ h=>nomatch h),?_,?_,(fun _ _ h=>nomatch h)⟩,?_⟩
 ·simp [mU,LS.n8,hargs.1]
 ·intro t
  simp only[mU,LS.n8,LS.tf,List.getD_eq_getElem?_getD]
  by_cases ht:t<xs.length
  ·rw[List.getElem?_append_left ht,List.getElem?_eq_getElem ht,Option.getD_some]
   have h2:t<args.size:=by rw[hargs.1];exact ht
   have e:(args++Array.replicate (fn.ntmps-args.size) undef).getD t undef=args[t]:=by
    rw[Array.getD_eq_getD_getElem?,Array.getElem?_append_left h2]
    simp [h2]
   rw[e]
   exact(hargs.2 t xs[t] args[t] (by simp [ht]) (by simp [h2])).oY hMM
  ·rw[List.getElem?_append_right (by omega)]
   have:((List.replicate (fn.ntmps-xs.length) AV.Z)[t-xs.length]?).getD .Z= .Z:=by
    rw[List.getElem?_replicate];split<;>rfl
   rw[this]
   exact .Z _
 ·intro id r h;rw[hh]at h;cases h
 ·intro id id' r r' b β β' z z' h;rw[hh]at h;cases h
 ·intro id k cs h;rw[hh]at h;cases h
 ·intro id b q f h;rw[hh]at h;cases h
 ·intro id r p h;rw[hh]at h;cases h
 ·intro id b q f h;rw[hh]at h;cases h
 ·intro p hp;cases hp
theorem a4Q[j9 P]{y:AV}(hf:P.funcs[f]?=some fn)(hb:fn.body=some c)(hn:(fn.name== "runtime.NumGoroutine")=false)(h:eR (md:=false) P c (mU fn xs) (a1f P fn y)):n5 P f xs (fun _=>y) (fun _=>[]):=by
 refine⟨⟨fn,hf,by simp [hb],hn⟩,fun nid M w args hg hM hargs=>?_⟩
 refine callsIn_wide.1 (callsIn_of_wp_marks (F:=Fence.wide) (n:=0) hf hb trivial (h none (fun _=>rfl) G0 M w _ _ w _ hg (a3x hM hargs) ?_))
 intro Ds e s' ρ' a' w' hDs k RX
 have key:∀(a':Act) (w':World),E8 G0 M w s' ρ' a' w'→∃v,(results fn a'.tmps).run P w'= .ok v w'∧∃ρ,kN M w (s7 nid []) ρ w'∧r7 (p7 M ρ (s7 nid [])) ρ w' y v:=by
  intro a' w' R
  obtain⟨_,x,hx,hy⟩:=k
  obtain⟨v,h1,h2⟩:=aV R.1 hx
  have h3:=eA R.1.toH (b8 s'.n8.h 6 x) 6 x y v (fun _ h=>h) hy h2
  have hfree:∀id,s7 nid [] id= .free:=by intro id;unfold s7;rw[if_neg (by simp)]
  refine⟨v,h1,fun _=>none,⟨?_,fun _ _=>rfl,?_,R.1.U2,fun b o g=>⟨Nat.lt_of_lt_of_le (hM b o g) R.1.U2.size,fun id r p h=>by rw[hfree]at h;cases h⟩⟩,h3.oY ?_⟩
  ·intro id r h;rw[hfree]at h;cases h
  ·intro id id' r r' b β β' z z' h;rw[hfree]at h;cases h
  ·rintro b o (g|⟨id,r,β,z,g1,g2,g3⟩)
   ·exact .inl g
   ·cases g2
 have fin:=jE (P:=P) (fn:=fn) (R':=fun e w'=>∃v ρ,e= .returned v∧kN M w (s7 nid []) ρ w'∧r7 (p7 M ρ (s7 nid [])) ρ w' y v) Ds hDs rfl (fun b o h=> .inl (hM b o h)) RX.1 (fun a2 w2 _ R2=>let⟨v,h1,ρ,h2,h3⟩:=key a2 w2 ⟨R2,RX.2⟩;⟨v,h1,v,ρ,rfl,h2,h3⟩)
 have k1:=k.1
 cases e<;>first
  |exact fin
  |exact k1.elim
theorem iY[j9 P]{y:Nat→AV}{rows:Nat→List Row}(hf:P.funcs[f]?=some fn)(hb:fn.body=some c)(hn:(fn.name== "runtime.NumGoroutine")=false)(h:eR (md:=false) P c (mU fn xs) (a1h P fn y rows)):n5 P f xs y rows:=by
 refine⟨⟨fn,hf,by simp [hb],hn⟩,fun nid M w args hg hM hargs=>?_⟩
 refine callsIn_wide.1 (callsIn_of_wp_marks (F:=Fence.wide) (n:=0) hf hb trivial (h none (fun _=>rfl) G0 M w _ _ w _ hg (a3x hM hargs) ?_))
 intro Ds e s' ρ' a' w' hDs k RX
 have key:∀(a':Act) (w':World),E8 G0 M w s' ρ' a' w'→∃v,(results fn a'.tmps).run P w'= .ok v w'∧∃ρ,kN M w (s7 nid (rows nid)) ρ w'∧r7 (p7 M ρ (s7 nid (rows nid))) ρ w' (y nid) v:=by
  intro a' w' R
  obtain⟨_,x,hx,ids,hnd,hy⟩:=k
  obtain⟨v,h1,h2⟩:=aV R.1 hx
  obtain⟨H,up,_⟩:=lK R.1.toH hnd (hy nid).2
  exact⟨v,h1,_,H,up 4 x _ v (hy nid).1 h2⟩
 have fin:=jE (P:=P) (fn:=fn) (R':=fun e w'=>∃v ρ,e= .returned v∧kN M w (s7 nid (rows nid)) ρ w'∧r7 (p7 M ρ (s7 nid (rows nid))) ρ w' (y nid) v) Ds hDs rfl (fun b o h=> .inl (hM b o h)) RX.1 (fun a2 w2 _ R2=>let⟨v,h1,ρ,h2,h3⟩:=key a2 w2 ⟨R2,RX.2⟩;⟨v,h1,v,ρ,rfl,h2,h3⟩)
 have k1:=k.1
 cases e<;>first
  |exact fin
  |exact k1.elim
end
end
def LS.ev(t:List AV):Operand→AV
 | .tmp i=>LS.tf t i
 | .const x=>AV.cF x
 | .global g=> .v (.pointer (some ⟨g,0,none⟩))
 | .func f=> .fn f []
theorem LS.iZ(s:LS)(x:Operand):s.n8.ev x=LS.ev s.t x:=by cases x<;>rfl
def a7R(k:IntKind)(a b:Int):Int:=k.wrap (BitVec.ofInt k.bits a&&& BitVec.ofInt k.bits b).toNat
def orK(k:IntKind)(a b:Int):Int:=k.wrap (BitVec.ofInt k.bits a|||BitVec.ofInt k.bits b).toNat
def b7y(k:IntKind)(a b:Int):Int:=k.wrap (BitVec.ofInt k.bits a^^^BitVec.ofInt k.bits b).toNat
def rB(k:IntKind)(a b:Int):Int:=k.wrap (BitVec.ofInt k.bits a&&& ~~~BitVec.ofInt k.bits b).toNat
def b7b(k:IntKind)(n:Int):Int:=k.wrap (BitVec.ofInt k.bits (if k.signed then -1 else k.max)^^^BitVec.ofInt k.bits n).toNat
def a9l(k:IntKind)(a b:Int):Int:=k.wrap (a*2^(min b.toNat k.bits))
def b7j(k:IntKind)(a b:Int):Int:=a.fdiv (2^(min b.toNat k.bits))
def M4(op:BinOp)(x y:Value):Option (Prop×Value):=
 match x,y with
 | .int k a,.int k' b=>match op with
  | .shl=>some (0≤b,.int k (a9l k a b))
  | .shr=>some (0≤b,.int k (b7j k a b))
  | .add=>if k=k' then some (True,.int k (k.wrap (a+b)))else none
  | .sub=>if k=k' then some (True,.int k (k.wrap (a-b)))else none
  | .mul=>if k=k' then some (True,.int k (k.wrap (a*b)))else none
  | .quo=>if k=k' then some (b≠0,.int k (k.wrap (a.tdiv b)))else none
  | .rem=>if k=k' then some (b≠0,.int k (a.tmod b))else none
  | .and=>if k=k' then some (True,.int k (a7R k a b))else none
  | .or=>if k=k' then some (True,.int k (orK k a b))else none
  | .xor=>if k=k' then some (True,.int k (b7y k a b))else none
  | .andNot=>if k=k' then some (True,.int k (rB k a b))else none
  | .eql=>if k=k' then some (True,.bool (decide (a=b)))else none
  | .neq=>if k=k' then some (True,.bool (decide (a≠b)))else none
  | .lss=>if k=k' then some (True,.bool (decide (a<b)))else none
  | .leq=>if k=k' then some (True,.bool (decide (a≤b)))else none
  | .gtr=>if k=k' then some (True,.bool (decide (b<a)))else none
  | .geq=>if k=k' then some (True,.bool (decide (b≤a)))else none
 | .string a,.string b=>match op with
  | .eql=>some (True,.bool (decide (a=b)))
  | .neq=>some (True,.bool (decide (a≠b)))
  | .add=>some ((a.size+b.size:Nat)≤9223372036854775807,.string (a++b))
  |_=>none
 |_,_=>none
theorem toList_eq(a b:ByteArray):(a.toList==b.toList)=decide (a=b):=by
 by_cases h:a=b
 ·subst h;simp
 ·rw[decide_eq_false h]
  have:a.toList≠b.toList:=by
   intro e
   apply h
   rw[ByteArray.toList_eq,ByteArray.toList_eq]at e
   cases a;cases b
   simp only[ByteArray.mk.injEq]
   exact Array.ext' e
  simpa using this
theorem a4J{P:Program}{op:BinOp}{t:TypeId}{xo yo:Operand}{x y z:Value}{c:Prop}(h:M4 op x y=some (c,z))(hc:c):b0k P op t xo yo x y z:=by
 intro w
 unfold M4 at h
 split at h
 ·rename_i k a k' b
  have hg:∀op,(eqGuard op t xo yo (.int k a) (.int k' b)).run P w= .ok () w:=by intro op;cases op<;>rfl
  simp only[Sem.run_bind,hg,Result.andThen_ok]
  cases op<;>simp only at h
  case shl=>
   simp only[Option.some.injEq,Prod.mk.injEq]at h
   obtain⟨rfl,rfl⟩:=h
   simp [binOp,Op.shift,Int.not_lt.2 hc,a9l]
  case shr=>
   simp only[Option.some.injEq,Prod.mk.injEq]at h
   obtain⟨rfl,rfl⟩:=h
   simp [binOp,Op.shift,Int.not_lt.2 hc,b7j]
  all_goals
   split at h
   ·rename_i hk
    subst hk
    simp only[Option.some.injEq,Prod.mk.injEq]at h
    obtain⟨rfl,rfl⟩:=h
    first
     |(simp [binOp,Op.intArith];done)
     |(simp [binOp,Op.intDiv,hc];done)
     |(simp [binOp,Op.intBits,a7R,orK,b7y,rB];done)
     |(simp [binOp,Op.intCmp];done)
     |(simp [binOp,Op.intCmp];rw[Bool.eq_iff_iff];simp;done)
   ·cases h
 ·rename_i a b
  have hg:∀op,(eqGuard op t xo yo (.string a) (.string b)).run P w= .ok () w:=by intro op;cases op<;>rfl
  simp only[Sem.run_bind,hg,Result.andThen_ok]
  cases op<;>simp only at h<;>(try(cases h;done))
  all_goals
   simp only[Option.some.injEq,Prod.mk.injEq]at h
   obtain⟨rfl,rfl⟩:=h
   first
    |(simp [binOp,Op.stringOp,toList_eq];done)
    |(
      have:¬(((a.size+b.size:Nat):Int)>IntKind.i64.max):=by simp [IntKind.max,IntKind.bits,IntKind.signed];omega
      simp [binOp,Op.stringOp];omega)
 ·cases h
end Go.Ab
end
section
namespace Go.Ab
section
inductive Sc where
 |int (k:IntKind)
 |bool
 |str
def bS:Sc→Value→Bool
 | .int k,.int k' _=>decide (k'=k)
 | .bool,.bool _=>true
 | .str,.string _=>true
 |_,_=>false
def rP:List Sc→List Value→Bool
 |[],[]=>true
 |s::l,x::xs=>bS s x&&rP l xs
 |_,_=>false
def eqV:Value→Value→Bool
 | .int _ a,.int _ b=>decide (a=b)
 | .bool a,.bool b=>decide (a=b)
 | .string a,.string b=>decide (a=b)
 |_,_=>false
def eqL:List Value→List Value→Bool
 |[],[]=>true
 |x::xs,y::ys=>eqV x y&&eqL xs ys
 |_,_=>false
def plF(P:Program)(rec:TypeId→Option (List Sc)):List Field→Nat→Option (List Sc)
 |[],_=>some []
 |f::fs,o=>if f.name≠ "_" ∧f.offset=o then(rec f.type).bind fun l=>if(ti P f.type).map (·.size)=some l.length then(plF P rec fs (o+l.length)).map (l++·)else none else none
def plT(P:Program):Nat→TypeId→Option (List Sc)
 |0,_=>none
 |n+1,t=>match P.underlying t with
  |some (.int k)=>some [.int k]
  |some .bool=>some [.bool]
  |some .string=>some [.str]
  |some (.struct fs)=>if P.stoodInHeld t then none else plF P (plT P n) fs.toList 0
  |some (.array len e)=>(plT P n e).bind fun l=>if(ti P e).map (·.size)=some l.length then some (List.replicate len l).flatten else none
  |_=>none
def plC(P:Program)(t:TypeId):Option (List Sc):=if P.eqGuardType P.depth t then none else plT P 20 t
theorem fA:∀{l:List Sc} {xs:List Value},rP l xs=true→xs.length=l.length:=by
 intro l
 induction l with
 |nil=>intro xs h;cases xs<;>simp_all [rP]
 |cons s l ih=>
  intro xs h
  cases xs with
  |nil=>simp [rP]at h
  |cons x xs=>simp only[rP,Bool.and_eq_true]at h;simp [ih h.2]
theorem rQ:∀{l l':List Sc} {xs:List Value},rP (l++l') xs=true→rP l (xs.take l.length)=true∧rP l' (xs.drop l.length)=true:=by
 intro l
 induction l with
 |nil=>intro l' xs h;exact⟨by simp [rP],by simpa using h⟩
 |cons s l ih=>
  intro l' xs h
  cases xs with
  |nil=>simp [rP]at h
  |cons x xs=>
   simp only[List.cons_append,rP,Bool.and_eq_true]at h
   obtain⟨h1,h2⟩:=ih h.2
   simp only[List.length_cons,List.take_succ_cons,List.drop_succ_cons,rP,Bool.and_eq_true]
   exact⟨⟨h.1,h1⟩,h2⟩
theorem a60:∀(n:Nat) (xs ys:List Value),xs.length=ys.length→eqL xs ys=(eqL (xs.take n) (ys.take n)&&eqL (xs.drop n) (ys.drop n)):=by
 intro n
 induction n with
 |zero=>intro xs ys _;simp [eqL]
 |succ n ih=>
  intro xs ys h
  cases xs with
  |nil=>cases ys with
   |nil=>simp [eqL]
   |cons y ys=>simp at h
  |cons x xs=>cases ys with
   |nil=>simp at h
   |cons y ys=>
    simp only[List.take_succ_cons,List.drop_succ_cons,eqL,Bool.and_assoc]
    rw[ih xs ys (by simpa using h)]
def mkV(P:Program)(t:TypeId)(xs:List Value):Value:=
 match P.underlying t with
 |some (.struct _)|some (.array _ _)=> .agg xs.toArray
 |_=>xs.headD undef
section
variable {P:Program}
theorem rO{t:TypeId}{T:TI}{l:List Sc}(hT:ti P t=some T)(hs:T.size=l.length){xs:List Value}{off:Nat}(h:off+l.length≤xs.length)(w:World):
  (part t xs.toArray off).run P w= .ok (mkV P t ((xs.drop off).take l.length)) w:=by
 obtain⟨i,d,z,h1,h2,h3,h4,h5,h6,h7,h8,h9⟩:=aG hT
 have hpos:0<l.length:=by omega
 simp only[part,Sem.run_bind,lM hT,Result.andThen_ok,h7,mkV,h2]
 have aD:=D9 hT w
 have hlt:off<xs.length:=by omega
 cases d with
 |struct fs=>
  simp only[tV,if_true,Sem.run_bind,aD,Result.andThen_ok,Sem.run_pure,hs]
  congr 2
  apply Array.ext'
  simp
 |array n e=>
  simp only[tV,if_true,Sem.run_bind,aD,Result.andThen_ok,Sem.run_pure,hs]
  congr 2
  apply Array.ext'
  simp
 |_=>
  simp only[tV,Bool.false_eq_true,if_false]
  have e:(xs.drop off).take l.length=xs[off]::((xs.drop (off+1)).take (l.length-1)):=by
   rw[List.drop_eq_getElem_cons hlt]
   obtain⟨m,hm⟩:∃m,l.length=m+1:=⟨l.length-1,by omega⟩
   rw[hm,List.take_succ_cons,Nat.add_sub_cancel]
  rw[e]
  simp [hlt]
def a9G(P:Program)(n:Nat):Prop:=∀(t:TypeId) (l:List Sc),plT P n t=some l→∀d,n≤d→∀(xs ys:List Value) (w:World),rP l xs=true→rP l ys=true→
 (Op.equalIn d t (mkV P t xs) (mkV P t ys)).run P w= .ok (eqL xs ys) w
theorem a3i{n:Nat}(ih:a9G P n){d:Nat}(hd:n≤d)(xs ys:List Value)(w:World):∀(fs:List Field) (o:Nat) (l:List Sc),plF P (plT P n) fs o=some l→rP l (xs.drop o)=true→rP l (ys.drop o)=true→o≤xs.length→o≤ys.length→
  (Op.eqFields d xs.toArray ys.toArray fs).run P w= .ok (eqL (xs.drop o) (ys.drop o)) w:=by
 intro fs
 induction fs with
 |nil=>
  intro o l h h1 h2 _ _
  cases h
  have e1:=fA h1
  have e2:=fA h2
  rw[List.length_nil,List.length_eq_zero_iff]at e1 e2
  rw[e1,e2]
  simp [Op.eqFields,eqL]
 |cons f fs ihf=>
  intro o l h h1 h2 b1 b2
  simp only[plF]at h
  split at h
  ·rename_i hf
   simp only[Option.bind_eq_some_iff]at h
   obtain⟨lf,e1,h⟩:=h
   split at h
   ·rename_i aD
    simp only[Option.map_eq_some_iff]at h aD
    obtain⟨T,hT,hT2⟩:=aD
    obtain⟨l2,e2,rfl⟩:=h
    obtain⟨q1,q2⟩:=rQ h1
    obtain⟨q3,q4⟩:=rQ h2
    rw[List.drop_drop]at q2 q4
    have n1:=fA h1
    have n2:=fA h2
    simp only[List.length_drop,List.length_append]at n1 n2
    simp only[Op.eqFields]
    rw[if_pos hf.1]
    rw[hf.2]
    simp only[Sem.run_bind,rO hT hT2 (xs:=xs) (off:=o) (by omega) w,rO hT hT2 (xs:=ys) (off:=o) (by omega) w,Result.andThen_ok,ih f.type lf e1 d hd _ _ w q1 q3]
    have hrec:=ihf (o+lf.length) l2 e2 q2 q4 (by omega) (by omega)
    rw[a60 lf.length (xs.drop o) (ys.drop o) (by simp;omega),List.drop_drop,List.drop_drop]
    cases hb:eqL ((xs.drop o).take lf.length) ((ys.drop o).take lf.length)
    ·simp
    ·simp [hrec]
   ·cases h
  ·cases h
theorem a46{n:Nat}(ih:a9G P n){d:Nat}(hd:n≤d){e:TypeId}{le:List Sc}{T:TI}(hT:ti P e=some T)(hs:T.size=le.length)(hc:P.cellsOf e=le.length)(he:plT P n e=some le)(xs ys:List Value)(w:World):
  ∀(k o:Nat),rP (List.replicate k le).flatten (xs.drop (o*le.length))=true→rP (List.replicate k le).flatten (ys.drop (o*le.length))=true→o*le.length≤xs.length→o*le.length≤ys.length→
  (Op.eqItems d e (P.cellsOf e) xs.toArray ys.toArray (List.range' o k)).run P w= .ok (eqL (xs.drop (o*le.length)) (ys.drop (o*le.length))) w:=by
 intro k
 induction k with
 |zero=>
  intro o h1 h2 _ _
  have e1:=fA h1
  have e2:=fA h2
  simp only[List.replicate_zero,List.flatten_nil,List.length_nil,List.length_eq_zero_iff]at e1 e2
  rw[e1,e2]
  simp [Op.eqItems,eqL]
 |succ k ihk=>
  intro o h1 h2 b1 b2
  rw[List.replicate_succ,List.flatten_cons]at h1 h2
  obtain⟨q1,q2⟩:=rQ h1
  obtain⟨q3,q4⟩:=rQ h2
  have n1:=fA h1
  have n2:=fA h2
  simp only[List.length_drop,List.length_append]at n1 n2
  have eo:(o+1)*le.length=o*le.length+le.length:=by rw[Nat.add_mul,Nat.one_mul]
  rw[List.drop_drop,←eo]at q2 q4
  rw[List.range'_succ]
  simp only[Op.eqItems,hc,Sem.run_bind,rO hT hs (xs:=xs) (off:=o*le.length) (by omega) w,rO hT hs (xs:=ys) (off:=o*le.length) (by omega) w,Result.andThen_ok,ih e le he d hd _ _ w q1 q3]
  have hrec:=ihk (o+1) q2 q4 (by omega) (by omega)
  rw[hc]at hrec
  rw[a60 le.length (xs.drop (o*le.length)) (ys.drop (o*le.length)) (by simp;omega),List.drop_drop,List.drop_drop,←eo]
  cases hb:eqL ((xs.drop (o*le.length)).take le.length) ((ys.drop (o*le.length)).take le.length)
  ·simp
  ·simp [hrec]
theorem b6V(n:Nat):a9G P n:=by
 induction n with
 |zero=>intro t l h;cases h
 |succ n ih=>
  intro t l h d hd xs ys w h1 h2
  obtain⟨d,rfl⟩:∃d',d=d'+1:=⟨d-1,by omega⟩
  have one:∀{s:Sc} {zs:List Value},rP [s] zs=true→∃z,zs=[z]∧bS s z=true:=by
   intro s zs hz
   cases zs with
   |nil=>simp [rP]at hz
   |cons z zs=>
    cases zs with
    |nil=>simp [rP]at hz;exact⟨z,rfl,hz⟩
    |cons _ _=>simp [rP]at hz
  unfold plT at h
  split at h
  ·rename_i k hu
   cases h
   obtain⟨x,rfl,hx⟩:=one h1
   obtain⟨y,rfl,hy⟩:=one h2
   cases x<;>simp only[bS,Bool.false_eq_true,decide_eq_true_eq]at hx
   cases y<;>simp only[bS,Bool.false_eq_true,decide_eq_true_eq]at hy
   subst hx;subst hy
   simp only[mkV,hu,List.headD_cons]
   rw[run_equalIn_int w d t _ _ _ _ hu]
   simp only[eqL,eqV,Bool.and_true]
   rfl
  ·rename_i hu
   cases h
   obtain⟨x,rfl,hx⟩:=one h1
   obtain⟨y,rfl,hy⟩:=one h2
   cases x<;>simp only[bS,Bool.false_eq_true]at hx
   cases y<;>simp only[bS,Bool.false_eq_true]at hy
   simp only[mkV,hu,List.headD_cons]
   rw[run_equalIn_bool w d t _ _ hu]
   simp only[eqL,eqV,Bool.and_true]
   rename_i a b
   cases a<;>cases b<;>rfl
  ·rename_i hu
   cases h
   obtain⟨x,rfl,hx⟩:=one h1
   obtain⟨y,rfl,hy⟩:=one h2
   cases x<;>simp only[bS,Bool.false_eq_true]at hx
   cases y<;>simp only[bS,Bool.false_eq_true]at hy
   simp only[mkV,hu,List.headD_cons]
   rw[run_equalIn_string w d t _ _ hu]
   simp only[eqL,eqV,Bool.and_true,toList_eq]
  ·rename_i fs hu
   split at h
   ·cases h
   ·rename_i hst
    have hst:P.stoodInHeld t=false:=by simpa using hst
    have hfs:P.fieldsOf t=fs:=by simp [Program.fieldsOf,hu]
    simp only[mkV,hu]
    rw[run_equalIn_struct w d t _ _ (by rw[hfs];exact hu) hst,hfs]
    have:=a3i ih (by omega:n≤d) xs ys w fs.toList 0 l h (by simpa using h1) (by simpa using h2) (by simp) (by simp)
    simpa using this
  ·rename_i len e hu
   simp only[Option.bind_eq_some_iff]at h
   obtain⟨le,he,h⟩:=h
   split at h
   ·rename_i aD
    cases h
    simp only[Option.map_eq_some_iff]at aD
    obtain⟨T,hT,hT2⟩:=aD
    obtain⟨i,dd,z,k1,k2,k3,k4,k5,k6,k7,k8,k9⟩:=aG hT
    have hc:P.cellsOf e=le.length:=by
     have:=run_sizeOf w k1
     rw[D9 hT]at this
     simp only[Result.ok.injEq,and_true]at this
     rw[←this];exact hT2
    simp only[mkV,hu]
    rw[run_equalIn_array w d _ _ hu k1]
    have:=a46 ih (by omega:n≤d) hT hT2 hc he xs ys w len 0 (by simpa using h1) (by simpa using h2) (by simp) (by simp)
    rw[List.range_eq_range']
    simpa using this
   ·cases h
  ·cases h
def I9:List AV→List AV→Option Bool
 |[],[]=>some true
 | .v (.int _ a)::xs,.v (.int _ b)::ys=>(I9 xs ys).map (decide (a=b)&&·)
 | .v (.bool a)::xs,.v (.bool b)::ys=>(I9 xs ys).map (decide (a=b)&&·)
 | .v (.string a)::xs,.v (.string b)::ys=>(I9 xs ys).map (decide (a=b)&&·)
 |_,_=>none
def I6:List Sc→List AV→Bool
 |[],[]=>true
 |s::l,.v x::xs=>bS s x&&I6 l xs
 |_,_=>false
theorem a7E:∀{l:List Sc} {xs:List AV},I6 l xs=true→∃vs,xs=vs.map AV.v∧rP l vs=true:=by
 intro l
 induction l with
 |nil=>intro xs h;cases xs with
  |nil=>exact⟨[],rfl,rfl⟩
  |cons x xs=>simp [I6]at h
 |cons s l ih=>
  intro xs h
  cases xs with
  |nil=>simp [I6]at h
  |cons x xs=>
   cases x<;>simp only[I6,Bool.false_eq_true,Bool.and_eq_true]at h
   obtain⟨vs,rfl,h2⟩:=ih h.2
   exact⟨_::vs,rfl,by simp only[rP,Bool.and_eq_true];exact⟨h.1,h2⟩⟩
theorem b2Z:∀{xs ys:List Value} {b:Bool},I9 (xs.map AV.v) (ys.map AV.v)=some b→eqL xs ys=b:=by
 intro xs
 induction xs with
 |nil=>intro ys b h;cases ys with
  |nil=>cases h;rfl
  |cons y ys=>simp [I9]at h
 |cons x xs ih=>
  intro ys b h
  cases ys with
  |nil=>simp [I9]at h
  |cons y ys=>
   cases x<;>cases y<;>simp only[List.map_cons,I9,Option.map_eq_some_iff,reduceCtorEq]at h
   all_goals
    obtain⟨b',h1,rfl⟩:=h
    simp only[eqL,eqV,ih h1]
theorem zA{op:BinOp}{t:TypeId}{xo yo:Operand}{l:List Sc}{xs ys:List AV}{b:Bool}(hl:plC P t=some l)(hagg:∃D,td P t=some D∧(match D with| .struct _| .array _ _=>True|_=>False))(hx:I6 l xs=true)(hy:I6 l ys=true)(hb:I9 xs ys=some b)(hop:op= .eql∨op= .neq):
  ∃vx vy,xs.mapM AV.scalar=some vx∧ys.mapM AV.scalar=some vy∧b0k P op t xo yo (.agg vx.toArray) (.agg vy.toArray) (.bool (if op= .eql then b else !b)):=by
 obtain⟨vx,rfl,h1⟩:=a7E hx
 obtain⟨vy,rfl,h2⟩:=a7E hy
 have hsc:∀l:List Value,(l.map AV.v).mapM AV.scalar=some l:=by
  intro l
  induction l with
  |nil=>rfl
  |cons x l ih=>simp [List.mapM_cons,ih,AV.scalar]
 refine⟨vx,vy,hsc vx,hsc vy,fun w=>?_⟩
 unfold plC at hl
 split at hl
 ·cases hl
 ·rename_i hg
  have hg:P.eqGuardType P.depth t=false:=by simpa using hg
  have hmk:∀vs,mkV P t vs= .agg vs.toArray:=by
   intro vs
   obtain⟨D,hD,hm⟩:=hagg
   unfold td at hD
   unfold mkV
   cases hu:P.underlying t with
   |none=>rw[hu]at hD;cases hD
   |some d=>
    rw[hu]at hD
    cases d<;>simp only[Option.map_eq_some_iff,Option.some.injEq]at hD⊢
    all_goals first
     |(subst hD;exact hm.elim)
     |(obtain⟨_,_,rfl⟩:=hD;exact hm.elim)
  have key:=b6V 20 t l hl 10000 (by omega) vx vy w h1 h2
  rw[hmk,hmk,b2Z hb]at key
  simp only[Sem.run_bind,run_eqGuard_agg w op t xo yo _ _ hg,Result.andThen_ok]
  rcases hop with rfl|rfl
  ·rw[run_eql_struct,key];rfl
  ·rw[run_neq_struct,key];rfl
def K8:BinOp→Bool→Option Bool
 | .eql,b=>some b
 | .neq,b=>some (!b)
 |_,_=>none
def rK(P:Program)(t:TypeId):Bool:=
 match P.underlying t with
 |some .bool=>true
 |_=>false
theorem a8n{op:BinOp}{t:TypeId}{xo yo:Operand}{a b z:Bool}(hl:rK P t=true)(h:K8 op (decide (a=b))=some z):b0k P op t xo yo (.bool a) (.bool b) (.bool z):=by
 intro w
 have hg:∀op,(eqGuard op t xo yo (.bool a) (.bool b)).run P w= .ok () w:=by intro op;cases op<;>rfl
 have hu:P.underlying t=some .bool:=by
  unfold rK at hl
  split at hl<;>first|assumption|cases hl
 have key:(Op.equal t (.bool a) (.bool b)).run P w= .ok (decide (a=b)) w:=by
  rw[run_equal_bool w t a b hu]
  cases a<;>cases b<;>rfl
 simp only[Sem.run_bind,hg,Result.andThen_ok]
 unfold K8 at h
 split at h
 ·cases h;simp only[binOp,Sem.run_bind,key,Result.andThen_ok,Sem.run_pure]
 ·cases h;simp only[binOp,Sem.run_bind,key,Result.andThen_ok,Sem.run_pure]
 ·cases h
theorem zB{op:BinOp}{t:TypeId}{xo yo:Operand}{l:List Sc}{xs ys:List AV}{b z:Bool}(hl:plC P t=some l)(hagg:∃D,td P t=some D∧(match D with| .struct _| .array _ _=>True|_=>False))(hx:I6 l xs=true)(hy:I6 l ys=true)(hb:I9 xs ys=some b)(h:K8 op b=some z):
  ∃vx vy,xs.mapM AV.scalar=some vx∧ys.mapM AV.scalar=some vy∧b0k P op t xo yo (.agg vx.toArray) (.agg vy.toArray) (.bool z):=by
 unfold K8 at h
 split at h
 ·cases h
  obtain⟨vx,vy,h1,h2,h3⟩:=zA (xo:=xo) (yo:=yo) (op:= .eql) hl hagg hx hy hb (.inl rfl)
  exact⟨vx,vy,h1,h2,h3⟩
 ·cases h
  obtain⟨vx,vy,h1,h2,h3⟩:=zA (xo:=xo) (yo:=yo) (op:= .neq) hl hagg hx hy hb (.inr rfl)
  exact⟨vx,vy,h1,h2,h3⟩
 ·cases h
end
end
end Go.Ab
end
section
namespace Go.Ab
open Go.RowKit (Below)
def cY(op:UnOp)(x:Value):Option Value:=
 match op,x with
 | .not,.bool b=>some (.bool (!b))
 | .neg,.int k n=>some (.int k (k.wrap (0-n)))
 | .xor,.int k n=>some (.int k (b7b k n))
 |_,_=>none
def D3(P:Program)(dst:TypeId)(x:Value):Option Value:=
 match x,td P dst with
 | .int _ n,some (.int k)=>some (.int k (k.wrap n))
 | .string s,some .str=>some (.string s)
 |_,_=>none
def M7(x i:Value):Option (Prop×Value):=
 match x,i with
 | .string s,.int _ i=>some (0≤i∧i<s.size,.int .u8 (s.data.getD i.toNat 0).toNat)
 |_,_=>none
def s8(x:Option Value)(d:Int):Option Int:=
 match x with
 |none=>some d
 |some (.int _ i)=>some i
 |_=>none
def L1(x:Value)(lo hi:Option Value):Option (Prop×Value):=
 match x with
 | .string s=>(s8 lo 0).bind fun l=>(s8 hi s.size).map fun h=>(0≤l∧l≤h∧h≤s.size,.string (s.extract l.toNat h.toNat))
 |_=>none
def cV(b:Builtin)(vs:List Value):Option Value:=
 match b,vs with
 | .max,[.int k x,.int _ y]=>some (.int k (if x<y then y else x))
 | .min,[.int k x,.int _ y]=>some (.int k (if y<x then y else x))
 | .max,[.int k x,.int _ y,.int _ z]=>some (.int k (if(if x<y then y else x)<z then z else(if x<y then y else x)))
 | .min,[.int k x,.int _ y,.int _ z]=>some (.int k (if z<(if y<x then y else x)then z else(if y<x then y else x)))
 |_,_=>none
theorem a9v{P:Program}{op:UnOp}{x z:Value}(h:cY op x=some z):unR P op x z:=by
 intro w
 unfold cY at h
 split at h<;>first|(cases h;done)|(cases h;simp [Op.unary,Op.intArith,Op.intBits,b7b])
theorem a3c{P:Program}{src dst:TypeId}{x z:Value}(h:D3 P dst x=some z)(hs:∃d,P.underlying src=some d):b4f P src dst x z:=by
 intro w
 obtain⟨d,hs⟩:=hs
 unfold D3 at h
 split at h
 ·rename_i k n k' hd
  cases h
  have hu:P.underlying dst=some (.int k'):=by
   unfold td at hd
   split at hd<;>first|(cases hd;assumption)|(simp at hd;done)|(cases hd;done)
  simp [convert,run_underlying hs,run_underlying hu,Conv.intToInt]
 ·rename_i s hd
  cases h
  have hu:P.underlying dst=some .string:=by
   unfold td at hd
   split at hd<;>first|assumption|(simp at hd;done)|(cases hd;done)
  simp [convert,run_underlying hs,run_underlying hu]
 ·cases h
theorem a5i{P:Program}{t:TypeId}{x i z:Value}{c:Prop}(h:M7 x i=some (c,z))(hc:c)(hD:td P t=some .str):b68 P t x i z:=by
 intro w
 have hu:P.underlying t=some .string:=by
  unfold td at hD
  split at hD<;>first|assumption|(simp at hD;done)|(cases hD;done)
 unfold M7 at h
 split at h
 ·rename_i s k i
  simp only[Option.some.injEq,Prod.mk.injEq]at h
  obtain⟨rfl,rfl⟩:=h
  have hlt:i.toNat<s.size:=by omega
  have h1:s[i.toNat]?=some (s.data.getD i.toNat 0):=by
   have e1:s[i.toNat]?=some s[i.toNat]:=by simp [hlt]
   rw[e1]
   have hl2:i.toNat<s.data.size:=hlt
   rw[Array.getD_eq_getD_getElem?,Array.getElem?_eq_getElem hl2]
   rfl
  simp only[Instr.index,Sem.run_bind,asIntOf,Sem.run_pure,Result.andThen_ok,run_underlying hu]
  rw[if_pos hc.1,h1]
  rfl
 ·cases h
theorem a5Q{P:Program}{t:TypeId}{x z:Value}{lo hi:Option Value}{c:Prop}(h:L1 x lo hi=some (c,z))(hc:c)(hD:td P t=some .str):b7k P t x lo hi none z:=by
 intro w
 have hu:P.underlying t=some .string:=by
  unfold td at hD
  split at hD<;>first|assumption|(simp at hD;done)|(cases hD;done)
 unfold L1 at h
 split at h
 ·rename_i s
  cases hl:s8 lo 0 with
  |none=>rw[hl]at h;cases h
  |some l=>
   cases hh:s8 hi s.size with
   |none=>rw[hl,hh]at h;cases h
   |some hv=>
    rw[hl,hh]at h
    simp only[Option.bind_some,Option.map_some,Option.some.injEq,Prod.mk.injEq]at h
    obtain⟨rfl,rfl⟩:=h
    obtain⟨q1,q2,q3⟩:=hc
    have hhi:(match hi with|some v=>Instr.sliceBound v s.size .sliceAlen|none=>(pure s.size:Sem Nat)).run P w= .ok hv.toNat w:=by
     unfold s8 at hh
     split at hh
     ·cases hh;simp
     ·cases hh;exact N3 (by omega) q3
     ·cases hh
    have hlo:(match lo with|some v=>Instr.sliceBound v hv.toNat .sliceB|none=>(pure 0:Sem Nat)).run P w= .ok l.toNat w:=by
     unfold s8 at hl
     split at hl
     ·cases hl;rfl
     ·cases hl;exact N3 q1 (by omega)
     ·cases hl
    have hb:(Instr.sliceBounds false s.size s.size lo hi none).run P w= .ok (l.toNat,hv.toNat,s.size) w:=by
     simp only[Instr.sliceBounds,Sem.run_bind,Sem.run_pure,Result.andThen_ok]
     cases hi with
     |none=>
      simp only[s8,Option.some.injEq]at hh
      subst hh
      cases lo with
      |none=>simp only[s8,Option.some.injEq]at hl;subst hl;simp
      |some v=>simp only at hlo;simp at hlo⊢;simp [hlo]
     |some v=>
      simp only[Bool.false_eq_true,if_false]at hhi⊢
      simp only[Sem.run_bind,hhi,Result.andThen_ok]
      cases lo with
      |none=>simp only[s8,Option.some.injEq]at hl;subst hl;simp
      |some v=>simp only at hlo;simp [hlo]
    simp [Instr.sliceAt,run_underlying hu,Instr.slice,hb]
 ·cases h
theorem a8R{P:Program}{b:Builtin}{ts:Array TypeId}{t:TypeId}{cs:Array Bool}{vs:List Value}{z:Value}(h:cV b vs=some z):biR P b ts t cs vs.toArray z:=by
 intro w
 unfold cV at h
 split at h<;>first|(cases h;done)|(cases h;simp [builtin,Builtin.max_,Builtin.min_,Builtin.max2,Builtin.min2])
def cX(t:AV)(h:List (Nat×RS))(n:Nat):Option (Prop×List AV):=
 match t with
 | .ptr id i k| .dP id i k=>match LS.hf h id with
  | .live r=>(r.es[i]?).map fun e=>(k+n≤r.sz,(e.drop k).take n)
  |_=>none
 | .Z9 es i k=>(es[i]?).map fun e=>(k+n≤e.length,(e.drop k).take n)
 |_=>none
def D0:AV→Nat→Option (Prop×AV)
 | .ptr id i k,n=>some (True,.ptr id i (k+n))
 | .dP id i k,n=>some (True,.dP id i (k+n))
 | .Z9 es i k,n=>(es[i]?).map fun e=>(k+n<e.length,.Z9 es i (k+n))
 |_,_=>none
def zZ(T:TI)(cs:List AV)(off:Nat):Option (Prop×AV):=(A9 T.agg ((cs.drop off).take T.size)).map fun v=>(off+T.size≤cs.length,v)
def M6(D:TD)(h:List (Nat×RS))(x:AV)(i:Int):Option (Prop×AV):=
 match D,x with
 | .slice E,.c5 _ es=>some ((∀e∈es,e.length=E.size)∧0≤i∧i<es.length,.Z9 es i.toNat 0)
 | .slice E,.own id off n=>match LS.hf h id with
  | .live r=>some (r.sz=E.size∧0≤i∧i<n∧off+n≤r.es.length,.dP id (off+i.toNat) 0)
  |_=>none
 | .array n e,.ptr id j k=>some (0≤i∧i<n,.dP id j (k+i.toNat*e.size))
 | .array n e,.dP id j k=>some (0≤i∧i<n,.dP id j (k+i.toNat*e.size))
 |_,_=>none
def mX(t:List AV)(x:Option Operand):Option (Option Int):=
 match x with
 |none=>some none
 |some x=>match LS.ev t x with
  | .v (.int _ i)=>some (some i)
  |_=>none
def M9(E:TI)(h:List (Nat×RS))(x:AV)(l:Int)(hi mx:Option Int):Option (Prop×AV):=
 match x with
 | .c5 c es=>match mx with
  |none=>some ((∀e∈es,e.length=E.size)∧0≤l∧l≤hi.getD es.length∧hi.getD es.length≤es.length,.c5 (c&&decide (hi.getD es.length=es.length)) ((es.drop l.toNat).take (hi.getD es.length-l).toNat))
  |some m=>match hi with
   |some hv=>some ((∀e∈es,e.length=E.size)∧0≤l∧l≤hv∧hv≤es.length∧hv≤m∧m≤es.length,.c5 (decide (m=hv)) ((es.drop l.toNat).take (hv-l).toNat))
   |none=>none
 | .own id off n=>match LS.hf h id with
  | .live r=>match mx with
   |none=>some (r.sz=E.size∧0≤l∧l≤hi.getD n∧hi.getD n≤n∧(l<hi.getD n∨l=0),.own id (off+l.toNat) (hi.getD n-l).toNat)
   |some _=>none
  |_=>none
 |_=>none
def N0(h:List (Nat×RS))(E:TI):AV→Option (Prop×List (List AV))
 | .c5 _ es=>some (∀e∈es,e.length=E.size,es)
 | .own id off n=>match LS.hf h id with
  | .live r=>some (r.sz=E.size∧off+n≤r.es.length∧(∀e∈(r.es.drop off).take n,e.length=E.size),(r.es.drop off).take n)
  |_=>none
 |_=>none
def b2P(E:TI)(h:List (Nat×RS))(nx:Nat)(x y:AV):Option (Prop×Fx):=
 (N0 h E y).bind fun ys=>match x with
  | .c5 cl es=>match ys.2 with
   |[]=>some (ys.1∧(∀e∈es,e.length=E.size),{val:= .c5 cl es,fp:=s9 y})
   |_=>if cl then some (ys.1∧ys.2≠[]∧(∀e∈es,e.length=E.size)∧es.length+ys.2.length≤140737488355328∧(es.length+ys.2.length)*E.bytes≤140737488355328,
     {val:= .own nx 0 (es.length+ys.2.length),fp:=s9 y,new:=[⟨E.size,es++ys.2,0⟩]})else none
  | .own id off n=>match LS.hf h id with
   | .live r=>some (ys.1∧r.sz=E.size∧off+n≤r.es.length∧r.fro≤off+n∧(∀e∈ys.2,∀x∈e,AV.one x=true)∧n+ys.2.length≤140737488355328∧(n+ys.2.length)*E.bytes≤140737488355328,
     {val:= .own nx 0 (n+ys.2.length),fp:=(id,none,true)::s9 y,kill:=some id,new:=[⟨E.size,(r.es.drop off).take n++ys.2,r.fro-off⟩]})
   |_=>none
  |_=>none
def M8(x:AV):Option Int:=
 match x with
 | .c5 _ es=>some es.length
 | .own _ _ n=>some n
 |_=>none
noncomputable def stepC (P:Program) (op:Op) (t:List AV) (h:List (Nat×RS)) (nx:Nat):Option (Prop×Fx):=
 match op with
 | .move x| .assign x=>some (True,{val:=LS.ev t x})
 | .nilCheck x=>some (w9 (LS.ev t x)=true,{val:=LS.ev t x})
 | .pick c a b=>match LS.ev t c with
  | .v (.bool c)=>some (True,{val:=if c then LS.ev t a else LS.ev t b})
  |_=>none
 | .alloc e=>(ti P e).map fun T=>(True,{val:= .ptr nx 0 0,new:=[⟨T.size,[T.zero.map AV.J5],0⟩]})
 | .box _ x=>(LS.ev t x).o3.map fun cs=>(True,{val:= .ptr nx 0 0,new:=[⟨cs.length,[cs],0⟩]})
 | .build ty ps=>(td P ty).bind fun D=>(ti P ty).bind fun T=>(kT (u4 D) (T.zero.map AV.J5) (ps.toList.map fun p=>(p.1,LS.ev t p.2))).map fun cs=>(D.isRow=true,{val:= .agg cs})
 | .buildSlice ty len ps=>match td P ty with
  |some (.slice E)=>(qT E.size (List.replicate len (E.zero.map AV.J5)) (ps.toList.map fun p=>(p.1,LS.ev t p.2))).map fun es=>(len*E.size≤16777216,{val:= .own nx 0 len,new:=[⟨E.size,es,0⟩]})
  |_=>none
 | .load ty a=>(ti P ty).bind fun T=>(cX (LS.ev t a) h T.size).bind fun cs=>(A9 T.agg cs.2).map fun val=>(cs.1,{val:=val,fp:=u0 false (LS.ev t a) T.size})
 | .store ty a x=>(ti P ty).bind fun T=>(LS.ev t x).o3.bind fun cs=>match LS.ev t a with
  | .ptr id i k| .dP id i k=>match LS.hf h id with
   | .live r=>some (cs.length=T.size∧cs.all AV.one=true∧r.fro≤i∧i<r.es.length∧k+T.size≤r.sz,{val:= .Z,fp:=u0 true (LS.ev t a) T.size,wr:=some (id,i,k,cs)})
   |_=>none
  |_=>none
 | .binOp op ty x y _=>match LS.ev t x,LS.ev t y with
  | .v (.bool a),.v (.bool b)=>if rK P ty then(K8 op (decide (a=b))).map fun z=>(True,{val:= .v (.bool z)})else none
  | .agg xs,.agg ys=>match plC P ty,td P ty with
   |some l,some (.struct _)|some l,some (.array _ _)=>(I9 xs ys).bind fun b=>(K8 op b).map fun z=>(I6 l xs=true∧I6 l ys=true,{val:= .v (.bool z)})
   |_,_=>none
  | .v vx,.v vy=>(M4 op vx vy).map fun p=>(p.1,{val:= .v p.2})
  |ax,_=>match y,td P ty with
   | .const (.slice none 0 0),some (.slice _)=>(u7 op ax).map fun val=>(True,{val:=val})
   |_,_=>none
 | .unOp op _ x=>match LS.ev t x with
  | .v vx=>(cY op vx).map fun z=>(True,{val:= .v z})
  |_=>none
 | .convert src dst x=>match LS.ev t x,td P src with
  | .v vx,some _=>(D3 P dst vx).map fun z=>(True,{val:= .v z})
  |_,_=>none
 | .makeFunc fn first X2=>match fn with
  | .func f=>match first.toList with
   |[]=>some (True,{val:= .fn f (X2.toList.map (LS.ev t))})
   |cs=>some (X2= #[],{val:= .mJ f (cs.map (LS.ev t))})
  |_=>none
 | .makeSlice ty l c=>match td P ty,LS.ev t l,LS.ev t c with
  |some (.slice E),.v (.int _ n),.v (.int _ m)=>some (m=n∧0≤n∧E.bytes*n≤140737488355328∧n≤140737488355328,{val:= .own nx 0 n.toNat,new:=[⟨E.size,List.replicate n.toNat (E.zero.map AV.J5),0⟩]})
  |_,_,_=>none
 | .slice ty x lo hi mx=>match td P ty with
  |some (.slice E)=>(mX t lo).bind fun l=>(mX t hi).bind fun ho=>(mX t mx).bind fun mo=>(M9 E h (LS.ev t x) (l.getD 0) ho mo).map fun p=>(p.1,{val:=p.2,fp:=u6 (LS.ev t x)})
  |some .str=>match LS.ev t x,mx with
   | .v vx,none=>(mX t lo).bind fun l=>(mX t hi).bind fun ho=>(L1 vx (l.map (.int .i64)) (ho.map (.int .i64))).map fun p=>(p.1,{val:= .v p.2})
   |_,_=>none
  |_=>none
 | .fieldAddr ty x f=>match td P ty with
  |some (.struct fs)=>(fs[f]?).bind fun p=>(D0 (LS.ev t x) p.1).map fun q=>(q.1,{val:=q.2})
  |_=>none
 | .field ty x f=>match td P ty,LS.ev t x with
  |some (.struct fs),.agg cs=>(fs[f]?).bind fun p=>(zZ p.2 cs p.1).map fun q=>(q.1,{val:=q.2})
  |_,_=>none
 | .indexAddr ty x ix=>match LS.ev t ix with
  | .v (.int _ i)=>(td P ty).bind fun D=>(M6 D h (LS.ev t x) i).map fun q=>(q.1,{val:=q.2,fp:=u6 (LS.ev t x)})
  |_=>none
 | .index ty x ix=>match td P ty,LS.ev t x,LS.ev t ix with
  |some (.array n E),.agg cs,.v (.int _ i)=>(zZ E cs (i.toNat*E.size)).map fun q=>((0≤i∧i<n)∧q.1,{val:=q.2})
  |some .str,.v vx,.v vi=>(M7 vx vi).map fun q=>(q.1,{val:= .v q.2})
  |_,_,_=>none
 | .extract x i=>match LS.ev t x with
  | .Q0 cs=>(cs[i]?).map fun val=>(True,{val:=val})
  |_=>none
 | .lookup ty m k c=>match tm P ty,LS.ev t m,(LS.ev t k).J6 with
  |some (kd,z),.v (.map (some b)),some kv=>(B9 b h).map fun q=>((q.2.1=kd∧LS.hf h q.1= .mp b q.2.1 q.2.2)∧kY P ty kd kv,{val:=if c then .Q0 [.v ((q.2.2 kv).getD z),.v (.bool (q.2.2 kv).isSome)]else .v ((q.2.2 kv).getD z),fp:=[(q.1,none,false)]})
  |_,_,_=>none
 | .call c=>match c.callee,c.args.toList,c.argTypes.toList with
  | .builtin .len,[x],[ty]=>match td P ty,LS.ev t x with
   |some (.slice _),ax=>(M8 ax).map fun n=>(True,{val:= .v (.int .i64 n)})
   |some .str,.v (.string s)=>some (True,{val:= .v (.int .i64 s.size)})
   |some .other,.v (.map (some b))=>match tm P ty with
    |some (kd,_)=>(B9 b h).map fun q=>((q.2.1=kd∧LS.hf h q.1= .mp b q.2.1 q.2.2)∧kd≠ .invalid,{val:= .v (.int .i64 (mapLen q.2.2)),fp:=[(q.1,none,false)]})
    |none=>none
   |_,_=>none
  | .builtin .append,[x,y],[ty,ty2]=>match td P ty,td P ty2 with
   |some (.slice E),some (.slice _)=>b2P E h nx (LS.ev t x) (LS.ev t y)
   |_,_=>none
  | .builtin b,xs,_=>((xs.mapM fun x=>(LS.ev t x).Z0).bind (cV b)).map fun z=>(True,{val:= .v z})
  |_,_,_=>none
 |_=>none
section
section
variable {P:Program} {s:LS} {nx:Nat}
theorem a86{x:AV}{n:Nat}{c:Prop}{cs:List AV}(h:cX x s.h n=some (c,cs))(hc:c):rd s.n8 x n=some cs:=by
 unfold cX at h
 split at h
 ·split at h
  ·rename_i id i k r hr
   simp only[Option.map_eq_some_iff]at h
   obtain⟨e,h1,h2⟩:=h
   cases h2
   simp only[rd,LS.n8,hr,if_pos hc,h1,Option.map_some]
  ·cases h
 ·split at h
  ·rename_i id i k r hr
   simp only[Option.map_eq_some_iff]at h
   obtain⟨e,h1,h2⟩:=h
   cases h2
   simp only[rd,LS.n8,hr,if_pos hc,h1,Option.map_some]
  ·cases h
 ·simp only[Option.map_eq_some_iff]at h
  obtain⟨e,h1,h2⟩:=h
  cases h2
  simp only[rd,h1,Option.bind_some,if_pos hc]
 ·cases h
theorem a2L{x y:AV}{n:Nat}{c:Prop}(h:D0 x n=some (c,y))(hc:c):sQ x n=some y:=by
 unfold D0 at h
 split at h
 ·cases h;rfl
 ·cases h;rfl
 ·simp only[Option.map_eq_some_iff]at h
  obtain⟨e,h1,h2⟩:=h
  cases h2
  simp only[sQ,h1,if_pos hc]
 ·cases h
theorem qL{T:TI}{cs:List AV}{off:Nat}{c:Prop}{v:AV}(h:zZ T cs off=some (c,v))(hc:c):qK T cs off=some v:=by
 unfold zZ at h
 simp only[Option.map_eq_some_iff]at h
 obtain⟨e,h1,h2⟩:=h
 cases h2
 unfold qK
 rw[if_pos hc];exact h1
theorem a5h{D:TD}{x y:AV}{i:Int}{c:Prop}(h:M6 D s.h x i=some (c,y))(hc:c):a0R D s.n8 x i=some y∧∀E,D= .slice E→pR s.n8 E.size x:=by
 unfold M6 at h
 split at h
 ·simp only[Option.some.injEq,Prod.mk.injEq]at h
  obtain⟨rfl,rfl⟩:=h
  refine⟨by simp only[a0R];rw[if_pos hc.2],?_⟩
  intro E hE;cases hE;exact hc.1
 ·split at h
  ·rename_i E id off n r hr
   simp only[Option.some.injEq,Prod.mk.injEq]at h
   obtain⟨rfl,rfl⟩:=h
   refine⟨by simp only[a0R,LS.n8,hr];rw[if_pos ⟨hc.2.1,hc.2.2.1,hc.2.2.2⟩],?_⟩
   intro E' hE;cases hE;exact⟨r,hr,hc.1⟩
  ·cases h
 ·simp only[Option.some.injEq,Prod.mk.injEq]at h
  obtain⟨rfl,rfl⟩:=h
  exact⟨by simp only[a0R];rw[if_pos hc],fun E hE=>by cases hE⟩
 ·simp only[Option.some.injEq,Prod.mk.injEq]at h
  obtain⟨rfl,rfl⟩:=h
  exact⟨by simp only[a0R];rw[if_pos hc],fun E hE=>by cases hE⟩
 ·cases h
theorem a3y{x:Option Operand}{i:Option Int}(h:mX s.t x=some i):a8W s.n8 x i:=by
 unfold mX at h
 split at h
 ·cases h;trivial
 ·split at h
  ·rename_i x k j hx
   cases h
   exact⟨k,by rw[LS.iZ];exact hx⟩
  ·cases h
theorem a5O{E:TI}{x y:AV}{l:Int}{hi mx:Option Int}{c:Prop}(h:M9 E s.h x l hi mx=some (c,y))(hc:c):iE x l hi mx=some y∧pR s.n8 E.size x:=by
 unfold M9 at h
 split at h
 ·split at h
  ·simp only[Option.some.injEq,Prod.mk.injEq]at h
   obtain⟨rfl,rfl⟩:=h
   exact⟨by simp only[iE];rw[if_pos hc.2],hc.1⟩
  ·split at h
   ·simp only[Option.some.injEq,Prod.mk.injEq]at h
    obtain⟨rfl,rfl⟩:=h
    exact⟨by simp only[iE,Option.getD_some,Option.isSome_some,true_and];rw[if_pos ⟨hc.2.1,hc.2.2.1,hc.2.2.2.1⟩,if_pos hc.2.2.2.2],hc.1⟩
   ·cases h
 ·split at h
  ·rename_i id off n r hr
   split at h
   ·simp only[Option.some.injEq,Prod.mk.injEq]at h
    obtain⟨rfl,rfl⟩:=h
    exact⟨by simp only[iE];rw[if_pos ⟨hc.2.1,hc.2.2.1,hc.2.2.2.1⟩,if_pos hc.2.2.2.2],⟨r,hr,hc.1⟩⟩
   ·cases h
  ·cases h
 ·cases h
theorem lU{E:TI}{y:AV}{c:Prop}{ys:List (List AV)}(h:N0 s.h E y=some (c,ys))(hc:c):lT s.n8 y=some ys∧pR s.n8 E.size y∧∀e∈ys,e.length=E.size:=by
 unfold N0 at h
 split at h
 ·simp only[Option.some.injEq,Prod.mk.injEq]at h
  obtain⟨rfl,rfl⟩:=h
  exact⟨rfl,hc,hc⟩
 ·split at h
  ·rename_i id off n r hr
   simp only[Option.some.injEq,Prod.mk.injEq]at h
   obtain⟨rfl,rfl⟩:=h
   exact⟨by simp only[lT,LS.n8,hr];rw[if_pos hc.2.1],⟨r,hr,hc.1⟩,hc.2.2⟩
  ·cases h
 ·cases h
theorem a5n{x:AV}{n:Int}(h:M8 x=some n):∃m:Nat,b3h x=some m∧n=m:=by
 unfold M8 at h
 split at h<;>first|(cases h;exact⟨_,rfl,rfl⟩)|cases h
theorem a5P{x:Value}{lo hi:Option Value}{l ho:Option Int}(hl:(lo=none∧l=none)∨∃k i,lo=some (.int k i)∧l=some i)(hh:(hi=none∧ho=none)∨∃k i,hi=some (.int k i)∧ho=some i):
  L1 x lo hi=L1 x (l.map (.int .i64)) (ho.map (.int .i64)):=by
 have b:∀{v:Option Value} {i:Option Int} (d:Int),((v=none∧i=none)∨∃k j,v=some (.int k j)∧i=some j)→s8 v d=s8 (i.map (.int .i64)) d:=by
  intro v i d h
  rcases h with⟨rfl,rfl⟩|⟨k,j,rfl,rfl⟩<;>rfl
 unfold L1
 cases x<;>simp only
 rw[b 0 hl,b _ hh]
theorem a7u{x:Option Operand}{i:Option Int}(h:mX s.t x=some i):∃v,wJ s.n8 x=some v∧((v=none∧i=none)∨∃k j,v=some (.int k j)∧i=some j):=by
 unfold mX at h
 split at h
 ·cases h;exact⟨none,rfl,.inl ⟨rfl,rfl⟩⟩
 ·split at h
  ·rename_i x k j hx
   cases h
   exact⟨some (.int k j),by simp only[wJ,LS.iZ,hx,AV.Z0,Option.map_some],.inr ⟨k,j,rfl,rfl⟩⟩
  ·cases h
theorem qQ[j9 P]{o:Oper}{c:Prop}{fx:Fx}(h:stepC P o.op s.t s.h nx=some (c,fx))(hc:c):ex P o s.n8 nx fx:=by
 unfold stepC at h
 unfold ex
 simp only[LS.iZ]
 split at h
 ·rename_i ho;rw[ho];cases h;rfl
 ·rename_i ho;rw[ho];cases h;rfl
 ·rename_i ho;rw[ho];cases h;exact⟨hc,rfl⟩
 ·rename_i c' a b ho
  rw[ho]
  split at h
  ·rename_i b0 hb;cases h;exact⟨b0,hb,rfl⟩
  ·cases h
 ·rename_i e ho
  rw[ho]
  simp only[Option.map_eq_some_iff,Prod.mk.injEq]at h
  obtain⟨T,h1,_,rfl⟩:=h
  exact⟨T,h1,rfl⟩
 ·rename_i e x ho
  rw[ho]
  simp only[Option.map_eq_some_iff,Prod.mk.injEq]at h
  obtain⟨T,h1,_,rfl⟩:=h
  exact⟨T,h1,rfl⟩
 ·rename_i ty ps ho
  rw[ho]
  simp only[Option.bind_eq_some_iff,Option.map_eq_some_iff,Prod.mk.injEq]at h
  obtain⟨D,h1,T,h2,cs,h3,rfl,rfl⟩:=h
  exact⟨D,h1,hc,T,h2,cs,h3,rfl⟩
 ·rename_i ty len ps ho
  rw[ho]
  split at h
  ·rename_i E hE
   simp only[Option.map_eq_some_iff,Prod.mk.injEq]at h
   obtain⟨es,h1,rfl,rfl⟩:=h
   exact⟨E,hE,hc,es,h1,rfl⟩
  ·cases h
 ·rename_i ty a ho
  rw[ho]
  simp only[Option.bind_eq_some_iff,Option.map_eq_some_iff,Prod.mk.injEq]at h
  obtain⟨T,h1,⟨c1,cs⟩,h2,val,h3,rfl,rfl⟩:=h
  exact⟨T,h1,cs,a86 h2 hc,val,h3,rfl⟩
 ·rename_i ty a x ho
  rw[ho]
  simp only[Option.bind_eq_some_iff]at h
  obtain⟨T,h1,cs,h2,h⟩:=h
  split at h<;>first|(cases h;done)|skip
  all_goals
   rename_i id i k ha
   split at h
   ·rename_i r hr
    simp only[Option.some.injEq,Prod.mk.injEq]at h
    obtain⟨rfl,rfl⟩:=h
    refine⟨T,h1,cs,h2,hc.1,hc.2.1,id,i,k,?_,r,hr,hc.2.2.1,hc.2.2.2.1,hc.2.2.2.2,rfl⟩
    simp only[b1q,ha]
    simp
   ·cases h
 ·rename_i op ty x y yt ho
  rw[ho]
  split at h
  ·rename_i a b hx hy
   split at h
   ·rename_i hb
    simp only[Option.map_eq_some_iff,Prod.mk.injEq]at h
    obtain⟨z,h1,_,rfl⟩:=h
    exact .inl ⟨_,by rw[hx];rfl,_,by rw[hy];rfl,_,a8n hb h1,rfl⟩
   ·cases h
  ·rename_i xs ys hx hy
   split at h
   ·rename_i l fs hl hD
    simp only[Option.bind_eq_some_iff,Option.map_eq_some_iff,Prod.mk.injEq]at h
    obtain⟨b,h1,z,h2,rfl,rfl⟩:=h
    obtain⟨vx,vy,e1,e2,e3⟩:=zB (xo:=x) (yo:=y) hl ⟨_,hD,trivial⟩ hc.1 hc.2 h1 h2
    exact .inl ⟨_,by rw[hx];simp only[AV.Z0,e1,Option.map_some],_,by rw[hy];simp only[AV.Z0,e2,Option.map_some],_,e3,rfl⟩
   ·rename_i l n e hl hD
    simp only[Option.bind_eq_some_iff,Option.map_eq_some_iff,Prod.mk.injEq]at h
    obtain⟨b,h1,z,h2,rfl,rfl⟩:=h
    obtain⟨vx,vy,e1,e2,e3⟩:=zB (xo:=x) (yo:=y) hl ⟨_,hD,trivial⟩ hc.1 hc.2 h1 h2
    exact .inl ⟨_,by rw[hx];simp only[AV.Z0,e1,Option.map_some],_,by rw[hy];simp only[AV.Z0,e2,Option.map_some],_,e3,rfl⟩
   ·cases h
  ·rename_i vx vy _ hx hy
   simp only[Option.map_eq_some_iff,Prod.mk.injEq]at h
   obtain⟨⟨c1,z⟩,h1,rfl,rfl⟩:=h
   exact .inl ⟨vx,by rw[hx];rfl,vy,by rw[hy];rfl,z,a4J h1 hc,rfl⟩
  ·split at h
   ·simp only[Option.map_eq_some_iff,Prod.mk.injEq]at h
    obtain⟨val,h1,_,rfl⟩:=h
    exact .inr ⟨rfl,_,by assumption,val,h1,rfl⟩
   ·cases h
 ·rename_i op ty x ho
  rw[ho]
  split at h
  ·rename_i vx hx
   simp only[Option.map_eq_some_iff,Prod.mk.injEq]at h
   obtain⟨z,h1,_,rfl⟩:=h
   exact⟨vx,by rw[hx];rfl,z,a9v h1,rfl⟩
  ·cases h
 ·rename_i src dst x ho
  rw[ho]
  split at h
  ·rename_i vx d hx hd
   simp only[Option.map_eq_some_iff,Prod.mk.injEq]at h
   obtain⟨z,h1,_,rfl⟩:=h
   refine⟨vx,by rw[hx];rfl,z,a3c h1 ?_,rfl⟩
   unfold td at hd
   split at hd<;>first|(cases hd;done)|exact⟨_,by assumption⟩
  ·cases h
 ·rename_i fn first X2 ho
  rw[ho]
  split at h
  ·rename_i f
   obtain⟨l⟩:=first
   split at h
   ·rename_i hl
    simp only[Option.some.injEq,Prod.mk.injEq]at h
    obtain⟨rfl,rfl⟩:=h
    exact⟨f,rfl,.inl ⟨by simpa using hl,rfl⟩⟩
   ·simp only[Option.some.injEq,Prod.mk.injEq]at h
    obtain⟨rfl,rfl⟩:=h
    exact⟨f,rfl,.inr ⟨hc,rfl⟩⟩
  ·cases h
 ·rename_i ty l c' ho
  rw[ho]
  split at h
  ·rename_i E k n k' m hD hl hcc
   simp only[Option.some.injEq,Prod.mk.injEq]at h
   obtain⟨rfl,rfl⟩:=h
   obtain⟨rfl,h0,h1,h2⟩:=hc
   exact⟨E,hD,k,m,hl,k',hcc,h0,h1,h2,rfl⟩
  ·cases h
 ·rename_i ty x lo hi mx ho
  rw[ho]
  split at h
  ·rename_i E hD
   simp only[Option.bind_eq_some_iff,Option.map_eq_some_iff,Prod.mk.injEq]at h
   obtain⟨l,h1,hv,h2,mo,h3,⟨c1,y⟩,h4,rfl,rfl⟩:=h
   obtain⟨g1,g2⟩:=a5O h4 hc
   refine .inl ⟨E,hD,g2,l.getD 0,?_,hv,a3y h2,mo,a3y h3,y,g1,rfl⟩
   unfold mX at h1
   split at h1
   ·cases h1;exact .inl ⟨rfl,rfl⟩
   ·split at h1
    ·cases h1;exact .inr ⟨_,_,rfl,by assumption⟩
    ·cases h1
  ·rename_i hD
   split at h
   ·rename_i vx hx
    simp only[Option.bind_eq_some_iff,Option.map_eq_some_iff,Prod.mk.injEq]at h
    obtain⟨l,h1,hv,h2,⟨c1,z⟩,h3,rfl,rfl⟩:=h
    obtain⟨v1,e1,e2⟩:=a7u h1
    obtain⟨v2,e3,e4⟩:=a7u h2
    exact .inr ⟨vx,by rw[hx];rfl,v1,e1,v2,e3,none,rfl,z,a5Q (by rw[a5P e2 e4];exact h3) hc hD,rfl⟩
   ·cases h
  ·cases h
 ·rename_i ty x f ho
  rw[ho]
  split at h
  ·rename_i fs hD
   simp only[Option.bind_eq_some_iff,Option.map_eq_some_iff,Prod.mk.injEq]at h
   obtain⟨p,h1,⟨c1,y⟩,h2,rfl,rfl⟩:=h
   exact⟨fs,hD,p,h1,y,a2L h2 hc,rfl⟩
  ·cases h
 ·rename_i ty x f ho
  rw[ho]
  split at h
  ·rename_i fs cs hD hx
   simp only[Option.bind_eq_some_iff,Option.map_eq_some_iff,Prod.mk.injEq]at h
   obtain⟨p,h1,⟨c1,y⟩,h2,rfl,rfl⟩:=h
   exact⟨fs,hD,p,h1,cs,hx,y,qL h2 hc,rfl⟩
  ·cases h
 ·rename_i ty x ix ho
  rw[ho]
  split at h
  ·rename_i k i hi
   simp only[Option.bind_eq_some_iff,Option.map_eq_some_iff,Prod.mk.injEq]at h
   obtain⟨D,h1,⟨c1,y⟩,h2,rfl,rfl⟩:=h
   obtain⟨g1,g2⟩:=a5h h2 hc
   exact⟨D,h1,g2,k,i,hi,y,g1,rfl⟩
  ·cases h
 ·rename_i ty x ix ho
  rw[ho]
  split at h
  ·rename_i n E cs k i hD hx hi
   simp only[Option.map_eq_some_iff,Prod.mk.injEq]at h
   obtain⟨⟨c1,y⟩,h2,rfl,rfl⟩:=h
   exact .inl ⟨n,E,hD,cs,hx,k,i,hi,hc.1.1,hc.1.2,y,qL h2 hc.2,rfl⟩
  ·rename_i vx vi hD hx hi
   simp only[Option.map_eq_some_iff,Prod.mk.injEq]at h
   obtain⟨⟨c1,y⟩,h2,rfl,rfl⟩:=h
   exact .inr ⟨vx,by rw[hx];rfl,vi,by rw[hi];rfl,y,a5i h2 hc hD,rfl⟩
  ·cases h
 ·rename_i x i ho
  rw[ho]
  split at h
  ·rename_i cs hx
   simp only[Option.map_eq_some_iff,Prod.mk.injEq]at h
   obtain⟨val,h1,_,rfl⟩:=h
   exact⟨cs,hx,val,h1,rfl⟩
  ·cases h
 ·rename_i ty m k c' ho
  rw[ho]
  split at h
  ·rename_i kd z b kv ht hm hk
   simp only[Option.map_eq_some_iff,Prod.mk.injEq]at h
   obtain⟨⟨id,d',f⟩,h1,rfl,rfl⟩:=h
   obtain⟨⟨rfl,h2⟩,h3⟩:=hc
   exact⟨_,z,ht,b,hm,kv,hk,h3,id,f,h2,rfl⟩
  ·cases h
 ·rename_i c' ho
  rw[ho]
  simp only
  split at h
  ·rename_i x ty hcal hargs hts
   rw[hcal]
   simp only
   have ha:c'.args= #[x]:=by apply Array.ext';simpa using hargs
   have ht:c'.argTypes= #[ty]:=by apply Array.ext';simpa using hts
   split at h
   ·rename_i E ax hD hx
    simp only[Option.map_eq_some_iff,Prod.mk.injEq]at h
    obtain⟨n,h1,_,rfl⟩:=h
    obtain⟨m,h2,rfl⟩:=a5n h1
    exact .inl ⟨trivial,x,ha,ty,ht,_,by assumption,m,h2,rfl⟩
   ·rename_i b hD hx
    simp only[Option.some.injEq,Prod.mk.injEq]at h
    obtain⟨_,rfl⟩:=h
    refine .inr (.inr (.inl ⟨[.string b],?_,.int .i64 b.size,?_,rfl⟩))
    ·rw[ha]
     simp [hx,AV.Z0]
    ·intro w
     have hu:P.underlying ty=some .string:=by
      unfold td at hD
      split at hD<;>first|assumption|(simp at hD;done)|(cases hD;done)
     simp [builtin,Builtin.len_,goInt,ht,run_underlying hu]
   ·rename_i b hD hx
    split at h
    ·rename_i kd z htm
     simp only[Option.map_eq_some_iff,Prod.mk.injEq]at h
     obtain⟨⟨id,d',f⟩,hf,h1,rfl⟩:=h
     rw[←h1]at hc
     obtain⟨⟨rfl,h2⟩,h3⟩:=hc
     exact .inr (.inr (.inr ⟨trivial,x,ha,ty,ht,_,z,htm,h3,b,hx,id,f,h2,rfl⟩))
    ·cases h
   ·cases h
  ·rename_i x y ty ty2 hcal hargs hts
   rw[hcal]
   simp only
   have ha:c'.args= #[x,y]:=by apply Array.ext';simpa using hargs
   have ht:c'.argTypes= #[ty,ty2]:=by apply Array.ext';simpa using hts
   split at h
   ·rename_i E E2 hD hD2
    unfold b2P at h
    simp only[Option.bind_eq_some_iff]at h
    obtain⟨⟨c1,ys⟩,h1,h⟩:=h
    refine .inr (.inl ⟨trivial,x,y,ha,ty,ty2,ht,E,hD,E2,hD2,?_⟩)
    split at h
    ·rename_i cl es hx
     split at h
     ·rename_i hys
      simp only[Option.some.injEq,Prod.mk.injEq]at h
      obtain⟨rfl,rfl⟩:=h
      obtain⟨g1,g2,g3⟩:=lU h1 hc.1
      simp only at hys
      exact⟨by rw[hx];exact hc.2,g2,ys,g1,g3,.inl ⟨cl,es,hx,hys,rfl⟩⟩
     ·split at h
      ·rename_i oH
       simp only[Option.some.injEq,Prod.mk.injEq]at h
       obtain⟨rfl,rfl⟩:=h
       obtain⟨g1,g2,g3⟩:=lU h1 hc.1
       subst oH
       exact⟨by rw[hx];exact hc.2.2.1,g2,ys,g1,g3,.inr (.inl ⟨es,hx,hc.2.1,hc.2.2.2.1,hc.2.2.2.2,rfl⟩)⟩
      ·cases h
    ·rename_i id off n hx
     split at h
     ·rename_i r hr
      simp only[Option.some.injEq,Prod.mk.injEq]at h
      obtain⟨rfl,rfl⟩:=h
      obtain⟨g1,g2,g3⟩:=lU h1 hc.1
      exact⟨by rw[hx];exact⟨r,hr,hc.2.1⟩,g2,ys,g1,g3,.inr (.inr ⟨id,off,n,hx,r,hr,hc.2.2.1,hc.2.2.2.1,hc.2.2.2.2.1,hc.2.2.2.2.2.1,hc.2.2.2.2.2.2,rfl⟩)⟩
     ·cases h
    ·cases h
   ·cases h
  ·rename_i b hcal _ _
   rw[hcal]
   simp only[Option.map_eq_some_iff,Option.bind_eq_some_iff,Prod.mk.injEq]at h⊢
   obtain⟨z,⟨vs,h1,h2⟩,_,rfl⟩:=h
   exact .inr (.inr (.inl ⟨vs,h1,z,a8R h2,rfl⟩))
  ·cases h
 ·cases h
end
end
section
def T8(s:LS):Option Tmp→Prop
 |some d=>d<s.t.length
 |none=>True
def eY(P:Program)[j9 P](rest:LS→(LS→Prop)→Prop)(d:Option Tmp)(s:LS)(N:LS→Prop)(f:FuncId)(xs:List AV):Prop:=
 (∃n ys,xs.mapM (B7 (LS.hf s.h) n)=some ys∧∃y rows,n5 P f ys y rows∧(rows s.nx).length≤8∧
  ∃lend:Bool,(lend=true→rows s.nx=[]∧(y s.nx).flat=true)∧
  rest (s.cE d {val:=y s.nx,fp:=(xs.flatMap (b8 (LS.hf s.h) n)).map (fun p=>(p.1,none, !lend)),fro:=if lend then[]else xs.flatMap (b8 (LS.hf s.h) n),new:=rows s.nx}) N)∨
 (∃fn body k keep,P.funcs[f]?=some fn∧fn.body=some body∧(fn.name== "runtime.NumGoroutine")=false∧e9 k s.h∧eR (md:=false) P body (wF fn xs k keep s) (L4 P fn k keep s.t d (fun s'=>rest s' N)))∨
 wQ P f xs s (fun x s'=>rest (s'.put d x) N)∨
 ∃fx,a24 P f xs (LS.hf s.h) fx∧rest (s.cE d fx) N
def D6(P:Program)[j9 P](rest:LS→(LS→Prop)→Prop)(d:Option Tmp)(s:LS)(N:LS→Prop)(fv:AV)(xs:List AV):Prop:=
 match fv with
 | .fn f X2=>eY P rest d s N f (xs++X2)
 | .mJ f cs=>eY P rest d s N f (cs++xs)
 |_=>False
def a41(rest:LS→(LS→Prop)→Prop)(d:Option Tmp)(s:LS)(N:LS→Prop):Option (Prop×Fx)→Prop
 |some (c,fx)=>c∧rest (s.cE d fx) N
 |none=>False
def pE(h:List (Nat×RS))(b:Nat)(d:TypeDesc)(K:(Value→Option Value)→Prop):Prop:=
 match B9 b h with
 |some (id,d',f)=>d'=d∧LS.hf h id= .mp b d' f∧K f
 |none=>False
def a7f(P:Program)(rest:LS→(LS→Prop)→Prop)(d:Option Tmp)(s:LS)(N:LS→Prop)(t:TypeId):Prop:=
 match tm P t with
 |some (kd,_)=>∀b,rest ⟨(s.put d (.v (.map (some b)))).t,s.h++[(s.nx,.mp b kd fun _=>none)],s.nx+8⟩ N
 |none=>False
def D8(P:Program)(rest:LS→(LS→Prop)→Prop)(d:Option Tmp)(s:LS)(N:LS→Prop)(t:TypeId)(m k:AV)(c:Bool):Prop:=
 match tm P t,m,k.J6 with
 |some (kd,z),.v (.map (some b)),some kv=>kY P t kd kv∧pE s.h b kd fun f=>rest (s.put d (if c then .Q0 [.v ((f kv).getD z),.v (.bool (f kv).isSome)]else .v ((f kv).getD z))) N
 |_,_,_=>False
def N5(P:Program)(rest:LS→(LS→Prop)→Prop)(d:Option Tmp)(s:LS)(N:LS→Prop)(t:TypeId)(m k v:AV):Prop:=
 match tm P t,m,k.J6,v with
 |some (kd,_),.v (.map (some b)),some kv,.v xv=>kY P t kd kv∧pE s.h b kd fun f=>rest {s.put d .Z with h:=iP b kd (aH f kv xv) s.h} N
 |_,_,_,_=>False
def x4(P:Program)(rest:LS→(LS→Prop)→Prop)(d:Option Tmp)(s:LS)(N:LS→Prop)(ts:List TypeId)(xs:List AV):Prop:=
 match ts,xs with
 |[t],[.own id off n]=>match td P t,LS.hf s.h id with
  |some (.slice E),.live r=>E.zero.all Value.oneCell'=true∧r.sz=E.size∧off+n≤r.es.length∧r.fro≤off∧rest {s.put d (.Q0 [])with h:=Z7 id (.live {r with es:=W9 r.es off n r.sz}) s.h} N
  |_,_=>False
 |_,_=>False
def bK(P:Program)[j9 P](rest:LS→(LS→Prop)→Prop)(d:Option Tmp)(op:Op)(s:LS)(N:LS→Prop):Prop:=
 match op with
 | .call c=>match c.callee with
  | .value fv=>D6 P rest d s N (LS.ev s.t fv) (c.args.toList.map (LS.ev s.t))
  | .builtin .clear=>x4 P rest d s N c.argTypes.toList (c.args.toList.map (LS.ev s.t))
  |_=>a41 rest d s N (stepC P op s.t s.h s.nx)
 | .makeMap t none=>a7f P rest d s N t
 | .lookup t m k c=>D8 P rest d s N t (LS.ev s.t m) (LS.ev s.t k) c
 | .mapUpdate t m k v=>N5 P rest d s N t (LS.ev s.t m) (LS.ev s.t k) (LS.ev s.t v)
 |op=>a41 rest d s N (stepC P op s.t s.h s.nx)
def gdS(P:Program)[j9 P](rest:LS→(LS→Prop)→Prop)(d:Option Tmp)(op:Op)(s:LS)(N:LS→Prop)(want:Bool)(g:Tmp)(b:Bool):Prop:=
 (b=want→T8 s d∧bK P rest d op (s.put (some g) (.v (.bool want))) N)∧(b=(!want)→T8 s d∧rest ((s.put (some g) (.v (.bool (!want)))).put d AV.jN) N)
def gdC(P:Program)[j9 P](rest:LS→(LS→Prop)→Prop)(d:Option Tmp)(op:Op)(s:LS)(N:LS→Prop)(want:Bool)(g:Tmp):AV→Prop
 | .v (.bool b)=>gdS P rest d op s N want g b
 | .v (.tuple cs)=>cs.isEmpty=true∧T8 s d∧rest (s.put d AV.jN) N
 |_=>False
section
variable {P:Program} {rest:LS→(LS→Prop)→Prop} {d:Option Tmp} {op:Op} {s:LS} {N:LS→Prop} {g:Tmp}
theorem b4j[j9 P]{want:Bool}{b:Bool}:gdC P rest d op s N want g (.v (.bool b))=gdS P rest d op s N want g b:=rfl
theorem a62[j9 P]{want:Bool}:gdC P rest d op s N want g AV.jN=(T8 s d∧rest (s.put d AV.jN) N):=by simp [gdC,AV.jN,undef]
theorem b0V[j9 P]:gdS P rest d op s N true g true=(T8 s d∧bK P rest d op (s.put (some g) (.v (.bool true))) N):=by simp [gdS]
theorem b0S[j9 P]:gdS P rest d op s N false g false=(T8 s d∧bK P rest d op (s.put (some g) (.v (.bool false))) N):=by simp [gdS]
theorem b0U[j9 P]:gdS P rest d op s N true g false=(T8 s d∧rest ((s.put (some g) (.v (.bool false))).put d AV.jN) N):=by simp [gdS]
theorem b0T[j9 P]:gdS P rest d op s N false g true=(T8 s d∧rest ((s.put (some g) (.v (.bool true))).put d AV.jN) N):=by simp [gdS]
theorem b4m[j9 P]{p:Prop}[Decidable p]:gdS P rest d op s N true g (decide p)=((p→T8 s d∧bK P rest d op (s.put (some g) (.v (.bool true))) N)∧(¬p→T8 s d∧rest ((s.put (some g) (.v (.bool false))).put d AV.jN) N)):=by simp [gdS]
theorem b4l[j9 P]{p:Prop}[Decidable p]:gdS P rest d op s N false g (decide p)=((p→T8 s d∧rest ((s.put (some g) (.v (.bool true))).put d AV.jN) N)∧(¬p→T8 s d∧bK P rest d op (s.put (some g) (.v (.bool false))) N)):=by
 simp only[gdS,decide_eq_false_iff_not,Bool.not_false,decide_eq_true_eq]
 exact propext And.comm
theorem a5c[j9 P]{b:Bool}(h1:b=true→T8 s d∧bK P rest d op (s.put (some g) (.v (.bool true))) N)(h2:b=false→T8 s d∧rest ((s.put (some g) (.v (.bool false))).put d AV.jN) N):gdS P rest d op s N true g b:=⟨h1,h2⟩
theorem a5b[j9 P]{b:Bool}(h1:b=false→T8 s d∧bK P rest d op (s.put (some g) (.v (.bool false))) N)(h2:b=true→T8 s d∧rest ((s.put (some g) (.v (.bool true))).put d AV.jN) N):gdS P rest d op s N false g b:=⟨h1,h2⟩
theorem n4{t:TypeId}{q:IntKind}{n:Int}:kY P t (.int q) (.int q n)=True:=eq_true (.inl rfl)
end
def X9(ops:List Oper):List (Option Tmp):=ops.map (·.dst)
theorem a0o(ops:List Oper)(j:Nat):(X9 ops).getD j none=(ops[j]?).bind (·.dst):=by
 simp only[X9,List.getD_eq_getElem?_getD,List.getElem?_map]
 cases ops[j]?<;>rfl
def gF(P:Program)[j9 P](ops:List (Option Tmp)):List Oper→LS→(LS→Prop)→Prop
 |[],s,N=>N s
 |o::rest,s,N=>match o.guard with
  |none=>T8 s o.dst∧bK P (gF P ops rest) o.dst o.op s N
  |some (j,want)=>match ops.getD j none with
   |some g=>gdC P (gF P ops rest) o.dst o.op s N want g (LS.tf s.t g)
   |none=>False
section
variable {P:Program}
theorem dU{s:LS}{d:Option Tmp}(h:T8 s d):L3 s.n8 d:=by cases d<;>exact h
theorem a8C{fn:Func}{k:Nat}{keep:List Nat}{t:List AV}{d:Option Tmp}{K K':LS→Prop}(hK:∀s,K s→K' s){e:Exit}{s:LS}(h:L4 P fn k keep t d K e s):L4 P fn k keep t d K' e s:=by
 obtain⟨h1,x,h2,h3⟩:=h
 refine⟨h1,x,h2,?_⟩
 split at h3
 ·rename_i id cs hf
  exact⟨h3.1,h3.2.1,hK _ h3.2.2⟩
 ·exact h3.elim
theorem zI[j9 P]{ops:List Oper}{rest:List Oper}{o:Oper}{s:LS}{N:LS→Prop}(ih:∀s N,gF P (X9 ops) rest s N→aO P ops rest s N)(h:bK P (gF P (X9 ops) rest) o.dst o.op s N):
  (∃fx,ex P o s.n8 s.nx fx∧aO P ops rest (s.cE o.dst fx) N)∨inl P o s (fun s'=>aO P ops rest s' N):=by
 have fin:a41 (gF P (X9 ops) rest) o.dst s N (stepC P o.op s.t s.h s.nx)→∃fx,ex P o s.n8 s.nx fx∧aO P ops rest (s.cE o.dst fx) N:=by
  intro h
  cases hst:stepC P o.op s.t s.h s.nx with
  |none=>rw[hst]at h;exact h.elim
  |some p=>
   obtain⟨c,fx⟩:=p
   rw[hst]at h
   exact⟨fx,qQ hst h.1,ih _ _ h.2⟩
 unfold bK at h
 split at h
 ·rename_i c ho
  split at h
  ·rename_i fv hfv
   have key:∀f zs,gP (LS.ev s.t fv) (c.args.toList.map (LS.ev s.t))=some (f,zs)→eY P (gF P (X9 ops) rest) o.dst s N f zs→
     (∃fx,ex P o s.n8 s.nx fx∧aO P ops rest (s.cE o.dst fx) N)∨inl P o s (fun s'=>aO P ops rest s' N):=by
    intro f zs hf h
    have e:s.n8.ev=LS.ev s.t:=funext fun x=>LS.iZ s x
    rcases h with⟨n,ys,h1,y,rows,h2,h3,lend,hlend,h4⟩|⟨fn,body,k,keep,h1,h2,h3,h4,h5⟩|hS|⟨fx,hX,h4⟩
    ·refine .inl ⟨_,?_,ih _ _ h4⟩
     unfold ex
     rw[ho]
     simp only[hfv]
     rw[e]
     exact .inl ⟨f,zs,hf,n,ys,h1,y,rows,h2,h3,lend,hlend,rfl⟩
    ·refine .inr ?_
     unfold inl
     rw[ho]
     simp only[hfv]
     rw[e]
     exact .inl ⟨f,zs,fn,body,k,keep,hf,h1,h2,h3,h4,h5.mono fun _ _ hk=>a8C (fun s' hs=>ih _ _ hs) hk⟩
    ·refine .inr ?_
     unfold inl
     rw[ho]
     simp only[hfv]
     rw[e]
     exact .inr ⟨f,zs,hf,hS.mono fun _ _ hk=>ih _ _ hk⟩
    ·refine .inl ⟨fx,?_,ih _ _ h4⟩
     unfold ex
     rw[ho]
     simp only[hfv]
     rw[e]
     exact .inr ⟨f,zs,hf,hX⟩
   unfold D6 at h
   split at h
   ·rename_i f X2 hf;exact key _ _ (by rw[hf];rfl) h
   ·rename_i f X2 hf;exact key _ _ (by rw[hf];rfl) h
   ·exact h.elim
  ·rename_i hcal
   have e:s.n8.ev=LS.ev s.t:=funext fun x=>LS.iZ s x
   unfold x4 at h
   split at h
   ·rename_i t id off n hts hxs
    split at h
    ·rename_i E r hD hh
     obtain⟨h1,h2,h3,h4,h5⟩:=h
     refine .inr ?_
     unfold inl
     rw[ho]
     simp only[hcal]
     obtain⟨x,hx1,hx2⟩:∃x,c.args.toList=[x]∧LS.ev s.t x= .own id off n:=by
      cases hc:c.args.toList with
      |nil=>rw[hc]at hxs;cases hxs
      |cons y ys=>
       rw[hc]at hxs
       cases ys with
       |nil=>simp only[List.map_cons,List.map_nil,List.cons.injEq,and_true]at hxs;exact⟨y,rfl,hxs⟩
       |cons z zs=>simp at hxs
     refine⟨x,t,E,id,off,n,r,Array.toList_inj.1 hx1,Array.toList_inj.1 hts,hD,h1,by rw[e];exact hx2,hh,h2,h3,h4,ih _ _ h5⟩
    ·exact h.elim
   ·exact h.elim
  ·exact .inl (fin h)
 ·rename_i t ho
  unfold a7f at h
  split at h
  ·rename_i kd z ht
   refine .inr ?_
   unfold inl
   rw[ho]
   exact⟨kd,z,ht,fun b=>ih _ _ (h b)⟩
  ·exact h.elim
 ·rename_i t m k c ho
  have e:s.n8.ev=LS.ev s.t:=funext fun x=>LS.iZ s x
  unfold D8 at h
  split at h
  ·rename_i kd z b kv ht hm hk
   obtain⟨h1,h2⟩:=h
   unfold pE at h2
   split at h2
   ·rename_i id d' f hf
    obtain⟨rfl,h3,h4⟩:=h2
    refine .inr ?_
    unfold inl
    rw[ho,e]
    exact⟨_,z,b,kv,f,id,ht,hm,hk,h1,h3,ih _ _ h4⟩
   ·exact h2.elim
  ·exact h.elim
 ·rename_i t m k v ho
  have e:s.n8.ev=LS.ev s.t:=funext fun x=>LS.iZ s x
  unfold N5 at h
  split at h
  ·rename_i kd z b kv xv ht hm hk hv
   obtain⟨h1,h2⟩:=h
   unfold pE at h2
   split at h2
   ·rename_i id d' f hf
    obtain⟨rfl,h3,h4⟩:=h2
    refine .inr ?_
    unfold inl
    rw[ho,e]
    exact⟨_,z,b,kv,xv,f,id,ht,hm,hk,hv,h1,h3,ih _ _ h4⟩
   ·exact h2.elim
  ·exact h.elim
 ·exact .inl (fin h)
theorem iB[j9 P]{ops:List Oper}:∀(l:List Oper) (s:LS) (N:LS→Prop),gF P (X9 ops) l s N→aO P ops l s N:=by
 intro l
 induction l with
 |nil=>intro s N h;exact h
 |cons o rest ih=>
  intro s N h
  simp only[gF,a0o]at h
  simp only[aO,a0N]
  split at h
  ·rename_i hg
   try rw[hg]
   exact⟨dU h.1,zI ih h.2⟩
  ·rename_i j want hg
   try rw[hg]
   try simp only
   split at h
   ·rename_i g hg2
    try simp only[hg2]
    unfold gdC at h
    split at h
    ·rename_i b hb
     unfold gdS at h
     refine .inl ⟨b,hb,fun hw=>?_,fun hw=>?_⟩
     ·obtain⟨h1,h2⟩:=h.1 hw
      refine⟨?_,zI ih h2⟩
      cases hd:o.dst with
      |none=>trivial
      |some d=>rw[hd]at h1;simp only[L3,LS.put,LS.n8,List.length_set];exact h1
     ·obtain⟨h1,h2⟩:=h.2 hw
      refine⟨?_,ih _ _ h2⟩
      cases hd:o.dst with
      |none=>trivial
      |some d=>rw[hd]at h1;simp only[L3,LS.put,LS.n8,List.length_set];exact h1
    ·rename_i cs hb
     obtain⟨h0,h1,h2⟩:=h
     have e:cs= #[]:=Array.isEmpty_iff.1 h0
     exact .inr ⟨by rw[hb,e];rfl,dU h1,ih _ _ h2⟩
    ·exact h.elim
   ·exact h.elim
theorem b2Q{md:Bool}[j9 P]{id:Nat}{l:List Oper}{s:LS}{K:Exit→LS→Prop}(h:∀N:LS→Prop,(∀s,K .normal s→N s)→gF P (X9 l) l s N):eR (md:=md) P (.region id l.toArray false) s K:=
 a4H (iB l s _ (h _ fun _ k=>k))
end
def T1(id i k:Nat)(cs:List AV):List (Nat×RS)→List (Nat×RS)
 |[]=>[]
 |(id',x)::l=>if id'=id then(id',match x with| .live r=> .live {r with es:=r.es.modify i (fun e=>u2 e k cs)}|x=>x)::T1 id i k cs l else(id',x)::T1 id i k cs l
def cJ(id:Nat):List (Nat×RS)→List (Nat×RS)
 |[]=>[]
 |(id',x)::l=>if id'=id then(id',.gone)::cJ id l else(id',x)::cJ id l
def u1(ids:List (Nat×Nat)):List (Nat×RS)→List (Nat×RS)
 |[]=>[]
 |(id',x)::l=>(id',match x with| .live r=> .live ⟨r.sz,r.es,E7 ids id' r.fro⟩|x=>x)::u1 ids l
section
variable {P:Program} {ops:List (Option Tmp)} {s:LS} {N:LS→Prop}
theorem a0p:X9 []=[]:=rfl
theorem vM{o:Oper}{l:List Oper}:X9 (o::l)=o.dst::X9 l:=rfl
theorem a4b[j9 P]:gF P ops [] s N=N s:=rfl
theorem a0h[j9 P]{o:Oper}{rest:List Oper}:gF P ops (o::rest) s N=(match o.guard with
  |none=>T8 s o.dst∧bK P (gF P ops rest) o.dst o.op s N
  |some (j,want)=>match ops.getD j none with
   |some g=>gdC P (gF P ops rest) o.dst o.op s N want g (LS.tf s.t g)
   |none=>False):=rfl
theorem v8 [j9 P] {rest:LS→(LS→Prop)→Prop} {d:Option Tmp} {s:LS} {N:LS→Prop} {f:FuncId} {xs:List AV} {fn:Func} {body:Code} (k:Nat) (keep:List Nat) (hf:P.funcs[f]?=some fn) (hb:fn.body=some body) (hn:(fn.name== "runtime.NumGoroutine")=false) (hfr:e9 k s.h)
  (h:eR (md:=false) P body (wF fn xs k keep s) (L4 P fn k keep s.t d (fun s'=>rest s' N))):eY P rest d s N f xs:= .inr (.inl ⟨fn,body,k,keep,hf,hb,hn,hfr,h⟩)
theorem qB [j9 P] {rest:LS→(LS→Prop)→Prop} {d:Option Tmp} {f:FuncId} {xs ys:List AV} {y:AV} (C:n5 P f ys (fun _=>y) (fun _=>[]))
  (h1:xs.mapM (B7 (LS.hf s.h) 6)=some ys) (h2:xs.flatMap (b8 (LS.hf s.h) 6)=[]) (h:rest (s.cE d ⟨y,[],none,[],none,[]⟩) N):eY P rest d s N f xs:=
 .inl ⟨6,ys,h1,_,_,C,Nat.zero_le 8,false,(fun h=>nomatch h),by rw[h2];exact h⟩
theorem Y0 [j9 P] {rest:LS→(LS→Prop)→Prop} {d:Option Tmp} {f:FuncId} {xs ys:List AV} {y:Nat→AV} {rows:Nat→List Row} (C:n5 P f ys y rows) {ids:List (Nat×Nat)}
  (h1:xs.mapM (B7 (LS.hf s.h) 6)=some ys) (h2:xs.flatMap (b8 (LS.hf s.h) 6)=ids) (hr:(rows s.nx).length≤8) (h:rest (s.cE d ⟨y s.nx,ids.map (fun p=>(p.1,none,true)),none,ids,none,rows s.nx⟩) N):eY P rest d s N f xs:=
 .inl ⟨6,ys,h1,_,_,C,hr,false,(fun h=>nomatch h),by rw[h2];exact h⟩
theorem a4O [j9 P] {rest:LS→(LS→Prop)→Prop} {d:Option Tmp} {f:FuncId} {xs ys:List AV} {y:AV} (C:n5 P f ys (fun _=>y) (fun _=>[])) (hy:y.flat=true) {ids:List (Nat×Nat)}
  (h1:xs.mapM (B7 (LS.hf s.h) 6)=some ys) (h2:xs.flatMap (b8 (LS.hf s.h) 6)=ids) (h:rest (s.cE d ⟨y,ids.map (fun p=>(p.1,none,false)),none,[],none,[]⟩) N):eY P rest d s N f xs:=
 .inl ⟨6,ys,h1,_,_,C,Nat.zero_le 8,true,(fun _=>⟨rfl,hy⟩),by rw[h2];exact h⟩
end
def AV.fixed:Nat→AV→Bool
 |_,.Z=>true
 |_,.Z9 _ _ _=>true
 |_,.v _=>true
 |_,.N6=>true
 |_,.c5 c _=> !c
 |n+1,.agg cs=>cs.all (AV.fixed n)
 |n+1,.Q0 cs=>cs.all (AV.fixed n)
 |n+1,.fn _ cs=>cs.all (AV.fixed n)
 |_,_=>false
theorem eK{h:Nat→RS}{n:Nat}{f:AV→Bool}(ih:∀x,f x=true→B7 h n x=some x):∀cs:List AV,cs.all f=true→cs.mapM (B7 h n)=some cs:=by
 intro cs
 induction cs with
 |nil=>intro _;rfl
 |cons x cs ihc=>
  intro hh
  simp only[List.all_cons,Bool.and_eq_true]at hh
  simp [List.mapM_cons,ih x hh.1,ihc hh.2]
theorem aT{h:Nat→RS}{n:Nat}{f:AV→Bool}(ih:∀x,f x=true→b8 h n x=[]):∀cs:List AV,cs.all f=true→cs.flatMap (b8 h n)=[]:=by
 intro cs hh
 rw[List.flatMap_eq_nil_iff]
 exact fun x hx=>ih x (List.all_eq_true.1 hh x hx)
theorem jT(h:Nat→RS):∀(n:Nat) (x:AV),x.fixed n=true→B7 h n x=some x∧b8 h n x=[]:=by
 intro n
 induction n with
 |zero=>intro x hx;cases x<;>simp_all [AV.fixed,B7,b8]
 |succ n ih=>
  intro x hx
  cases x with
  |Z=>exact⟨rfl,rfl⟩
  |N6=>exact⟨rfl,rfl⟩
  |v x=>exact⟨rfl,rfl⟩
  |Z9 es i k=>exact⟨rfl,rfl⟩
  |c5 c es=>
   have hc:c=false:=by cases c<;>simp_all [AV.fixed]
   subst hc;exact⟨rfl,rfl⟩
  |agg cs=>
   have hx:cs.all (AV.fixed n)=true:=by simpa[AV.fixed]using hx
   simp only[B7,b8]
   rw[eK (fun x hx=>(ih x hx).1) _ hx,aT (fun x hx=>(ih x hx).2) _ hx];exact⟨rfl,rfl⟩
  |Q0 cs=>
   have hx:cs.all (AV.fixed n)=true:=by simpa[AV.fixed]using hx
   simp only[B7,b8]
   rw[eK (fun x hx=>(ih x hx).1) _ hx,aT (fun x hx=>(ih x hx).2) _ hx];exact⟨rfl,rfl⟩
  |fn f cs=>
   have hx:cs.all (AV.fixed n)=true:=by simpa[AV.fixed]using hx
   simp only[B7,b8]
   rw[eK (fun x hx=>(ih x hx).1) _ hx,aT (fun x hx=>(ih x hx).2) _ hx];exact⟨rfl,rfl⟩
  |_=>simp [AV.fixed]at hx
theorem a79 {P:Program} [j9 P] {s:LS} {N:LS→Prop} {rest:LS→(LS→Prop)→Prop} {d:Option Tmp} {f:FuncId} {xs:List AV} {y:AV} (C:n5 P f xs (fun _=>y) (fun _=>[]))
  (hx:xs.all (AV.fixed 6)=true) (h:rest (s.cE d ⟨y,[],none,[],none,[]⟩) N):eY P rest d s N f xs:=
 qB C (eK (fun x hx=>(jT _ 6 x hx).1) _ hx) (aT (fun x hx=>(jT _ 6 x hx).2) _ hx) h
theorem tS(v:AV)(fp)(nx:Nat)(h:List (Nat×RS)):Fx.cH ⟨v,fp,none,[],none,[]⟩ nx h=h:=by
 have:(h.map fun p=>(p.1,vN ⟨v,fp,none,[],none,[]⟩ p.1 p.2))=h:=by
  conv=>rhs;rw[←List.map_id h]
  refine List.map_congr_left fun p _=>?_
  obtain⟨i,x⟩:=p
  cases x<;>simp [vN,Fx.row,eU,E7]
 simp only[Fx.cH,this,j7,List.append_nil]
theorem zK(v:AV)(fp)(nx:Nat)(h:List (Nat×RS))(r:Row):Fx.cH ⟨v,fp,none,[],none,[r]⟩ nx h=h++[(nx,.live r)]:=by
 have:(h.map fun p=>(p.1,vN ⟨v,fp,none,[],none,[r]⟩ p.1 p.2))=h:=by
  conv=>rhs;rw[←List.map_id h]
  refine List.map_congr_left fun p _=>?_
  obtain⟨i,x⟩:=p
  cases x<;>simp [vN,Fx.row,eU,E7]
 simp only[Fx.cH,this,j7]
theorem a3t(v:AV)(fp)(nx:Nat)(h:List (Nat×RS))(id i k:Nat)(cs:List AV):Fx.cH ⟨v,fp,some (id,i,k,cs),[],none,[]⟩ nx h=T1 id i k cs h:=by
 simp only[Fx.cH,j7,List.append_nil]
 induction h with
 |nil=>rfl
 |cons p h ih=>
  obtain⟨i',x⟩:=p
  simp only[List.map_cons,T1,ih]
  by_cases he:i'=id
  ·subst he
   cases x<;>simp [vN,Fx.row,eU,E7]
  ·rw[if_neg he]
   cases x<;>simp [vN,Fx.row,eU,E7,Ne.symm he]
theorem tR(v:AV)(fp)(nx:Nat)(h:List (Nat×RS))(id:Nat)(r:Row):Fx.cH ⟨v,fp,none,[],some id,[r]⟩ nx h=cJ id h++[(nx,.live r)]:=by
 simp only[Fx.cH,j7]
 congr 1
 induction h with
 |nil=>rfl
 |cons p h ih=>
  obtain⟨i',x⟩:=p
  simp only[List.map_cons,cJ,ih]
  by_cases he:i'=id
  ·subst he
   simp [vN]
  ·rw[if_neg he]
   cases x<;>simp [vN,Fx.row,eU,E7,Ne.symm he]
theorem tQ(v:AV)(fp)(nx:Nat)(h:List (Nat×RS))(ids:List (Nat×Nat))(rs:List Row):Fx.cH ⟨v,fp,none,ids,none,rs⟩ nx h=u1 ids h++j7 nx rs:=by
 simp only[Fx.cH]
 congr 1
 induction h with
 |nil=>rfl
 |cons p h ih=>
  obtain⟨i',x⟩:=p
  simp only[List.map_cons,u1,ih]
  cases x<;>simp [vN,Fx.row,eU]
theorem a3m(h:List (Nat×RS)):u1 [] h=h:=by
 induction h with
 |nil=>rfl
 |cons p h ih=>obtain⟨i,x⟩:=p;cases x<;>simp [u1,ih,E7]
theorem a2Q(t:List AV)(h:List (Nat×RS))(nx d:Nat)(fx:Fx):LS.cE ⟨t,h,nx⟩ (some d) fx=⟨t.set d fx.val,fx.cH nx h,nx+8⟩:=rfl
theorem a2P(t:List AV)(h:List (Nat×RS))(nx:Nat)(fx:Fx):LS.cE ⟨t,h,nx⟩ none fx=⟨t,fx.cH nx h,nx+8⟩:=rfl
theorem a32(t:List AV)(h:List (Nat×RS))(nx d:Nat)(x:AV):LS.put ⟨t,h,nx⟩ (some d) x=⟨t.set d x,h,nx⟩:=rfl
theorem a31(t:List AV)(h:List (Nat×RS))(nx:Nat)(x:AV):LS.put ⟨t,h,nx⟩ none x=⟨t,h,nx⟩:=rfl
end
end Go.Ab
end
section
namespace Go.Ab
open Go.RowKit (Below)
inductive KF where
 |seq (c:Code)
 |block (id:Nat)
def Y2{md:Bool}(P:Program)[j9 P](K:Exit→LS→Prop):List KF→Exit→LS→Prop
 |[]=>K
 | .seq z::k=>S4 (fun s=>eR (md:=md) P z s (Y2 (md:=md) P K k)) (Y2 (md:=md) P K k)
 | .block id::k=>a4K id (Y2 (md:=md) P K k)
def AK{md:Bool}(P:Program)[j9 P](c:Code)(k:List KF)(s:LS)(K:Exit→LS→Prop):Prop:=eR (md:=md) P c s (Y2 (md:=md) P K k)
section
variable {md:Bool} {P:Program} {k:List KF} {s:LS} {K:Exit→LS→Prop}
theorem w5[j9 P]{c:Code}(h:AK (md:=md) P c [] s K):eR (md:=md) P c s K:=h
theorem a96[j9 P]{x y:Code}(h:AK (md:=md) P x (.seq y::k) s K):AK (md:=md) P (.seq x y) k s K:=a6U h
theorem a6Q[j9 P](h:Y2 (md:=md) P K k .normal s):AK (md:=md) P .skip k s K:=b0g h
theorem a95[j9 P](h:Y2 (md:=md) P K k .ret s):AK (md:=md) P .ret k s K:=b2R h
theorem a6N[j9 P]{id:Nat}(h:Y2 (md:=md) P K k (.exit id) s):AK (md:=md) P (.exit id) k s K:=b0e h
theorem a2M[j9 P]{id:Nat}{c:Code}(h:AK (md:=md) P c (.block id::k) s K):AK (md:=md) P (.block id c) k s K:=a7V h
theorem mG[j9 P]{c:Operand}{x y:Code}{b:Bool}(hc:LS.ev s.t c= .v (.bool b))(h1:b=true→AK (md:=md) P x k s K)(h2:b=false→AK (md:=md) P y k s K):AK (md:=md) P (.cond c x y) k s K:=
 b0d (by rw[LS.iZ];exact hc) h1 h2
theorem yS[j9 P]{c:Operand}{x y:Code}(hc:LS.ev s.t c= .v (.bool true))(h1:AK (md:=md) P x k s K):AK (md:=md) P (.cond c x y) k s K:=
 mG hc (fun _=>h1) (fun h=>by cases h)
theorem yR[j9 P]{c:Operand}{x y:Code}(hc:LS.ev s.t c= .v (.bool false))(h1:AK (md:=md) P y k s K):AK (md:=md) P (.cond c x y) k s K:=
 mG hc (fun h=>by cases h) (fun _=>h1)
theorem a2N[j9 P]{c:Operand}{x y:Code}(hc:LS.ev s.t c= .N6)(h1:AK (md:=md) P x k s K)(h2:AK (md:=md) P y k s K):AK (md:=md) P (.cond c x y) k s K:=
 a0z (by rw[LS.iZ];exact hc) h1 h2
theorem a93[j9 P]{id:Nat}{l:List Oper}(h:∀N:LS→Prop,(∀s,Y2 (md:=md) P K k .normal s→N s)→gF P (X9 l) l s N):AK (md:=md) P (.region id l.toArray false) k s K:=b2Q h
theorem mH[j9 P]{c:Code}(I:Nat→LS→Prop)(n0:Nat)(h0:I n0 s)(round:∀n s,I n s→AK (md:=md) P c [] s (S4 (fun s'=>∃m s'',m<n∧O8 s' s''∧I m s'') (Y2 (md:=md) P K k))):AK (md:=md) P (.loop c) k s K:=b0f I n0 h0 round
theorem A5[j9 P]{c:Code}{s':LS}(h:O8 s s')(h':AK (md:=md) P c k s' K):AK (md:=md) P c k s K:=eR.b7w h h'
theorem v7[j9 P]{c:Code}(S:Nat→LS)(n:Nat)(s0:O8 s (S 0))(round:∀i,i≤n→AK (md:=md) P c [] (S i) (S4 (fun s'=>i<n∧O8 s' (S (i+1))) (Y2 (md:=md) P K k))):AK (md:=md) P (.loop c) k s K:=by
 refine A5 s0 (mH (fun m s=>∃i,i≤n∧m=n-i∧s=S i) n ⟨0,by omega,by omega,rfl⟩ ?_)
 rintro m s ⟨i,hi,rfl,rfl⟩
 refine eR.mono (round i hi) fun e s' h=>?_
 cases e with
 |normal=>exact⟨n-(i+1),S (i+1),by have:=h.1;omega,h.2,i+1,by have:=h.1;omega,rfl,rfl⟩
 |_=>exact h
theorem T2[j9 P]{c:Code}(S:Nat→LS)(I:Nat→Prop)(n:Nat)(s0:O8 s (S 0))(h0:I 0)(round:∀i,i≤n→I i→AK (md:=md) P c [] (S i) (S4 (fun s'=>i<n∧I (i+1)∧O8 s' (S (i+1))) (Y2 (md:=md) P K k))):AK (md:=md) P (.loop c) k s K:=by
 refine A5 s0 (mH (fun m s=>∃i,i≤n∧I i∧m=n-i∧s=S i) n ⟨0,by omega,h0,by omega,rfl⟩ ?_)
 rintro m s ⟨i,hi,hI,rfl,rfl⟩
 refine eR.mono (round i hi hI) fun e s' h=>?_
 cases e with
 |normal=>exact⟨n-(i+1),S (i+1),by have:=h.1;omega,h.2.2,i+1,by have:=h.1;omega,h.2.1,rfl,rfl⟩
 |_=>exact h
theorem bI[j9 P]{c:Operand}{x y:Code}{p:Prop}[Decidable p](hc:LS.ev s.t c= .v (.bool (decide p)))(h1:p→AK (md:=md) P x k s K)(h2:¬p→AK (md:=md) P y k s K):AK (md:=md) P (.cond c x y) k s K:=
 mG hc (fun h=>h1 (of_decide_eq_true h)) (fun h=>h2 (of_decide_eq_false h))
theorem a3F[j9 P](e:Exit):Y2 (md:=md) P K [] e s=K e s:=rfl
theorem uB[j9 P]{z:Code}:Y2 (md:=md) P K (.seq z::k) .normal s=AK (md:=md) P z k s K:=rfl
theorem uC[j9 P]{z:Code}:Y2 (md:=md) P K (.seq z::k) .ret s=Y2 (md:=md) P K k .ret s:=rfl
theorem uA[j9 P]{z:Code}{id:Nat}:Y2 (md:=md) P K (.seq z::k) (.exit id) s=Y2 (md:=md) P K k (.exit id) s:=rfl
theorem nB[j9 P]{id:Nat}:Y2 (md:=md) P K (.block id::k) .normal s=Y2 (md:=md) P K k .normal s:=rfl
theorem nC[j9 P]{id:Nat}:Y2 (md:=md) P K (.block id::k) .ret s=Y2 (md:=md) P K k .ret s:=rfl
theorem nA[j9 P]{id id':Nat}:Y2 (md:=md) P K (.block id::k) (.exit id') s=if id'=id then Y2 (md:=md) P K k .normal s else Y2 (md:=md) P K k (.exit id') s:=rfl
theorem a7J{N:LS→Prop}:S4 N K .normal s=N s:=rfl
theorem a7K{N:LS→Prop}:S4 N K .ret s=K .ret s:=rfl
theorem a7I{N:LS→Prop}{id:Nat}:S4 N K (.exit id) s=K (.exit id) s:=rfl
end
theorem fD{keep ids:List Nat}{s s' s'':LS}(h:c8 keep ids s=some s')(e:s'=s''):O8 s s'':=e ▸ a0F h
end Go.Ab
namespace Go.Ab
theorem L6(nid id:Nat):p8 [] nid id=none:=rfl
theorem I5(i:Nat)(ids:List Nat)(nid id:Nat):p8 (i::ids) nid id=if i=id then some nid else p8 ids (nid+1) id:=by
 unfold p8
 rw[List.idxOf?_cons]
 by_cases h:i=id
 ·subst h;simp
 ·rw[if_neg (by simpa using h),if_neg h]
  cases ids.idxOf? id with
  |none=>rfl
  |some j=>simp;omega
end Go.Ab
namespace Go.Ab
theorem D5{fn:Func}{n:Nat}(h:fn.ntmps=n)(xs:List AV)(k:Nat)(keep:List Nat)(s:LS):wF fn xs k keep s=⟨xs++List.replicate (n-xs.length) .Z,s.h++[(s.nx,.u3 k (keep.map (LS.tf s.t)))],s.nx+8⟩:=by subst h;rfl
theorem mV{fn:Func}{n:Nat}(h:fn.ntmps=n)(xs:List AV):mU fn xs=⟨xs++List.replicate (n-xs.length) .Z,[],0⟩:=by subst h;rfl
end Go.Ab
namespace Go.Ab
section
variable {md:Bool} {P:Program} {s:LS} {K:Exit→LS→Prop} {k:List KF}
theorem a6O[j9 P]{x z:Code}(S:LS)(h1:AK (md:=md) P x [] s (S4 (fun s'=>O8 s' S) (Y2 (md:=md) P K k)))(h2:AK (md:=md) P z k S K):AK (md:=md) P (.seq x z) k s K:=by
 refine a6U (eR.mono h1 fun e s' h=>?_)
 cases e<;>first|exact eR.b7w h h2|exact h
end
end Go.Ab
end
section
namespace Go.Ab
open Go.RowKit (Below)
section
def lA(r:Row)(i k:Nat):Option AV:=(r.es[i]?).bind fun e=>e[k]?
def Q6:Option (Nat×Nat×Nat)→RS→RS→Prop
 |none,x,y=>x=y
 |some (i,lo,hi),.live r,.live r'=>r.sz=r'.sz∧r.fro=r'.fro∧r.es.length=r'.es.length∧∀k,lo≤k→k<hi→lA r i k=lA r' i k
 |some _,x,y=>x=y
def pX(fp:List (Nat×Option (Nat×Nat×Nat)×Bool))(h h':Nat→RS):Prop:=∀p∈fp,Q6 p.2.1 (h p.1) (h' p.1)
theorem aR(a:Option (Nat×Nat×Nat))(x:RS):Q6 a x x:=by
 cases a with
 |none=>rfl
 |some p=>cases x<;>first|rfl|exact⟨rfl,rfl,rfl,fun _ _ _=>rfl⟩
theorem aQ{a:Option (Nat×Nat×Nat)}{r:Row}{y:RS}(h:Q6 a (.live r) y):∃r',y= .live r'∧r'.sz=r.sz∧r'.fro=r.fro∧r'.es.length=r.es.length:=by
 cases a with
 |none=>cases h;exact⟨r,rfl,rfl,rfl,rfl⟩
 |some p=>
  cases y with
  |live r'=>exact⟨r',rfl,h.1.symm,h.2.1.symm,h.2.2.1.symm⟩
  |_=>cases h
section
variable {P:Program} {s s':St} {nid:Nat} {fx:Fx} {o:Oper}
theorem b2a{r r':Row}{i k n:Nat}(hl:r.es.length=r'.es.length)(h:∀j,k≤j→j<k+n→lA r i j=lA r' i j):(r.es[i]?).map (fun e=>(e.drop k).take n)=(r'.es[i]?).map (fun e=>(e.drop k).take n):=by
 by_cases hi:i<r.es.length
 ·have hi':i<r'.es.length:=by omega
  rw[List.getElem?_eq_getElem hi,List.getElem?_eq_getElem hi']
  simp only[Option.map_some,Option.some.injEq]
  apply List.ext_getElem?
  intro j
  rw[Y1,Y1]
  split
  ·rename_i hj
   have:=h (k+j) (by omega) (by omega)
   simpa[lA,List.getElem?_eq_getElem hi,List.getElem?_eq_getElem hi']using this
  ·rfl
 ·rw[List.getElem?_eq_none (by omega),List.getElem?_eq_none (by omega)]
theorem b1X{x:AV}{n:Nat}{cs:List AV}(h:rd s x n=some cs)(ha:pX (u0 false x n) s.h s'.h):rd s' x n=some cs:=by
 cases x with
 |ptr id i k=>
  have:=ha _ (List.mem_singleton.2 rfl)
  simp only[rd]at h⊢
  split at h
  ·rename_i r hr
   simp only[hr]at this
   obtain⟨r',h1,h2,h3,h4⟩:=aQ this
   rw[h1]at this⊢
   simp only[Q6]at this
   simp only[h2,b2a this.2.2.1 this.2.2.2]at h⊢
   exact h
  ·cases h
 |dP id i k=>
  have:=ha _ (List.mem_singleton.2 rfl)
  simp only[Q6]at this
  simp only[rd]at h⊢
  rw[←this];exact h
 |Z9 es i k=>exact h
 |_=>simp [rd]at h
theorem lW{sz:Nat}{x:AV}{a:Option (Nat×Nat×Nat)}(h:pR s sz x)(ha:∀id off n,x= .own id off n→Q6 a (s.h id) (s'.h id)):pR s' sz x:=by
 cases x with
 |own id off n=>
  obtain⟨r,h1,h2⟩:=h
  have:=ha id off n rfl
  rw[h1]at this
  obtain⟨r',g1,g2,_,_⟩:=aQ this
  exact⟨r',g1,by omega⟩
 |_=>exact h
theorem a9n{y:AV}{ys:List (List AV)}(h:lT s y=some ys)(ha:pX (s9 y) s.h s'.h):lT s' y=some ys:=by
 cases y with
 |own id off n=>
  have:=ha _ (List.mem_singleton.2 rfl)
  simp only[Q6]at this
  simp only[lT]at h⊢
  rw[←this];exact h
 |_=>exact h
theorem zG{h h':Nat→RS}:∀(n:Nat) (x:AV),(∀p∈b8 h n x,h p.1=h' p.1)→B7 h' n x=B7 h n x∧b8 h' n x=b8 h n x:=by
 intro n
 induction n with
 |zero=>intro x _;cases x<;>simp [B7,b8]
 |succ n ih=>
  intro x hx
  have many:∀cs:List AV,(∀p∈cs.flatMap (b8 h n),h p.1=h' p.1)→cs.mapM (B7 h' n)=cs.mapM (B7 h n)∧cs.flatMap (b8 h' n)=cs.flatMap (b8 h n):=by
   intro cs
   induction cs with
   |nil=>intro _;simp
   |cons c cs ihc=>
    intro hc
    have h1:=ih c fun p hp=>hc p (by simp only[List.flatMap_cons,List.mem_append];exact .inl hp)
    have h2:=ihc fun p hp=>hc p (by simp only[List.flatMap_cons,List.mem_append];exact .inr hp)
    simp only[List.mapM_cons,List.flatMap_cons,h1.1,h1.2,h2.1,h2.2,and_self]
  have many2:∀es:List (List AV),(∀p∈es.flatMap (fun(e:List AV)=>e.flatMap (b8 h n)),h p.1=h' p.1)→(es.mapM fun(e:List AV)=>e.mapM (B7 h' n))=(es.mapM fun(e:List AV)=>e.mapM (B7 h n))∧es.flatMap (fun(e:List AV)=>e.flatMap (b8 h' n))=es.flatMap (fun(e:List AV)=>e.flatMap (b8 h n)):=by
   intro es
   induction es with
   |nil=>intro _;simp
   |cons e es ihe=>
    intro hc
    have h1:=many e fun p hp=>hc p (by simp only[List.flatMap_cons,List.mem_append];exact .inl hp)
    have h2:=ihe fun p hp=>hc p (by simp only[List.flatMap_cons,List.mem_append];exact .inr hp)
    simp only[List.mapM_cons,List.flatMap_cons,h1.1,h1.2,h2.1,h2.2,and_self]
  cases x with
  |agg cs=>have:=many cs hx;simp only[B7,b8,this.1,this.2,and_self]
  |Q0 cs=>have:=many cs hx;simp only[B7,b8,this.1,this.2,and_self]
  |fn f cs=>have:=many cs hx;simp only[B7,b8,this.1,this.2,and_self]
  |own id off k=>
   have h0:=hx (id,off+k) (by simp [b8])
   simp only at h0
   simp only[B7,b8,←h0]
   cases hr:h id with
   |live r=>
    simp only
    by_cases hp:w7 ((r.es.drop off).take k)=true
    ·simp only[hp,if_true,and_self]
    ·have hx2:=many2 ((r.es.drop off).take k) fun p hpm=>hx p (by simp only[b8,hr,hp,List.mem_cons];exact .inr hpm)
     simp only[hp,hx2.1,hx2.2,and_self]
   |_=>simp
  |ptr id i k=>
   have h0:=hx (id,i+1) (by simp [b8])
   simp only at h0
   simp only[B7,b8,←h0]
   cases hr:h id with
   |live r=>
    simp only
    by_cases hp:w7 ((r.es.drop 0).take (i+1))=true
    ·simp only[hp,if_true,and_self]
    ·have hx2:=many2 ((r.es.drop 0).take (i+1)) fun p hpm=>hx p (by simp only[b8,hr,hp,List.mem_cons];exact .inr hpm)
     simp only[hp,hx2.1,hx2.2,and_self]
   |_=>simp
  |_=>simp [B7,b8]
end
end
section
section
variable {P:Program} {s s':St} {nid:Nat} {fx:Fx} {o:Oper}
theorem yQ{ids:List (Nat×Nat)}{lend:Bool}{h h':Nat→RS}(ha:pX (ids.map fun p=>(p.1,none,lend)) h h'):∀p∈ids,h p.1=h' p.1:=by
 intro p hp
 exact ha (p.1,none,lend) (List.mem_map.2 ⟨p,hp,rfl⟩)
theorem uT{x:Option Operand}{i:Option Int}(hev:∀y∈x.toArray,s'.ev y=s.ev y)(h:a8W s x i):a8W s' x i:=by
 cases x with
 |none=>cases i<;>exact h
 |some x=>cases i with
  |none=>exact h
  |some i=>obtain⟨k,hk⟩:=h;exact⟨k,by rw[hev x (by simp)];exact hk⟩
theorem lJ{x:Option Operand}{v:Option Value}(hev:∀y∈x.toArray,s'.ev y=s.ev y)(h:wJ s x=some v):wJ s' x=some v:=by
 cases x with
 |none=>exact h
 |some x=>simp only[wJ,hev x (by simp)]at h⊢;exact h
theorem mO[j9 P](hev:∀x∈o.op.operands,s'.ev x=s.ev x)(ha:pX fx.fp s.h s'.h)(h:ex P o s nid fx):ex P o s' nid fx:=by
 unfold ex at h⊢
 split at h
 ·rename_i x ho;simp only[ho,Op.operands]at hev;simp only[hev x (by simp)];exact h
 ·rename_i x ho;simp only[ho,Op.operands]at hev;simp only[hev x (by simp)];exact h
 ·rename_i x ho;simp only[ho,Op.operands]at hev;simp only[hev x (by simp)];exact h
 ·rename_i c x y ho;simp only[ho,Op.operands]at hev;simp only[hev c (by simp),hev x (by simp),hev y (by simp)];exact h
 ·exact h
 ·rename_i x ho;simp only[ho,Op.operands]at hev;simp only[hev x (by simp)];exact h
 ·rename_i t ps ho
  simp only[ho,Op.operands]at hev
  have e:(ps.toList.map fun p=>(p.1,s'.ev p.2))=ps.toList.map fun p=>(p.1,s.ev p.2):=List.map_congr_left fun p hp=>by rw[hev p.2 (by simp;exact⟨p.1,by simpa using hp⟩)]
  simp only[e];exact h
 ·rename_i t len ps ho
  simp only[ho,Op.operands]at hev
  have e:(ps.toList.map fun p=>(p.1,s'.ev p.2))=ps.toList.map fun p=>(p.1,s.ev p.2):=List.map_congr_left fun p hp=>by rw[hev p.2 (by simp;exact⟨p.1,by simpa using hp⟩)]
  simp only[e];exact h
 ·rename_i t x ho
  simp only[ho,Op.operands]at hev
  obtain⟨T,h1,cs,h2,val,h3,rfl⟩:=h
  exact⟨T,h1,cs,by rw[hev x (by simp)];exact b1X h2 ha,val,h3,by rw[hev x (by simp)]⟩
 ·rename_i t x y ho
  simp only[ho,Op.operands]at hev
  obtain⟨T,hT,cs,hcs,hl,hone,id,i,k,haddr,r,hr,hfro,hi,hk,rfl⟩:=h
  have hag:∃a,Q6 a (s.h id) (s'.h id):=by
   rcases haddr with e|e<;>rw[e]at ha
   ·exact⟨_,ha (id,some (i,k,k+T.size),true) (by simp [u0])⟩
   ·exact⟨_,ha (id,none,true) (by simp [u0])⟩
  obtain⟨a,hag⟩:=hag
  rw[hr]at hag
  obtain⟨r',g1,g2,g3,g4⟩:=aQ hag
  exact⟨T,hT,cs,by rw[hev y (by simp)];exact hcs,hl,hone,id,i,k,by rw[hev x (by simp)];exact haddr,r',g1,by omega,by omega,by omega,by rw[hev x (by simp)]⟩
 ·rename_i op t x y yt ho
  simp only[ho,Op.operands]at hev
  simp only[hev x (by simp),hev y (by simp)];exact h
 ·rename_i op t x ho;simp only[ho,Op.operands]at hev;simp only[hev x (by simp)];exact h
 ·rename_i a b x ho;simp only[ho,Op.operands]at hev;simp only[hev x (by simp)];exact h
 ·rename_i fn first X2 ho
  simp only[ho,Op.operands]at hev
  have e:X2.toList.map s'.ev=X2.toList.map s.ev:=List.map_congr_left fun p hp=>hev p (by simp;exact .inr (by simpa using hp))
  have e':first.toList.map s'.ev=first.toList.map s.ev:=List.map_congr_left fun p hp=>hev p (by simp;exact .inl (by simpa using hp))
  simp only[e,e'];exact h
 ·rename_i t l c ho
  simp only[ho,Op.operands]at hev
  simp only[hev l (by simp),hev c (by simp)];exact h
 ·rename_i t x lo hi mx ho
  simp only[ho,Op.operands]at hev
  have ex0:=hev x (by simp)
  have elo:∀y∈lo.toArray,s'.ev y=s.ev y:=fun y hy=>hev y (by simp only[Array.mem_append];exact .inl (.inl (.inr hy)))
  have ehi:∀y∈hi.toArray,s'.ev y=s.ev y:=fun y hy=>hev y (by simp only[Array.mem_append];exact .inl (.inr hy))
  have emx:∀y∈mx.toArray,s'.ev y=s.ev y:=fun y hy=>hev y (by simp only[Array.mem_append];exact .inr hy)
  rcases h with⟨E,hD,hz,l,hl,hv,hh,mo,hm,val,hv2,rfl⟩|⟨vx,hx,vlo,hlo,vhi,hhi,vmx,hmx,z,hz,rfl⟩
  ·refine .inl ⟨E,hD,?_,l,?_,hv,uT ehi hh,mo,uT emx hm,val,by rw[ex0];exact hv2,by rw[ex0]⟩
   ·rw[ex0]
    exact lW hz (a:=some (0,0,0)) fun id off n e=>by rw[e]at ha;exact ha (id,some (0,0,0),false) (by simp [u6])
   ·rcases hl with hl|⟨lx,k,rfl,hk⟩
    ·exact .inl hl
    ·exact .inr ⟨lx,k,rfl,by rw[elo lx (by simp)];exact hk⟩
  ·exact .inr ⟨vx,by rw[ex0];exact hx,vlo,lJ elo hlo,vhi,lJ ehi hhi,vmx,lJ emx hmx,z,hz,rfl⟩
 ·rename_i t x f ho;simp only[ho,Op.operands]at hev;simp only[hev x (by simp)];exact h
 ·rename_i t x f ho;simp only[ho,Op.operands]at hev;simp only[hev x (by simp)];exact h
 ·rename_i t x ix ho
  simp only[ho,Op.operands]at hev
  have ex0:=hev x (by simp)
  obtain⟨D,hD,hz,k,i,hi,val,hv,rfl⟩:=h
  rw[hev ix (by simp),ex0]
  have hfr:∀id off n,s.ev x= .own id off n→Q6 (some (0,0,0)) (s.h id) (s'.h id):=fun id off n e=>by rw[e]at ha;exact ha (id,some (0,0,0),false) (by simp [u6])
  refine⟨D,hD,fun E hE=>lW (hz E hE) hfr,k,i,hi,val,?_,rfl⟩
  unfold a0R at hv⊢
  split at hv
  ·exact hv
  ·rename_i E id off n hx
   split at hv
   ·rename_i r hr
    have:=hfr id off n hx
    rw[hr]at this
    obtain⟨r',g1,g2,g3,g4⟩:=aQ this
    rw[g1]
    simp only[g4]
    exact hv
   ·cases hv
  ·exact hv
  ·exact hv
  ·cases hv
 ·rename_i t x ix ho
  simp only[ho,Op.operands]at hev
  simp only[hev x (by simp),hev ix (by simp)];exact h
 ·rename_i x i ho;simp only[ho,Op.operands]at hev;simp only[hev x (by simp)];exact h
 ·rename_i t m k c ho
  simp only[ho,Op.operands]at hev
  obtain⟨d,z,ht,b,hm,kv,hkv,hik,id,f,hh,rfl⟩:=h
  have:=ha (id,none,false) (by simp)
  simp only[Q6]at this
  exact⟨d,z,ht,b,by rw[hev m (by simp)];exact hm,kv,by rw[hev k (by simp)];exact hkv,hik,id,f,by rw[←this];exact hh,rfl⟩
 ·rename_i c ho
  simp only[ho,Op.operands,Call.operands]at hev
  have eargs:∀y∈c.args,s'.ev y=s.ev y:=fun y hy=>hev y (by simp only[Array.mem_append];exact .inr hy)
  have emap:c.args.toList.map s'.ev=c.args.toList.map s.ev:=List.map_congr_left fun p hp=>eargs p (by simpa using hp)
  split at h
  ·rcases h with⟨hb,x,hx,t,ht,E,hD,n,hn,rfl⟩|⟨hb,x,y,hxy,t,t2,htt,E,hD,E2,hD2,hz1,hz2,ys,hys,hyl,h⟩|⟨vs,hvs,z,hz,rfl⟩|⟨hb,x,hx,t,ht,kd,z,htm,hne,bk,hev2,id,f,hh,rfl⟩
   ·exact .inl ⟨hb,x,hx,t,ht,E,hD,n,by rw[eargs x (by simp [hx])];exact hn,rfl⟩
   ·have e1:=eargs x (by simp [hxy])
    have e2:=eargs y (by simp [hxy])
    have hry:pX (s9 (s.ev y)) s.h s'.h:=by
     rcases h with⟨cl,es,_,_,rfl⟩|⟨es,_,_,_,_,rfl⟩|⟨id,off,n,_,r,_,_,_,_,_,_,rfl⟩
     ·exact ha
     ·exact ha
     ·exact fun p hp=>ha p (List.mem_cons_of_mem _ hp)
    have g2:pR s' E.size (s.ev y):=lW hz2 (a:=none) fun id off n e=>by rw[e]at hry;exact hry (id,none,false) (by simp [s9])
    refine .inr (.inl ⟨hb,x,y,hxy,t,t2,htt,E,hD,E2,hD2,?_,by rw[e2];exact g2,ys,by rw[e2];exact a9n hys hry,hyl,?_⟩)
    ·rw[e1]
     rcases h with⟨cl,es,hx,_,rfl⟩|⟨es,hx,_,_,_,rfl⟩|⟨id,off,n,hx,r,_,_,_,_,_,_,rfl⟩
     ·rw[hx]at hz1⊢;exact hz1
     ·rw[hx]at hz1⊢;exact hz1
     ·rw[hx]at hz1⊢
      have:=ha (id,none,true) (by simp)
      simp only[Q6]at this
      obtain⟨r2,q1,q2⟩:=hz1
      exact⟨r2,by rw[←this];exact q1,q2⟩
    ·rw[e1,e2]
     rcases h with h|h|⟨id,off,n,hx,r,hr,h1,h2,h3,h4,h5,rfl⟩
     ·exact .inl h
     ·exact .inr (.inl h)
     ·have:=ha (id,none,true) (by simp)
      simp only[Q6]at this
      exact .inr (.inr ⟨id,off,n,hx,r,by rw[←this];exact hr,h1,h2,h3,h4,h5,rfl⟩)
   ·refine .inr (.inr (.inl ⟨vs,?_,z,hz,rfl⟩))
    rw[←hvs]
    have:∀l:List Operand,(∀y∈l,s'.ev y=s.ev y)→l.mapM (fun x=>(s'.ev x).Z0)=l.mapM fun x=>(s.ev x).Z0:=by
     intro l
     induction l with
     |nil=>intro _;rfl
     |cons y l ih=>intro hl;simp only[List.mapM_cons,hl y (by simp),ih fun z hz=>hl z (by simp [hz])]
    exact this _ fun y hy=>eargs y (by simpa using hy)
   ·have:=ha (id,none,false) (by simp)
    simp only[Q6]at this
    exact .inr (.inr (.inr ⟨hb,x,hx,t,ht,kd,z,htm,hne,bk,by rw[eargs x (by simp [hx])];exact hev2,id,f,by rw[←this];exact hh,rfl⟩))
  ·rename_i fv hfv
   rcases h with h|⟨f,X2,hf,⟨id,r,ys,cs,cs',val,C,hx,hl,hes,hfro,hcs,oH,hpl,hpl',hval,rfl⟩|⟨n,xs,idm,b,d,F,y,hxs,C,hm,hfl,rfl⟩⟩
   case inr.inr=>
    simp only at ha
    have hall:=yQ ha
    have hids:∀p∈X2.flatMap (b8 s.h n),s.h p.1=s'.h p.1:=fun p hp=>hall p (List.mem_cons_of_mem _ hp)
    have h0:=hall (idm,0) (by simp)
    have hfz:X2.mapM (B7 s'.h n)=X2.mapM (B7 s.h n)∧X2.flatMap (b8 s'.h n)=X2.flatMap (b8 s.h n):=by
     clear hf hxs ha C hall
     induction X2 with
     |nil=>simp
     |cons a l ih=>
      have h1:=zG n a fun p hp=>hids p (by simp only[List.flatMap_cons,List.mem_append];exact .inl hp)
      have h2:=ih fun p hp=>hids p (by simp only[List.flatMap_cons,List.mem_append];exact .inr hp)
      simp only[List.mapM_cons,List.flatMap_cons,h1.1,h1.2,h2.1,h2.2,and_self]
    refine .inr ⟨f,X2,by rw[hev fv (by simp [hfv]),emap];exact hf,.inr ⟨n,xs,idm,b,d,F,y,by rw[hfz.1];exact hxs,C,by rw[←h0];exact hm,hfl,?_⟩⟩
    rw[hfz.2]
   case inr.inl=>
    have hag:=ha (id,some (0,0,cs.length),true) (by simp)
    simp only[hl]at hag
    obtain⟨r',q1,q2,q3,q4⟩:=aQ hag
    rw[q1]at hag
    have q5:=hag.2.2.2
    refine .inr ⟨f,X2,by rw[hev fv (by simp [hfv]),emap];exact hf,.inl ⟨id,r',ys,cs,cs',val,by rw[q2];exact C,hx,q1,by rw[q4];exact hes,by rw[q3];exact hfro,fun j hj=>?_,oH,hpl,hpl',hval,rfl⟩⟩
    have:=q5 j (Nat.zero_le _) hj
    unfold lA at this
    rw[←this];exact hcs j hj
   refine .inl ?_
   obtain⟨f,X2,hf,n,xs,hxs,y,rows,C,hrl,lend,hlend,rfl⟩:=h
   simp only at ha
   have hids:=yQ ha
   have hfz:(X2.mapM (B7 s'.h n))=X2.mapM (B7 s.h n)∧X2.flatMap (b8 s'.h n)=X2.flatMap (b8 s.h n):=by
    generalize X2=l at hids
    clear hxs ha C
    induction l with
    |nil=>simp
    |cons a l ih=>
     have h1:=zG n a fun p hp=>hids p (by simp only[List.flatMap_cons,List.mem_append];exact .inl hp)
     have h2:=ih fun p hp=>hids p (by simp only[List.flatMap_cons,List.mem_append];exact .inr hp)
     simp only[List.mapM_cons,List.flatMap_cons,h1.1,h1.2,h2.1,h2.2,and_self]
   refine⟨f,X2,by rw[hev fv (by simp [hfv]),emap];exact hf,n,xs,?_,y,rows,C,hrl,lend,hlend,?_⟩
   ·rw[hfz.1];exact hxs
   ·rw[hfz.2]
  ·exact h
 ·exact h
theorem b62[j9 P](h:ex P o s nid fx):(∀id i k cs,fx.wr=some (id,i,k,cs)→(id,none,true)∈fx.fp∨(id,some (i,k,k+cs.length),true)∈fx.fp)∧(∀p∈fx.fro,(p.1,none,true)∈fx.fp)∧(∀id,fx.kill=some id→(id,none,true)∈fx.fp)∧(fx.wr≠none→fx.fro=[]∧fx.kill=none):=by
 unfold ex at h
 split at h
 ·subst h;simp
 ·subst h;simp
 ·obtain⟨_,rfl⟩:=h;simp
 ·obtain⟨_,_,rfl⟩:=h;simp
 ·obtain⟨_,_,rfl⟩:=h;simp
 ·obtain⟨_,_,rfl⟩:=h;simp
 ·obtain⟨_,_,_,_,_,_,_,rfl⟩:=h;simp
 ·obtain⟨_,_,_,_,_,rfl⟩:=h;simp
 ·obtain⟨_,_,_,_,_,_,rfl⟩:=h;simp
 ·obtain⟨T,_,cs,_,hl,_,id,i,k,ha,_,_,_,_,_,rfl⟩:=h
  refine⟨?_,by simp,by simp,by simp⟩
  intro id' i' k' cs' he
  simp only[Option.some.injEq,Prod.mk.injEq]at he
  obtain⟨rfl,rfl,rfl,rfl⟩:=he
  rcases ha with e|e<;>rw[e]
  ·exact .inr (by simp [u0,hl])
  ·exact .inl (by simp [u0])
 ·rcases h with⟨_,_,_,_,_,_,rfl⟩|⟨_,_,_,_,_,rfl⟩<;>simp
 ·obtain⟨_,_,_,_,rfl⟩:=h;simp
 ·obtain⟨_,_,_,_,rfl⟩:=h;simp
 ·obtain⟨_,_,⟨_,rfl⟩|⟨_,rfl⟩⟩:=h<;>simp
 ·obtain⟨_,_,_,_,_,_,_,_,_,_,rfl⟩:=h;simp
 ·rcases h with⟨_,_,_,_,_,_,_,_,_,_,_,rfl⟩|⟨_,_,_,_,_,_,_,_,_,_,rfl⟩<;>simp
 ·obtain⟨_,_,_,_,_,_,rfl⟩:=h;simp
 ·obtain⟨_,_,_,_,_,_,_,_,rfl⟩:=h;simp
 ·obtain⟨_,_,_,_,_,_,_,_,rfl⟩:=h;simp
 ·rcases h with⟨_,_,_,_,_,_,_,_,_,_,_,_,rfl⟩|⟨_,_,_,_,_,_,rfl⟩<;>simp
 ·obtain⟨_,_,_,_,rfl⟩:=h;simp
 ·obtain⟨_,_,_,_,_,_,_,_,_,_,_,rfl⟩:=h;simp
 ·split at h
  ·rcases h with⟨_,_,_,_,_,_,_,_,_,rfl⟩|⟨_,_,_,_,_,_,_,_,_,_,_,_,_,_,_,_,h⟩|⟨_,_,_,_,rfl⟩|⟨_,_,_,_,_,_,_,_,_,_,_,_,_,_,rfl⟩
   ·simp
   ·rcases h with⟨_,_,_,_,rfl⟩|⟨_,_,_,_,_,rfl⟩|⟨id,_,_,_,r,hr,_,_,_,_,_,rfl⟩
    ·simp
    ·simp
    ·simp
   ·simp
   ·simp
  ·rcases h with⟨_,_,_,_,_,_,_,_,_,hl,lend,_,rfl⟩|⟨_,_,_,⟨id,r,_,cs,cs',_,_,_,_,_,_,_,oH,_,_,_,rfl⟩|⟨_,_,_,_,_,_,_,_,_,_,_,rfl⟩⟩
   ·refine⟨by simp,?_,by simp,by simp⟩
    intro p hp
    cases lend with
    |false=>exact List.mem_map.2 ⟨p,hp,rfl⟩
    |true=>cases hp
   ·refine⟨?_,by simp,by simp,by simp⟩
    intro id' i' k' cs2 he
    simp only[Option.some.injEq,Prod.mk.injEq]at he
    obtain⟨rfl,rfl,rfl,rfl⟩:=he
    exact .inr (by simp [oH])
   ·refine⟨by simp,by simp,by simp,by simp⟩
  ·cases h
 ·cases h
end
end
abbrev vX:=Nat×Option (Nat×Nat×Nat)×Bool
def a0G:Option (Nat×Nat×Nat)→Option (Nat×Nat×Nat)→Prop
 |some (i,lo,hi),some (i',lo',hi')=>i≠i'∨hi≤lo'∨hi'≤lo
 |_,_=>False
def eZ(n1:Nat)(f1:List vX)(n2:Nat)(f2:List vX):Prop:=
 (∀p∈f1,∀q∈f2,p.1=q.1→(p.2.2=true∨q.2.2=true)→a0G p.2.1 q.2.1)∧(∀p∈f1,¬(n2≤p.1∧p.1<n2+8))∧(∀q∈f2,¬(n1≤q.1∧q.1<n1+8))∧(n1+8≤n2∨n2+8≤n1)
abbrev pW:=Option (Nat×Fx)
def dK:pW→pW→Prop
 |some (n1,f1),some (n2,f2)=>eZ n1 f1.fp n2 f2.fp
 |_,_=>True
theorem a8k{a b:Option (Nat×Nat×Nat)}(h:a0G a b):a0G b a:=by
 cases a<;>cases b<;>simp only[a0G]at h⊢
 rcases h with h|h|h
 ·exact .inl (Ne.symm h)
 ·exact .inr (.inr h)
 ·exact .inr (.inl h)
theorem qJ{e1 e2:pW}(h:dK e1 e2):dK e2 e1:=by
 cases e1<;>cases e2<;>simp only[dK]at h⊢
 obtain⟨h1,h2,h3,h4⟩:=h
 exact⟨fun p hp q hq e w=>a8k (h1 q hq p hp e.symm w.symm),h3,h2,h4.symm⟩
def vY(fx:Fx):Prop:=(∀id i k cs,fx.wr=some (id,i,k,cs)→(id,none,true)∈fx.fp∨(id,some (i,k,k+cs.length),true)∈fx.fp)∧(∀p∈fx.fro,(p.1,none,true)∈fx.fp)∧(∀id,fx.kill=some id→(id,none,true)∈fx.fp)∧(fx.wr≠none→fx.fro=[]∧fx.kill=none)
theorem cP{ids:List (Nat×Nat)}{id:Nat}(h:∀p∈ids,p.1≠id)(m:Nat):E7 ids id m=m:=by
 induction ids generalizing m with
 |nil=>rfl
 |cons p ids ih=>
  simp only[E7,List.foldl_cons]
  rw[if_neg (h p (by simp))]
  exact ih (fun q hq=>h q (by simp [hq])) m
theorem b5S{fx:Fx}{f:List vX}{n1 n2:Nat}{id:Nat}{a:Option (Nat×Nat×Nat)}{w:Bool}(hF:vY fx)(hc:eZ n1 fx.fp n2 f)(hm:(id,a,w)∈f):∀p∈fx.fro,p.1≠id:=by
 intro p hp e
 have:=hc.1 (p.1,none,true) (hF.2.1 p hp) (id,a,w) hm e (.inl rfl)
 exact this
theorem b3f{fx:Fx}{f:List vX}{n1 n2:Nat}{id:Nat}{a:Option (Nat×Nat×Nat)}{w:Bool}(hF:vY fx)(hc:eZ n1 fx.fp n2 f)(hm:(id,a,w)∈f):fx.kill≠some id:=by
 intro e
 exact hc.1 (id,none,true) (hF.2.2.1 id e) (id,a,w) hm rfl (.inl rfl)
theorem uQ(es:List (List AV))(i k:Nat)(cs:List AV)(j:Nat):(es.modify i (fun e=>u2 e k cs))[j]?=if i=j then(es[j]?).map (fun e=>u2 e k cs)else es[j]?:=by
 rw[List.getElem?_modify]
 cases es[j]? with
 |none=>simp
 |some e=>by_cases h:i=j<;>simp [h]
theorem sS{fx:Fx}{f:List vX}{n1 n2:Nat}{h:Nat→RS}(hF:vY fx)(hl:fx.new.length≤8)(hc:eZ n1 fx.fp n2 f):pX f (fx.heap n1 h) h:=by
 rintro⟨id,a,w⟩ hm
 have hnew:=hc.2.2.1 _ hm
 simp only at hnew⊢
 unfold Fx.heap
 rw[if_neg (by omega),if_neg (b3f hF hc hm)]
 cases hr:h id with
 |live r=>
  simp only
  have hfro:E7 fx.fro id r.fro=r.fro:=cP (b5S hF hc hm) _
  cases hw:fx.wr with
  |none=>
   have:fx.row id r=r:=by simp only[Fx.row,hw,eU,hfro]
   rw[this];exact aR _ _
  |some p=>
   obtain⟨id',i,k,cs⟩:=p
   by_cases he:id'=id
   ·subst he
    have hd:∃i' lo hi,a=some (i',lo,hi)∧(i≠i'∨k+cs.length≤lo∨hi≤k):=by
     rcases hF.1 _ _ _ _ hw with g|g
     ·exact absurd (hc.1 _ g _ hm rfl (.inl rfl)) (by cases a<;>simp [a0G])
     ·have:=hc.1 _ g _ hm rfl (.inl rfl)
      cases a with
      |none=>simp [a0G]at this
      |some q=>obtain⟨i',lo,hi⟩:=q;exact⟨i',lo,hi,rfl,this⟩
    obtain⟨i',lo,hi,rfl,hd⟩:=hd
    simp only[Fx.row,hw,eU,if_true,hfro,Q6,List.length_modify,true_and]
    intro k' h1 h2
    simp only[lA,uQ]
    by_cases hi2:i=i'
    ·subst hi2
     rw[if_pos rfl]
     cases r.es[i]? with
     |none=>rfl
     |some e=>
      simp only[Option.map_some,Option.bind_some,gG]
      rw[if_neg (by omega)]
    ·rw[if_neg hi2]
   ·have:fx.row id r=r:=by simp only[Fx.row,hw,eU,if_neg he,hfro]
    rw[this];exact aR _ _
 |_=>exact aR _ _
theorem a4k(e:List AV){k k':Nat}{cs cs':List AV}(h:k+cs.length≤k'∨k'+cs'.length≤k):u2 (u2 e k cs) k' cs'=u2 (u2 e k' cs') k cs:=by
 apply List.ext_getElem?
 intro j
 simp only[gG,lS]
 by_cases h1:k≤j∧j<k+cs.length
 ·rw[if_pos h1,if_neg (by omega),if_pos h1]
 ·rw[if_neg h1,if_neg h1]
theorem a9y{fx1 fx2:Fx}{n1 n2 id:Nat}(h1:vY fx1)(h2:vY fx2)(hc:eZ n1 fx1.fp n2 fx2.fp)(es:List (List AV)):eU fx1.wr id (eU fx2.wr id es)=eU fx2.wr id (eU fx1.wr id es):=by
 cases hw1:fx1.wr with
 |none=>rfl
 |some p=>
  cases hw2:fx2.wr with
  |none=>rfl
  |some q=>
   obtain⟨a,i,k,cs⟩:=p
   obtain⟨a',i',k',cs'⟩:=q
   simp only[eU]
   by_cases e1:a=id<;>by_cases e2:a'=id<;>simp only[e1,e2,if_true,if_false]
   subst e1
   subst e2
   have hd:i≠i'∨k+cs.length≤k'∨k'+cs'.length≤k:=by
    rcases h1.1 _ _ _ _ hw1 with g|g<;>rcases h2.1 _ _ _ _ hw2 with g'|g'
    all_goals
     have:=hc.1 _ g _ g' rfl (.inl rfl)
     simp only[a0G]at this
    exact this
   apply List.ext_getElem?
   intro j
   simp only[uQ]
   by_cases e1:i=j<;>by_cases e2:i'=j<;>simp only[e1,e2,if_true,if_false]
   subst e1
   subst e2
   cases es[i']? with
   |none=>rfl
   |some e=>
    simp only[Option.map_some,Option.some.injEq]
    exact(a4k e (by rcases hd with hd|hd|hd;exact absurd rfl hd;exact .inl hd;exact .inr hd)).symm
def a0x(fx:Fx)(id:Nat)(x:RS):RS:=
 if fx.kill=some id then .gone else match x with
  | .live r=> .live (fx.row id r)
  |x=>x
theorem eH{fx:Fx}{n id:Nat}(g:Nat→RS)(h:¬(n≤id∧id<n+fx.new.length)):fx.heap n g id=a0x fx id (g id):=by
 unfold Fx.heap a0x
 rw[if_neg h]
 cases g id<;>rfl
theorem a8B{fx1 fx2:Fx}{n1 n2:Nat}{h:Nat→RS}(h1:vY fx1)(h2:vY fx2)(l1:fx1.new.length≤8)(l2:fx2.new.length≤8)(hc:eZ n1 fx1.fp n2 fx2.fp):fx1.heap n1 (fx2.heap n2 h)=fx2.heap n2 (fx1.heap n1 h):=by
 have hc':eZ n2 fx2.fp n1 fx1.fp:=by
  have:=qJ (e1:=some (n1,fx1)) (e2:=some (n2,fx2)) hc
  exact this
 have key:∀{fx1 fx2:Fx} {n1 n2:Nat},vY fx2→fx1.new.length≤8→fx2.new.length≤8→eZ n1 fx1.fp n2 fx2.fp→∀id,(n1≤id∧id<n1+fx1.new.length)→fx1.heap n1 (fx2.heap n2 h) id=fx2.heap n2 (fx1.heap n1 h) id:=by
  intro fx1 fx2 n1 n2 h2 l1 l2 hc id hin
  have hnot:∀p∈fx2.fp,p.1≠id:=fun p hp e=>hc.2.2.1 p hp (by rw[e];omega)
  have e1:∀g,fx1.heap n1 g id= .live (fx1.new.getD (id-n1) ⟨0,[],0⟩):=fun g=>by unfold Fx.heap;rw[if_pos hin]
  rw[e1]
  have hd:=hc.2.2.2
  have hk:fx2.kill≠some id:=fun e=>hnot _ (h2.2.2.1 id e) rfl
  rw[eH _ (by omega),e1]
  simp only[a0x,if_neg hk,Fx.row]
  have hfro:∀m,E7 fx2.fro id m=m:=cP fun p hp e=>hnot _ (h2.2.1 p hp) e
  have hwr:∀es,eU fx2.wr id es=es:=by
   intro es
   cases hw:fx2.wr with
   |none=>rfl
   |some p=>
    obtain⟨a,i,k,cs⟩:=p
    simp only[eU]
    rw[if_neg]
    intro e
    rcases h2.1 _ _ _ _ hw with g|g<;>exact hnot _ g e
  simp only[hfro,hwr]
 funext id
 by_cases c1:n1≤id∧id<n1+fx1.new.length
 ·exact key h2 l1 l2 hc id c1
 ·by_cases c2:n2≤id∧id<n2+fx2.new.length
  ·exact(key h1 l2 l1 hc' id c2).symm
  ·rw[eH _ c1,eH _ c2,eH _ c2,eH _ c1]
   by_cases k1:fx1.kill=some id<;>by_cases k2:fx2.kill=some id
   ·simp only[a0x,if_pos k1,if_pos k2]
   ·simp only[a0x,if_pos k1,if_neg k2]
   ·simp only[a0x,if_neg k1,if_pos k2]
   ·simp only[a0x,if_neg k1,if_neg k2]
    cases h id with
    |live r=>
     simp only[Fx.row,a9y h1 h2 hc]
     congr 2
     by_cases hx:∃p∈fx1.fro,p.1=id
     ·obtain⟨p,hp,e⟩:=hx
      have:∀q∈fx2.fro,q.1≠id:=fun q hq e'=>hc.1 _ (h1.2.1 p hp) _ (h2.2.1 q hq) (by rw[e,e']) (.inl rfl)
      rw[cP this,cP this]
     ·have:∀q∈fx1.fro,q.1≠id:=fun q hq e'=>hx ⟨q,hq,e'⟩
      rw[cP this,cP this]
    |_=>rfl
section
def bC(o:Oper)(e:pW)(s:St):St:=
 match e with
 |some (nid,fx)=>s.cE o.dst nid fx
 |none=>s.put o.dst AV.jN
def gA(ops:Array Oper)(o:Oper)(s:St):Option Bool:=
 match o.guard with
 |none=>some true
 |some (j,want)=>match(ops[j]?).bind (·.dst)with
  |some d=>match s.t d with
   | .v (.bool b)=>some (b==want)
   | .v (.tuple cs)=>if cs.isEmpty=true then some false else none
   |_=>none
  |none=>none
def YE(P:Program)[j9 P](ops:Array Oper)(o:Oper)(s:St)(e:pW):Prop:=
 L3 s o.dst∧match e with
  |some (nid,fx)=>gA ops o s=some true∧ex P o s nid fx∧∀k,k<8→s.h (nid+k)= .free
  |none=>gA ops o s=some false
theorem b5K(o:Oper)(e:pW)(s:St):(bC o e s).n=s.n:=by
 cases e with
 |none=>cases h:o.dst<;>simp [bC,St.put,h]
 |some p=>cases h:o.dst<;>simp [bC,St.cE,St.put,h]
theorem yZ{o o':Oper}{e:pW}{s:St}:L3 (bC o e s) o'.dst↔L3 s o'.dst:=by
 cases o'.dst<;>simp [L3,b5K]
theorem a98{o:Oper}{e:pW}{s:St}{t:Tmp}(h:o.dst≠some t):(bC o e s).t t=s.t t:=by
 cases e with
 |none=>
  simp only[bC,St.put]
  cases hd:o.dst with
  |none=>rfl
  |some d=>simp only;rw[if_neg];intro e;apply h;rw[hd,e]
 |some p=>
  simp only[bC,St.cE,St.put]
  cases hd:o.dst with
  |none=>rfl
  |some d=>simp only;rw[if_neg];intro e;apply h;rw[hd,e]
theorem rC{ops:Array Oper}{o o':Oper}{e:pW}{s:St}(h:∀d,o.dst=some d→d∉o'.looksAt ops):∀x∈o'.op.operands,(bC o e s).ev x=s.ev x:=by
 intro x hx
 cases x with
 |tmp t=>
  simp only[St.ev]
  refine a98 fun hd=>h t hd ?_
  exact List.mem_append_left _ (List.mem_filterMap.2 ⟨.tmp t,by simpa using hx,rfl⟩)
 |_=>rfl
theorem a0y{ops:Array Oper}{o o':Oper}{e:pW}{s:St}(h:∀d,o.dst=some d→d∉o'.looksAt ops):gA ops o' (bC o e s)=gA ops o' s:=by
 unfold gA
 cases hg:o'.guard with
 |none=>rfl
 |some p=>
  obtain⟨j,want⟩:=p
  simp only
  cases hd:(ops[j]?).bind (·.dst)with
  |none=>rfl
  |some d=>
   simp only
   rw[a98]
   intro e
   exact h d e (by simp [Oper.looksAt,hg,hd])
theorem kG(s:St)(d1 d2:Option Tmp)(x y:AV)(h:∀d,d1=some d→d2≠some d):(s.put d1 x).put d2 y=(s.put d2 y).put d1 x:=by
 cases d1 with
 |none=>rfl
 |some a=>
  cases d2 with
  |none=>rfl
  |some b=>
   have hne:a≠b:=fun e=>h a rfl (by rw[e])
   simp only[St.put]
   congr 1
   funext t
   by_cases h1:t=a
   ·have h2:¬t=b:=fun e=>hne (h1.symm.trans e)
    rw[if_neg h2,if_pos h1,if_pos h1]
   ·by_cases h2:t=b
    ·rw[if_pos h2,if_neg h1,if_pos h2]
    ·rw[if_neg h2,if_neg h1,if_neg h1,if_neg h2]
section
variable {P:Program} {ops:Array Oper}
theorem b63[j9 P]{o:Oper}{s:St}{nid:Nat}{fx:Fx}(h:ex P o s nid fx):vY fx∧fx.new.length≤8:=⟨b62 h,(b0I h).1⟩
def EOK(e:pW):Prop:=match e with
 |some (_,fx)=>vY fx∧fx.new.length≤8
 |none=>True
theorem YE.ok[j9 P]{o:Oper}{s:St}{e:pW}(h:YE P ops o s e):EOK e:=by
 cases e with
 |none=>trivial
 |some p=>exact b63 h.2.2.1
theorem a4B{fp:List vX}{h h':Nat→RS}(ha:pX fp h h'):pX fp h' h:=by
 intro p hp
 have:=ha p hp
 generalize p.2.1=a at this⊢
 generalize h p.1=x at this⊢
 generalize h' p.1=y at this⊢
 cases a with
 |none=>exact this.symm
 |some q=>
  cases x<;>cases y<;>simp only[Q6]at this⊢<;>first|exact this.symm|(cases this;done)|exact⟨this.1.symm,this.2.1.symm,this.2.2.1.symm,fun k h1 h2=>(this.2.2.2 k h1 h2).symm⟩
theorem YE.before[j9 P]{oi oj:Oper}{s:St}{ei ej:pW}(hei:EOK ei)(hap:∀d,oi.dst=some d→d∉oj.looksAt ops)(hc:dK ei ej)(h:YE P ops oj (bC oi ei s) ej):YE P ops oj s ej:=by
 obtain⟨h1,h2⟩:=h
 refine⟨yZ.1 h1,?_⟩
 cases ej with
 |none=>simp only at h2⊢;rw[a0y hap]at h2;exact h2
 |some p=>
  obtain⟨n2,f2⟩:=p
  simp only at h2⊢
  obtain⟨g1,g2,g3⟩:=h2
  rw[a0y hap]at g1
  cases ei with
  |none=>
   refine⟨g1,mO (s:=bC oi none s) (fun x hx=>(rC hap x hx).symm) ?_ g2,?_⟩
   ·intro p hp
    have:(bC oi none s).h=s.h:=by simp only[bC,St.put];cases oi.dst<;>rfl
    rw[this];exact aR _ _
   ·intro k hk
    have:(bC oi none s).h=s.h:=by simp only[bC,St.put];cases oi.dst<;>rfl
    rw[←this];exact g3 k hk
  |some q=>
   obtain⟨n1,f1⟩:=q
   refine⟨g1,mO (s:=bC oi (some (n1,f1)) s) (fun x hx=>(rC hap x hx).symm) ?_ g2,?_⟩
   ·exact sS hei.1 hei.2 hc
   ·intro k hk
    have:=g3 k hk
    simp only[bC,St.cE]at this
    by_cases hin:n1≤n2+k∧n2+k<n1+f1.new.length
    ·have:=hc.2.2.2;have:=hei.2;omega
    ·rw[eH _ hin]at this
     unfold a0x at this
     split at this
     ·cases this
     ·split at this
      ·cases this
      ·exact this
theorem YE.behind[j9 P]{oi oj:Oper}{s:St}{ei ej:pW}(hej:EOK ej)(hap:∀d,oj.dst=some d→d∉oi.looksAt ops)(hc:dK ei ej)(h:YE P ops oi s ei):YE P ops oi (bC oj ej s) ei:=by
 obtain⟨h1,h2⟩:=h
 refine⟨yZ.2 h1,?_⟩
 have hc':=qJ hc
 cases ei with
 |none=>simp only at h2⊢;rw[a0y hap];exact h2
 |some p=>
  obtain⟨n1,f1⟩:=p
  simp only at h2⊢
  obtain⟨g1,g2,g3⟩:=h2
  rw[a0y hap]
  cases ej with
  |none=>
   have hh:(bC oj none s).h=s.h:=by simp only[bC,St.put];cases oj.dst<;>rfl
   refine⟨g1,mO (s:=s) (rC hap) (fun p hp=>by rw[hh];exact aR _ _) g2,fun k hk=>by rw[hh];exact g3 k hk⟩
  |some q=>
   obtain⟨n2,f2⟩:=q
   refine⟨g1,mO (s:=s) (rC hap) (a4B (sS hej.1 hej.2 hc')) g2,fun k hk=>?_⟩
   simp only[bC,St.cE]
   have hin:¬(n2≤n1+k∧n1+k<n2+f2.new.length):=by have:=hc.2.2.2;have:=hej.2;omega
   rw[eH _ hin,g3 k hk]
   unfold a0x
   rw[if_neg]
   intro e
   exact hc.2.2.1 _ (hej.1.2.2.1 _ e) (by simp only;omega)
theorem a7T{oi oj:Oper}{s:St}{ei ej:pW}(hei:EOK ei)(hej:EOK ej)(hd:∀d,oi.dst=some d→oj.dst≠some d)(hc:dK ei ej):bC oj ej (bC oi ei s)=bC oi ei (bC oj ej s):=by
 cases ei with
 |none=>
  cases ej with
  |none=>exact kG _ _ _ _ _ hd
  |some q=>
   obtain⟨n2,f2⟩:=q
   have:=kG s oi.dst oj.dst AV.jN f2.val hd
   have hh:(s.put oi.dst AV.jN).h=s.h:=by simp only[St.put];cases oi.dst<;>rfl
   simp only[bC,St.cE,hh]
   have e1:({(s.put oi.dst AV.jN).put oj.dst f2.val with h:=f2.heap n2 s.h}:St)={(s.put oj.dst f2.val).put oi.dst AV.jN with h:=f2.heap n2 s.h}:=by rw[this]
   refine e1.trans ?_
   cases oi.dst<;>rfl
 |some p=>
  obtain⟨n1,f1⟩:=p
  cases ej with
  |none=>
   have:=kG s oi.dst oj.dst f1.val AV.jN hd
   have hh:(s.put oj.dst AV.jN).h=s.h:=by simp only[St.put];cases oj.dst<;>rfl
   simp only[bC,St.cE,hh]
   have e1:({(s.put oj.dst AV.jN).put oi.dst f1.val with h:=f1.heap n1 s.h}:St)={(s.put oi.dst f1.val).put oj.dst AV.jN with h:=f1.heap n1 s.h}:=by rw[this]
   refine Eq.trans ?_ e1.symm
   cases oj.dst<;>rfl
  |some q=>
   obtain⟨n2,f2⟩:=q
   have h1:=kG s oi.dst oj.dst f1.val f2.val hd
   have h2:=a8B (h:=s.h) hei.1 hej.1 hei.2 hej.2 hc
   simp only[bC,St.cE,St.b4x]
   rw[h1,h2]
def a7S(P:Program)[j9 P](ops:Array Oper)(E:Nat→pW)(Q:St→Prop):Nat→Array Bool→St→Prop
 |0,listed,s=>Region.ready .any ops listed=[]∧Q s
 |fuel+1,listed,s=>(Region.ready .any ops listed=[]→Q s)∧
  ∀i∈Region.ready .any ops listed,∃o,ops[i]?=some o∧YE P ops o s (E i)∧a7S P ops E Q fuel (listed.setIfInBounds i true) (bC o (E i) s)
def gS(ops:Array Oper)(listed:Array Bool):Prop:=∀k,listed.getD k false=true→∀o,ops[k]?=some o→∀e∈o.after,Region.binds .any e=true→listed.getD e.on false=true
theorem lC{listed:Array Bool}{i:Nat}(hc:gS ops listed)(hi:i∈Region.ready .any ops listed):gS ops (listed.setIfInBounds i true):=by
 intro k hk o ho e he hb
 by_cases hki:k=i
 ·subst hki
  obtain⟨_,o',ho',hall⟩:=mem_ready.1 hi
  rw[ho]at ho'
  cases ho'
  exact getD_set_true (hall e he hb)
 ·rw[getD_set_ne false (Ne.symm hki)]at hk
  exact getD_set_true (hc k hk o ho e he hb)
theorem a4D [j9 P] {E:Nat→pW} {Q:St→Prop} {D:Nat→Nat→Prop} (hD:∀listed,gS ops listed→∀k,listed.getD k false=true→∀i,D i k→listed.getD i false=true) (hD1:∀i j o,ops[j]?=some o→D i j→∃e∈o.after,Region.binds .any e=true∧(e.on=i∨D i e.on))
  {i:Nat} {oi:Oper} (hi:ops[i]?=some oi):
  ∀(fuel:Nat) (listed:Array Bool) (s:St),gS ops listed→
   (∀j oj,ops[j]?=some oj→j≠i→listed.getD j true=false→(∀e∈oj.after,Region.binds .any e=true→e.on≠i)→oi.apart ops oj=true)→
   (∀j oj,ops[j]?=some oj→j≠i→listed.getD j true=false→¬D i j→dK (E i) (E j))→
   i∈Region.ready .any ops listed→YE P ops oi s (E i)→
   a7S P ops E Q fuel (listed.setIfInBounds i true) (bC oi (E i) s)→a7S P ops E Q (fuel+1) listed s:=by
 intro fuel
 induction fuel with
 |zero=>
  intro listed s _ _ _ hr hy H
  refine⟨fun h=>(by rw[h]at hr;cases hr),fun j hj=>?_⟩
  by_cases hji:j=i
  ·subst hji;exact⟨oi,hi,hy,H⟩
  ·have:=ready_mono hj hji
   rw[H.1]at this
   cases this
 |succ fuel ih=>
  intro listed s oH hfree hmem hr hy H
  refine⟨fun h=>(by rw[h]at hr;cases hr),fun j hj=>?_⟩
  by_cases hji:j=i
  ·subst hji;exact⟨oi,hi,hy,H⟩
  ·obtain⟨oj,hoj,hyj,hrest⟩:=H.2 j (ready_mono hj hji)
   obtain⟨hjun,oj',hoj',hall⟩:=mem_ready.1 hj
   rw[hoj]at hoj'
   cases hoj'
   have hiun:=(mem_ready.1 hr).1
   have hun:listed.getD i false=false:=by
    rcases Nat.lt_or_ge i listed.size with h'|h'
    ·simp [h']at hiun⊢;exact hiun
    ·simp [Array.getElem?_eq_none h']at hiun
   have hnot:∀e∈oj.after,Region.binds .any e=true→e.on≠i:=fun e he hb heq=>by
    have h1:=hall e he hb
    rw[heq,hun]at h1
    cases h1
   have hnD:¬D i j:=by
    intro hd
    obtain⟨e,he,hb,h1⟩:=hD1 i j oj hoj hd
    rcases h1 with h1|h1
    ·exact hnot e he hb h1
    ·have:=hD listed oH e.on (hall e he hb) i h1
     rw[hun]at this
     cases this
   obtain⟨a1,a2,a3⟩:=Oper.apart_spec (hfree j oj hoj hji hjun hnot)
   have hcf:=hmem j oj hoj hji hjun hnD
   have hyj':YE P ops oj s (E j):=YE.before hy.ok a1 hcf hyj
   refine⟨oj,hoj,hyj',?_⟩
   refine ih (listed.setIfInBounds j true) _ (lC oH hj) ?_ ?_ (ready_mono hr (Ne.symm hji)) (YE.behind hyj.ok a3 hcf hy) ?_
   ·intro k ok hk hki hku hno
    refine hfree k ok hk hki ?_ hno
    by_cases hjk:j=k
    ·subst hjk;exact hjun
    ·rw[getD_set_ne true hjk]at hku;exact hku
   ·intro k ok hk hki hku hno
    refine hmem k ok hk hki ?_ hno
    by_cases hjk:j=k
    ·subst hjk;exact hjun
    ·rw[getD_set_ne true hjk]at hku;exact hku
   ·rw[Array.setIfInBounds_comm _ _ hji,←a7T hy.ok hyj.ok a2 hcf]
    exact hrest
end
end
section
def uM(acc:List Nat)(o:Oper):Nat:=o.after.toList.foldl (fun s e=>if Region.binds .any e then s|||2^e.on|||acc.getD e.on 0 else s) 0
def Q9:List Oper→List Nat→List Nat
 |[],acc=>acc
 |o::l,acc=>Q9 l (acc++[uM acc o])
theorem a5u{acc:List Nat}{o:Oper}{i:Nat}(h:(uM acc o).testBit i=true):∃e∈o.after,Region.binds .any e=true∧(e.on=i∨(acc.getD e.on 0).testBit i=true):=by
 have key:∀(l:List Edge) (s:Nat),(l.foldl (fun s e=>if Region.binds .any e then s|||2^e.on|||acc.getD e.on 0 else s) s).testBit i=true→s.testBit i=true∨∃e∈l,Region.binds .any e=true∧(e.on=i∨(acc.getD e.on 0).testBit i=true):=by
  intro l
  induction l with
  |nil=>intro s h;exact .inl h
  |cons e l ih=>
   intro s h
   simp only[List.foldl_cons]at h
   rcases ih _ h with h1|⟨e',h1,h2⟩
   ·split at h1
    ·rename_i hb
     simp only[Nat.testBit_or,Bool.or_eq_true,Nat.testBit_two_pow,decide_eq_true_eq]at h1
     rcases h1 with(h1|h1)|h1
     ·exact .inl h1
     ·exact .inr ⟨e,by simp,hb,.inl h1⟩
     ·exact .inr ⟨e,by simp,hb,.inr h1⟩
    ·exact .inl h1
   ·exact .inr ⟨e',by simp [h1],h2⟩
 rcases key _ _ h with h|⟨e,h1,h2⟩
 ·simp at h
 ·exact⟨e,by simpa using h1,h2⟩
theorem uN:∀(l:List Oper) (acc:List Nat),(Q9 l acc).take acc.length=acc∧(Q9 l acc).length=acc.length+l.length∧∀(i:Nat) o,l[i]?=some o→(Q9 l acc)[acc.length+i]?=some (uM ((Q9 l acc).take (acc.length+i)) o):=by
 intro l
 induction l with
 |nil=>intro acc;simp [Q9]
 |cons o l ih=>
  intro acc
  obtain⟨h1,h2,h3⟩:=ih (acc++[uM acc o])
  simp only[List.length_append,List.length_singleton]at h1 h2 h3
  simp only[Q9]
  have ht:(Q9 l (acc++[uM acc o])).take acc.length=acc:=by
   have:=congrArg (List.take acc.length) h1
   rw[List.take_take,Nat.min_eq_left (by omega)]at this
   rw[this];simp
  refine⟨ht,by rw[h2];simp;omega,fun i o' ho=>?_⟩
  cases i with
  |zero=>
   simp at ho
   subst ho
   rw[Nat.add_zero,ht]
   have:=congrArg (fun l=>l[acc.length]?) h1
   simp only[List.getElem?_take]at this
   rw[if_pos (by omega)]at this
   rw[this];simp
  |succ i=>
   simp at ho
   have:=h3 i o' ho
   rw[show acc.length+(i+1)=acc.length+1+i from by omega]
   exact this
def qR(tab:List Nat)(i j:Nat):Prop:=(tab.getD j 0).testBit i=true
theorem b5P{l:List Oper}{i j:Nat}{o:Oper}(ho:l[j]?=some o)(h:qR (Q9 l []) i j):∃e∈o.after,Region.binds .any e=true∧(e.on=i∨(e.on<j∧qR (Q9 l []) i e.on)):=by
 obtain⟨_,h2,h3⟩:=uN l []
 have:=h3 j o ho
 simp only[List.length_nil,Nat.zero_add]at this
 unfold qR at h
 rw[List.getD_eq_getElem?_getD,this,Option.getD_some]at h
 obtain⟨e,he,hb,h4⟩:=a5u h
 refine⟨e,he,hb,?_⟩
 rcases h4 with h4|h4
 ·exact .inl h4
 ·refine .inr ?_
  rw[List.getD_eq_getElem?_getD,List.getElem?_take]at h4
  split at h4
  ·rename_i hlt
   exact⟨hlt,by unfold qR;rw[List.getD_eq_getElem?_getD];exact h4⟩
  ·simp at h4
theorem b6U{l:List Oper}{listed:Array Bool}(hc:gS l.toArray listed):∀k,listed.getD k false=true→∀i,qR (Q9 l []) i k→listed.getD i false=true:=by
 intro k
 induction k using Nat.strongRecOn with
 |_ k ih=>
  intro hk i hd
  cases ho:l[k]? with
  |none=>
   obtain⟨_,h2,_⟩:=uN l []
   unfold qR at hd
   rw[List.getD_eq_getElem?_getD,List.getElem?_eq_none (by rw[h2];simpa using ho)]at hd
   simp at hd
  |some o=>
   obtain⟨e,he,hb,h1⟩:=b5P ho hd
   have hl:=hc k hk o (by simpa using ho) e he hb
   rcases h1 with rfl|⟨hlt,h1⟩
   ·exact hl
   ·exact ih e.on hlt hl i h1
section
variable {P:Program}
def oL(P:Program)[j9 P](ops:Array Oper):List Oper→St→List pW→St→Prop
 |[],s,[],s'=>s=s'
 |o::l,s,e::es,s'=>YE P ops o s e∧oL P ops l (bC o e s) es s'
 |_,_,_,_=>False
theorem sV[j9 P]{L:List Oper}{E:Nat→pW}{Q:St→Prop}(hmem:∀i j,i<j→j<L.length→¬qR (Q9 L []) i j→dK (E i) (E j)):
  ∀(l:List Oper) (k:Nat) (listed:Array Bool) (s s':St) (es:List pW),(∀j,l[j]?=L.toArray[k+j]?)→gS L.toArray listed→(∀j,listed.getD j true=false→k≤j)→Region.lexFrom .any L.toArray l.length k listed=true→
   (∀j:Nat,j<es.length→E (k+j)=es.getD j none)→oL P L.toArray l s es s'→Q s'→a7S P L.toArray E Q l.length listed s
 |[],k,listed,s,s',es,_,_,_,hB,_,hR,hQ=>by
  cases es with
  |nil=>simp only[oL]at hR;subst hR;exact⟨by simpa[Region.lexFrom]using hB,hQ⟩
  |cons e es=>simp [oL]at hR
 |o::l,k,listed,s,s',es,hl,oH,hlist,hB,hE,hR,hQ=>by
  have h0:L.toArray[k]?=some o:=by simpa using(hl 0).symm
  simp only[List.length_cons,Region.lexFrom,Bool.and_eq_true]at hB
  obtain⟨⟨hr,hf⟩,hB'⟩:=hB
  cases es with
  |nil=>simp [oL]at hR
  |cons e es=>
   obtain⟨hy,hR⟩:=hR
   have hEk:E k=e:=by simpa using hE 0 (by simp)
   have hr':k∈Region.ready .any L.toArray listed:=by simpa using hr
   refine a4D (D:=qR (Q9 L [])) (fun listed hc k hk i hd=>b6U hc k hk i hd) (fun i j o ho hd=>?_) h0 l.length listed s oH (Region.free_spec h0 hf) ?_ hr' (by rw[hEk];exact hy) ?_
   ·obtain⟨e,he,hb,h1⟩:=b5P (by simpa using ho) hd
    exact⟨e,he,hb,h1.imp id (·.2)⟩
   ·intro j oj hj hne hun hnd
    have hkj:=hlist j hun
    have hjl:j<L.length:=by simpa using(Array.getElem?_eq_some_iff.1 hj).1
    exact hmem k j (by omega) hjl hnd
   ·rw[hEk]
    refine sV hmem l (k+1) _ _ s' es (fun j=>by have:=hl (j+1);simpa[Nat.add_assoc,Nat.add_comm 1 j]using this) (lC oH hr') ?_ hB' ?_ hR hQ
    ·intro j hj
     by_cases hjk:k=j
     ·subst hjk
      have hlt:k<listed.size:=by
       have h1:=(mem_ready.1 hr').1
       rcases Nat.lt_or_ge k listed.size with h'|h'
       ·exact h'
       ·simp [Array.getElem?_eq_none h']at h1
      simp [hlt]at hj
     ·rw[getD_set_ne true hjk]at hj
      have:=hlist j hj
      omega
    ·intro j hj
     have:=hE (j+1) (by simp;omega)
     simp only[List.getD_cons_succ]at this
     rw[←this];congr 1;omega
section
variable {G:Gh} {M0:Nat→Nat→Prop} {w0:World} {s:St} {ρ:Nat→Option (Nat×Nat×Nat)} {a:Act} {w:World} {Q':Exit→Act→World→Prop} {ops:Array Oper}
theorem a61(R:Rel G M0 w0 s ρ a w){o:Oper}{b:Bool}(h:gA ops o s=some b):Region.wanted o (yielded ops a.tmps)=b:=by
 unfold gA at h
 unfold Region.wanted
 cases hg:o.guard with
 |none=>rw[hg]at h;simpa using h
 |some p=>
  obtain⟨j,want⟩:=p
  rw[hg]at h
  simp only at h⊢
  split at h
  ·rename_i d hd
   split at h
   ·rename_i c hc
    cases h
    have:=R.tm d
    rw[hc]at this
    have:=this.Y8
    have hy:yielded ops a.tmps j=some c:=by
     unfold yielded
     rw[hd]
     simp only[Option.bind_some]
     by_cases hlt:d<a.tmps.size
     ·simp [hlt]at this⊢
      rw[this]
     ·simp [hlt,undef]at this
    rw[hy]
    rfl
   ·rename_i cs ht
    split at h
    ·rename_i he
     cases h
     have e:cs= #[]:=Array.isEmpty_iff.1 he
     subst e
     have hy:yielded ops a.tmps j=none:=by
      have:=R.tm d
      rw[ht]at this
      have:=this.Y8
      unfold yielded
      rw[hd]
      simp only[Option.bind_some]
      by_cases hlt:d<a.tmps.size
      ·simp [hlt]at this⊢
       rw[this]
      ·simp [hlt]
     rw[hy]
     rfl
    ·cases h
   ·cases h
  ·cases h
theorem a4E[j9 P](m:Option Nat)(hgl:j9.ok P w0){E:Nat→pW}{Q:St→Prop}(hQ:∀s' ρ' a' w',Q s'→Rel G M0 w0 s' ρ' a' w'→Q' .normal a' w'):
  ∀(fuel:Nat) (listed:Array Bool) (s:St) (ρ:Nat→Option (Nat×Nat×Nat)) (a:Act) (w:World),Rel G M0 w0 s ρ a w→a7S P ops E Q fuel listed s→wpAnyIn (bP m) 0 P .any ops Q' fuel listed a w:=by
 intro fuel
 induction fuel with
 |zero=>intro listed s ρ a w R h;exact⟨h.1,hQ _ _ _ _ h.2 R⟩
 |succ fuel ih=>
  intro listed s ρ a w R h
  refine⟨fun h0=>hQ _ _ _ _ (h.1 h0) R,fun i hi=>?_⟩
  obtain⟨o,ho,hy,hrest⟩:=h.2 i hi
  obtain⟨hd,hy⟩:=hy
  unfold wpOpIn
  rw[ho]
  simp only
  cases hE:E i with
  |none=>
   rw[hE]at hy hrest
   simp only at hy
   rw[a61 R hy,if_neg (by simp)]
   exact⟨fun f _=>jG m f,ih _ _ _ _ _ (R.pure hd (.v _)) hrest⟩
  |some p=>
   obtain⟨nid,fx⟩:=p
   rw[hE]at hy hrest
   simp only at hy
   rw[a61 R hy.1,if_pos rfl]
   exact bH m (gT hy.2.1) (mP hgl R hd hy.2.2 hy.2.1 fun ρ' a' w' R'=>ih _ _ _ _ _ R' hrest)
theorem a40 [j9 P] (m:Option Nat) (hgl:j9.ok P w0) {id:Nat} {L:List Oper} {es:List pW} {s':St} (hm:P.follows .mixedOrders=true) (R:Rel G M0 w0 s ρ a w) (hB:Region.lexB .any L.toArray=true)
  (hmem:∀i j,i<j→j<L.length→¬qR (Q9 L []) i j→dK (es.getD i none) (es.getD j none)) (hR:oL P L.toArray L s es s') (hQ:∀ρ' a' w',Rel G M0 w0 s' ρ' a' w'→Q' .normal a' w'):(Code.region id L.toArray true).wpIn (bP m) 0 P Q' a w:=by
 simp only[Region.lexB,Bool.and_eq_true]at hB
 refine wpIn_region_any hm ?_
 refine a4E m hgl (E:=fun i=>es.getD i none) (Q:=fun t=>t=s') (fun s1 ρ' a' w' e R'=>by subst e;exact hQ _ _ _ R') _ _ s ρ a w.drew R.drew ?_
 have aD:L.toArray.size=L.length:=by simp
 rw[aD]at hB⊢
 refine sV hmem L 0 _ s s' es (by simp) ?_ (fun j _=>Nat.zero_le _) hB.2 (fun j hj=>by simp) hR rfl
 intro k hk
 exfalso
 simp only[Array.getD_eq_getD_getElem?,Array.getElem?_replicate]at hk
 split at hk<;>simp at hk
end
end
end
section
abbrev oJ:=List (Option (Nat×List vX))
def b0x:Option (Nat×Nat×Nat)→Option (Nat×Nat×Nat)→Bool
 |some (i,lo,hi),some (i',lo',hi')=>i !=i'||Nat.ble hi lo'||Nat.ble hi' lo
 |_,_=>false
def b0v:Option (Nat×List vX)→Option (Nat×List vX)→Bool
 |some (n1,f1),some (n2,f2)=>f1.all (fun p=>f2.all fun q=>p.1 !=q.1|| !(p.2.2||q.2.2)||b0x p.2.1 q.2.1)&&f1.all (fun p=> !(Nat.ble n2 p.1&&Nat.blt p.1 (n2+8)))&&
   f2.all (fun p=> !(Nat.ble n1 p.1&&Nat.blt p.1 (n1+8)))&&(Nat.ble (n1+8) n2||Nat.ble (n2+8) n1)
 |_,_=>true
def dI(tab:List Nat)(log:oJ):Bool:=(List.range log.length).all fun j=>(List.range j).all fun i=>(tab.getD j 0).testBit i||b0v (log.getD i none) (log.getD j none)
def aN(e:pW):Option (Nat×List vX):=e.map fun p=>(p.1,p.2.fp)
theorem b0y{a b:Option (Nat×Nat×Nat)}(h:b0x a b=true):a0G a b:=by
 cases a<;>cases b<;>simp only[b0x,a0G]at h⊢<;>try(cases h;done)
 simp at h
 omega
theorem a3b{e1 e2:pW}(h:b0v (aN e1) (aN e2)=true):dK e1 e2:=by
 cases e1<;>cases e2<;>simp only[dK]
 rename_i p q
 obtain⟨n1,f1⟩:=p
 obtain⟨n2,f2⟩:=q
 simp only[aN,Option.map_some,b0v,Bool.and_eq_true,List.all_eq_true,Bool.or_eq_true,Bool.not_eq_true',Bool.and_eq_false_iff]at h
 obtain⟨⟨⟨h1,h2⟩,h3⟩,h4⟩:=h
 refine⟨fun p hp q hq e w=>?_,fun p hp hh=>?_,fun p hp hh=>?_,?_⟩
 ·have:=h1 p hp q hq
  rcases this with(h|h)|h
  ·simp [e]at h
  ·rcases w with w|w<;>simp [w]at h
  ·exact b0y h
 ·have:=h2 p hp
  rcases this with h|h
  ·rw[Nat.ble_eq_true_of_le hh.1]at h;cases h
  ·have h5:Nat.blt p.1 (n2+8)=true:=by rw[Nat.blt_eq];exact hh.2
   rw[h5]at h;cases h
 ·have:=h3 p hp
  rcases this with h|h
  ·rw[Nat.ble_eq_true_of_le hh.1]at h;cases h
  ·have h5:Nat.blt p.1 (n1+8)=true:=by rw[Nat.blt_eq];exact hh.2
   rw[h5]at h;cases h
 ·rcases h4 with h|h
  ·exact .inl (Nat.le_of_ble_eq_true h)
  ·exact .inr (Nat.le_of_ble_eq_true h)
def eE(P:Program)[j9 P](rest:LS→oJ→(LS→Prop)→Prop)(d:Option Tmp)(s:LS)(log:oJ)(N:LS→Prop)(f:FuncId)(xs:List AV):Prop:=
 (∃n ys,xs.mapM (B7 (LS.hf s.h) n)=some ys∧∃y rows,n5 P f ys y rows∧(rows s.nx).length≤8∧
  ∃lend:Bool,(lend=true→rows s.nx=[]∧(y s.nx).flat=true)∧
  rest (s.cE d {val:=y s.nx,fp:=(xs.flatMap (b8 (LS.hf s.h) n)).map (fun p=>(p.1,none, !lend)),fro:=if lend then[]else xs.flatMap (b8 (LS.hf s.h) n),new:=rows s.nx})
   (log++[some (s.nx,(xs.flatMap (b8 (LS.hf s.h) n)).map (fun p=>(p.1,none, !lend)))]) N)∨
 ∃fx,a24 P f xs (LS.hf s.h) fx∧rest (s.cE d fx) (log++[some (s.nx,fx.fp)]) N
def D7(P:Program)[j9 P](rest:LS→oJ→(LS→Prop)→Prop)(d:Option Tmp)(s:LS)(log:oJ)(N:LS→Prop)(fv:AV)(xs:List AV):Prop:=
 match fv with
 | .fn f X2=>eE P rest d s log N f (xs++X2)
 | .mJ f cs=>eE P rest d s log N f (cs++xs)
 |_=>False
def a43(rest:LS→oJ→(LS→Prop)→Prop)(d:Option Tmp)(s:LS)(log:oJ)(N:LS→Prop):Option (Prop×Fx)→Prop
 |some (c,fx)=>c∧rest (s.cE d fx) (log++[some (s.nx,fx.fp)]) N
 |none=>False
def bL(P:Program)[j9 P](rest:LS→oJ→(LS→Prop)→Prop)(d:Option Tmp)(op:Op)(s:LS)(log:oJ)(N:LS→Prop):Prop:=
 match op with
 | .call c=>match c.callee with
  | .value fv=>D7 P rest d s log N (LS.ev s.t fv) (c.args.toList.map (LS.ev s.t))
  |_=>a43 rest d s log N (stepC P op s.t s.h s.nx)
 |op=>a43 rest d s log N (stepC P op s.t s.h s.nx)
def gdT(P:Program)[j9 P](rest:LS→oJ→(LS→Prop)→Prop)(d:Option Tmp)(op:Op)(s:LS)(log:oJ)(N:LS→Prop)(want:Bool)(g:Tmp)(b:Bool):Prop:=
 (b=want→T8 s d∧bL P rest d op (s.put (some g) (.v (.bool want))) log N)∧(b=(!want)→T8 s d∧rest ((s.put (some g) (.v (.bool (!want)))).put d AV.jN) (log++[none]) N)
def gdD(P:Program)[j9 P](rest:LS→oJ→(LS→Prop)→Prop)(d:Option Tmp)(op:Op)(s:LS)(log:oJ)(N:LS→Prop)(want:Bool)(g:Tmp):AV→Prop
 | .v (.bool b)=>gdT P rest d op s log N want g b
 | .v (.tuple cs)=>cs.isEmpty=true∧T8 s d∧rest (s.put d AV.jN) (log++[none]) N
 |_=>False
section
variable {P:Program} {rest:LS→oJ→(LS→Prop)→Prop} {d:Option Tmp} {op:Op} {s:LS} {log:oJ} {N:LS→Prop} {g:Tmp}
theorem b4k[j9 P]{want:Bool}{b:Bool}:gdD P rest d op s log N want g (.v (.bool b))=gdT P rest d op s log N want g b:=rfl
theorem a64[j9 P]{want:Bool}:gdD P rest d op s log N want g AV.jN=(T8 s d∧rest (s.put d AV.jN) (log++[none]) N):=by simp [gdD,AV.jN,undef]
theorem b0Z[j9 P]:gdT P rest d op s log N true g true=(T8 s d∧bL P rest d op (s.put (some g) (.v (.bool true))) log N):=by simp [gdT]
theorem b0W[j9 P]:gdT P rest d op s log N false g false=(T8 s d∧bL P rest d op (s.put (some g) (.v (.bool false))) log N):=by simp [gdT]
theorem b0Y[j9 P]:gdT P rest d op s log N true g false=(T8 s d∧rest ((s.put (some g) (.v (.bool false))).put d AV.jN) (log++[none]) N):=by simp [gdT]
theorem b0X[j9 P]:gdT P rest d op s log N false g true=(T8 s d∧rest ((s.put (some g) (.v (.bool true))).put d AV.jN) (log++[none]) N):=by simp [gdT]
theorem b4o[j9 P]{p:Prop}[Decidable p]:gdT P rest d op s log N true g (decide p)=((p→T8 s d∧bL P rest d op (s.put (some g) (.v (.bool true))) log N)∧(¬p→T8 s d∧rest ((s.put (some g) (.v (.bool false))).put d AV.jN) (log++[none]) N)):=by simp [gdT]
theorem b4n[j9 P]{p:Prop}[Decidable p]:gdT P rest d op s log N false g (decide p)=((p→T8 s d∧rest ((s.put (some g) (.v (.bool true))).put d AV.jN) (log++[none]) N)∧(¬p→T8 s d∧bL P rest d op (s.put (some g) (.v (.bool false))) log N)):=by
 simp only[gdT,decide_eq_false_iff_not,Bool.not_false,decide_eq_true_eq]
 exact propext And.comm
theorem a5e[j9 P]{b:Bool}(h1:b=true→T8 s d∧bL P rest d op (s.put (some g) (.v (.bool true))) log N)(h2:b=false→T8 s d∧rest ((s.put (some g) (.v (.bool false))).put d AV.jN) (log++[none]) N):gdT P rest d op s log N true g b:=⟨h1,h2⟩
theorem a5d[j9 P]{b:Bool}(h1:b=false→T8 s d∧bL P rest d op (s.put (some g) (.v (.bool false))) log N)(h2:b=true→T8 s d∧rest ((s.put (some g) (.v (.bool true))).put d AV.jN) (log++[none]) N):gdT P rest d op s log N false g b:=⟨h1,h2⟩
end
def lL(P:Program)[j9 P](ops:List (Option Tmp))(mk:List Nat):List Oper→LS→oJ→(LS→Prop)→Prop
 |[],s,log,N=>dI mk log=true∧N s
 |o::rest,s,log,N=>match o.guard with
  |none=>T8 s o.dst∧bL P (lL P ops mk rest) o.dst o.op s log N
  |some (j,want)=>match ops.getD j none with
   |some g=>gdD P (lL P ops mk rest) o.dst o.op s log N want g (LS.tf s.t g)
   |none=>False
section
variable {P:Program}
theorem zJ [j9 P] {ops:List Oper} {rest:List Oper} {o:Oper} {s:LS} {log:oJ} {N:LS→Prop} (hok:s.ok) (hd:T8 s o.dst) (hg:gA ops.toArray o s.n8=some true)
  (ih:∀s log N,s.ok→lL P (X9 ops) (Q9 ops []) rest s log N→∃es s',es.length=rest.length∧oL P ops.toArray rest s.n8 es s'.n8∧dI (Q9 ops []) (log++es.map aN)=true∧N s'∧s'.ok)
  (h:bL P (lL P (X9 ops) (Q9 ops []) rest) o.dst o.op s log N):
  ∃es s',es.length=rest.length+1∧oL P ops.toArray (o::rest) s.n8 es s'.n8∧dI (Q9 ops []) (log++es.map aN)=true∧N s'∧s'.ok:=by
 have fin:∀fx,ex P o s.n8 s.nx fx→lL P (X9 ops) (Q9 ops []) rest (s.cE o.dst fx) (log++[some (s.nx,fx.fp)]) N→
   ∃es s',es.length=rest.length+1∧oL P ops.toArray (o::rest) s.n8 es s'.n8∧dI (Q9 ops []) (log++es.map aN)=true∧N s'∧s'.ok:=by
  intro fx hx h
  obtain⟨h1,h2⟩:=sW hok (dU hd) hx
  obtain⟨es,s',g1,g2,g3,g4,g5⟩:=ih _ _ _ h2 h
  refine⟨some (s.nx,fx)::es,s',by simp [g1],⟨⟨dU hd,hg,hx,fun k _=>LS.free hok (by omega)⟩,?_⟩,?_,g4,g5⟩
  ·rw[h1]at g2;exact g2
  ·simpa[aN]using g3
 have fin2:a43 (lL P (X9 ops) (Q9 ops []) rest) o.dst s log N (stepC P o.op s.t s.h s.nx)→
   ∃es s',es.length=rest.length+1∧oL P ops.toArray (o::rest) s.n8 es s'.n8∧dI (Q9 ops []) (log++es.map aN)=true∧N s'∧s'.ok:=by
  intro h
  cases hst:stepC P o.op s.t s.h s.nx with
  |none=>rw[hst]at h;exact h.elim
  |some p=>
   obtain⟨c,fx⟩:=p
   rw[hst]at h
   exact fin fx (qQ hst h.1) h.2
 unfold bL at h
 split at h
 ·rename_i c ho
  split at h
  ·rename_i fv hfv
   have key:∀f zs,gP (LS.ev s.t fv) (c.args.toList.map (LS.ev s.t))=some (f,zs)→eE P (lL P (X9 ops) (Q9 ops []) rest) o.dst s log N f zs→
     ∃es s',es.length=rest.length+1∧oL P ops.toArray (o::rest) s.n8 es s'.n8∧dI (Q9 ops []) (log++es.map aN)=true∧N s'∧s'.ok:=by
    intro f zs hf h
    have e:s.n8.ev=LS.ev s.t:=funext fun x=>LS.iZ s x
    rcases h with⟨n,ys,h1,y,rows,h2,h3,lend,hlend,h4⟩|⟨fx,hX,h4⟩
    ·refine fin _ ?_ h4
     unfold ex
     rw[ho]
     simp only[hfv]
     rw[e]
     exact .inl ⟨f,zs,hf,n,ys,h1,y,rows,h2,h3,lend,hlend,rfl⟩
    ·refine fin fx ?_ h4
     unfold ex
     rw[ho]
     simp only[hfv]
     rw[e]
     exact .inr ⟨f,zs,hf,hX⟩
   unfold D7 at h
   split at h
   ·rename_i f X2 hf;exact key _ _ (by rw[hf];rfl) h
   ·rename_i f X2 hf;exact key _ _ (by rw[hf];rfl) h
   ·exact h.elim
  ·exact fin2 h
 ·exact fin2 h
theorem vG[j9 P]{ops:List Oper}:∀(l:List Oper) (s:LS) (log:oJ) (N:LS→Prop),s.ok→lL P (X9 ops) (Q9 ops []) l s log N→
  ∃es s',es.length=l.length∧oL P ops.toArray l s.n8 es s'.n8∧dI (Q9 ops []) (log++es.map aN)=true∧N s'∧s'.ok:=by
 intro l
 induction l with
 |nil=>intro s log N hok h;exact⟨[],s,rfl,rfl,by simpa using h.1,h.2,hok⟩
 |cons o rest ih=>
  intro s log N hok h
  simp only[lL,a0o]at h
  split at h
  ·rename_i hg
   exact zJ hok h.1 (by unfold gA;rw[hg]) ih h.2
  ·rename_i j want hg
   split at h
   ·rename_i g hg2
    unfold gdD at h
    split at h
    ·rename_i b hb
     unfold gdT at h
     have hgA:gA ops.toArray o s.n8=some (b==want):=by
      unfold gA
      rw[hg]
      simp only[List.getElem?_toArray,hg2]
      have:s.n8.t g= .v (.bool b):=hb
      rw[this]
     by_cases hbw:b=want
     ·obtain⟨h1,h2⟩:=h.1 hbw
      rw[nJ (by rw[hb,hbw])]at h2
      exact zJ hok h1 (by rw[hgA,hbw];simp) ih h2
     ·have hbn:b= !want:=by cases b<;>cases want<;>simp_all
      obtain⟨h1,h2⟩:=h.2 hbn
      rw[nJ (by rw[hb,hbn])]at h2
      have hok':(s.put o.dst AV.jN).ok:=by cases hd:o.dst<;>exact hok
      obtain⟨es,s',g1,g2,g3,g4,g5⟩:=ih _ _ _ hok' h2
      refine⟨none::es,s',by simp [g1],⟨⟨dU h1,?_⟩,?_⟩,?_,g4,g5⟩
      ·simp only[hgA,hbn];cases want<;>rfl
      ·rw[LS.dF (dU h1)]at g2;exact g2
      ·simpa[aN]using g3
    ·rename_i cs hb
     obtain⟨h0,h1,h2⟩:=h
     have hgA:gA ops.toArray o s.n8=some false:=by
      unfold gA
      rw[hg]
      simp only[List.getElem?_toArray,hg2]
      have:s.n8.t g= .v (.tuple cs):=hb
      rw[this]
      simp [h0]
     have hok':(s.put o.dst AV.jN).ok:=by cases hd:o.dst<;>exact hok
     obtain⟨es,s',g1,g2,g3,g4,g5⟩:=ih _ _ _ hok' h2
     refine⟨none::es,s',by simp [g1],⟨⟨dU h1,hgA⟩,?_⟩,?_,g4,g5⟩
     ·rw[LS.dF (dU h1)]at g2;exact g2
     ·simpa[aN]using g3
    ·exact h.elim
   ·exact h.elim
theorem a6P {md:Bool} [j9 P] {id:Nat} {l:List Oper} {k:List KF} {s:LS} {K:Exit→LS→Prop} (hm:P.follows .mixedOrders=true) (hB:Region.lexB .any l.toArray=true)
  (h:∀N:LS→Prop,(∀s,Y2 (md:=md) P K k .normal s→N s)→∀mk,Q9 l []=mk→lL P (X9 l) mk l s [] N):AK (md:=md) P (.region id l.toArray true) k s K:=by
 intro m hmm G M0 w0 ρ a w Q hg R hQ
 obtain⟨es,s',h1,h2,h3,h4,h5⟩:=vG l s [] _ R.2 (h _ (fun _ k=>k) _ rfl)
 refine a40 m hg hm R.1 hB ?_ h2 fun ρ' a' w' R'=>hQ [] _ _ _ _ _ .nil h4 (by rw[aS];exact⟨R',h5⟩)
 intro i j hij hj hnd
 simp only[List.nil_append,dI,List.length_map,List.all_eq_true,List.mem_range,Bool.or_eq_true]at h3
 rcases h3 j (by omega) i hij with g|g
 ·exact absurd g hnd
 ·have e:∀i,i<es.length→(es.map aN).getD i none=aN (es.getD i none):=by
   intro i hi
   simp [List.getD_eq_getElem?_getD,hi]
  rw[e i (by omega),e j (by omega)]at g
  exact a3b g
end
section
variable {P:Program} {ops:List (Option Tmp)} {mk:List Nat} {s:LS} {log:oJ} {N:LS→Prop}
theorem a4c[j9 P]:lL P ops mk [] s log N=(dI mk log=true∧N s):=rfl
theorem a0i[j9 P]{o:Oper}{rest:List Oper}:lL P ops mk (o::rest) s log N=(match o.guard with
  |none=>T8 s o.dst∧bL P (lL P ops mk rest) o.dst o.op s log N
  |some (j,want)=>match ops.getD j none with
   |some g=>gdD P (lL P ops mk rest) o.dst o.op s log N want g (LS.tf s.t g)
   |none=>False):=rfl
theorem a0C [j9 P] {rest:LS→oJ→(LS→Prop)→Prop} {d:Option Tmp} {f:FuncId} {xs ys:List AV} {y:AV} (C:n5 P f ys (fun _=>y) (fun _=>[]))
  (h1:xs.mapM (B7 (LS.hf s.h) 6)=some ys) (h2:xs.flatMap (b8 (LS.hf s.h) 6)=[]) (h:rest (s.cE d ⟨y,[],none,[],none,[]⟩) (log++[some (s.nx,[])]) N):eE P rest d s log N f xs:=
 .inl ⟨6,ys,h1,_,_,C,Nat.zero_le 8,false,(fun h=>nomatch h),by rw[h2];exact h⟩
theorem U3 [j9 P] {rest:LS→oJ→(LS→Prop)→Prop} {d:Option Tmp} {f:FuncId} {xs ys:List AV} {y:Nat→AV} {rows:Nat→List Row} (C:n5 P f ys y rows) {ids:List (Nat×Nat)}
  (h1:xs.mapM (B7 (LS.hf s.h) 6)=some ys) (h2:xs.flatMap (b8 (LS.hf s.h) 6)=ids) (hr:(rows s.nx).length≤8)
  (h:rest (s.cE d ⟨y s.nx,ids.map (fun p=>(p.1,none,true)),none,ids,none,rows s.nx⟩) (log++[some (s.nx,ids.map (fun p=>(p.1,none,true)))]) N):eE P rest d s log N f xs:=
 .inl ⟨6,ys,h1,_,_,C,hr,false,(fun h=>nomatch h),by rw[h2];exact h⟩
theorem a2Y [j9 P] {rest:LS→oJ→(LS→Prop)→Prop} {d:Option Tmp} {f:FuncId} {xs ys:List AV} {y:AV} (C:n5 P f ys (fun _=>y) (fun _=>[])) (hy:y.flat=true) {ids:List (Nat×Nat)}
  (h1:xs.mapM (B7 (LS.hf s.h) 6)=some ys) (h2:xs.flatMap (b8 (LS.hf s.h) 6)=ids)
  (h:rest (s.cE d ⟨y,ids.map (fun p=>(p.1,none,false)),none,[],none,[]⟩) (log++[some (s.nx,ids.map (fun p=>(p.1,none,false)))]) N):eE P rest d s log N f xs:=
 .inl ⟨6,ys,h1,_,_,C,Nat.zero_le 8,true,(fun _=>⟨rfl,hy⟩),by rw[h2];exact h⟩
theorem a4M [j9 P] {rest:LS→oJ→(LS→Prop)→Prop} {d:Option Tmp} {f:FuncId} {xs:List AV} {y:AV} (C:n5 P f xs (fun _=>y) (fun _=>[]))
  (hx:xs.all (AV.fixed 6)=true) (h:rest (s.cE d ⟨y,[],none,[],none,[]⟩) (log++[some (s.nx,[])]) N):eE P rest d s log N f xs:=
 a0C C (eK (fun x hx=>(jT _ 6 x hx).1) _ hx) (aT (fun x hx=>(jT _ 6 x hx).2) _ hx) h
end
theorem b4v(x:Value):AV.one (.v x)=x.oneCell':=rfl
theorem a3U:AV.one .Z=false:=rfl
theorem a7n(cs:List AV):AV.one (.agg cs)=false:=rfl
theorem a7t(cs:List AV):AV.one (.Q0 cs)=false:=rfl
theorem a3T:AV.one .N6=true:=rfl
theorem a7p(c:Bool)(es:List (List AV)):AV.one (.c5 c es)=true:=rfl
theorem a7o(es:List (List AV))(i k:Nat):AV.one (.Z9 es i k)=true:=rfl
theorem a7q(id off n:Nat):AV.one (.own id off n)=true:=rfl
theorem a7r(id i k:Nat):AV.one (.ptr id i k)=true:=rfl
theorem a7s(id i k:Nat):AV.one (.dP id i k)=true:=rfl
theorem b1O(f:FuncId)(cs:List AV):AV.one (.fn f cs)=true:=rfl
structure aP (p:Prop):Prop where
 out:p
end
end Go.Ab
end
section
namespace Go.Proofs.YtgdoiokalfhjoaaDoor
open Go.Ab
def T3:TI:=⟨1,false,8,[(.int .i64 0)]⟩
theorem a6i:T3.size=1:=rfl
theorem a9S:T3.agg=false:=rfl
theorem a1Y:T3.bytes=8:=rfl
theorem a6j:T3.zero.map AV.J5=[.v (.int .i64 0)]:=rfl
theorem b7r:ti Tryd.prog 3=some T3:=by kernel_rfl
def T4:TI:=⟨1,false,1,[(.bool false)]⟩
theorem a6n:T4.size=1:=rfl
theorem a9T:T4.agg=false:=rfl
theorem a15:T4.bytes=1:=rfl
theorem a6o:T4.zero.map AV.J5=[.v (.bool false)]:=rfl
theorem b7s:ti Tryd.prog 4=some T4:=by kernel_rfl
def T5:TI:=⟨1,false,1,[(.int .u8 0)]⟩
theorem a6u:T5.size=1:=rfl
theorem a9U:T5.agg=false:=rfl
theorem a2g:T5.bytes=1:=rfl
theorem a6v:T5.zero.map AV.J5=[.v (.int .u8 0)]:=rfl
theorem b7t:ti Tryd.prog 5=some T5:=by kernel_rfl
def T9:TI:=⟨1,false,16,[(.string ⟨#[]⟩)]⟩
theorem a6G:T9.size=1:=rfl
theorem a9V:T9.agg=false:=rfl
theorem a2B:T9.bytes=16:=rfl
theorem a6H:T9.zero.map AV.J5=[.v (.string ⟨#[]⟩)]:=rfl
theorem b7u:ti Tryd.prog 9=some T9:=by kernel_rfl
def T21:TI:=⟨1,false,4,[(.int .i32 0)]⟩
theorem a1C:T21.size=1:=rfl
theorem a56:T21.agg=false:=rfl
theorem xJ:T21.bytes=4:=rfl
theorem a1D:T21.zero.map AV.J5=[.v (.int .i32 0)]:=rfl
theorem b42:ti Tryd.prog 21=some T21:=by kernel_rfl
def T22:TI:=⟨1,false,24,[(.slice none 0 0)]⟩
theorem a1E:T22.size=1:=rfl
theorem a57:T22.agg=false:=rfl
theorem xK:T22.bytes=24:=rfl
theorem a1F:T22.zero.map AV.J5=[.c5 true []]:=rfl
theorem b43:ti Tryd.prog 22=some T22:=by kernel_rfl
def T24:TI:=⟨1,true,24,[(.slice none 0 0)]⟩
theorem a1G:T24.size=1:=rfl
theorem a58:T24.agg=true:=rfl
theorem xL:T24.bytes=24:=rfl
theorem a1H:T24.zero.map AV.J5=[.c5 true []]:=rfl
theorem b44:ti Tryd.prog 24=some T24:=by kernel_rfl
def T26:TI:=⟨1,false,24,[(.slice none 0 0)]⟩
theorem a1I:T26.size=1:=rfl
theorem a6a:T26.agg=false:=rfl
theorem xM:T26.bytes=24:=rfl
theorem a1J:T26.zero.map AV.J5=[.c5 true []]:=rfl
theorem b45:ti Tryd.prog 26=some T26:=by kernel_rfl
def T27:TI:=⟨1,false,24,[(.slice none 0 0)]⟩
theorem a1K:T27.size=1:=rfl
theorem a6b:T27.agg=false:=rfl
theorem xN:T27.bytes=24:=rfl
theorem a1L:T27.zero.map AV.J5=[.c5 true []]:=rfl
theorem b46:ti Tryd.prog 27=some T27:=by kernel_rfl
def T28:TI:=⟨1,false,24,[(.slice none 0 0)]⟩
theorem a1M:T28.size=1:=rfl
theorem a6c:T28.agg=false:=rfl
theorem xO:T28.bytes=24:=rfl
theorem a1N:T28.zero.map AV.J5=[.c5 true []]:=rfl
theorem b47:ti Tryd.prog 28=some T28:=by kernel_rfl
def T30:TI:=⟨8,true,112,[(.int .i64 0),(.int .i64 0),(.int .i64 0),(.int .i64 0),(.int .i64 0),(.slice none 0 0),(.slice none 0 0),(.slice none 0 0)]⟩
theorem a1O:T30.size=8:=rfl
theorem a6d:T30.agg=true:=rfl
theorem xP:T30.bytes=112:=rfl
theorem a1P:T30.zero.map AV.J5=[.v (.int .i64 0),.v (.int .i64 0),.v (.int .i64 0),.v (.int .i64 0),.v (.int .i64 0),.c5 true [],.c5 true [],.c5 true []]:=rfl
theorem b48:ti Tryd.prog 30=some T30:=by kernel_rfl
def T33:TI:=⟨1,false,24,[(.slice none 0 0)]⟩
theorem a1Q:T33.size=1:=rfl
theorem a6e:T33.agg=false:=rfl
theorem xQ:T33.bytes=24:=rfl
theorem a1R:T33.zero.map AV.J5=[.c5 true []]:=rfl
theorem b49:ti Tryd.prog 33=some T33:=by kernel_rfl
def T35:TI:=⟨2,true,48,[(.slice none 0 0),(.slice none 0 0)]⟩
theorem a1S:T35.size=2:=rfl
theorem a6f:T35.agg=true:=rfl
theorem xR:T35.bytes=48:=rfl
theorem a1T:T35.zero.map AV.J5=[.c5 true [],.c5 true []]:=rfl
theorem b5a:ti Tryd.prog 35=some T35:=by kernel_rfl
def T37:TI:=⟨1,false,24,[(.slice none 0 0)]⟩
theorem a1U:T37.size=1:=rfl
theorem a6g:T37.agg=false:=rfl
theorem xS:T37.bytes=24:=rfl
theorem a1V:T37.zero.map AV.J5=[.c5 true []]:=rfl
theorem b5b:ti Tryd.prog 37=some T37:=by kernel_rfl
def T39:TI:=⟨1,true,24,[(.slice none 0 0)]⟩
theorem a1W:T39.size=1:=rfl
theorem a6h:T39.agg=true:=rfl
theorem xT:T39.bytes=24:=rfl
theorem a1X:T39.zero.map AV.J5=[.c5 true []]:=rfl
theorem b5c:ti Tryd.prog 39=some T39:=by kernel_rfl
def T40:TI:=⟨1,false,8,[(.int .i64 0)]⟩
theorem a1Z:T40.size=1:=rfl
theorem a6k:T40.agg=false:=rfl
theorem xU:T40.bytes=8:=rfl
theorem a10:T40.zero.map AV.J5=[.v (.int .i64 0)]:=rfl
theorem b5d:ti Tryd.prog 40=some T40:=by kernel_rfl
def T42:TI:=⟨10,true,144,[(.int .i64 0),(.int .i64 0),(.int .i64 0),(.int .i64 0),(.int .i64 0),(.slice none 0 0),(.slice none 0 0),(.slice none 0 0),(.slice none 0 0),(.int .i64 0)]⟩
theorem a11:T42.size=10:=rfl
theorem a6l:T42.agg=true:=rfl
theorem xV:T42.bytes=144:=rfl
theorem a12:T42.zero.map AV.J5=[.v (.int .i64 0),.v (.int .i64 0),.v (.int .i64 0),.v (.int .i64 0),.v (.int .i64 0),.c5 true [],.c5 true [],.c5 true [],.c5 true [],.v (.int .i64 0)]:=rfl
theorem b5e:ti Tryd.prog 42=some T42:=by kernel_rfl
def T48:TI:=⟨1,false,8,[(.pointer none)]⟩
theorem a13:T48.size=1:=rfl
theorem a6m:T48.agg=false:=rfl
theorem xW:T48.bytes=8:=rfl
theorem a14:T48.zero.map AV.J5=[.v (.pointer none)]:=rfl
theorem b5f:ti Tryd.prog 48=some T48:=by kernel_rfl
def T50:TI:=⟨10,true,144,[(.slice none 0 0),(.int .i64 0),(.int .i64 0),(.int .i64 0),(.int .i64 0),(.int .i64 0),(.int .i64 0),(.slice none 0 0),(.slice none 0 0),(.slice none 0 0)]⟩
theorem a16:T50.size=10:=rfl
theorem a6p:T50.agg=true:=rfl
theorem xX:T50.bytes=144:=rfl
theorem a17:T50.zero.map AV.J5=[.c5 true [],.v (.int .i64 0),.v (.int .i64 0),.v (.int .i64 0),.v (.int .i64 0),.v (.int .i64 0),.v (.int .i64 0),.c5 true [],.c5 true [],.c5 true []]:=rfl
theorem b5g:ti Tryd.prog 50=some T50:=by kernel_rfl
def T54:TI:=⟨2,true,16,[(.int .i64 0),(.int .i64 0)]⟩
theorem a18:T54.size=2:=rfl
theorem a6q:T54.agg=true:=rfl
theorem xY:T54.bytes=16:=rfl
theorem a19:T54.zero.map AV.J5=[.v (.int .i64 0),.v (.int .i64 0)]:=rfl
theorem b5h:ti Tryd.prog 54=some T54:=by kernel_rfl
def T56:TI:=⟨3,true,24,[(.int .i64 0),(.int .i64 0),(.int .i32 0)]⟩
theorem a2a:T56.size=3:=rfl
theorem a6r:T56.agg=true:=rfl
theorem xZ:T56.bytes=24:=rfl
theorem a2b:T56.zero.map AV.J5=[.v (.int .i64 0),.v (.int .i64 0),.v (.int .i32 0)]:=rfl
theorem b5i:ti Tryd.prog 56=some T56:=by kernel_rfl
def T58:TI:=⟨13,true,104,[(.int .i64 0),(.int .i64 0),(.int .i64 0),(.int .i64 0),(.int .i32 0),(.int .i64 0),(.int .i64 0),(.int .i32 0),(.int .i64 0),(.int .i64 0),(.int .i32 0),(.int .i64 0),(.int .i64 0)]⟩
theorem a2c:T58.size=13:=rfl
theorem a6s:T58.agg=true:=rfl
theorem yA:T58.bytes=104:=rfl
theorem a2d:T58.zero.map AV.J5=[.v (.int .i64 0),.v (.int .i64 0),.v (.int .i64 0),.v (.int .i64 0),.v (.int .i32 0),.v (.int .i64 0),.v (.int .i64 0),.v (.int .i32 0),.v (.int .i64 0),.v (.int .i64 0),.v (.int .i32 0),.v (.int .i64 0),.v (.int .i64 0)]:=rfl
theorem b5j:ti Tryd.prog 58=some T58:=by kernel_rfl
def T59:TI:=⟨1,false,24,[(.slice none 0 0)]⟩
theorem a2e:T59.size=1:=rfl
theorem a6t:T59.agg=false:=rfl
theorem yB:T59.bytes=24:=rfl
theorem a2f:T59.zero.map AV.J5=[.c5 true []]:=rfl
theorem b5k:ti Tryd.prog 59=some T59:=by kernel_rfl
def T61:TI:=⟨14,true,128,[(.slice none 0 0),(.int .i64 0),(.int .i64 0),(.int .i64 0),(.int .i64 0),(.int .i32 0),(.int .i64 0),(.int .i64 0),(.int .i32 0),(.int .i64 0),(.int .i64 0),(.int .i32 0),(.int .i64 0),(.int .i64 0)]⟩
theorem a2h:T61.size=14:=rfl
theorem a6w:T61.agg=true:=rfl
theorem yC:T61.bytes=128:=rfl
theorem a2i:T61.zero.map AV.J5=[.c5 true [],.v (.int .i64 0),.v (.int .i64 0),.v (.int .i64 0),.v (.int .i64 0),.v (.int .i32 0),.v (.int .i64 0),.v (.int .i64 0),.v (.int .i32 0),.v (.int .i64 0),.v (.int .i64 0),.v (.int .i32 0),.v (.int .i64 0),.v (.int .i64 0)]:=rfl
theorem b5l:ti Tryd.prog 61=some T61:=by kernel_rfl
def T63:TI:=⟨1,false,24,[(.slice none 0 0)]⟩
theorem a2j:T63.size=1:=rfl
theorem a6x:T63.agg=false:=rfl
theorem yD:T63.bytes=24:=rfl
theorem a2k:T63.zero.map AV.J5=[.c5 true []]:=rfl
theorem b5m:ti Tryd.prog 63=some T63:=by kernel_rfl
def T65:TI:=⟨1,false,8,[(.int .u64 0)]⟩
theorem a2l:T65.size=1:=rfl
theorem a6y:T65.agg=false:=rfl
theorem yE:T65.bytes=8:=rfl
theorem a2m:T65.zero.map AV.J5=[.v (.int .u64 0)]:=rfl
theorem b5n:ti Tryd.prog 65=some T65:=by kernel_rfl
def T67:TI:=⟨4,true,32,[(.int .u64 0),(.int .u64 0),(.int .u64 0),(.int .u64 0)]⟩
theorem a2n:T67.size=4:=rfl
theorem a6z:T67.agg=true:=rfl
theorem yF:T67.bytes=32:=rfl
theorem a2o:T67.zero.map AV.J5=[.v (.int .u64 0),.v (.int .u64 0),.v (.int .u64 0),.v (.int .u64 0)]:=rfl
theorem b5o:ti Tryd.prog 67=some T67:=by kernel_rfl
def T73:TI:=⟨15,true,120,[(.int .i64 0),(.int .i64 0),(.int .i64 0),(.int .i64 0),(.int .i64 0),(.int .i32 0),(.int .i64 0),(.int .i64 0),(.int .i32 0),(.int .i64 0),(.int .i64 0),(.int .i32 0),(.int .i64 0),(.int .i64 0),(.int .i32 0)]⟩
theorem a2p:T73.size=15:=rfl
theorem a6A:T73.agg=true:=rfl
theorem yG:T73.bytes=120:=rfl
theorem a2q:T73.zero.map AV.J5=[.v (.int .i64 0),.v (.int .i64 0),.v (.int .i64 0),.v (.int .i64 0),.v (.int .i64 0),.v (.int .i32 0),.v (.int .i64 0),.v (.int .i64 0),.v (.int .i32 0),.v (.int .i64 0),.v (.int .i64 0),.v (.int .i32 0),.v (.int .i64 0),.v (.int .i64 0),.v (.int .i32 0)]:=rfl
theorem b5p:ti Tryd.prog 73=some T73:=by kernel_rfl
def T78:TI:=⟨1,false,24,[(.slice none 0 0)]⟩
theorem a2r:T78.size=1:=rfl
theorem a6B:T78.agg=false:=rfl
theorem yH:T78.bytes=24:=rfl
theorem a2s:T78.zero.map AV.J5=[.c5 true []]:=rfl
theorem b5q:ti Tryd.prog 78=some T78:=by kernel_rfl
def T85:TI:=⟨1,false,8,[.nilFunc]⟩
theorem a2t:T85.size=1:=rfl
theorem a6C:T85.agg=false:=rfl
theorem yI:T85.bytes=8:=rfl
theorem a2u:T85.zero.map AV.J5=[.v .nilFunc]:=rfl
theorem b5r:ti Tryd.prog 85=some T85:=by kernel_rfl
def T89:TI:=⟨4,true,40,[(.string ⟨#[]⟩),(.int .i64 0),(.int .i64 0),(.int .i64 0)]⟩
theorem a2v:T89.size=4:=rfl
theorem a6D:T89.agg=true:=rfl
theorem yJ:T89.bytes=40:=rfl
theorem a2w:T89.zero.map AV.J5=[.v (.string ⟨#[]⟩),.v (.int .i64 0),.v (.int .i64 0),.v (.int .i64 0)]:=rfl
theorem b5s:ti Tryd.prog 89=some T89:=by kernel_rfl
def T90:TI:=⟨1,false,8,[.nilFunc]⟩
theorem a2x:T90.size=1:=rfl
theorem a6E:T90.agg=false:=rfl
theorem yK:T90.bytes=8:=rfl
theorem a2y:T90.zero.map AV.J5=[.v .nilFunc]:=rfl
theorem b5t:ti Tryd.prog 90=some T90:=by kernel_rfl
def T93:TI:=⟨3,true,24,[(.int .i64 0),(.int .i64 0),(.int .i64 0)]⟩
theorem a2z:T93.size=3:=rfl
theorem a6F:T93.agg=true:=rfl
theorem yL:T93.bytes=24:=rfl
theorem a2A:T93.zero.map AV.J5=[.v (.int .i64 0),.v (.int .i64 0),.v (.int .i64 0)]:=rfl
theorem b5u:ti Tryd.prog 93=some T93:=by kernel_rfl
def a4x:TI:=⟨1,false,8,[(.map none)]⟩
theorem wR:a4x.size=1:=rfl
theorem a1t:a4x.agg=false:=rfl
theorem rX:a4x.bytes=8:=rfl
theorem wS:a4x.zero.map AV.J5=[.v (.map none)]:=rfl
theorem b2t:ti Tryd.prog 107=some a4x:=by kernel_rfl
def a9K:TI:=⟨1,false,8,[(.pointer none)]⟩
theorem wT:a9K.size=1:=rfl
theorem a1u:a9K.agg=false:=rfl
theorem rY:a9K.bytes=8:=rfl
theorem wU:a9K.zero.map AV.J5=[.v (.pointer none)]:=rfl
theorem b2u:ti Tryd.prog 108=some a9K:=by kernel_rfl
def a9L:TI:=⟨4,true,48,[(.map none),(.int .i64 0),(.slice none 0 0),(.map none)]⟩
theorem wV:a9L.size=4:=rfl
theorem a1v:a9L.agg=true:=rfl
theorem rZ:a9L.bytes=48:=rfl
theorem wW:a9L.zero.map AV.J5=[.v (.map none),.v (.int .i64 0),.c5 true [],.v (.map none)]:=rfl
theorem b2v:ti Tryd.prog 110=some a9L:=by kernel_rfl
def a9M:TI:=⟨1,false,8,[(.int .u64 0)]⟩
theorem wX:a9M.size=1:=rfl
theorem a1w:a9M.agg=false:=rfl
theorem sB:a9M.bytes=8:=rfl
theorem wY:a9M.zero.map AV.J5=[.v (.int .u64 0)]:=rfl
theorem b2w:ti Tryd.prog 115=some a9M:=by kernel_rfl
def a9N:TI:=⟨64,true,64,[(.int .u8 0),(.int .u8 0),(.int .u8 0),(.int .u8 0),(.int .u8 0),(.int .u8 0),(.int .u8 0),(.int .u8 0),(.int .u8 0),(.int .u8 0),(.int .u8 0),(.int .u8 0),(.int .u8 0),(.int .u8 0),(.int .u8 0),(.int .u8 0),(.int .u8 0),(.int .u8 0),(.int .u8 0),(.int .u8 0),(.int .u8 0),(.int .u8 0),(.int .u8 0),(.int .u8 0),(.int .u8 0),(.int .u8 0),(.int .u8 0),(.int .u8 0),(.int .u8 0),(.int .u8 0),(.int .u8 0),(.int .u8 0),(.int .u8 0),(.int .u8 0),(.int .u8 0),(.int .u8 0),(.int .u8 0),(.int .u8 0),(.int .u8 0),(.int .u8 0),(.int .u8 0),(.int .u8 0),(.int .u8 0),(.int .u8 0),(.int .u8 0),(.int .u8 0),(.int .u8 0),(.int .u8 0),(.int .u8 0),(.int .u8 0),(.int .u8 0),(.int .u8 0),(.int .u8 0),(.int .u8 0),(.int .u8 0),(.int .u8 0),(.int .u8 0),(.int .u8 0),(.int .u8 0),(.int .u8 0),(.int .u8 0),(.int .u8 0),(.int .u8 0),(.int .u8 0)]⟩
theorem wZ:a9N.size=64:=rfl
theorem a1x:a9N.agg=true:=rfl
theorem sD:a9N.bytes=64:=rfl
theorem xA:a9N.zero.map AV.J5=[.v (.int .u8 0),.v (.int .u8 0),.v (.int .u8 0),.v (.int .u8 0),.v (.int .u8 0),.v (.int .u8 0),.v (.int .u8 0),.v (.int .u8 0),.v (.int .u8 0),.v (.int .u8 0),.v (.int .u8 0),.v (.int .u8 0),.v (.int .u8 0),.v (.int .u8 0),.v (.int .u8 0),.v (.int .u8 0),.v (.int .u8 0),.v (.int .u8 0),.v (.int .u8 0),.v (.int .u8 0),.v (.int .u8 0),.v (.int .u8 0),.v (.int .u8 0),.v (.int .u8 0),.v (.int .u8 0),.v (.int .u8 0),.v (.int .u8 0),.v (.int .u8 0),.v (.int .u8 0),.v (.int .u8 0),.v (.int .u8 0),.v (.int .u8 0),.v (.int .u8 0),.v (.int .u8 0),.v (.int .u8 0),.v (.int .u8 0),.v (.int .u8 0),.v (.int .u8 0),.v (.int .u8 0),.v (.int .u8 0),.v (.int .u8 0),.v (.int .u8 0),.v (.int .u8 0),.v (.int .u8 0),.v (.int .u8 0),.v (.int .u8 0),.v (.int .u8 0),.v (.int .u8 0),.v (.int .u8 0),.v (.int .u8 0),.v (.int .u8 0),.v (.int .u8 0),.v (.int .u8 0),.v (.int .u8 0),.v (.int .u8 0),.v (.int .u8 0),.v (.int .u8 0),.v (.int .u8 0),.v (.int .u8 0),.v (.int .u8 0),.v (.int .u8 0),.v (.int .u8 0),.v (.int .u8 0),.v (.int .u8 0)]:=rfl
theorem b2x:ti Tryd.prog 117=some a9N:=by kernel_rfl
def a9O:TI:=⟨1,false,24,[(.slice none 0 0)]⟩
theorem xB:a9O.size=1:=rfl
theorem a1y:a9O.agg=false:=rfl
theorem sE:a9O.bytes=24:=rfl
theorem xC:a9O.zero.map AV.J5=[.c5 true []]:=rfl
theorem b2y:ti Tryd.prog 121=some a9O:=by kernel_rfl
def a9P:TI:=⟨1,false,4,[(.int .u32 0)]⟩
theorem xD:a9P.size=1:=rfl
theorem a1z:a9P.agg=false:=rfl
theorem sG:a9P.bytes=4:=rfl
theorem xE:a9P.zero.map AV.J5=[.v (.int .u32 0)]:=rfl
theorem b2z:ti Tryd.prog 131=some a9P:=by kernel_rfl
def a9Q:TI:=⟨1,false,8,[(.int .u64 0)]⟩
theorem xF:a9Q.size=1:=rfl
theorem a1A:a9Q.agg=false:=rfl
theorem sH:a9Q.bytes=8:=rfl
theorem xG:a9Q.zero.map AV.J5=[.v (.int .u64 0)]:=rfl
theorem b2A:ti Tryd.prog 132=some a9Q:=by kernel_rfl
def a9R:TI:=⟨1,false,8,[(.pointer none)]⟩
theorem xH:a9R.size=1:=rfl
theorem a1B:a9R.agg=false:=rfl
theorem sJ:a9R.bytes=8:=rfl
theorem xI:a9R.zero.map AV.J5=[.v (.pointer none)]:=rfl
theorem b2B:ti Tryd.prog 136=some a9R:=by kernel_rfl
theorem b7n:td Tryd.prog 3=some (.int .i64):=by kernel_rfl
theorem b7o:td Tryd.prog 4=some .other:=by kernel_rfl
theorem b7p:td Tryd.prog 5=some (.int .u8):=by kernel_rfl
theorem b7q:td Tryd.prog 9=some .str:=by kernel_rfl
theorem b4A:td Tryd.prog 21=some (.int .i32):=by kernel_rfl
theorem b4B:td Tryd.prog 22=some (.slice T5):=by kernel_rfl
theorem b4C:td Tryd.prog 24=some (.struct [(0,T22)]):=by kernel_rfl
theorem b4D:td Tryd.prog 26=some (.slice T89):=by kernel_rfl
theorem b4E:td Tryd.prog 27=some (.slice T93):=by kernel_rfl
theorem b4F:td Tryd.prog 28=some (.slice T61):=by kernel_rfl
theorem b4G:td Tryd.prog 30=some (.struct [(0,T3),(1,T3),(2,T3),(3,T3),(4,T3),(5,T26),(6,T27),(7,T28)]):=by kernel_rfl
theorem b4H:td Tryd.prog 33=some (.slice T37):=by kernel_rfl
theorem b4I:td Tryd.prog 35=some (.struct [(0,T33),(1,T33)]):=by kernel_rfl
theorem b4J:td Tryd.prog 37=some (.slice T3):=by kernel_rfl
theorem b4K:td Tryd.prog 39=some (.struct [(0,T37)]):=by kernel_rfl
theorem b4L:td Tryd.prog 40=some (.int .i64):=by kernel_rfl
theorem b4M:td Tryd.prog 42=some (.struct [(0,T30),(8,T39),(9,T40)]):=by kernel_rfl
theorem b4N:td Tryd.prog 48=some .other:=by kernel_rfl
theorem b4O:td Tryd.prog 50=some (.struct [(0,T22),(1,T3),(2,T30)]):=by kernel_rfl
theorem b2s:td Tryd.prog 54=some (.array 2 T3):=by kernel_rfl
theorem b4P:td Tryd.prog 56=some (.struct [(0,T3),(1,T3),(2,T21)]):=by kernel_rfl
theorem b4Q:td Tryd.prog 58=some (.struct [(0,T3),(1,T3),(2,T56),(5,T56),(8,T56),(11,T54)]):=by kernel_rfl
theorem b4R:td Tryd.prog 59=some (.slice T73):=by kernel_rfl
theorem b4S:td Tryd.prog 61=some (.struct [(0,T59),(1,T58)]):=by kernel_rfl
theorem b4T:td Tryd.prog 63=some (.slice T4):=by kernel_rfl
theorem b4U:td Tryd.prog 65=some (.int .u64):=by kernel_rfl
theorem b4V:td Tryd.prog 67=some (.array 4 T65):=by kernel_rfl
theorem b4W:td Tryd.prog 73=some (.struct [(0,T3),(1,T3),(2,T3),(3,T56),(6,T56),(9,T56),(12,T56)]):=by kernel_rfl
theorem b4X:td Tryd.prog 78=some (.slice T67):=by kernel_rfl
theorem b4Y:td Tryd.prog 85=some .other:=by kernel_rfl
theorem b4Z:td Tryd.prog 89=some (.struct [(0,T9),(1,T3),(2,T3),(3,T3)]):=by kernel_rfl
theorem b40:td Tryd.prog 90=some .other:=by kernel_rfl
theorem b41:td Tryd.prog 93=some (.struct [(0,T3),(1,T3),(2,T3)]):=by kernel_rfl
theorem b2j:td Tryd.prog 107=some .other:=by kernel_rfl
theorem b2k:td Tryd.prog 108=some .other:=by kernel_rfl
theorem b2l:td Tryd.prog 110=some (.struct [(0,a4x),(1,T3),(2,T59),(3,a4x)]):=by kernel_rfl
theorem b2m:td Tryd.prog 115=some (.int .u64):=by kernel_rfl
theorem b2n:td Tryd.prog 117=some (.array 64 T5):=by kernel_rfl
theorem b2o:td Tryd.prog 121=some (.slice T56):=by kernel_rfl
theorem b2p:td Tryd.prog 131=some (.int .u32):=by kernel_rfl
theorem b2q:td Tryd.prog 132=some (.int .u64):=by kernel_rfl
theorem b2r:td Tryd.prog 136=some .other:=by kernel_rfl
theorem b2C:tm Tryd.prog 107=some ((.int .i64),(.int .i64 0)):=by kernel_rfl
theorem b4p:rK Tryd.prog 4=true:=by kernel_rfl
end Go.Proofs.YtgdoiokalfhjoaaDoor
end
section
namespace Go.Ab
open Go.RowKit (Below)
theorem jV(ids:List (Nat×Nat))(l:List (Nat×RS)):LS.hf (u1 ids l)=raise ids (LS.hf l):=by
 funext id
 simp only[LS.hf,raise]
 induction l with
 |nil=>rfl
 |cons p l ih=>
  obtain⟨i,x⟩:=p
  simp only[u1,List.lookup_cons]
  by_cases h:(id==i)=true
  ·rw[h]
   have:id=i:=by simpa using h
   subst this
   cases x<;>rfl
  ·have h:(id==i)=false:=by simpa using h
   rw[h];exact ih
theorem a0L{ids:List (Nat×Nat)}{n:Nat}:∀{l:List (Nat×RS)},(∀p∈l,p.1<n)→∀p∈u1 ids l,p.1<n:=by
 intro l
 induction l with
 |nil=>intro _ p hp;cases hp
 |cons q l ih=>
  intro h p hp
  simp only[u1,List.mem_cons]at hp
  rcases hp with rfl|hp
  ·exact h q (List.mem_cons_self ..)
  ·exact ih (fun p hp=>h p (List.mem_cons_of_mem _ hp)) p hp
theorem P4{ids:List (Nat×Nat)}{h:Nat→RS}{id:Nat}{r:Row}(hr:raise ids h id= .live r):∃r0,h id= .live r0∧r={r0 with fro:=E7 ids id r0.fro}:=by
 unfold raise at hr
 split at hr
 ·rename_i r0 h0;cases hr;exact⟨r0,h0,rfl⟩
 ·rename_i hn;exact absurd hr (hn _)
theorem O9{ids:List (Nat×Nat)}{h:Nat→RS}{id:Nat}{x:RS}(hr:raise ids h id=x)(hx:∀r,x≠ .live r):h id=x:=by
 unfold raise at hr
 split at hr
 ·exact absurd hr.symm (hx _)
 ·exact hr
theorem oF{s:LS}(d n:Nat)(y:AV)(h:B7 (LS.hf s.h) n (LS.tf s.t d)=some y):O8 s ⟨s.t.set d y,u1 (b8 (LS.hf s.h) n (LS.tf s.t d)) s.h,s.nx⟩:=by
 intro G M0 w0 ρ a w ⟨R,hok⟩
 refine⟨ρ,?_,a0L hok⟩
 generalize hids:b8 (LS.hf s.h) n (LS.tf s.t d)=ids
 have hH:LS.hf (u1 ids s.h)=raise ids s.n8.h:=jV ids s.h
 have hy:r7 (p7 M0 ρ (raise ids s.n8.h)) (fun _=>none) w y (a.tmps.getD d undef):=eA R.toH ids n _ y _ (fun p hp=>by rw[←hids];exact hp) h (R.tm d)
 refine{n:=?_,tm:=fun t=>?_,live:=fun id r hr=>?_,free:=fun id hr=>?_,inj:=fun id id' r r' b β β' z z' h1 h2 h3 h4=>?_,U2:=R.U2,m0:=R.m0,defers:=R.defers,mS:=fun id k cs hg i x hx=>?_,lE:=fun x u hx=>?_,iM:=fun id b q f hm=>?_,fY:=R.fY,dH:=fun id r p hr hp=>?_,nD:=fun id b q f hm=>?_,oI:=R.oI}
 ·show a.tmps.size=(s.t.set d y).length
  rw[List.length_set];exact R.n
 ·show r7 (p7 M0 ρ (LS.hf (u1 ids s.h))) ρ w (LS.tf (s.t.set d y) t) _
  rw[hH]
  unfold LS.tf
  rw[List.getD_eq_getElem?_getD,List.getElem?_set]
  by_cases ht:d=t
  ·subst ht
   by_cases hl:d<s.t.length
   ·simp only[hl,if_true,Option.getD_some];exact hy.up
   ·simp only[hl,if_false,if_true,Option.getD_none];exact .Z _
  ·rw[if_neg ht,←List.getD_eq_getElem?_getD];exact(R.tm t).raise
 ·have hr:LS.hf (u1 ids s.h) id= .live r:=hr
  rw[hH]at hr
  obtain⟨r0,h0,rfl⟩:=P4 hr
  obtain⟨b,β,arr,e,l1,l2,l3,l4,l5,l6⟩:=R.live id r0 h0
  refine⟨b,β,arr,e,l1,l2,l3,l4,l5,fun i j e x u g1 g2 g3=>?_⟩
  show r7 (p7 M0 ρ (LS.hf (u1 ids s.h))) ρ w x u
  rw[hH];exact(l6 i j e x u g1 g2 g3).raise
 ·have hr:LS.hf (u1 ids s.h) id= .free:=hr
  rw[hH]at hr
  exact R.free id (O9 hr fun r h=>by cases h)
 ·have h1:LS.hf (u1 ids s.h) id= .live r:=h1
  have h2:LS.hf (u1 ids s.h) id'= .live r':=h2
  rw[hH]at h1 h2
  obtain⟨r0,g0,_⟩:=P4 h1
  obtain⟨r1,g1,_⟩:=P4 h2
  exact R.inj id id' r0 r1 b β β' z z' g0 g1 h3 h4
 ·have hg:LS.hf (u1 ids s.h) id= .u3 k cs:=hg
  rw[hH]at hg
  show r7 (p7 M0 ρ (LS.hf (u1 ids s.h))) ρ w x _
  rw[hH]
  exact(R.mS id k cs (O9 hg fun r h=>by cases h) i x hx).raise
 ·show r7 (p7 M0 ρ (LS.hf (u1 ids s.h))) _ w x u
  rw[hH];exact(R.lE x u hx).mono (fun _ _ h=>h) (fun _ _ _ g1 g2=>⟨fun g=>g1 (H4 g),g2⟩) (fun _ _ h=>h)
 ·have hm:LS.hf (u1 ids s.h) id= .mp b q f:=hm
  rw[hH]at hm
  exact R.iM id b q f (O9 hm fun r h=>by cases h)
 ·have hr:LS.hf (u1 ids s.h) id= .live r:=hr
  rw[hH]at hr
  obtain⟨r0,h0,_⟩:=P4 hr
  exact R.dH id r0 p h0 hp
 ·have hm:LS.hf (u1 ids s.h) id= .mp b q f:=hm
  rw[hH]at hm
  exact R.nD id b q f (O9 hm fun r h=>by cases h)
theorem a4C {md:Bool} {P:Program} [j9 P] {c:Code} {k:List KF} {s:LS} {K:Exit→LS→Prop} (d:Nat) {y:AV} {ids:List (Nat×Nat)} (h:B7 (LS.hf s.h) 6 (LS.tf s.t d)=some y) (hi:b8 (LS.hf s.h) 6 (LS.tf s.t d)=ids)
  (h':AK (md:=md) P c k ⟨s.t.set d y,u1 ids s.h,s.nx⟩ K):AK (md:=md) P c k s K:=by
 subst hi
 exact A5 (oF d 6 y h) h'
theorem s5(e:List AV):u2 e 0 []=e:=by cases e<;>rfl
theorem a5S(y:AV):∀(e:List AV) (k:Nat),u2 e k [y]=e.set k y:=by
 intro e
 induction e with
 |nil=>intro k;rfl
 |cons x e ih=>
  intro k
  cases k with
  |zero=>simp [u2,s5]
  |succ k=>simp [u2,ih]
theorem b5T(id i k:Nat)(cs:List AV)(l:List (Nat×RS))(id':Nat):LS.hf (T1 id i k cs l) id'=if id'=id then(match LS.hf l id with| .live r=> .live {r with es:=r.es.modify i (fun e=>u2 e k cs)}|x=>x)else LS.hf l id':=by
 simp only[LS.hf]
 induction l with
 |nil=>simp [T1]
 |cons p l ih=>
  obtain⟨i0,x⟩:=p
  simp only[T1]
  by_cases h:i0=id
  ·subst h
   simp only[if_true,List.lookup_cons]
   by_cases h2:id'=i0
   ·subst h2;cases x<;>simp
   ·have:(id'==i0)=false:=by simpa using h2
    rw[this];simp only[if_neg h2]
    rw[ih,if_neg h2]
  ·rw[if_neg h]
   simp only[List.lookup_cons]
   by_cases h2:id'=i0
   ·subst h2
    simp only[beq_self_eq_true,if_neg h,Option.getD_some]
   ·have:(id'==i0)=false:=by simpa using h2
    rw[this]
    have h3:(id==i0)=false:=by simpa using Ne.symm h
    rw[h3];exact ih
theorem b6e{id i k:Nat}{cs:List AV}{n:Nat}:∀{l:List (Nat×RS)},(∀p∈l,p.1<n)→∀p∈T1 id i k cs l,p.1<n:=by
 intro l
 induction l with
 |nil=>intro _ p hp;cases hp
 |cons q l ih=>
  intro h p hp
  obtain⟨i0,x⟩:=q
  simp only[T1]at hp
  split at hp<;>(simp only[List.mem_cons]at hp;rcases hp with rfl|hp;exact h (i0,x) (List.mem_cons_self ..);exact ih (fun p hp=>h p (List.mem_cons_of_mem _ hp)) p hp)
theorem kM{s:LS}(id i j n:Nat)(x y:AV){r:Row}(hr:LS.hf s.h id= .live r)(hx:(r.es[i]?).bind (·[j]?)=some x)(h:B7 (LS.hf s.h) n x=some y):O8 s ⟨s.t,u1 (b8 (LS.hf s.h) n x) (T1 id i j [y] s.h),s.nx⟩:=by
 intro G M0 w0 ρ a w ⟨R,hok⟩
 refine⟨ρ,?_,a0L (b6e hok)⟩
 generalize hids:b8 (LS.hf s.h) n x=ids
 have hH:∀id',LS.hf (u1 ids (T1 id i j [y] s.h)) id'=if id'=id then .live ⟨r.sz,r.es.modify i (fun e=>e.set j y),E7 ids id r.fro⟩else raise ids (LS.hf s.h) id':=by
  intro id'
  rw[jV]
  unfold raise
  rw[b5T,hr]
  by_cases h:id'=id
  ·subst h;simp [a5S]
  ·simp [h]
 have hM:∀b o,p7 M0 ρ (LS.hf (u1 ids (T1 id i j [y] s.h))) b o→p7 M0 ρ (raise ids (LS.hf s.h)) b o:=by
  rintro b o (g|⟨id',q,β,z,h1,h2,h3⟩)
  ·exact .inl g
  ·rw[hH]at h1
   split at h1
   ·rename_i e
    cases h1
    exact .inr ⟨id,{r with fro:=E7 ids id r.fro},β,z,by unfold raise;rw[hr],by rw[←e];exact h2,h3⟩
   ·exact .inr ⟨id',q,β,z,h1,h2,h3⟩
 have inH:∀{x:AV} {u:Value} {ρ':Nat→Option (Nat×Nat×Nat)},r7 (p7 M0 ρ (raise ids (LS.hf s.h))) ρ' w x u→r7 (p7 M0 ρ (LS.hf (u1 ids (T1 id i j [y] s.h)))) ρ' w x u:=fun hx=>
  hx.mono (fun _ _ h=>h) (fun _ _ _ g1 g2=>⟨fun g=>g1 (hM _ _ g),g2⟩) (fun _ _ h=>h)
 have up:∀{x:AV} {u:Value} {ρ':Nat→Option (Nat×Nat×Nat)},r7 (p7 M0 ρ (LS.hf s.h)) ρ' w x u→r7 (p7 M0 ρ (LS.hf (u1 ids (T1 id i j [y] s.h)))) ρ' w x u:=fun hx=>
  inH (hx.mono (fun _ _ h=>h) (fun _ _ _ g1 g2=>⟨fun g=>g1 (H4 g),g2⟩) (fun _ _ h=>h))
 refine{n:=R.n,tm:=fun t=>up (R.tm t),live:=fun id' r' hr'=>?_,free:=fun id' hr'=>?_,inj:=fun id1 id2 r1 r2 b β β' z z' h1 h2 h3 h4=>?_,U2:=R.U2,m0:=R.m0,defers:=R.defers,mS:=fun id' k cs hg i' x' hx'=>?_,lE:=fun x u hx=>up (R.lE x u hx),iM:=fun id' b q f hm=>?_,fY:=R.fY,dH:=fun id' r' p hr' hp=>?_,nD:=fun id' b q f hm=>?_,oI:=R.oI}
 ·have hr':LS.hf (u1 ids (T1 id i j [y] s.h)) id'= .live r':=hr'
  rw[hH]at hr'
  split at hr'
  ·rename_i e
   subst e
   cases hr'
   obtain⟨b,β,arr,e,l1,l2,l3,l4,l5,l6⟩:=R.live id' r hr
   refine⟨b,β,arr,e,l1,l2,l3,by simpa using l4,fun e0 he0=>?_,fun i' j' e0 x0 u g1 g2 g3=>?_⟩
   ·obtain⟨m,hm,rfl⟩:=List.mem_iff_getElem.1 he0
    have hm':m<r.es.length:=by simpa using hm
    rw[List.getElem_modify]
    split
    ·rw[List.length_set];exact l5 _ (List.getElem_mem hm')
    ·exact l5 _ (List.getElem_mem hm')
   ·rw[List.getElem?_modify]at g1
    cases hq:r.es[i']? with
    |none=>rw[hq]at g1;cases g1
    |some e1=>
     rw[hq]at g1
     simp only[Option.map_eq_map,Option.map_some,Option.some.injEq]at g1
     by_cases hi:i=i'
     ·subst hi
      rw[if_pos rfl]at g1
      subst g1
      rw[List.getElem?_set]at g2
      by_cases hj:j=j'
      ·subst hj
       rw[if_pos rfl]at g2
       split at g2
       ·cases g2
        rw[hq]at hx
        exact(inH (eA R.toH ids n x y u (fun p hp=>by rw[←hids];exact hp) h (l6 i j e1 x u hq hx g3))).up
       ·cases g2
      ·rw[if_neg hj]at g2
       exact up (l6 i j' e1 x0 u hq g2 g3)
     ·rw[if_neg hi]at g1
      subst g1
      exact up (l6 i' j' e1 x0 u hq g2 g3)
  ·obtain⟨r0,h0,rfl⟩:=P4 hr'
   obtain⟨b,β,arr,e,l1,l2,l3,l4,l5,l6⟩:=R.live id' r0 h0
   exact⟨b,β,arr,e,l1,l2,l3,l4,l5,fun i j e x u g1 g2 g3=>up (l6 i j e x u g1 g2 g3)⟩
 ·have hr':LS.hf (u1 ids (T1 id i j [y] s.h)) id'= .free:=hr'
  rw[hH]at hr'
  split at hr'
  ·cases hr'
  ·exact R.free id' (O9 hr' fun r h=>by cases h)
 ·have key:∀{id' r'},LS.hf (u1 ids (T1 id i j [y] s.h)) id'= .live r'→∃r0,LS.hf s.h id'= .live r0:=by
   intro id' r' h
   rw[hH]at h
   split at h
   ·rename_i e;subst e;exact⟨r,hr⟩
   ·obtain⟨r0,h0,_⟩:=P4 h;exact⟨r0,h0⟩
  obtain⟨q1,g1⟩:=key h1
  obtain⟨q2,g2⟩:=key h2
  exact R.inj id1 id2 q1 q2 b β β' z z' g1 g2 h3 h4
 ·have hg:LS.hf (u1 ids (T1 id i j [y] s.h)) id'= .u3 k cs:=hg
  rw[hH]at hg
  split at hg
  ·cases hg
  ·exact up (R.mS id' k cs (O9 hg fun r h=>by cases h) i' x' hx')
 ·have hm:LS.hf (u1 ids (T1 id i j [y] s.h)) id'= .mp b q f:=hm
  rw[hH]at hm
  split at hm
  ·cases hm
  ·exact R.iM id' b q f (O9 hm fun r h=>by cases h)
 ·have hr':LS.hf (u1 ids (T1 id i j [y] s.h)) id'= .live r':=hr'
  rw[hH]at hr'
  split at hr'
  ·rename_i e;subst e;exact R.dH id' r p hr hp
  ·obtain⟨r0,h0,_⟩:=P4 hr'
   exact R.dH id' r0 p h0 hp
 ·have hm:LS.hf (u1 ids (T1 id i j [y] s.h)) id'= .mp b q f:=hm
  rw[hH]at hm
  split at hm
  ·cases hm
  ·exact R.nD id' b q f (O9 hm fun r h=>by cases h)
theorem eX {md:Bool} {P:Program} [j9 P] {c:Code} {k:List KF} {s:LS} {K:Exit→LS→Prop} (id i j:Nat) {x y:AV} {r:Row} {ids:List (Nat×Nat)} (hr:LS.hf s.h id= .live r) (hx:(r.es[i]?).bind (·[j]?)=some x) (h:B7 (LS.hf s.h) 6 x=some y) (hi:b8 (LS.hf s.h) 6 x=ids)
  (h':AK (md:=md) P c k ⟨s.t,u1 ids (T1 id i j [y] s.h),s.nx⟩ K):AK (md:=md) P c k s K:=by
 subst hi
 exact A5 (kM id i j 6 x y hr hx h) h'
theorem l9{α:Type}{S:α→LS}{I:α→Prop}{s s':LS}{keep ids:List Nat}(a:α)(h:c8 keep ids s=some s')(e:s'=S a)(hI:I a):∃a,aP (I a)∧O8 s (S a):=⟨a,⟨hI⟩,fD h e⟩
def E6(g:Nat→Nat):Nat→AV→AV
 |_,.Z=> .Z
 |_,.v x=> .v x
 |_,.N6=> .N6
 |_,.c5 c es=> .c5 c es
 |_,.Z9 es i k=> .Z9 es i k
 |_,.own id o k=> .own (g id) o k
 |_,.ptr id i k=> .ptr (g id) i k
 |_,.dP id i k=> .dP (g id) i k
 |n+1,.agg cs=> .agg (cs.map (E6 g n))
 |n+1,.Q0 cs=> .Q0 (cs.map (E6 g n))
 |n+1,.fn f cs=> .fn f (cs.map (E6 g n))
 |n+1,.mJ f cs=> .mJ f (cs.map (E6 g n))
 |0,_=> .Z
def bG(g:Nat→Nat)(row:Row):Row:=
 if w7 row.es=true then row else{row with es:=row.es.map fun e=>e.map (E6 g 3)}
theorem a5s{M M':Nat→Nat→Prop}{ρ ρ':Nat→Option (Nat×Nat×Nat)}{w:World}{g:Nat→Nat}(hM:∀b o,M' b o→M b o)(hg:∀j p,ρ j=some p→ρ' (g j)=some p):
  ∀(n:Nat) {x:AV} {u:Value},r7 M ρ w x u→r7 M' ρ' w (E6 g n x) u:=by
 intro n
 induction n with
 |zero=>
  intro x u h
  cases h with
  |Z u=>exact .Z u
  |N6 t=>exact .N6 t
  |v=>exact .v _
  |c5 c es a cap b o sz cell h1 h2 h3 h4 h5 h6=>exact(r7.c5 (ρ:=ρ') c es a cap b o sz cell h1 h2 h3 h4 h5 h6).oY hM
  |Z9 es i k b o sz cell h1 h2 h3 h4 h5=>exact(r7.Z9 (ρ:=ρ') es i k b o sz cell h1 h2 h3 h4 h5).oY hM
  |own id off n cap b β sz N e h1 h2 h3 h4=>exact .own (g id) off n cap b β sz N e (hg _ _ h1) h2 h3 h4
  |ptr id i k b β sz h1=>exact .ptr (g id) i k b β sz (hg _ _ h1)
  |dP id i k b β sz h1=>exact .dP (g id) i k b β sz (hg _ _ h1)
  |agg cs vs hn hh=>exact .Z _
  |Q0 cs vs hn hh=>exact .Z _
  |fn f cs vs hn hh=>exact .Z _
  |mJ f cs vs hn hh=>exact .Z _
 |succ n ih=>
  intro x u h
  have many:∀(cs:List AV) (vs:Array Value),vs.size=cs.length→(∀(i:Nat) x u,cs[i]?=some x→vs[i]?=some u→r7 M ρ w x u)→
    vs.size=(cs.map (E6 g n)).length∧∀(i:Nat) x u,(cs.map (E6 g n))[i]?=some x→vs[i]?=some u→r7 M' ρ' w x u:=by
   intro cs vs hn hh
   refine⟨by simpa using hn,fun i x u h1 h2=>?_⟩
   rw[List.getElem?_map]at h1
   cases hc:cs[i]? with
   |none=>rw[hc]at h1;cases h1
   |some x0=>rw[hc]at h1;cases h1;exact ih (hh i x0 u hc h2)
  cases h with
  |Z u=>exact .Z u
  |N6 t=>exact .N6 t
  |v=>exact .v _
  |c5 c es a cap b o sz cell h1 h2 h3 h4 h5 h6=>exact(r7.c5 (ρ:=ρ') c es a cap b o sz cell h1 h2 h3 h4 h5 h6).oY hM
  |Z9 es i k b o sz cell h1 h2 h3 h4 h5=>exact(r7.Z9 (ρ:=ρ') es i k b o sz cell h1 h2 h3 h4 h5).oY hM
  |own id off n cap b β sz N e h1 h2 h3 h4=>exact .own (g id) off n cap b β sz N e (hg _ _ h1) h2 h3 h4
  |ptr id i k b β sz h1=>exact .ptr (g id) i k b β sz (hg _ _ h1)
  |dP id i k b β sz h1=>exact .dP (g id) i k b β sz (hg _ _ h1)
  |agg cs vs hn hh=>obtain⟨g1,g2⟩:=many cs vs hn hh;exact .agg _ vs g1 g2
  |Q0 cs vs hn hh=>obtain⟨g1,g2⟩:=many cs vs hn hh;exact .Q0 _ vs g1 g2
  |fn f cs vs hn hh=>obtain⟨g1,g2⟩:=many cs vs hn hh;exact .fn f _ vs g1 g2
  |mJ f cs vs hn hh=>obtain⟨g1,g2⟩:=many cs vs hn hh;exact .mJ f _ vs g1 g2
def kS(ids:List Nat)(m nx j:Nat):Nat:=if j<m then ids.getD j 0 else nx+(j-m)
def uZ(ids:List Nat)(m:Nat)(rows:List Row)(id:Nat)(x:RS):RS:=
 match p8 ids 0 id with
 |some j=>if j<m then .live (rows.getD j ⟨0,[],0⟩)else .gone
 |none=>x
def bV(ids:List Nat)(m nx:Nat)(rows:List Row)(l:List (Nat×RS)):List (Nat×RS):=(l.map fun p=>(p.1,uZ ids m rows p.1 p.2))++j7 nx (rows.drop m)
theorem a5G{ids:List Nat}{id:Nat}(h:id∉ids):p8 ids 0 id=none:=by
 unfold p8
 rw[List.idxOf?_eq_none_iff.2 h];rfl
theorem vC{ids:List Nat}{id j:Nat}(h:p8 ids 0 id=some j):ids[j]?=some id:=by
 unfold p8 at h
 cases hi:ids.idxOf? id with
 |none=>rw[hi]at h;cases h
 |some k=>
  rw[hi]at h
  simp only[Option.map_some,Option.some.injEq,Nat.zero_add]at h
  subst h
  exact a0S hi
theorem a9g{ids:List Nat}{id:Nat}(h:id∈ids):∃j,p8 ids 0 id=some j:=by
 unfold p8
 cases hi:ids.idxOf? id with
 |none=>exact absurd h (List.idxOf?_eq_none_iff.1 hi)
 |some k=>exact⟨_,rfl⟩
theorem b27{ids:List Nat}{m nx:Nat}{rows:List Row}{l:List (Nat×RS)}(hl:∀p∈l,p.1<nx)(hp:∀id∈ids,LS.hf l id≠ .free)(id:Nat):
  LS.hf (bV ids m nx rows l) id=if nx≤id∧id<nx+(rows.length-m)then .live (rows.getD (m+(id-nx)) ⟨0,[],0⟩)else uZ ids m rows id (LS.hf l id):=by
 unfold bV
 simp only[LS.hf,lookup_append,uF]
 cases hx:l.lookup id with
 |some x=>
  have:id<nx:=hl _ (uG hx)
  rw[if_neg (by omega)]
  rfl
 |none=>
  have hni:id∉ids:=fun h=>hp id h (by simp only[LS.hf,hx];rfl)
  simp only[Option.map_none,dD,List.length_drop]
  split
  ·simp only[Option.getD_some,RS.live.injEq,List.getD_eq_getElem?_getD,List.getElem?_drop]
  ·simp only[uZ,a5G hni,Option.getD_none]
theorem b2S{ids:List Nat}{m nx:Nat}{rows:List Row}{l:List (Nat×RS)}(hl:∀p∈l,p.1<nx)(hr:rows.length≤m+8):∀p∈bV ids m nx rows l,p.1<nx+8:=by
 intro p hp
 unfold bV at hp
 simp only[List.mem_append,List.mem_map]at hp
 rcases hp with⟨q,hq,rfl⟩|hp
 ·have:=hl q hq;simp only;omega
 ·have:=rN _ _ p hp
  simp only[List.length_drop]at this
  omega
section
section
variable {P:Program} {f:FuncId} {xs xs0:List AV} {rs:List Row} {m:Nat} {α:Type} {I:α→Prop} {y:α→AV} {rs':α→List Row} {s:LS} {K:AV→LS→Prop}
theorem a8X{h:Nat→RS}{ids:List Nat}{rows:List Row}(hp:b6 h (p8 ids 0) ids=some rows){id:Nat}(hi:id∈ids):∃r,h id= .live r:=by
 obtain⟨h1,h2⟩:=cC hp
 obtain⟨j,hj,rfl⟩:=List.mem_iff_getElem.1 hi
 have hj2:j<rows.length:=by omega
 obtain⟨id',r,e1,e2,_⟩:=h2 j rows[j] (by simp [hj2])
 rw[List.getElem?_eq_getElem hj]at e1
 cases e1
 exact⟨r,e2⟩
theorem a5L [j9 P] (C:y9 P f xs rs m I y rs') (ids:List Nat) (hnd:ids.Nodup) (h1:b6 (LS.hf s.h) (p8 ids 0) ids=some rs) (h2:xs0.mapM (n6 (p8 ids 0) 4)=some xs) (hm:m≤ids.length)
  (h3:∀a,I a→m≤(rs' a).length∧(rs' a).length≤m+8)
  (hK:∀a,I a→K (E6 (kS ids m s.nx) 4 (y a)) ⟨s.t,bV ids m s.nx ((rs' a).map (bG (kS ids m s.nx))) s.h,s.nx+8⟩):wQ P f xs0 s K:=by
 refine⟨C.1,fun G M0 w0 ρ a w args hgl R hargs=>?_⟩
 obtain⟨R,hok⟩:=R
 have hlive:∀id∈ids,∃r,LS.hf s.h id= .live r:=fun id hi=>a8X h1 hi
 have hnf:∀id∈ids,LS.hf s.h id≠ .free:=fun id hi e=>by obtain⟨r,hr⟩:=hlive id hi;rw[hr]at e;cases e
 have hlt:∀id,LS.hf s.h id≠ .free→id<s.nx:=fun id h=>by
  rcases Nat.lt_or_ge id s.nx with h'|h'
  ·exact h'
  ·exact absurd (LS.free (s:=s) hok h') h
 have hids:∀{id j},p8 ids 0 id=some j→id∈ids:=fun h=>List.mem_of_getElem? (vC h)
 let M1:Nat→Nat→Prop:=fun b o=>M0 b o∨∃id r β z,id∉ids∧LS.hf s.h id= .live r∧ρ id=some (b,β,z)∧β+r.fro*z≤o
 have hM1:∀b o,M1 b o→p7 M0 ρ (LS.hf s.h) b o:=by
  rintro b o (g|⟨id,r,β,z,_,g1,g2,g3⟩)
  ·exact .inl g
  ·exact .inr ⟨id,r,β,z,g1,g2,g3⟩
 have hm1:∀b o,M1 b o→b<w.heap.size∧∀id∈ids,∀r p,LS.hf s.h id= .live r→ρ id=some p→p.1≠b:=by
  rintro b o (g|⟨id,r,β,z,g0,g1,g2,g3⟩)
  ·exact⟨(R.toH.m0 b o g).1,fun id _ r p=>(R.toH.m0 b o g).2 id r p⟩
  ·refine⟨(R.vV g1 g2).1,fun id' hi r' p hl' hp' e=>?_⟩
   obtain⟨b',β',z'⟩:=p
   simp only at e
   subst e
   have:=R.inj _ _ _ _ _ _ _ _ _ g1 hl' g2 hp'
   subst this
   exact g0 hi
 obtain⟨H,up,hM⟩:=qM R.toH hM1 hnd hm1 h1
 have hargs':RC (p7 M1 (renρ ρ ids 0) (s7 0 rs)) (renρ ρ ids 0) w xs args:=by
  refine⟨by rw[K6 h2];exact hargs.1,fun i x u e1 e2=>?_⟩
  obtain⟨x0,e3,e4⟩:=F5 h2 i x e1
  exact up 4 x0 x u e4 (hargs.2 i x0 u e3 e2)
 refine(C.2 M1 w0 _ w args hgl H hargs').mono ?_
 rintro e w' ⟨v,b,ρ',he,hI,H',hv,hst,F⟩
 obtain⟨l1,l2⟩:=h3 b hI
 generalize hn:(rs' b).length=n at l1 l2
 obtain⟨g,hg⟩:∃g,kS ids m s.nx=g:=⟨_,rfl⟩
 obtain⟨rows,hrows⟩:∃rows,(rs' b).map (bG g)=rows:=⟨_,rfl⟩
 have hrl:rows.length=n:=by rw[←hrows];simpa using hn
 obtain⟨ρ2,hρ2⟩:∃ρ2:Nat→Option (Nat×Nat×Nat),ρ2=fun id=>if s.nx≤id∧id<s.nx+(n-m)then ρ' (m+(id-s.nx))else ρ id:=⟨_,rfl⟩
 have hKb:=hK b hI
 rw[hg,hrows]at hKb
 have hh:∀id,LS.hf (bV ids m s.nx rows s.h) id=if s.nx≤id∧id<s.nx+(n-m)then .live (rows.getD (m+(id-s.nx)) ⟨0,[],0⟩)else uZ ids m rows id (LS.hf s.h id):=fun id=>by
  rw[b27 hok hnf,hrl]
 have rlive:∀j,j<n→s7 0 (rs' b) j= .live ((rs' b).getD j ⟨0,[],0⟩):=fun j hj=>by
  unfold s7;rw[if_pos (by omega)];rfl
 have rrow:∀j,j<n→rows.getD j ⟨0,[],0⟩=bG g ((rs' b).getD j ⟨0,[],0⟩):=fun j hj=>by
  rw[←hrows,List.getD_eq_getElem?_getD,List.getElem?_map,List.getD_eq_getElem?_getD,List.getElem?_eq_getElem (by omega)];rfl
 have hρlt:∀j p,ρ' j=some p→j<n:=fun j p h=>by
  rcases Nat.lt_or_ge j n with h'|h'
  ·exact h'
  ·have:=H'.free j (by unfold s7;rw[if_neg (by omega)])
   rw[this]at h;cases h
 have hρids:∀j,j<m→ρ' j=ρ (ids.getD j 0):=fun j hj=>by
  have hj2:j<ids.length:=by omega
  rw[hst j hj]
  simp only[renρ,Nat.zero_le,if_true,Nat.sub_zero,List.getElem?_eq_getElem hj2,Option.bind_some,List.getD_eq_getElem?_getD,Option.getD_some]
 have hmem:∀j,j<ids.length→ids.getD j 0∈ids:=fun j hj=>by
  rw[List.getD_eq_getElem?_getD,List.getElem?_eq_getElem hj];exact List.getElem_mem hj
 have hgj:∀j p,ρ' j=some p→ρ2 (g j)=some p:=fun j p h=>by
  have hj:=hρlt j p h
  rw[←hg,hρ2]
  unfold kS
  by_cases hjm:j<m
  ·have:=hlt _ (hnf _ (hmem j (by omega)))
   rw[if_pos hjm]
   simp only
   rw[if_neg (by omega),←hρids j hjm];exact h
  ·rw[if_neg hjm]
   simp only
   rw[if_pos (by omega),show m+(s.nx+(j-m)-s.nx)=j from by omega];exact h
 have hρ:∀id p,ρ id=some p→ρ2 id=some p:=fun id p h=>by
  rw[hρ2]
  simp only
  by_cases hid:s.nx≤id∧id<s.nx+(n-m)
  ·have:=R.free id (LS.free (s:=s) hok hid.1)
   rw[this]at h;cases h
  ·rw[if_neg hid];exact h
 have ent:∀{id r},LS.hf (bV ids m s.nx rows s.h) id= .live r→(∃j,j<n∧r=bG g ((rs' b).getD j ⟨0,[],0⟩)∧ρ2 id=ρ' j∧((s.nx≤id∧j=m+(id-s.nx))∨(id∈ids∧j<m∧ids[j]?=some id)))∨(id∉ids∧LS.hf s.h id= .live r∧ρ2 id=ρ id):=by
  intro id r h
  rw[hh]at h
  by_cases hid:s.nx≤id∧id<s.nx+(n-m)
  ·rw[if_pos hid]at h
   cases h
   exact .inl ⟨m+(id-s.nx),by omega,rrow _ (by omega),by rw[hρ2];simp only;rw[if_pos hid],.inl ⟨hid.1,rfl⟩⟩
  ·rw[if_neg hid]at h
   have e2:ρ2 id=ρ id:=by rw[hρ2];simp only;rw[if_neg hid]
   unfold uZ at h
   split at h
   ·rename_i j hj
    split at h
    ·rename_i hjm
     cases h
     have e3:=vC hj
     refine .inl ⟨j,by omega,rrow _ (by omega),?_,.inr ⟨hids hj,hjm,e3⟩⟩
     rw[e2,hρids j hjm,List.getD_eq_getElem?_getD,e3];rfl
    ·cases h
   ·rename_i hj
    refine .inr ⟨fun hi=>?_,h,e2⟩
    obtain⟨j,hj'⟩:=a9g hi
    rw[hj]at hj';cases hj'
 have rsz:∀row:Row,(bG g row).sz=row.sz∧(bG g row).fro=row.fro∧(bG g row).es.length=row.es.length:=fun row=>by
  unfold bG;split<;>simp
 have hMM:∀b' o,p7 M0 ρ2 (LS.hf (bV ids m s.nx rows s.h)) b' o→p7 M1 ρ' (s7 0 (rs' b)) b' o:=by
  rintro b' o (g1|⟨id,r,β,z,g1,g2,g3⟩)
  ·exact .inl (.inl g1)
  ·rcases ent g1 with⟨j,hj,rfl,e1,_⟩|⟨e0,e1,e2⟩
   ·exact .inr ⟨j,_,β,z,rlive j hj,by rw[←e1];exact g2,by rw[(rsz _).2.1]at g3;exact g3⟩
   ·exact .inl (.inr ⟨id,r,β,z,e0,e1,by rw[←e2];exact g2,g3⟩)
 have hc:∀b' o c,¬p7 M0 ρ (LS.hf s.h) b' o→w.cell? ⟨b',o,none⟩=some c→¬p7 M0 ρ2 (LS.hf (bV ids m s.nx rows s.h)) b' o∧w'.cell? ⟨b',o,none⟩=some c:=by
  intro b' o c g1 g2
  obtain⟨q1,q2⟩:=F.hc b' o c (fun h=>g1 (hM b' o h)) g2
  exact⟨fun h=>q1 (hMM b' o h),q2⟩
 have upB:∀(k:Nat) {x:AV} {u:Value},r7 (p7 M1 ρ' (s7 0 (rs' b))) ρ' w' x u→r7 (p7 M0 ρ2 (LS.hf (bV ids m s.nx rows s.h))) ρ2 w' (E6 g k x) u:=fun k x u h=>a5s hMM hgj k h
 have hkeep:∀b' x,w.heap[b']?=some x→(∀id∈ids,∀p,ρ id=some p→p.1≠b')→w'.heap[b']?=some x:=fun b' x h1 h2=>by
  refine F.hk b' x h1 fun j p hp=>?_
  simp only[renρ,Nat.zero_le,if_true,Nat.sub_zero]at hp
  cases hj:ids[j]? with
  |none=>rw[hj]at hp;cases hp
  |some id=>rw[hj]at hp;exact h2 id (List.mem_of_getElem? hj) p hp
 have hother:∀{id r b' β z},id∉ids→LS.hf s.h id= .live r→ρ id=some (b',β,z)→∀id'∈ids,∀p,ρ id'=some p→p.1≠b':=by
  intro id r b' β z h1 h2 h3 id' h4 p h5 e
  obtain⟨r',hr'⟩:=hlive id' h4
  obtain⟨b2,β2,z2⟩:=p
  simp only at e
  subst e
  have:=R.inj _ _ _ _ _ _ _ _ _ h2 hr' h3 h5
  subst this
  exact h1 h4
 have hmaps:U5 w w':=fun b' o ho h=>by
  refine hkeep b' _ h fun id hi p hp e=>?_
  obtain⟨r,hr⟩:=hlive id hi
  obtain⟨b2,β2,arr,e',p1,p2,p3,_⟩:=R.live id r hr
  rw[hp]at p1
  cases p1
  simp only at e
  subst e
  rw[h]at p3;cases p3;cases ho
 have hnew:∀{id r p},LS.hf (bV ids m s.nx rows s.h) id= .live r→ρ2 id=some p→(∃j r0 q,LS.hf s.h j= .live r0∧ρ j=some q∧q.1=p.1)∨w.heap.size≤p.1:=by
  intro id r p h1 h2
  rcases ent h1 with⟨j,hj,rfl,e1,_⟩|⟨e0,e1,e2⟩
  ·rw[e1]at h2
   rcases F.hn j _ p (rlive j hj) h2 with⟨i,q,q1,q2⟩|q
   ·simp only[renρ,Nat.zero_le,if_true,Nat.sub_zero]at q1
    cases hi:ids[i]? with
    |none=>rw[hi]at q1;cases q1
    |some id'=>
     rw[hi]at q1
     obtain⟨r0,hr0⟩:=hlive id' (List.mem_of_getElem? hi)
     exact .inl ⟨id',r0,q,hr0,q1,q2⟩
   ·exact .inr q
  ·exact .inl ⟨id,r,p,e1,by rw[←e2];exact h2,rfl⟩
 refine⟨v,_,_,ρ2,he,hKb,⟨?_,b2S hok (by omega)⟩,upB 4 hv⟩
 refine{n:=R.n,tm:=fun t=>(R.tm t).mono hρ hc F.hs,live:=?_,free:=?_,inj:=?_,U2:=H'.U2,m0:=R.m0,defers:=R.defers,mS:=?_,lE:=fun x u hx=>(R.lE x u hx).mono (fun _ _ h=>h) hc F.hs,iM:=?_,fY:=?_,dH:=?_,nD:=?_,oI:=fun b' x h=>F.hs _ _ (R.oI b' x h)}
 ·intro id r h
  rcases ent h with⟨j,hj,rfl,e1,_⟩|⟨e0,e1,e2⟩
  ·obtain⟨b',β,arr,e',p1,p2,p3,p4,p5,p6⟩:=H'.live j _ (rlive j hj)
   obtain⟨q1,q2,q3⟩:=rsz ((rs' b).getD j ⟨0,[],0⟩)
   refine⟨b',β,arr,e',by rw[e1,q1];exact p1,p2,p3,by rw[q1,q3];exact p4,?_,?_⟩
   ·intro z hz
    rw[q1]
    unfold bG at hz
    split at hz
    ·exact p5 z hz
    ·simp only[List.mem_map]at hz
     obtain⟨z0,hz0,rfl⟩:=hz
     rw[List.length_map];exact p5 z0 hz0
   ·intro i k ee x u g1 g2 g3
    rw[q1]at g3
    unfold bG at g1
    split at g1
    ·rename_i hpl
     have hp:x.plain=true:=by
      have:=List.all_eq_true.1 hpl ee (List.mem_of_getElem? g1)
      exact List.all_eq_true.1 this x (List.mem_of_getElem? g2)
     exact(((p6 i k ee x u g1 g2 g3).Z5 hp).up).oY hMM
    ·simp only[List.getElem?_map]at g1
     cases hq:((rs' b).getD j ⟨0,[],0⟩).es[i]? with
     |none=>rw[hq]at g1;cases g1
     |some e0=>
      rw[hq]at g1
      simp only[Option.map_some,Option.some.injEq]at g1
      subst g1
      rw[List.getElem?_map]at g2
      cases hx:e0[k]? with
      |none=>rw[hx]at g2;cases g2
      |some x0=>
       rw[hx]at g2
       cases g2
       exact upB 3 (p6 i k e0 x0 u hq hx g3)
  ·obtain⟨b',β,arr,e',p1,p2,p3,p4,p5,p6⟩:=R.live id r e1
   exact⟨b',β,arr,e',by rw[e2];exact p1,p2,hkeep _ _ p3 (hother e0 e1 p1),p4,p5,fun i j e x u g1 g2 g3=>(p6 i j e x u g1 g2 g3).mono hρ hc F.hs⟩
 ·intro id h
  have h:LS.hf (bV ids m s.nx rows s.h) id= .free:=h
  rw[hh]at h
  by_cases hid:s.nx≤id∧id<s.nx+(n-m)
  ·rw[if_pos hid]at h;cases h
  ·rw[if_neg hid]at h
   rw[hρ2]
   simp only
   rw[if_neg hid]
   refine R.free id ?_
   unfold uZ at h
   split at h
   ·split at h<;>cases h
   ·exact h
 ·intro i1 i2 r1 r2 b' β β' z z' g1 g2 g3 g4
  have new_old:∀{i1 i2 r1 r2 b' β β' z z'},(∃j,j<n∧r1=bG g ((rs' b).getD j ⟨0,[],0⟩)∧ρ2 i1=ρ' j∧((s.nx≤i1∧j=m+(i1-s.nx))∨(i1∈ids∧j<m∧ids[j]?=some i1)))→(i2∉ids∧LS.hf s.h i2= .live r2∧ρ2 i2=ρ i2)→ρ2 i1=some (b',β,z)→ρ2 i2=some (b',β',z')→False:=by
   rintro i1 i2 r1 r2 b' β β' z z' ⟨j,hj,rfl,e1,_⟩ ⟨f0,f1,f2⟩ q1 q2
   rw[e1]at q1
   rw[f2]at q2
   rcases F.hn j _ _ (rlive j hj) q1 with⟨i,q,t1,t2⟩|t
   ·simp only[renρ,Nat.zero_le,if_true,Nat.sub_zero]at t1
    cases hi:ids[i]? with
    |none=>rw[hi]at t1;cases t1
    |some id'=>
     rw[hi]at t1
     exact hother f0 f1 q2 id' (List.mem_of_getElem? hi) q t1 t2
   ·have:=(R.vV f1 q2).1
    simp only at t
    omega
  rcases ent g1 with c1|c1<;>rcases ent g2 with c2|c2
  ·obtain⟨j1,hj1,rfl,e1,d1⟩:=c1
   obtain⟨j2,hj2,rfl,e2,d2⟩:=c2
   rw[e1]at g3
   rw[e2]at g4
   have hj:=H'.inj _ _ _ _ _ _ _ _ _ (rlive j1 hj1) (rlive j2 hj2) g3 g4
   subst hj
   rcases d1 with⟨d1,d1'⟩|⟨d1,d1',d1''⟩<;>rcases d2 with⟨d2,d2'⟩|⟨d2,d2',d2''⟩
   ·omega
   ·omega
   ·omega
   ·rw[d1'']at d2'';cases d2'';rfl
  ·exact(new_old c1 c2 g3 g4).elim
  ·exact(new_old c2 c1 g4 g3).elim
  ·obtain⟨_,f1,f2⟩:=c1
   obtain⟨_,f3,f4⟩:=c2
   rw[f2]at g3
   rw[f4]at g4
   exact R.inj _ _ _ _ _ _ _ _ _ f1 f3 g3 g4
 ·intro id k cs h i x hx
  have h:LS.hf (bV ids m s.nx rows s.h) id= .u3 k cs:=h
  rw[hh]at h
  by_cases hid:s.nx≤id∧id<s.nx+(n-m)
  ·rw[if_pos hid]at h;cases h
  ·rw[if_neg hid]at h
   unfold uZ at h
   split at h
   ·split at h<;>cases h
   ·exact(R.mS id k cs h i x hx).mono hρ hc F.hs
 ·intro id b' q f' h
  have h:LS.hf (bV ids m s.nx rows s.h) id= .mp b' q f':=h
  rw[hh]at h
  by_cases hid:s.nx≤id∧id<s.nx+(n-m)
  ·rw[if_pos hid]at h;cases h
  ·rw[if_neg hid]at h
   unfold uZ at h
   split at h
   ·split at h<;>cases h
   ·obtain⟨q1,q2⟩:=R.iM id b' q f' h
    exact⟨q1,q2.keep hmaps⟩
 ·intro b' o h
  refine hkeep b' o (R.fY b' o h) fun id hi p hp e=>?_
  obtain⟨r,hr⟩:=hlive id hi
  have:=R.dH id r p hr hp
  rw[e,h]at this
  cases this
 ·intro id r p h hp
  rcases hnew h hp with⟨j,r0,q,h1,h2,h3⟩|h1
  ·rw[←h3];exact R.dH j r0 q h1 h2
  ·exact R.a7a h1
 ·intro id b' q f' h
  have h:LS.hf (bV ids m s.nx rows s.h) id= .mp b' q f':=h
  rw[hh]at h
  by_cases hid:s.nx≤id∧id<s.nx+(n-m)
  ·rw[if_pos hid]at h;cases h
  ·rw[if_neg hid]at h
   unfold uZ at h
   split at h
   ·split at h<;>cases h
   ·exact R.nD id b' q f' h
end
end
section
def Z3(fn:Func)(xs:List AV)(rs:List Row)(m:Nat):LS:=
 ⟨xs++List.replicate (fn.ntmps-xs.length) .Z,j7 0 rs++[(7,.u3 99 ((List.range m).map fun j=> .ptr j 0 0))],8⟩
def a1g(P:Program)(fn:Func)(rs:List Row)(m:Nat){α:Type}(I:α→Prop)(y:α→AV)(rs':α→List Row)(e:Exit)(s:LS):Prop:=
 (match e with| .normal| .ret=>True|_=>False)∧∃x,nL P s.n8 fn.results.toList=some x∧∃a,I a∧∃ids:List Nat,ids.Nodup∧(rs' a).length=ids.length∧((rs' a).take m).map Row.sz=(rs.take m).map Row.sz∧
  (∃gid,B6 99 s.h=some (gid,(ids.take m).map fun j=> .ptr j 0 0)∧LS.hf s.h gid= .u3 99 ((ids.take m).map fun j=> .ptr j 0 0))∧n6 (p8 ids 0) 4 x=some (y a)∧b6 (LS.hf s.h) (p8 ids 0) ids=some (rs' a)
section
variable {P:Program} {f:FuncId} {fn:Func} {c:Code} {xs:List AV} {rs:List Row} {m:Nat} {α:Type} {I:α→Prop} {y:α→AV} {rs':α→List Row}
theorem b28(fn:Func)(xs:List AV)(rs:List Row)(m:Nat)(id:Nat)(hrs:rs.length≤7):LS.hf (Z3 fn xs rs m).h id=if id=7 then .u3 99 ((List.range m).map fun j=> .ptr j 0 0)else s7 0 rs id:=by
 simp only[Z3,LS.hf,lookup_append,dD,s7]
 by_cases h1:0≤id∧id<0+rs.length
 ·rw[if_pos h1,if_neg (by omega),if_pos h1];rfl
 ·rw[if_neg h1,if_neg h1]
  by_cases h2:id=7
  ·subst h2;simp
  ·have:(id==7)=false:=by simpa using h2
   simp only[List.lookup_cons,this,List.lookup_nil,if_neg h2]
   rfl
open Classical in
theorem a3Z [j9 P] (hf:P.funcs[f]?=some fn) (hb:fn.body=some c) (hn:(fn.name== "runtime.NumGoroutine")=false) (hrs:rs.length≤7) (hm:m≤rs.length)
  (h:eR (md:=false) P c (Z3 fn xs rs m) (a1g P fn rs m I y rs')):y9 P f xs rs m I y rs':=by
 refine⟨⟨fn,hf,by simp [hb],hn⟩,fun M0 w0 ρ w args hg H hargs=>?_⟩
 have rlive:∀j,j<rs.length→s7 0 rs j= .live (rs.getD j ⟨0,[],0⟩):=fun j hj=>by
  unfold s7;rw[if_pos (by omega)];rfl
 have rlt:∀j p,ρ j=some p→j<rs.length:=fun j p h=>by
  rcases Nat.lt_or_ge j rs.length with h'|h'
  ·exact h'
  ·have:=H.free j (by unfold s7;rw[if_neg (by omega)])
   rw[this]at h;cases h
 have hfi:=fun id=>b28 fn xs rs m id hrs
 have hMo:p7 M0 ρ (LS.hf (Z3 fn xs rs m).h)=p7 M0 ρ (s7 0 rs):=bT fun id r=>by
  rw[hfi]
  by_cases h7:id=7
  ·subst h7
   rw[if_pos rfl]
   unfold s7
   rw[if_neg (by omega)]
   simp
  ·rw[if_neg h7]
 let kp:Nat→Option Obj:=fun b=>if∃j p,ρ j=some p∧p.1=b then none else w.heap[b]?
 let G:Gh:=⟨fun _ i=>match ρ i with|some (b,β,_)=> .pointer (some ⟨b,β,none⟩)|none=>undef,
  fun x u=>∃b o c,¬p7 M0 ρ (s7 0 rs) b o∧w.cell? ⟨b,o,none⟩=some c∧x= .Z9 [[.v c]] 0 0∧u= .pointer (some ⟨b,o,none⟩),kp,w.shape?,[]⟩
 have R0:E8 G M0 w0 (Z3 fn xs rs m) ρ {tmps:=args++Array.replicate (fn.ntmps-args.size) undef,defers:=[]} w:=by
  refine⟨{n:=?_,tm:=?_,live:=?_,free:=?_,inj:=?_,U2:=H.U2,m0:=?_,defers:=rfl,mS:=?_,lE:=?_,iM:=?_,fY:=?_,dH:=?_,nD:=?_,oI:=fun _ _ h=>h},?_⟩
  ·simp [Z3,LS.n8,hargs.1]
  ·intro t
   show r7 (p7 M0 ρ (LS.hf (Z3 fn xs rs m).h)) ρ w (LS.tf (Z3 fn xs rs m).t t) _
   rw[hMo]
   simp only[Z3,LS.tf,List.getD_eq_getElem?_getD]
   by_cases ht:t<xs.length
   ·rw[List.getElem?_append_left ht,List.getElem?_eq_getElem ht,Option.getD_some]
    have h2:t<args.size:=by rw[hargs.1];exact ht
    have e:(args++Array.replicate (fn.ntmps-args.size) undef).getD t undef=args[t]:=by
     rw[Array.getD_eq_getD_getElem?,Array.getElem?_append_left h2]
     simp [h2]
    rw[e]
    exact hargs.2 t xs[t] args[t] (by simp [ht]) (by simp [h2])
   ·rw[List.getElem?_append_right (by omega)]
    have:((List.replicate (fn.ntmps-xs.length) AV.Z)[t-xs.length]?).getD .Z= .Z:=by
     rw[List.getElem?_replicate];split<;>rfl
    rw[this]
    exact .Z _
  ·intro id r h
   have h:LS.hf (Z3 fn xs rs m).h id= .live r:=h
   rw[hfi]at h
   split at h
   ·cases h
   ·show∃b β arr e,ρ id=some (b,β,r.sz)∧_∧_∧_∧_∧∀(i j:Nat) e x u,_→_→_→r7 (p7 M0 ρ (LS.hf (Z3 fn xs rs m).h)) ρ w x u
    rw[hMo];exact H.live id r h
  ·intro id h
   have h:LS.hf (Z3 fn xs rs m).h id= .free:=h
   rw[hfi]at h
   split at h
   ·cases h
   ·exact H.free id h
  ·intro i1 i2 r1 r2 b β β' z z' h1 h2 h3 h4
   have h1:LS.hf (Z3 fn xs rs m).h i1= .live r1:=h1
   have h2:LS.hf (Z3 fn xs rs m).h i2= .live r2:=h2
   rw[hfi]at h1 h2
   split at h1
   ·cases h1
   ·split at h2
    ·cases h2
    ·exact H.inj i1 i2 r1 r2 b β β' z z' h1 h2 h3 h4
  ·intro b o g
   obtain⟨g1,g2⟩:=H.m0 b o g
   refine .inr ⟨w.heap[b],?_⟩
   show kp b=_
   simp only[kp]
   rw[if_neg,Array.getElem?_eq_getElem g1]
   rintro⟨j,p,q1,q2⟩
   exact g2 j _ p (rlive j (rlt j p q1)) q1 q2
  ·intro id k cs hgh i x hx
   have hgh:LS.hf (Z3 fn xs rs m).h id= .u3 k cs:=hgh
   show r7 (p7 M0 ρ (LS.hf (Z3 fn xs rs m).h)) ρ w x _
   rw[hMo]
   rw[hfi]at hgh
   split at hgh
   ·cases hgh
    rw[List.getElem?_map]at hx
    cases hi:(List.range m)[i]? with
    |none=>rw[hi]at hx;cases hx
    |some j=>
     rw[hi]at hx
     cases hx
     have hj:j<m∧j=i:=by
      have:=(List.getElem?_eq_some_iff.1 hi)
      obtain⟨l1,l2⟩:=this
      simp at l1 l2
      exact⟨by omega,l2.symm⟩
     obtain⟨hj,rfl⟩:=hj
     obtain⟨b,β,arr,e,p1,_⟩:=H.live j _ (rlive j (by omega))
     show r7 _ ρ w (.ptr j 0 0) (match ρ j with|some (b,β,_)=> .pointer (some ⟨b,β,none⟩)|none=>undef)
     rw[p1]
     have:=r7.ptr (M:=p7 M0 ρ (s7 0 rs)) (w:=w) j 0 0 b β _ p1
     simpa using this
   ·unfold s7 at hgh
    split at hgh<;>cases hgh
  ·rintro x u ⟨b,o,c',g1,g2,rfl,rfl⟩
   show r7 (p7 M0 ρ (LS.hf (Z3 fn xs rs m).h)) _ w _ _
   rw[hMo]
   have:=r7.Z9 (M:=p7 M0 ρ (s7 0 rs)) (ρ:=fun _=>none) (w:=w) [[AV.v c']] 0 0 b o 1 (fun _ _=>c') (by simp) (by simp) (by simp) (fun i j hi hj=>by
    have e1:i=0:=by simpa using hi
    have e2:j=0:=by omega
    subst e1;subst e2
    simpa using⟨g1,g2⟩) (fun i j e x h1 h2=>by
    match i,h1 with
    |0,h1=>
     cases h1
     match j,h2 with
     |0,h2=>cases h2;exact .v _)
   simpa using this
  ·intro id b q f' hh
   have hh:LS.hf (Z3 fn xs rs m).h id= .mp b q f':=hh
   rw[hfi]at hh
   split at hh
   ·cases hh
   ·unfold s7 at hh
    split at hh<;>cases hh
  ·intro b o hh
   have hh:kp b=some o:=hh
   simp only[kp]at hh
   split at hh
   ·cases hh
   ·exact hh
  ·intro id r p hh hp
   show kp p.1=none
   simp only[kp]
   rw[if_pos ⟨id,p,hp,rfl⟩]
  ·intro id b q f' hh
   have hh:LS.hf (Z3 fn xs rs m).h id= .mp b q f':=hh
   rw[hfi]at hh
   split at hh
   ·cases hh
   ·unfold s7 at hh
    split at hh<;>cases hh
  ·intro p hp
   simp only[Z3,List.mem_append,List.mem_singleton]at hp
   rcases hp with hp|rfl
   ·have:=rN rs 0 p hp
    simp only[Z3];omega
   ·simp only[Z3];omega
 refine callsIn_wide.1 (callsIn_of_wp_marks (F:=Fence.wide) (n:=0) hf hb trivial (h none (fun _=>rfl) G M0 w0 ρ _ w _ hg R0 ?_))
 intro Ds e s' ρF a' w' hDs k RX
 have key:∀(a':Act) (w':World),E8 G M0 w0 s' ρF a' w'→∃v,(results fn a'.tmps).run P w'= .ok v w'∧∃b ρ',I b∧kN M0 w0 (s7 0 (rs' b)) ρ' w'∧r7 (p7 M0 ρ' (s7 0 (rs' b))) ρ' w' (y b) v∧(∀i,i<m→ρ' i=ρ i)∧a9H M0 ρ (s7 0 rs) w ρ' (s7 0 (rs' b)) w':=by
  intro a' w' R
  obtain⟨_,x,hx,b,hI,ids,hnd,hlen,aD,⟨gid,_,hgh⟩,hy,hp⟩:=k
  obtain⟨v,h1,h2⟩:=aV R.1 hx
  obtain⟨H',up,hM⟩:=lK R.1.toH hnd hp
  obtain⟨gl,gget⟩:=cC hp
  refine⟨v,h1,b,_,hI,H',up 4 x _ v hy h2,?_,?_⟩
  ·intro i hi
   have hml:m≤ids.length:=by
    have:=congrArg List.length aD
    simp only[List.length_map,List.length_take]at this
    omega
   have hil:i<ids.length:=by omega
   have hρ':renρ ρF ids 0 i=ρF ids[i]:=by
    simp only[renρ,Nat.zero_le,if_true,Nat.sub_zero,List.getElem?_eq_getElem hil,Option.bind_some]
   rw[hρ']
   have hg1:=R.1.mS gid 99 _ hgh i (.ptr ids[i] 0 0) (by
    rw[List.getElem?_map,List.getElem?_take,if_pos hi,List.getElem?_eq_getElem hil];rfl)
   obtain⟨b0,β0,arr0,e0,p1,_⟩:=H.live i _ (rlive i (by omega))
   have hg2:G.g 99 i= .pointer (some ⟨b0,β0,none⟩):=by
    show(match ρ i with|some (b,β,_)=>Value.pointer (some ⟨b,β,none⟩)|none=>undef)=_
    rw[p1]
   rw[hg2]at hg1
   have hil2:i<(rs' b).length:=by omega
   obtain⟨id',row0,e1,e2,e3⟩:=gget i (rs' b)[i] (by simp [hil2])
   rw[List.getElem?_eq_getElem hil]at e1
   cases e1
   obtain⟨b1,β1,arr1,e4,q1,_⟩:=R.1.live _ row0 e2
   have hszi:(rs' b)[i].sz=(rs.getD i ⟨0,[],0⟩).sz:=by
    have:=congrArg (fun l=>l[i]?) aD
    simp only[List.getElem?_map,List.getElem?_take,if_pos hi,List.getElem?_eq_getElem hil2,Option.map_some]at this
    have hir:i<rs.length:=by omega
    rw[List.getElem?_eq_getElem hir]at this
    simp only[Option.map_some,Option.some.injEq]at this
    rw[this,List.getD_eq_getElem?_getD,List.getElem?_eq_getElem hir];rfl
   have hr0:row0.sz=(rs' b)[i].sz:=by
    unfold e7 at e3
    split at e3
    ·cases e3;rfl
    ·simp only[Option.map_eq_some_iff]at e3
     obtain⟨es,_,e5⟩:=e3
     rw[←e5]
   rw[p1,q1]
   generalize hu:Value.pointer (some (⟨b0,β0,none⟩:Addr))=u at hg1
   cases hg1 with
   |ptr _ _ _ b2 β2 sz2 g=>
    rw[q1]at g
    cases g
    simp only[Value.pointer.injEq,Option.some.injEq,Addr.mk.injEq,Nat.zero_mul,Nat.add_zero,and_true]at hu
    obtain⟨rfl,rfl⟩:=hu
    rw[hr0,hszi]
  ·refine⟨?_,?_,?_,?_⟩
   ·intro b' o c' g1 g2
    have hk:=R.1.lE (.Z9 [[.v c']] 0 0) (.pointer (some ⟨b',o,none⟩)) ⟨b',o,c',g1,g2,rfl,rfl⟩
    generalize hu:Value.pointer (some (⟨b',o,none⟩:Addr))=u at hk
    cases hk with
    |Z9 _ _ _ b2 o2 sz cell hi hk hsz' hm' hr=>
     have e1:sz=1:=(hsz' _ (List.mem_singleton.2 rfl)).symm
     subst e1
     obtain⟨t1,t2⟩:=hm' 0 0 (by simp) (by simp)
     simp only[Nat.zero_mul,Nat.add_zero,Value.pointer.injEq,Option.some.injEq,Addr.mk.injEq,and_true]at t1 t2 hu
     obtain⟨rfl,rfl⟩:=hu
     have:=hr 0 0 _ _ rfl rfl
     rw[this.Y8]at t2
     exact⟨fun q=>t1 (hM _ _ q),t2⟩
   ·intro r s h;exact R.1.oI r s h
   ·intro b' x' g1 g2
    refine R.1.fY b' x' ?_
    show kp b'=some x'
    simp only[kp]
    rw[if_neg,g1]
    rintro⟨j,p,q1,q2⟩
    exact g2 j p q1 q2
   ·intro id r p g1 g2
    unfold s7 at g1
    split at g1
    ·rename_i hr
     have hlt:id<ids.length:=by omega
     have hlt2:id<(rs' b).length:=by omega
     obtain⟨id',row0,e1,e2,e3⟩:=gget id (rs' b)[id] (by simp [hlt2])
     simp only[renρ,Nat.zero_le,if_true,Nat.sub_zero,e1,Option.bind_some]at g2
     have:=R.1.dH id' row0 p e2 g2
     have this:kp p.1=none:=this
     simp only[kp]at this
     split at this
     ·rename_i hq
      obtain⟨j,q,q1,q2⟩:=hq
      exact .inl ⟨j,q,q1,q2⟩
     ·exact .inr (Array.getElem?_eq_none_iff.1 this)
    ·cases g1
 have k1:=k.1
 cases e<;>first
  |exact jE (P:=P) (fn:=fn) Ds hDs rfl R0.1.m0 RX.1 (fun a2 w2 _ R2=>let⟨v,h1,b,ρ',h2,h3,h4,h5,h6⟩:=key a2 w2 ⟨R2,RX.2⟩;⟨v,h1,v,b,ρ',rfl,h2,h3,h4,h5,h6⟩)
  |exact k1.elim
end
end
section
def a6V(l:List Oper):Bool:=(List.range l.length).all fun i=>match l[i]? with
 |some o=>o.after.all fun e=> !Region.binds .any e||decide (e.on<i)
 |none=>true
def a7b(l:List Oper):Bool:=(List.range (l.length-1)).all fun i=>((Q9 l []).getD (l.length-1) 0).testBit i
section
variable {G:Gh} {M0:Nat→Nat→Prop} {w0:World} {P:Program} {Q':Exit→Act→World→Prop}
structure vW (n:Nat) (l' l:Array Bool):Prop where
 s':l'.size=n
 s:l.size=n+1
 eq:∀j,j<n→l'.getD j true=l.getD j true
 last:l.getD n true=false
theorem eB(l:Array Bool){j:Nat}(h:j<l.size):l.getD j true=l.getD j false:=by
 simp [h]
theorem vW.eqf{n:Nat}{l' l:Array Bool}(c:vW n l' l){j:Nat}(h:j<n):l'.getD j false=l.getD j false:=by
 have h1:=c.s'
 have h2:=c.s
 rw[←eB l' (by omega),←eB l (by omega)]
 exact c.eq j h
theorem vW.set{n:Nat}{l' l:Array Bool}(c:vW n l' l){i:Nat}(h:i<n):vW n (l'.setIfInBounds i true) (l.setIfInBounds i true):=by
 refine⟨by simp [c.s'],by simp [c.s],fun j hj=>?_,?_⟩
 ·by_cases hij:i=j
  ·subst hij
   have h1:=c.s'
   have h2:=c.s
   have e1:i<l'.size:=by omega
   have e2:i<l.size:=by omega
   simp [e1,e2]
  ·rw[getD_set_ne true hij,getD_set_ne true hij];exact c.eq j hj
 ·rw[getD_set_ne true (by omega)];exact c.last
theorem b1u [j9 P] (m:Option Nat) (hgl:j9.ok P w0) {L0:List Oper} {o:Oper} (hback:a6V (L0++[o])=true) (hlast:a7b (L0++[o])=true) {E:Nat→pW} {Q:St→Prop}
  (hQ:∀s ρ a w,Q s→Rel G M0 w0 s ρ a w→wpListIn (bP m) 0 P (L0++[o]).toArray Q' [o] a w):
  ∀(fuel:Nat) (l' l:Array Bool) (s:St) (ρ:Nat→Option (Nat×Nat×Nat)) (a:Act) (w:World),vW L0.length l' l→gS (L0++[o]).toArray l→Rel G M0 w0 s ρ a w→a7S P L0.toArray E Q fuel l' s→wpAnyIn (bP m) 0 P .any (L0++[o]).toArray Q' (fuel+1) l a w:=by
 have hget:∀i,i<L0.length→(L0++[o]).toArray[i]?=L0.toArray[i]?:=fun i hi=>by
  simp [List.getElem?_append_left hi]
 have hgetn:(L0++[o]).toArray[L0.length]?=some o:=by simp
 have hedge:∀(i:Nat) oi,(L0++[o]).toArray[i]?=some oi→∀e∈oi.after,Region.binds .any e=true→e.on<i:=by
  intro i oi hi e he hb
  have hi':(L0++[o])[i]?=some oi:=by simpa using hi
  have hlt:i<(L0++[o]).length:=(List.getElem?_eq_some_iff.1 hi').1
  unfold a6V at hback
  rw[List.all_eq_true]at hback
  have:=hback i (List.mem_range.2 hlt)
  rw[hi']at this
  simp only[Array.all_eq_true_iff_forall_mem]at this
  have:=this e he
  simpa[hb]using this
 have hall:∀l:Array Bool,gS (L0++[o]).toArray l→L0.length∈Region.ready .any (L0++[o]).toArray l→∀j,j<L0.length→l.getD j false=true:=by
  intro l hc hr j hj
  obtain⟨_,o',ho',hdep⟩:=mem_ready.1 hr
  rw[hgetn]at ho'
  cases ho'
  unfold a7b at hlast
  rw[List.all_eq_true]at hlast
  have hd:qR (Q9 (L0++[o]) []) j L0.length:=by
   have:=hlast j (List.mem_range.2 (by simpa using hj))
   simpa[qR]using this
  obtain⟨e,he,hb,h1⟩:=b5P (l:=L0++[o]) (j:=L0.length) (o:=o) (by simp) hd
  have hl:=hdep e he hb
  rcases h1 with rfl|⟨_,h1⟩
  ·exact hl
  ·exact b6U hc _ hl j h1
 have hiff:∀l' l:Array Bool,vW L0.length l' l→∀i,i<L0.length→(i∈Region.ready .any (L0++[o]).toArray l↔i∈Region.ready .any L0.toArray l'):=by
  intro l' l c i hi
  rw[mem_ready,mem_ready,hget i hi,c.eq i hi]
  refine and_congr Iff.rfl ⟨?_,?_⟩
  ·rintro⟨o',h1,h2⟩
   exact⟨o',h1,fun e he hb=>by
    have:=hedge i o' (by rw[hget i hi];exact h1) e he hb
    rw[c.eqf (by omega)];exact h2 e he hb⟩
  ·rintro⟨o',h1,h2⟩
   exact⟨o',h1,fun e he hb=>by
    have:=hedge i o' (by rw[hget i hi];exact h1) e he hb
    rw[←c.eqf (by omega)];exact h2 e he hb⟩
 have hsome:∀l' l:Array Bool,vW L0.length l' l→Region.ready .any (L0++[o]).toArray l≠[]∧(Region.ready .any L0.toArray l'=[]→L0.length∈Region.ready .any (L0++[o]).toArray l):=by
  intro l' l c
  by_cases h:∃j,j<L0.length∧l.getD j true=false
  ·obtain⟨j,⟨hj,hu⟩,hmin⟩:=b4r _ h
   have hr:j∈Region.ready .any (L0++[o]).toArray l:=by
    rw[mem_ready]
    refine⟨hu,L0[j],by rw[hget j hj];simp [hj],fun e he hb=>?_⟩
    have hlt:=hedge j L0[j] (by rw[hget j hj];simp [hj]) e he hb
    cases hq:l.getD e.on true with
    |true=>rw[eB l (by have:=c.s;omega)]at hq;exact hq
    |false=>exact absurd (hmin e.on ⟨by omega,hq⟩) (by omega)
   refine⟨fun e=>(by rw[e]at hr;cases hr),fun e=>?_⟩
   have:=(hiff l' l c j hj).1 hr
   rw[e]at this;cases this
  ·have hr:L0.length∈Region.ready .any (L0++[o]).toArray l:=by
    rw[mem_ready]
    refine⟨c.last,o,hgetn,fun e he hb=>?_⟩
    have hlt:=hedge _ o hgetn e he hb
    cases hq:l.getD e.on true with
    |true=>rw[eB l (by have:=c.s;omega)]at hq;exact hq
    |false=>exact absurd ⟨e.on,hlt,hq⟩ h
   exact⟨fun e=>(by rw[e]at hr;cases hr),fun _=>hr⟩
 have hend:∀(k:Nat) (l' l:Array Bool) (a:Act) (w:World),vW L0.length l' l→(∀j,j<L0.length→l.getD j false=true)→Q' .normal a w→wpAnyIn (bP m) 0 P .any (L0++[o]).toArray Q' k (l.setIfInBounds L0.length true) a w:=by
  intro k l' l a w c hl hq
  have hnone:Region.ready .any (L0++[o]).toArray (l.setIfInBounds L0.length true)=[]:=by
   refine List.eq_nil_iff_forall_not_mem.2 fun i hi=>?_
   obtain⟨h1,o',h2,_⟩:=mem_ready.1 hi
   have hlt:i<L0.length+1:=by
    have:=(Array.getElem?_eq_some_iff.1 h2).1
    simpa using this
   by_cases hin:i=L0.length
   ·subst hin
    have:L0.length<l.size:=by have:=c.s;omega
    simp [this]at h1
   ·rw[getD_set_ne true (Ne.symm hin)]at h1
    have:=hl i (by omega)
    rw[eB l (by have:=c.s;omega),this]at h1
    cases h1
  cases k with
  |zero=>exact⟨hnone,hq⟩
  |succ k=>exact⟨fun _=>hq,fun i hi=>by rw[hnone]at hi;cases hi⟩
 have hfin:∀(k:Nat) (l' l:Array Bool) (s:St) (ρ:Nat→Option (Nat×Nat×Nat)) (a:Act) (w:World),vW L0.length l' l→gS (L0++[o]).toArray l→L0.length∈Region.ready .any (L0++[o]).toArray l→Q s→Rel G M0 w0 s ρ a w→
   wpOpIn (bP m) 0 P (L0++[o]).toArray Q' L0.length (wpAnyIn (bP m) 0 P .any (L0++[o]).toArray Q' k (l.setIfInBounds L0.length true)) a w:=by
  intro k l' l s ρ a w c hc hr hq R
  have h1:=hall l hc hr
  have h2:=hQ s ρ a w hq R
  refine wpOpIn_mono (K:=fun a w=>Q' .normal a w) (fun a w hh=>hend k l' l a w c h1 hh) ?_
  unfold wpOpIn
  rw[hgetn]
  exact h2
 intro fuel
 induction fuel with
 |zero=>
  intro l' l s ρ a w c hc R h
  obtain⟨h1,h2⟩:=hsome l' l c
  refine⟨fun e=>absurd e h1,fun i hi=>?_⟩
  by_cases hin:i=L0.length
  ·subst hin
   exact hfin 0 l' l s ρ a w c hc hi h.2 R
  ·obtain⟨_,o',g2,_⟩:=mem_ready.1 hi
   have hlt:i<L0.length:=by
    have:=(Array.getElem?_eq_some_iff.1 g2).1
    simp at this
    omega
   have:=(hiff l' l c i hlt).1 hi
   rw[h.1]at this;cases this
 |succ fuel ih=>
  intro l' l s ρ a w c hc R h
  obtain⟨h1,h2⟩:=hsome l' l c
  refine⟨fun e=>absurd e h1,fun i hi=>?_⟩
  by_cases hin:i=L0.length
  ·subst hin
   have hr':Region.ready .any L0.toArray l'=[]:=by
    refine List.eq_nil_iff_forall_not_mem.2 fun j hj=>?_
    obtain⟨g1,o',g2,_⟩:=mem_ready.1 hj
    have hjl:j<L0.length:=by
     have:=(Array.getElem?_eq_some_iff.1 g2).1
     simpa using this
    have:=hall l hc hi j hjl
    rw[c.eq j hjl,eB l (by have:=c.s;omega),this]at g1
    cases g1
   exact hfin _ l' l s ρ a w c hc hi (h.1 hr') R
  ·obtain⟨_,o',g2,_⟩:=mem_ready.1 hi
   have hlt:i<L0.length:=by
    have:=(Array.getElem?_eq_some_iff.1 g2).1
    simp at this
    omega
   obtain⟨oi,ho,hy,hrest⟩:=h.2 i ((hiff l' l c i hlt).1 hi)
   obtain⟨hd,hy⟩:=hy
   have hcs:=lC hc hi
   unfold wpOpIn
   rw[hget i hlt,ho]
   simp only
   have hgA:∀b,gA L0.toArray oi s=some b→gA (L0++[o]).toArray oi s=some b:=by
    intro b hb
    unfold gA at hb⊢
    cases hg:oi.guard with
    |none=>rw[hg]at hb;exact hb
    |some p=>
     obtain⟨j,want⟩:=p
     rw[hg]at hb
     simp only at hb⊢
     cases hj:L0.toArray[j]? with
     |none=>rw[hj]at hb;cases hb
     |some oj=>
      have hjl:j<L0.length:=by
       have:=(Array.getElem?_eq_some_iff.1 hj).1
       simpa using this
      rw[hget j hjl];exact hb
   cases hE:E i with
   |none=>
    rw[hE]at hy hrest
    simp only at hy
    rw[a61 R (hgA _ hy),if_neg (by simp)]
    exact⟨fun f _=>jG m f,ih _ _ _ _ _ _ (c.set hlt) hcs (R.pure hd (.v _)) hrest⟩
   |some p=>
    obtain⟨nid,fx⟩:=p
    rw[hE]at hy hrest
    simp only at hy
    rw[a61 R (hgA _ hy.1),if_pos rfl]
    exact bH m (gT hy.2.1) (mP hgl R hd hy.2.2 hy.2.1 fun ρ' a' w' R'=>ih _ _ _ _ _ _ (c.set hlt) hcs R' hrest)
theorem a3g [j9 P] (m:Option Nat) (hgl:j9.ok P w0) {id:Nat} {L0:List Oper} {o:Oper} {es:List pW} {s s':St} {ρ:Nat→Option (Nat×Nat×Nat)} {a:Act} {w:World} (hm:P.follows .mixedOrders=true) (R:Rel G M0 w0 s ρ a w)
  (hB:Region.lexB .any L0.toArray=true) (hback:a6V (L0++[o])=true) (hlast:a7b (L0++[o])=true)
  (hmem:∀i j,i<j→j<L0.length→¬qR (Q9 L0 []) i j→dK (es.getD i none) (es.getD j none)) (hR:oL P L0.toArray L0 s es s')
  (hQ:∀ρ' a' w',Rel G M0 w0 s' ρ' a' w'→wpListIn (bP m) 0 P (L0++[o]).toArray Q' [o] a' w'):(Code.region id (L0++[o]).toArray true).wpIn (bP m) 0 P Q' a w:=by
 simp only[Region.lexB,Bool.and_eq_true]at hB
 refine wpIn_region_any hm ?_
 have aD:(L0++[o]).toArray.size=L0.length+1:=by simp
 have hsz0:L0.toArray.size=L0.length:=by simp
 rw[aD]
 rw[hsz0]at hB
 refine b1u m hgl hback hlast (E:=fun i=>es.getD i none) (Q:=fun t=>t=s') (fun t ρ' a' w' e R'=>by subst e;exact hQ _ _ _ R') L0.length (Array.replicate L0.length false) _ s ρ a w.drew ?_ ?_ R.drew ?_
 ·refine⟨by simp,by simp,fun j hj=>?_,?_⟩
  ·rw[Array.getD_eq_getD_getElem?,Array.getD_eq_getD_getElem?,Array.getElem?_replicate,Array.getElem?_replicate,if_pos hj,if_pos (by omega)]
  ·rw[Array.getD_eq_getD_getElem?,Array.getElem?_replicate,if_pos (by omega)];rfl
 ·intro k hk
  exfalso
  simp only[Array.getD_eq_getD_getElem?,Array.getElem?_replicate]at hk
  split at hk<;>simp at hk
 ·refine sV hmem L0 0 _ s s' es (by simp) ?_ (fun j _=>Nat.zero_le _) hB.2 (fun j hj=>by simp) hR rfl
  intro k hk
  exfalso
  simp only[Array.getD_eq_getD_getElem?,Array.getElem?_replicate]at hk
  split at hk<;>simp at hk
end
section
variable {P:Program} {s:LS} {K:Exit→LS→Prop} {k:List KF}
theorem a5T{l:List Oper}(h:l≠[]):l.dropLast++[l.getLastD default]=l:=by
 rw[List.getLastD_eq_getLast?,List.getLast?_eq_some_getLast h,Option.getD_some]
 exact List.dropLast_concat_getLast h
def b4q(P:Program)[j9 P](ops:List (Option Tmp))(o:Oper)(N:LS→Prop)(s:LS):Prop:=gF P ops [o] s N
theorem a3G[j9 P]{ops:List (Option Tmp)}{o:Oper}{N:LS→Prop}(h:gF P ops [o] s N):b4q P ops o N s:=h
theorem b2N {md:Bool} [j9 P] {id:Nat} {l:List Oper} (hm:P.follows .mixedOrders=true) (hne:l.isEmpty=false) (hB:Region.lexB .any l.dropLast.toArray=true) (hback:a6V l=true) (hlast:a7b l=true)
  (h:∀N:LS→Prop,(∀s,Y2 (md:=md) P K k .normal s→N s)→∀mk,Q9 l.dropLast []=mk→lL P (X9 l.dropLast) mk l.dropLast s [] (b4q P (X9 l) (l.getLastD default) N)):AK (md:=md) P (.region id l.toArray true) k s K:=by
 intro m hmm G M0 w0 ρ a w Q hg R hQ
 have hsp:=a5T (l:=l) (by intro e;rw[e]at hne;cases hne)
 obtain⟨es,s',h1,h2,h3,h4,h5⟩:=vG l.dropLast s [] _ R.2 (h _ (fun _ k=>k) _ rfl)
 have h4':=iB [l.getLastD default] s' _ h4
 generalize hL0:l.dropLast=L0 at*
 generalize ho:l.getLastD default=o at*
 clear hL0 ho
 subst hsp
 refine a3g m hg hm R.1 hB hback hlast ?_ h2 fun ρ' a' w' R'=>iC m hg [o] (K:=fun s=>Y2 (md:=md) P K k .normal s) ⟨R',h5⟩ h4' fun s2 ρ2 a2 w2 hk R2=>hQ [] _ _ _ _ _ .nil hk (by rw[aS];exact R2)
 intro i j hij hj hnd
 simp only[List.nil_append,dI,List.length_map,List.all_eq_true,List.mem_range,Bool.or_eq_true]at h3
 rcases h3 j (by omega) i hij with g|g
 ·exact absurd g hnd
 ·have e:∀i,i<es.length→(es.map aN).getD i none=aN (es.getD i none):=by
   intro i hi
   simp [List.getD_eq_getElem?_getD,hi]
  rw[e i (by omega),e j (by omega)]at g
  exact a3b g
end
end
section
theorem b08{fn:Func}{n:Nat}(h:fn.ntmps=n)(xs:List AV)(rs:List Row)(m:Nat):Z3 fn xs rs m=⟨xs++List.replicate (n-xs.length) .Z,j7 0 rs++[(7,.u3 99 ((List.range m).map fun j=> .ptr j 0 0))],8⟩:=by subst h;rfl
def tW:AV→Bool
 | .v _=>true
 |_=>false
theorem a9f(id:Nat):∀zs:List AV,zs.all tW=true→zs.mapM (a9e id)=some zs:=by
 intro zs
 induction zs with
 |nil=>intro _;rfl
 |cons z zs ih=>
  intro h
  simp only[List.all_cons,Bool.and_eq_true]at h
  have h1:a9e id z=some z:=by
   cases z<;>first|rfl|(simp [tW]at h)
  rw[List.mapM_cons,h1,ih h.2];rfl
section
variable {P:Program} {s:LS} {N:LS→Prop} {rest:LS→(LS→Prop)→Prop} {restD:LS→oJ→(LS→Prop)→Prop} {log:oJ} {d:Option Tmp} {f:FuncId} {zs cs cs' e:List AV} {val:AV} {n id:Nat}
theorem a26[j9 P](C:iQ P f n (.ptr 0 0 0::zs) cs cs' val)(hz:zs.all tW=true)(h1:LS.hf s.h id= .live ⟨n,[e],0⟩)(h2:e.take cs.length=cs)(h3:cs'.length=cs.length)(h4:cs.all AV.plain=true)(h5:cs'.all AV.plain=true)(h6:val.flat=true):
  a24 P f (.ptr id 0 0::zs) (LS.hf s.h) ⟨val,[(id,some (0,0,cs.length),true)],some (id,0,0,cs'),[],none,[]⟩:=by
 refine .inl ⟨id,⟨n,[e],0⟩,.ptr 0 0 0::zs,cs,cs',val,C,?_,h1,rfl,rfl,fun j hj=>?_,h3,h4,h5,h6,rfl⟩
 ·rw[List.mapM_cons,a9f id zs hz]
  simp [a9e]
 ·show e[j]?=cs[j]?
  rw[←h2,List.getElem?_take]
  have:j<(e.take cs.length).length:=by rw[h2];exact hj
  rw[if_pos (by simp at this;omega)]
theorem a4N [j9 P] (C:iQ P f n (.ptr 0 0 0::zs) cs cs' val) (hz:zs.all tW=true) (h1:LS.hf s.h id= .live ⟨n,[e],0⟩) (h2:e.take cs.length=cs) (h3:cs'.length=cs.length) (h4:cs.all AV.plain=true) (h5:cs'.all AV.plain=true) (h6:val.flat=true)
  (h:rest (s.cE d ⟨val,[(id,some (0,0,cs.length),true)],some (id,0,0,cs'),[],none,[]⟩) N):eY P rest d s N f (.ptr id 0 0::zs):=
 .inr (.inr (.inr ⟨_,a26 C hz h1 h2 h3 h4 h5 h6,h⟩))
theorem a2X [j9 P] (C:iQ P f n (.ptr 0 0 0::zs) cs cs' val) (hz:zs.all tW=true) (h1:LS.hf s.h id= .live ⟨n,[e],0⟩) (h2:e.take cs.length=cs) (h3:cs'.length=cs.length) (h4:cs.all AV.plain=true) (h5:cs'.all AV.plain=true) (h6:val.flat=true)
  (h:restD (s.cE d ⟨val,[(id,some (0,0,cs.length),true)],some (id,0,0,cs'),[],none,[]⟩) (log++[some (s.nx,[(id,some (0,0,cs.length),true)])]) N):eE P restD d s log N f (.ptr id 0 0::zs):=
 .inr ⟨_,a26 C hz h1 h2 h3 h4 h5 h6,h⟩
theorem a4P [j9 P] {xs ys:List AV} {rs:List Row} {m:Nat} {α:Type} {I:α→Prop} {y:α→AV} {rs':α→List Row} (C:y9 P f ys rs m I y rs') (ids:List Nat) (hnd:ids.Nodup) (h1:b6 (LS.hf s.h) (p8 ids 0) ids=some rs) (h2:xs.mapM (n6 (p8 ids 0) 4)=some ys)
  (hm:m≤ids.length) (h3:∀a,I a→m≤(rs' a).length∧(rs' a).length≤m+8)
  (h:∀a,aP (I a)→rest (LS.put ⟨s.t,bV ids m s.nx ((rs' a).map (bG (kS ids m s.nx))) s.h,s.nx+8⟩ d (E6 (kS ids m s.nx) 4 (y a))) N):eY P rest d s N f xs:=
 .inr (.inr (.inl (a5L C ids hnd h1 h2 hm h3 fun a ha=>h a ⟨ha⟩)))
end
theorem b13 {P:Program} {fn:Func} {rs:List Row} {m:Nat} {α:Type} {I:α→Prop} {y:α→AV} {rs':α→List Row} {e:Exit} {s:LS} (he:match e with| .normal| .ret=>True|_=>False) (a:α) (ids:List Nat) {x:AV} {gid:Nat} {gcs:List AV}
  (hx:nL P s.n8 fn.results.toList=some x) (hI:I a) (hnd:ids.Nodup) (hl:(rs' a).length=ids.length) (aD:((rs' a).take m).map Row.sz=(rs.take m).map Row.sz) (hg:B6 99 s.h=some (gid,gcs)) (hg2:LS.hf s.h gid= .u3 99 gcs) (hg3:gcs=(ids.take m).map fun j=> .ptr j 0 0)
  (hy:n6 (p8 ids 0) 4 x=some (y a)) (hp:b6 (LS.hf s.h) (p8 ids 0) ids=some (rs' a)):a1g P fn rs m I y rs' e s:=
 ⟨he,x,hx,a,hI,ids,hnd,hl,aD,⟨gid,by rw[hg,hg3],by rw[hg2,hg3]⟩,hy,hp⟩
theorem vB(r:Nat→Option Nat)(n:Nat){x:AV}(h:x.plain=true):n6 r (n+1) x=some x:=by
 cases x<;>first|rfl|(simp [AV.plain]at h;done)|skip
 rename_i f cs
 cases cs with
 |nil=>rfl
 |cons c cs=>simp [AV.plain]at h
theorem gD{α:Type}{f:α→Option α}:∀{l:List α},(∀x∈l,f x=some x)→l.mapM f=some l:=by
 intro l
 induction l with
 |nil=>intro _;rfl
 |cons a l ih=>
  intro h
  rw[List.mapM_cons,h a (by simp),ih fun x hx=>h x (by simp [hx])];rfl
theorem vE{l:List (List AV)}(h:w7 l=true)(r:Nat→Option Nat):(l.mapM fun(e:List AV)=>e.mapM (n6 r 3))=some l:=
 gD fun e he=>gD fun x hx=>vB r 2 (List.all_eq_true.1 (List.all_eq_true.1 h e he) x hx)
theorem a3L{α β:Type}(f:α→Option β):∀(l l':List α),(l++l').mapM f=(l.mapM f).bind fun x=>(l'.mapM f).map (x++·):=by
 intro l l'
 induction l with
 |nil=>simp
 |cons a l ih=>
  simp only[List.cons_append,List.mapM_cons,ih]
  cases f a with
  |none=>rfl
  |some b=>
   cases l.mapM f with
   |none=>rfl
   |some x=>cases l'.mapM f<;>simp
theorem iA{l:List (List AV)}(h:w7 l=true)(l':List (List AV))(r:Nat→Option Nat):((l++l').mapM fun(e:List AV)=>e.mapM (n6 r 3))=(l'.mapM fun(e:List AV)=>e.mapM (n6 r 3)).map (l++·):=by
 rw[a3L,vE h];rfl
theorem uL(g:Nat→Nat)(n:Nat){x:AV}(h:x.plain=true):E6 g (n+1) x=x:=by
 cases x<;>first|rfl|(simp [AV.plain]at h;done)|skip
 rename_i f cs
 cases cs with
 |nil=>rfl
 |cons c cs=>simp [AV.plain]at h
theorem pH{l:List (List AV)}(h:w7 l=true)(g:Nat→Nat):(l.map fun(e:List AV)=>e.map (E6 g 3))=l:=by
 have:∀e∈l,(e.map (E6 g 3))=e:=fun e he=>by
  have:∀x∈e,E6 g 3 x=x:=fun x hx=>uL g 2 (List.all_eq_true.1 (List.all_eq_true.1 h e he) x hx)
  exact(List.map_congr_left this).trans (List.map_id e)
 exact(List.map_congr_left this).trans (List.map_id l)
theorem fG{l:List (List AV)}(h:w7 l=true)(l':List (List AV))(g:Nat→Nat):((l++l').map fun(e:List AV)=>e.map (E6 g 3))=l++l'.map fun(e:List AV)=>e.map (E6 g 3):=by
 rw[List.map_append,pH h]
end
end Go.Ab
end
section
namespace Go.Proofs.YtgdoiokalfhjoaaDoor
open Go.Ab
open Go.RowKit (Below)
theorem a9w{n:String}{x:Array Value}{w w':World}(h:w.var? Tryd.prog n=some x)(hb:Below w.heap.size w w'):w'.var? Tryd.prog n=some x:=by
 unfold World.var? at h⊢
 cases hg:Tryd.prog.globalNamed n with
 |none=>rw[hg]at h;cases h
 |some g=>
  rw[hg]at h
  simp only[Option.bind_some]at h⊢
  cases hh:w.heap[g]? with
  |none=>rw[hh]at h;cases h
  |some b=>rw[hb.block g (B4 hh)];exact h
def a0n:List Int:=Lib.deBruijn64tab.map fun n:Nat=>(n:Int)
def okW(w:World):Prop:=Lib.TabIs Tryd.prog w "math/bits.deBruijn64tab" .u8 a0n
theorem b1N{w w':World}(h:okW w)(hb:Below w.heap.size w w'):okW w':=a9w h hb
instance:j9 Tryd.prog:=⟨okW,b1N⟩
end Go.Proofs.YtgdoiokalfhjoaaDoor
end
section
namespace Go.Proofs.YtgdoiokalfhjoaaDoor
open Go.Ab
structure H8 where
 k:Int
 n:Int
 v:Int
 deriving DecidableEq
def H8.av(o:H8):List AV:=[.v (.int .i64 o.k),.v (.int .i64 o.n),.v (.int .i32 o.v)]
def O0:H8:=⟨0,0,0⟩
structure l0 where
 op:Int
 sub:Int
 n:Int
 d:H8
 a:H8
 b:H8
 c:H8
 deriving DecidableEq
def l0.av(i:l0):List AV:=[.v (.int .i64 i.op),.v (.int .i64 i.sub),.v (.int .i64 i.n),.v (.int .i64 i.d.k),.v (.int .i64 i.d.n),.v (.int .i32 i.d.v),.v (.int .i64 i.a.k),.v (.int .i64 i.a.n),.v (.int .i32 i.a.v),.v (.int .i64 i.b.k),.v (.int .i64 i.b.n),.v (.int .i32 i.b.v),.v (.int .i64 i.c.k),.v (.int .i64 i.c.n),.v (.int .i32 i.c.v)]
def I0:l0:=⟨0,0,0,O0,O0,O0,O0⟩
structure w4 where
 kind:Int
 sub:Int
 d:H8
 a:H8
 b:H8
 t0:Int
 t1:Int
 deriving DecidableEq
def w4.av(t:w4):List AV:=[.v (.int .i64 t.kind),.v (.int .i64 t.sub),.v (.int .i64 t.d.k),.v (.int .i64 t.d.n),.v (.int .i32 t.d.v),.v (.int .i64 t.a.k),.v (.int .i64 t.a.n),.v (.int .i32 t.a.v),.v (.int .i64 t.b.k),.v (.int .i64 t.b.n),.v (.int .i32 t.b.v),.v (.int .i64 t.t0),.v (.int .i64 t.t1)]
def T0:w4:=⟨0,0,O0,O0,O0,0,0⟩
def j5(l:List l0):List (List AV):=l.map l0.av
structure e8 where
 i:List l0
 t:w4
def e8.av(b:e8):List AV:= .c5 false (j5 b.i)::b.t.av
def B0:e8:=⟨[],T0⟩
def y6(l:List e8):List (List AV):=l.map e8.av
structure Loop where
 h:Int
 r:Int
 b:Int
def Loop.av(l:Loop):List AV:=[.v (.int .i64 l.h),.v (.int .i64 l.r),.v (.int .i64 l.b)]
def loops(l:List Loop):List (List AV):=l.map Loop.av
structure dG where
 name:ByteArray
 space:Int
 ty:Int
 len:Int
def dG.av(a:dG):List AV:=[.v (.string a.name),.v (.int .i64 a.space),.v (.int .i64 a.ty),.v (.int .i64 a.len)]
def A0:dG:=⟨⟨#[]⟩,0,0,0⟩
def H2(l:List dG):List (List AV):=l.map dG.av
def fF(l:List Int):List (List AV):=l.map fun z=>[.v (.int .u8 z)]
def m8(l:List Int):List (List AV):=l.map fun z=>[.v (.int .i64 z)]
structure Code where
 group:Int
 sub:Int
 regs:Int
 I2:Int
 params:Int
 o0:List dG
 loops:List Loop
 b:List e8
def Code.av(c:Code):List AV:=[.v (.int .i64 c.group),.v (.int .i64 c.sub),.v (.int .i64 c.regs),.v (.int .i64 c.I2),.v (.int .i64 c.params),.c5 false (H2 c.o0),.c5 false (Proofs.YtgdoiokalfhjoaaDoor.loops c.loops),.c5 false (y6 c.b)]
theorem p0(l:List l0):(j5 l).length=l.length:=by simp [j5]
theorem w8(l:List l0):(∀e∈j5 l,e.length=15)=True:=by simp [j5,l0.av]
theorem gV(l:List l0)(z:Nat)(h:z<l.length):(j5 l)[z]?=some (l.getD z I0).av:=by simp [j5,h,List.getD_eq_getElem?_getD]
theorem m7(l:List l0):((j5 l).all fun e=>e.all AV.plain)=true:=by simp [j5,l0.av,AV.plain]
theorem a6(l:List l0):w7 (j5 l)=true:=m7 l
theorem b7:j5 []=[]:=rfl
theorem r8(l:List l0)(a b c d e f g h i j k m n o p:Int):
  j5 l++[[.v (.int .i64 a),.v (.int .i64 b),.v (.int .i64 c),.v (.int .i64 d),.v (.int .i64 e),.v (.int .i32 f),.v (.int .i64 g),.v (.int .i64 h),.v (.int .i32 i),.v (.int .i64 j),.v (.int .i64 k),.v (.int .i32 m),.v (.int .i64 n),.v (.int .i64 o),.v (.int .i32 p)]]=j5 (l++[⟨a,b,c,⟨d,e,f⟩,⟨g,h,i⟩,⟨j,k,m⟩,⟨n,o,p⟩⟩]):=by simp [j5,l0.av]
theorem s6(l:List l0):(j5 l).take l.length=j5 l:=by rw[←p0,List.take_length]
theorem y8(l:List l0):(∀e∈j5 l,∀x∈e,AV.one x=true)=True:=by
 simp only[eq_iff_iff,iff_true]
 intro e he x hx
 simp only[j5,List.mem_map]at he
 obtain⟨j,_,rfl⟩:=he
 simp only[l0.av,List.mem_cons,List.not_mem_nil,or_false]at hx
 rcases hx with rfl|rfl|rfl|rfl|rfl|rfl|rfl|rfl|rfl|rfl|rfl|rfl|rfl|rfl|rfl<;>rfl
theorem n3(l:List e8):(y6 l).length=l.length:=by simp [y6]
theorem W6(l:List e8):(∀e∈y6 l,e.length=14)=True:=by simp [y6,e8.av,w4.av]
theorem aA(l:List e8)(z:Nat)(h:z<l.length):(y6 l)[z]?=some (l.getD z B0).av:=by simp [y6,h,List.getD_eq_getElem?_getD]
theorem l8(l:List e8):((y6 l).all fun e=>e.all AV.plain)=true:=by simp [y6,e8.av,w4.av,AV.plain]
theorem a7(l:List e8):w7 (y6 l)=true:=l8 l
theorem Z1:y6 []=[]:=rfl
theorem rE(l:List e8):(∀e∈y6 l,∀x∈e,AV.one x=true)=True:=by
 simp only[eq_iff_iff,iff_true]
 intro e he x hx
 simp only[y6,List.mem_map]at he
 obtain⟨j,_,rfl⟩:=he
 simp only[e8.av,w4.av,List.mem_cons,List.not_mem_nil,or_false]at hx
 rcases hx with rfl|rfl|rfl|rfl|rfl|rfl|rfl|rfl|rfl|rfl|rfl|rfl|rfl|rfl<;>rfl
theorem A6(l:List dG):(H2 l).length=l.length:=by simp [H2]
theorem J8(l:List dG):(∀e∈H2 l,e.length=4)=True:=by simp [H2,dG.av]
theorem y0(l:List dG)(z:Nat)(h:z<l.length):(H2 l)[z]?=some (l.getD z A0).av:=by simp [H2,h,List.getD_eq_getElem?_getD]
theorem y4(l:List dG)(z:Int)(h:0≤z∧z<l.length):(H2 l)[z.toNat]?=some (l.getD z.toNat A0).av:=y0 l z.toNat (by omega)
theorem I3(l:List dG):((H2 l).all fun e=>e.all AV.plain)=true:=by simp [H2,dG.av,AV.plain]
theorem V2(l:List Loop):(loops l).length=l.length:=by simp [loops]
theorem kC(l:List Loop):(∀e∈loops l,e.length=3)=True:=by simp [loops,Loop.av]
theorem n9(l:List Loop):((loops l).all fun e=>e.all AV.plain)=true:=by simp [loops,Loop.av,AV.plain]
theorem uK(l:List Loop)(a b c:Int):loops l++[[.v (.int .i64 a),.v (.int .i64 b),.v (.int .i64 c)]]=loops (l++[⟨a,b,c⟩]):=by simp [loops,Loop.av]
theorem Z8(l:List Loop):(loops l).take l.length=loops l:=by rw[←V2,List.take_length]
theorem nG(l:List Loop):(∀e∈loops l,∀x∈e,AV.one x=true)=True:=by
 simp only[eq_iff_iff,iff_true]
 intro e he x hx
 simp only[loops,List.mem_map]at he
 obtain⟨j,_,rfl⟩:=he
 simp only[Loop.av,List.mem_cons,List.not_mem_nil,or_false]at hx
 rcases hx with rfl|rfl|rfl<;>rfl
theorem a2V(l:List Int):(fF l).length=l.length:=by simp [fF]
theorem b0p(l:List Int):(∀e∈fF l,e.length=1)=True:=by simp [fF]
theorem yW(l:List Int)(z:Nat)(h:z<l.length):(fF l)[z]?=some [.v (.int .u8 (l.getD z 0))]:=by simp [fF,h,List.getD_eq_getElem?_getD]
theorem a74(l:List Int)(z:Int)(h:0≤z∧z<l.length):(fF l)[z.toNat]?=some [.v (.int .u8 (l.getD z.toNat 0))]:=yW l z.toNat (by omega)
theorem F9(l:List Int):(m8 l).length=l.length:=by simp [m8]
theorem bF(l:List Int):(∀e∈m8 l,e.length=1)=True:=by simp [m8]
theorem O4(l:List Int)(z:Nat)(h:z<l.length):(m8 l)[z]?=some [.v (.int .i64 (l.getD z 0))]:=by simp [m8,h,List.getD_eq_getElem?_getD]
theorem V1(l:List Int)(z:Int)(h:0≤z∧z<l.length):(m8 l)[z.toNat]?=some [.v (.int .i64 (l.getD z.toNat 0))]:=O4 l z.toNat (by omega)
theorem j4(l:List Int):((m8 l).all fun e=>e.all AV.plain)=true:=by simp [m8,AV.plain]
theorem u5:m8 []=[]:=rfl
theorem aE(l:List Int)(a:Int):m8 l++[[.v (.int .i64 a)]]=m8 (l++[a]):=by simp [m8]
theorem Q5(l:List Int):(m8 l).take l.length=m8 l:=by rw[←F9,List.take_length]
theorem z8(t:w4):t.av.length=13:=rfl
theorem q9(t:w4):t.av.all AV.plain=true:=by simp [w4.av,AV.plain]
theorem A2(t:w4)(r:Nat→Option Nat):t.av.mapM (n6 r 3)=some t.av:=gD fun x hx=>vB r 2 (List.all_eq_true.1 (q9 t) x hx)
theorem A1(t:w4)(g:Nat→Nat):t.av.map (E6 g 3)=t.av:=by
 have:∀x∈t.av,E6 g 3 x=id x:=fun x hx=>uL g 2 (List.all_eq_true.1 (q9 t) x hx)
 rw[List.map_congr_left this,List.map_id]
theorem z7(l:List e8)(l':List (List AV))(r:Nat→Option Nat):((y6 l++l').mapM fun(e:List AV)=>e.mapM (n6 r 3))=(l'.mapM fun(e:List AV)=>e.mapM (n6 r 3)).map (y6 l++·):=iA (a7 l) l' r
theorem z6(l:List e8)(l':List (List AV))(g:Nat→Nat):((y6 l++l').map fun(e:List AV)=>e.map (E6 g 3))=y6 l++l'.map fun(e:List AV)=>e.map (E6 g 3):=fG (a7 l) l' g
def wrap(n:Int):Int:=IntKind.i64.wrap n
theorem j0(n:Int):IntKind.i64.wrap n=wrap n:=rfl
theorem j3{n:Int}(h: -9223372036854775808≤n)(h2:n<9223372036854775808):wrap n=n:=by
 simp [wrap,IntKind.wrap,IntKind.bits,IntKind.signed];omega
def w32(n:Int):Int:=IntKind.i32.wrap n
theorem pT(n:Int):IntKind.i32.wrap n=w32 n:=rfl
theorem vQ{n:Int}(h: -2147483648≤n)(h2:n<2147483648):w32 n=n:=by
 simp [w32,IntKind.wrap,IntKind.bits,IntKind.signed];omega
theorem x6(a b:Int)(h:0≤a):a.tmod b=a%b:=Int.tmod_eq_emod_of_nonneg h
theorem b3Z(a b:Int)(h:0≤a):a.tdiv b=a / b:=Int.tdiv_eq_ediv_of_nonneg h
end Go.Proofs.YtgdoiokalfhjoaaDoor
end
section
namespace Go.Ab
open Go.RowKit (Below)
section
section
variable {G:Gh} {M0:Nat→Nat→Prop} {w0:World} {ρ:Nat→Option (Nat×Nat×Nat)} {w:World} {P:Program} {K:Exit→LS→Prop} {s:LS}
def mZ(ks:List Nat):Nat→List AV→List AV
 |_,[]=>[]
 |i,x::l=>(if ks.contains i then x else .Z)::mZ ks (i+1) l
theorem pC(ks:List Nat):∀(l:List AV) (i:Nat),(mZ ks i l).length=l.length
 |[],_=>rfl
 |_::l,i=>by simp [mZ,pC ks l (i+1)]
theorem tY(ks:List Nat):∀(l:List AV) (i j:Nat),(mZ ks i l).getD j .Z=l.getD j .Z∨(mZ ks i l).getD j .Z= .Z
 |[],_,_=> .inl rfl
 |x::l,i,0=>by
  simp only[mZ,List.getD_cons_zero]
  split
  ·exact .inl rfl
  ·exact .inr rfl
 |_::l,i,j+1=>by
  simp only[mZ,List.getD_cons_succ]
  exact tY ks l (i+1) j
theorem b2H{t t':List AV}{h:List (Nat×RS)}{nx:Nat}(hl:t'.length=t.length)(hk:∀j,t'.getD j .Z=t.getD j .Z∨t'.getD j .Z= .Z):O8 ⟨t,h,nx⟩ ⟨t',h,nx⟩:=by
 intro G M0 w0 ρ a w ⟨R,hok⟩
 refine⟨ρ,⟨by show a.tmps.size=t'.length;rw[hl];exact R.n,fun j=>?_,R.live,R.free,R.inj,R.U2,R.m0,R.defers,R.mS,R.lE,R.iM,R.fY,R.dH,R.nD,R.oI⟩,hok⟩
 show r7 (p7 M0 ρ (LS.hf h)) ρ w (t'.getD j .Z) _
 rcases hk j with e|e
 ·rw[e];exact R.tm j
 ·rw[e];exact .Z _
theorem fM{md:Bool}[j9 P]{c:Code}{k:List KF}{t:List AV}{h:List (Nat×RS)}{nx:Nat}(ks:List Nat)(hn:AK (md:=md) P c k ⟨mZ ks 0 t,h,nx⟩ K):AK (md:=md) P c k ⟨t,h,nx⟩ K:=
 A5 (b2H (pC ks t 0) fun j=>tY ks t 0 j) hn
theorem iV{md:Bool}[j9 P]{x:Code}{k:List KF}{s:LS}{α:Type}(S:α→LS)(I:α→Prop)(h1:AK (md:=md) P x [] s (S4 (fun s'=>∃a,I a∧O8 s' (S a)) (Y2 (md:=md) P K k)))(h2:∀a,I a→Y2 (md:=md) P K k .normal (S a)):AK (md:=md) P x k s K:=by
 intro m hmm G M0 w0 ρ a w Q hg R hQ
 refine h1 m hmm G M0 w0 ρ a w Q hg R fun Ds e s' ρ' a' w' hD hk R'=>?_
 cases e with
 |normal=>
  obtain⟨x,hI,hw⟩:=hk
  obtain⟨ρ'',R''⟩:=hw _ _ _ _ _ _ R'
  exact hQ Ds .normal _ _ _ _ hD (h2 x hI) R''
 |_=>exact hQ _ _ _ _ _ _ hD hk R'
def oR:Code→List Nat→Code
 |c,[]=>c
 | .seq a _,0::p=>oR a p
 | .seq _ b,1::p=>oR b p
 | .cond _ a _,0::p=>oR a p
 | .cond _ _ b,1::p=>oR b p
 | .block _ c,0::p=>oR c p
 | .loop c,0::p=>oR c p
 |c,_=>c
def cN(f:Func):Code:=f.body.getD .skip
theorem b2E{t:List AV}{h h':List (Nat×RS)}{nx:Nat}(id:Nat)(sz:Nat)(es es':List (List AV))(fro:Nat)(h1:LS.hf h id= .live ⟨sz,es++es',fro⟩)(h2:LS.hf h'=m9 (LS.hf h) id (.live ⟨sz,es,fro⟩))(h3:∀p∈h',p.1<nx):O8 ⟨t,h,nx⟩ ⟨t,h',nx⟩:=by
 intro G M0 w0 ρ a w ⟨R,hok⟩
 have hh:(LS.n8 ⟨t,h',nx⟩).h=m9 (LS.hf h) id (.live ⟨sz,es,fro⟩):=h2
 have live':∀i r,m9 (LS.hf h) id (.live ⟨sz,es,fro⟩) i= .live r→∃r0,LS.hf h i= .live r0∧r0.sz=r.sz∧r0.fro=r.fro∧∃zs,r0.es=r.es++zs:=by
  intro i r hr
  unfold m9 at hr
  split at hr
  ·rename_i e;subst e;cases hr;exact⟨_,h1,rfl,rfl,es',rfl⟩
  ·exact⟨r,hr,rfl,rfl,[],by simp⟩
 have hM:∀b o,p7 M0 ρ (m9 (LS.hf h) id (.live ⟨sz,es,fro⟩)) b o→p7 M0 ρ (LS.hf h) b o:=by
  rintro b o (g|⟨i,r,β,z,g1,g2,g3⟩)
  ·exact .inl g
  ·obtain⟨r0,e1,e2,e3,_⟩:=live' i r g1
   exact .inr ⟨i,r0,β,z,e1,g2,by rw[e3];exact g3⟩
 have other:∀i,(∀r,m9 (LS.hf h) id (.live ⟨sz,es,fro⟩) i≠ .live r)→m9 (LS.hf h) id (.live ⟨sz,es,fro⟩) i=LS.hf h i:=by
  intro i hi
  unfold m9 at hi⊢
  split
  ·rename_i e;rw[if_pos e]at hi;exact absurd rfl (hi _)
  ·rfl
 refine⟨ρ,⟨R.n,fun j=>?_,fun i r hr=>?_,fun i hi=>?_,fun i i' r r' b β β' z z' g1 g2 g3 g4=>?_,R.U2,R.m0,R.defers,fun i k cs hg j x hx=>?_,fun x u hx=>?_,fun i b q f hm=>?_,R.fY,fun i r p hr hp=>?_,fun i b q f hm=>?_,R.oI⟩,h3⟩
 ·rw[hh];exact(R.tm j).oY hM
 ·rw[hh]at hr
  obtain⟨r0,e1,e2,e3,zs,e4⟩:=live' i r hr
  obtain⟨b,β,arr,e,g1,g2,g3,g4,g5,g6⟩:=R.live i r0 e1
  refine⟨b,β,arr,e,by rw[←e2];exact g1,g2,g3,?_,fun x hx=>by rw[←e2];exact g5 x (by rw[e4];simp [hx]),fun i' j e' x u k1 k2 k3=>?_⟩
  ·rw[e4,List.length_append,Nat.add_mul]at g4;rw[←e2];omega
  ·rw[hh]
   have hlt:i'<r.es.length:=(List.getElem?_eq_some_iff.1 k1).1
   exact(g6 i' j e' x u (by rw[e4,List.getElem?_append_left hlt];exact k1) k2 (by rw[e2];exact k3)).oY hM
 ·rw[hh]at hi
  exact R.free i (show LS.hf h i= .free from(other i (fun r hr=>by rw[hr]at hi;cases hi)).symm.trans hi)
 ·rw[hh]at g1 g2
  obtain⟨r0,e1,_⟩:=live' i r g1
  obtain⟨r1,e2,_⟩:=live' i' r' g2
  exact R.inj i i' r0 r1 b β β' z z' e1 e2 g3 g4
 ·rw[hh]at hg
  rw[other i (fun r hr=>by rw[hr]at hg;cases hg)]at hg
  rw[hh];exact(R.mS i k cs hg j x hx).oY hM
 ·rw[hh];exact(R.lE x u hx).oY hM
 ·rw[hh]at hm
  rw[other i (fun r hr=>by rw[hr]at hm;cases hm)]at hm
  exact R.iM i b q f hm
 ·rw[hh]at hr
  obtain⟨r0,e1,_⟩:=live' i r hr
  exact R.dH i r0 p e1 hp
 ·rw[hh]at hm
  rw[other i (fun r hr=>by rw[hr]at hm;cases hm)]at hm
  exact R.nD i b q f hm
end
end
end Go.Ab
end
