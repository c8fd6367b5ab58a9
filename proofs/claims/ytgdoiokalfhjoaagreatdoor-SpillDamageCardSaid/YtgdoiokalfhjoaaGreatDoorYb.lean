/- Own work (by an AI agent; no person has read it): part of a proof of the seat YtgdoiokalfhjoaaGreatDoor. -/
import Derived.Laws.StructEq
import Derived.ChangeKeysEq
import Derived.Test.YtgdoiokalfhjoaaGreatDoorRows
import Derived.Lib.LaidTab
import Derived.Lib.TrailingZeros
import Derived.Test.YtgdoiokalfhjoaaGreatDoorYa
set_option linter.unusedSimpArgs false
set_option linter.unusedVariables false
section
namespace Go.Ab
open Go.RowKit (Below)
section
def n5(r:Nat→Option Nat):Nat→AV→Option AV
 |_,.Z=>some .Z
 |_,.L6=>some .L6
 |_,.v x=>some (.v x)
 |_,.a8 c es=>some (.a8 c es)
 |_,.aA es i k=>some (.aA es i k)
 |_,.own id off k=>(r id).map fun j=> .own j off k
 |_,.ptr id i k=>(r id).map fun j=> .ptr j i k
 |_,.dX id i k=>(r id).map fun j=> .dX j i k
 |n+1,.agg cs=>(cs.mapM (n5 r n)).map .agg
 |n+1,.O2 cs=>(cs.mapM (n5 r n)).map .O2
 |n+1,.fn f cs=>(cs.mapM (n5 r n)).map (.fn f)
 |n+1,.nD f cs=>(cs.mapM (n5 r n)).map (.nD f)
 |0,_=>none
def c8(r:Nat→Option Nat)(row:Row):Option Row:=
 if v7 row.es then some row else(row.es.mapM fun(e:List AV)=>e.mapM (n5 r 3)).map fun es=>⟨row.sz,es,row.fro⟩
def r7(ids:List Nat)(nid:Nat)(id:Nat):Option Nat:=(ids.idxOf? id).map (nid+·)
def b5(h:Nat→RS)(r:Nat→Option Nat):List Nat→Option (List Row)
 |[]=>some []
 |id::ids=>match h id with
  | .live row=>(c8 r row).bind fun row'=>(b5 h r ids).map (row'::·)
  |_=>none
def n9(keep:List Nat)(r:Nat→Option Nat)(i:Nat):List AV→Option (List AV)
 |[]=>some []
 |x::xs=>(if keep.contains i then n5 r 3 x else some .Z).bind fun y=>(n9 keep r (i+1) xs).map (y::·)
section
variable {G:Gh} {M0:Nat→Nat→Prop} {w0:World} {ρ:Nat→Option (Nat×Nat×Nat)} {w:World} {P:Program} {h:Nat→RS}
theorem cF{r:Nat→Option Nat}:∀{ids:List Nat} {rows:List Row},b5 h r ids=some rows→rows.length=ids.length∧∀(j:Nat) row',rows[j]?=some row'→∃id row,ids[j]?=some id∧h id= .live row∧c8 r row=some row':=by
 intro ids
 induction ids with
 |nil=>intro rows hp;cases hp;exact⟨rfl,by simp⟩
 |cons id ids ih=>
  intro rows hp
  simp only[b5]at hp
  split at hp
  ·rename_i row hrow
   cases h1:c8 r row with
   |none=>rw[h1]at hp;cases hp
   |some row'=>
    cases h2:b5 h r ids with
    |none=>rw[h1,h2]at hp;cases hp
    |some rows'=>
     rw[h1,h2]at hp
     cases hp
     obtain⟨g1,g2⟩:=ih h2
     refine⟨by simp [g1],fun j q hq=>?_⟩
     cases j with
     |zero=>simp at hq;subst hq;exact⟨id,row,by simp,hrow,h1⟩
     |succ j=>simp at hq;simpa using g2 j q hq
  ·cases hp
theorem a37{ids:List Nat}{id j:Nat}(hi:ids.idxOf? id=some j):ids[j]?=some id:=by
 rw[List.idxOf?_eq_some_iff]at hi
 obtain⟨h1,h2,_⟩:=hi
 rw[List.getElem?_eq_getElem h1]
 simpa using h2
def renρ(ρ:Nat→Option (Nat×Nat×Nat))(ids:List Nat)(nid:Nat)(i:Nat):Option (Nat×Nat×Nat):=if nid≤i then(ids[i-nid]?).bind ρ else none
theorem renId_ρ{ids:List Nat}{nid id j:Nat}(hr:r7 ids nid id=some j):renρ ρ ids nid j=ρ id:=by
 simp only[r7,Option.map_eq_some_iff]at hr
 obtain⟨k,h1,rfl⟩:=hr
 simp only[renρ]
 rw[if_pos (by omega),show nid+k-nid=k from by omega,a37 h1]
 rfl
theorem b0n{M:Nat→Nat→Prop}{ids:List Nat}{nid:Nat}:∀(n:Nat) (x y:AV) (u:Value),n5 (r7 ids nid) n x=some y→s5 M ρ w x u→s5 M (renρ ρ ids nid) w y u:=by
 intro n
 induction n with
 |zero=>
  intro x y u hr hx
  cases hx with
  |Z=>cases hr;exact .Z _
  |L6 t=>cases hr;exact .L6 t
  |v=>cases hr;exact .v _
  |a8 c es a cap b o sz cell h1 h2 h3 h4 h5 h6=>cases hr;exact .a8 c es a cap b o sz cell h1 h2 h3 h4 h5 h6
  |aA es i k b o sz cell h1 h2 h3 h4 h5=>cases hr;exact .aA es i k b o sz cell h1 h2 h3 h4 h5
  |own id off n cap b β sz N e h1 h2 h3 h4=>simp only[n5,Option.map_eq_some_iff]at hr;obtain⟨j,hj,rfl⟩:=hr;exact .own j off n cap b β sz N e (by rw[renId_ρ hj];exact h1) h2 h3 h4
  |ptr id i k b β sz h1=>simp only[n5,Option.map_eq_some_iff]at hr;obtain⟨j,hj,rfl⟩:=hr;exact .ptr j i k b β sz (by rw[renId_ρ hj];exact h1)
  |dX id i k b β sz h1=>simp only[n5,Option.map_eq_some_iff]at hr;obtain⟨j,hj,rfl⟩:=hr;exact .dX j i k b β sz (by rw[renId_ρ hj];exact h1)
  |_=>simp [n5]at hr
 |succ n ih=>
  intro x y u hr hx
  have many:∀(cs cs':List AV) (vs:Array Value),cs.mapM (n5 (r7 ids nid) n)=some cs'→vs.size=cs.length→(∀(i:Nat) x u,cs[i]?=some x→vs[i]?=some u→s5 M ρ w x u)→
    vs.size=cs'.length∧∀(i:Nat) x u,cs'[i]?=some x→vs[i]?=some u→s5 M (renρ ρ ids nid) w x u:=by
   intro cs cs' vs hm hn hr
   refine⟨by rw[H3 hm];exact hn,fun i x u h1 h2=>?_⟩
   obtain⟨x0,e1,e2⟩:=D9 hm i x h1
   exact ih x0 x u e2 (hr i x0 u e1 h2)
  cases hx with
  |Z=>cases hr;exact .Z _
  |L6 t=>cases hr;exact .L6 t
  |v=>cases hr;exact .v _
  |a8 c es a cap b o sz cell h1 h2 h3 h4 h5 h6=>cases hr;exact .a8 c es a cap b o sz cell h1 h2 h3 h4 h5 h6
  |aA es i k b o sz cell h1 h2 h3 h4 h5=>cases hr;exact .aA es i k b o sz cell h1 h2 h3 h4 h5
  |own id off n cap b β sz N e h1 h2 h3 h4=>simp only[n5,Option.map_eq_some_iff]at hr;obtain⟨j,hj,rfl⟩:=hr;exact .own j off n cap b β sz N e (by rw[renId_ρ hj];exact h1) h2 h3 h4
  |ptr id i k b β sz h1=>simp only[n5,Option.map_eq_some_iff]at hr;obtain⟨j,hj,rfl⟩:=hr;exact .ptr j i k b β sz (by rw[renId_ρ hj];exact h1)
  |dX id i k b β sz h1=>simp only[n5,Option.map_eq_some_iff]at hr;obtain⟨j,hj,rfl⟩:=hr;exact .dX j i k b β sz (by rw[renId_ρ hj];exact h1)
  |agg cs vs hn hh=>
   simp only[n5,Option.map_eq_some_iff]at hr
   obtain⟨cs',hm,rfl⟩:=hr
   obtain⟨g1,g2⟩:=many cs cs' vs hm hn hh
   exact .agg cs' vs g1 g2
  |O2 cs vs hn hh=>
   simp only[n5,Option.map_eq_some_iff]at hr
   obtain⟨cs',hm,rfl⟩:=hr
   obtain⟨g1,g2⟩:=many cs cs' vs hm hn hh
   exact .O2 cs' vs g1 g2
  |fn f cs vs hn hh=>
   simp only[n5,Option.map_eq_some_iff]at hr
   obtain⟨cs',hm,rfl⟩:=hr
   obtain⟨g1,g2⟩:=many cs cs' vs hm hn hh
   exact .fn f cs' vs g1 g2
  |nD f cs vs hn hh=>
   simp only[n5,Option.map_eq_some_iff]at hr
   obtain⟨cs',hm,rfl⟩:=hr
   obtain⟨g1,g2⟩:=many cs cs' vs hm hn hh
   exact .nD f cs' vs g1 g2
theorem rI(H:lE M0 w0 h ρ w){M1:Nat→Nat→Prop}(hM1:∀b o,M1 b o→p8 M0 ρ h b o){ids:List Nat}{nid:Nat}{rows:List Row}(hnd:ids.Nodup)(hm1:∀b o,M1 b o→b<w.heap.size∧∀id∈ids,∀r p,h id= .live r→ρ id=some p→p.1≠b)(hp:b5 h (r7 ids nid) ids=some rows):
  lE M1 w0 (u2 nid rows) (renρ ρ ids nid) w∧(∀n x y u,n5 (r7 ids nid) n x=some y→s5 (p8 M0 ρ h) ρ w x u→s5 (p8 M1 (renρ ρ ids nid) (u2 nid rows)) (renρ ρ ids nid) w y u)∧∀b o,p8 M1 (renρ ρ ids nid) (u2 nid rows) b o→p8 M0 ρ h b o:=by
 obtain⟨hlen,hget⟩:=cF hp
 have look:∀{i:Nat} {row':Row},u2 nid rows i= .live row'→nid≤i∧∃id row,ids[i-nid]?=some id∧h id= .live row∧c8 (r7 ids nid) row=some row':=by
  intro i row' hi
  unfold u2 at hi
  split at hi
  ·rename_i hr
   have hlt:i-nid<rows.length:=by omega
   have e:rows[i-nid]?=some row':=by
    simp only[List.getD_eq_getElem?_getD,List.getElem?_eq_getElem hlt,Option.getD_some,RS.live.injEq]at hi
    rw[List.getElem?_eq_getElem hlt,hi]
   exact⟨hr.1,hget _ _ e⟩
  ·cases hi
 have rsz:∀{row row':Row},c8 (r7 ids nid) row=some row'→row'.sz=row.sz∧row'.fro=row.fro∧row'.es.length=row.es.length:=by
  intro row row' hr
  unfold c8 at hr
  split at hr
  ·cases hr;exact⟨rfl,rfl,rfl⟩
  ·simp only[Option.map_eq_some_iff]at hr
   obtain⟨es,hm,rfl⟩:=hr
   exact⟨rfl,rfl,H3 hm⟩
 have hM:∀b o,p8 M1 (renρ ρ ids nid) (u2 nid rows) b o→p8 M0 ρ h b o:=by
  rintro b o (g|⟨i,row',β,z,g1,g2,g3⟩)
  ·exact hM1 b o g
  ·obtain⟨hi,id,row,e1,e2,e3⟩:=look g1
   simp only[renρ,if_pos hi,e1,Option.bind_some]at g2
   exact .inr ⟨id,row,β,z,e2,g2,by rw[←(rsz e3).2.1];exact g3⟩
 have up:∀n x y u,n5 (r7 ids nid) n x=some y→s5 (p8 M0 ρ h) ρ w x u→s5 (p8 M1 (renρ ρ ids nid) (u2 nid rows)) (renρ ρ ids nid) w y u:=
  fun n x y u h1 h2=>(b0n n x y u h1 h2).pN hM
 refine⟨⟨?_,?_,?_,H.T1,fun b o g=>⟨(hm1 b o g).1,fun i row' p hi hp=>?_⟩⟩,up,hM⟩
 case refine_4=>
  obtain⟨h1,id,row,e1,e2,e3⟩:=look hi
  simp only[renρ,if_pos h1,e1,Option.bind_some]at hp
  exact(hm1 b o g).2 id (List.mem_of_getElem? e1) row p e2 hp
 ·intro i row' hi
  obtain⟨h1,id,row,e1,e2,e3⟩:=look hi
  obtain⟨b,β,arr,e,p1,p2,p3,p4,p5,p6⟩:=H.live id row e2
  obtain⟨q1,q2,q3⟩:=rsz e3
  have hρ:renρ ρ ids nid i=some (b,β,row'.sz):=by simp only[renρ,if_pos h1,e1,Option.bind_some,p1,q1]
  unfold c8 at e3
  split at e3
  ·rename_i hpl
   cases e3
   refine⟨b,β,arr,e,hρ,p2,p3,p4,p5,fun m j e' x u g1 g2 g3=>?_⟩
   have hp:x.plain=true:=by
    have:=List.all_eq_true.1 hpl e' (List.mem_of_getElem? g1)
    exact List.all_eq_true.1 this x (List.mem_of_getElem? g2)
   exact(((p6 m j e' x u g1 g2 g3).Z4 hp).up).pN hM
  ·simp only[Option.map_eq_some_iff]at e3
   obtain⟨es,hm,rfl⟩:=e3
   simp only at q3 hρ⊢
   refine⟨b,β,arr,e,hρ,p2,p3,by rw[q3];exact p4,fun x hx=>?_,fun m j e' x u g1 g2 g3=>?_⟩
   ·obtain⟨m,hm1,hm2⟩:=List.mem_iff_getElem.1 hx
    obtain⟨e0,t1,t2⟩:=D9 hm m x (by simp [hm1,hm2])
    rw[H3 t2]
    exact p5 e0 (List.mem_of_getElem? t1)
   ·obtain⟨e0,t1,t2⟩:=D9 hm m e' g1
    obtain⟨x0,t3,t4⟩:=D9 t2 j x g2
    exact up 3 x0 x u t4 (p6 m j e0 x0 u t1 t3 g3)
 ·intro i hi
  unfold u2 at hi
  simp only[renρ]
  by_cases h1:nid≤i
  ·rw[if_pos h1]
   by_cases h2:i<nid+rows.length
   ·rw[if_pos ⟨h1,h2⟩]at hi;cases hi
   ·rw[List.getElem?_eq_none (by omega)];rfl
  ·rw[if_neg h1]
 ·intro i j r1 r2 b β β' z z' g1 g2 g3 g4
  obtain⟨h1,id1,row1,e1,e2,e3⟩:=look g1
  obtain⟨h2,id2,row2,f1,f2,f3⟩:=look g2
  simp only[renρ,if_pos h1,e1,Option.bind_some]at g3
  simp only[renρ,if_pos h2,f1,Option.bind_some]at g4
  have:=H.inj _ _ _ _ _ _ _ _ _ e2 f2 g3 g4
  subst this
  obtain⟨l1,k1⟩:=List.getElem?_eq_some_iff.1 e1
  obtain⟨l2,k2⟩:=List.getElem?_eq_some_iff.1 f1
  have pw:=List.pairwise_iff_getElem.1 hnd
  rcases Nat.lt_trichotomy (i-nid) (j-nid)with hlt|heq|hlt
  ·exact absurd (by rw[k1,k2]) (pw _ _ l1 l2 hlt)
  ·omega
  ·exact absurd (by rw[k1,k2]) (pw _ _ l2 l1 hlt)
theorem mE(H:lE M0 w0 h ρ w){ids:List Nat}{nid:Nat}{rows:List Row}(hnd:ids.Nodup)(hp:b5 h (r7 ids nid) ids=some rows):
  lE M0 w0 (u2 nid rows) (renρ ρ ids nid) w∧(∀n x y u,n5 (r7 ids nid) n x=some y→s5 (p8 M0 ρ h) ρ w x u→s5 (p8 M0 (renρ ρ ids nid) (u2 nid rows)) (renρ ρ ids nid) w y u)∧∀b o,p8 M0 (renρ ρ ids nid) (u2 nid rows) b o→p8 M0 ρ h b o:=
 rI H (fun _ _ g=> .inl g) hnd (fun b o g=>⟨(H.m0 b o g).1,fun id _ r p=>(H.m0 b o g).2 id r p⟩) hp
end
def w8(r:Nat→Option Nat)(h0:List (Nat×RS)):Nat→List (Nat×RS)→List (Nat×RS)
 |_,[]=>[]
 |n,p::l=>match LS.hf h0 p.1 with
  | .u5 k cs=>(n,.u5 k (cs.map fun x=>(n5 r 3 x).getD .Z))::w8 r h0 (n+1) l
  | .mp b q f=>(n,.mp b q f)::w8 r h0 (n+1) l
  |_=>w8 r h0 n l
def c5(keep ids:List Nat)(s:LS):Option LS:=
 if ids.Nodup then(n9 keep (r7 ids 0) 0 s.t).bind fun t=>(b5 (LS.hf s.h) (r7 ids 0) ids).map fun rows=>
  ⟨t,e9 0 rows++w8 (r7 ids 0) s.h rows.length s.h,rows.length+(w8 (r7 ids 0) s.h rows.length s.h).length⟩else none
theorem b7S{r:Nat→Option Nat}{h0:List (Nat×RS)}:∀(l:List (Nat×RS)) (n:Nat) (p:Nat×RS),p∈w8 r h0 n l→n≤p.1∧p.1<n+(w8 r h0 n l).length∧
  ((∃id k cs,LS.hf h0 id= .u5 k cs∧p.2= .u5 k (cs.map fun x=>(n5 r 3 x).getD .Z))∨∃id b q f,LS.hf h0 id= .mp b q f∧p.2= .mp b q f):=by
 intro l
 induction l with
 |nil=>intro n p h;cases h
 |cons q l ih=>
  intro n p h
  simp only[w8]at h⊢
  split at h
  ·rename_i k cs hg
   simp only[List.mem_cons]at h
   rcases h with rfl|h
   ·exact⟨Nat.le_refl _,by simp,.inl ⟨q.1,k,cs,hg,rfl⟩⟩
   ·obtain⟨h1,h2,h3⟩:=ih (n+1) p h
    exact⟨by omega,by simp only[List.length_cons];omega,h3⟩
  ·rename_i b q' f hg
   simp only[List.mem_cons]at h
   rcases h with rfl|h
   ·exact⟨Nat.le_refl _,by simp,.inr ⟨q.1,b,q',f,hg,rfl⟩⟩
   ·obtain⟨h1,h2,h3⟩:=ih (n+1) p h
    exact⟨by omega,by simp only[List.length_cons];omega,h3⟩
  ·exact ih n p h
theorem xR{l:List (Nat×RS)}{id:Nat}{x:RS}(h:l.lookup id=some x):(id,x)∈l:=by
 induction l with
 |nil=>cases h
 |cons p l ih=>
  obtain⟨i,y⟩:=p
  simp only[List.lookup_cons]at h
  split at h
  ·rename_i hi
   cases h
   have:id=i:=by simpa using hi
   subst this;simp
  ·exact List.mem_cons_of_mem _ (ih h)
theorem c0C(nid:Nat)(rows:List Row):LS.hf (e9 nid rows)=u2 nid rows:=by
 funext id
 simp only[LS.hf,dK,u2]
 split<;>rfl
theorem tD(rows:List Row):∀(nid:Nat),∀p∈e9 nid rows,p.1<nid+rows.length:=by
 induction rows with
 |nil=>intro nid p hp;cases hp
 |cons r rs ih=>
  intro nid p hp
  simp only[e9,List.mem_cons]at hp
  rcases hp with rfl|hp
  ·simp
  ·have:=ih _ p hp;simp;omega
theorem a3l{keep:List Nat}{r:Nat→Option Nat}:∀{l l':List AV} {i:Nat},n9 keep r i l=some l'→l'.length=l.length∧∀(j:Nat) y,l'[j]?=some y→∃x,l[j]?=some x∧(n5 r 3 x=some y∨y= .Z):=by
 intro l
 induction l with
 |nil=>intro l' i h;cases h;exact⟨rfl,by simp⟩
 |cons x xs ih=>
  intro l' i h
  simp only[n9]at h
  cases h1:(if keep.contains i then n5 r 3 x else some AV.Z)with
  |none=>rw[h1]at h;cases h
  |some y=>
   cases h2:n9 keep r (i+1) xs with
   |none=>rw[h1,h2]at h;cases h
   |some ys=>
    rw[h1,h2]at h
    cases h
    obtain⟨g1,g2⟩:=ih h2
    refine⟨by simp [g1],fun j z hz=>?_⟩
    cases j with
    |zero=>
     simp at hz
     subst hz
     refine⟨x,by simp,?_⟩
     split at h1
     ·exact .inl h1
     ·cases h1;exact .inr rfl
    |succ j=>simp at hz;simpa using g2 j z hz
theorem a3Q{keep ids:List Nat}{s s':LS}(h:c5 keep ids s=some s'):N3 s s':=by
 intro G M0 w0 ρ a w ⟨R,hok⟩
 unfold c5 at h
 split at h
 ·rename_i hnd
  cases h1:n9 keep (r7 ids 0) 0 s.t with
  |none=>rw[h1]at h;cases h
  |some t=>
   cases h2:b5 (LS.hf s.h) (r7 ids 0) ids with
   |none=>rw[h1,h2]at h;cases h
   |some rows=>
    rw[h1,h2]at h
    simp only[Option.bind_some,Option.map_some,Option.some.injEq]at h
    subst h
    obtain⟨H,up,hM⟩:=mE R.toH hnd h2
    obtain⟨g1,g2⟩:=a3l h1
    generalize hgs:w8 (r7 ids 0) s.h rows.length s.h=gs
    have hgm:∀p∈gs,rows.length≤p.1∧p.1<rows.length+gs.length∧((∃id k cs,LS.hf s.h id= .u5 k cs∧p.2= .u5 k (cs.map fun x=>(n5 (r7 ids 0) 3 x).getD .Z))∨∃id b q f,LS.hf s.h id= .mp b q f∧p.2= .mp b q f):=by
     intro p hp
     rw[←hgs]at hp⊢
     exact b7S _ _ p hp
    have hcase:∀id,LS.hf (e9 0 rows++gs) id=u2 0 rows id∨(u2 0 rows id= .free∧((∃i k cs,LS.hf s.h i= .u5 k cs∧LS.hf (e9 0 rows++gs) id= .u5 k (cs.map fun x=>(n5 (r7 ids 0) 3 x).getD .Z))∨∃i b q f,LS.hf s.h i= .mp b q f∧LS.hf (e9 0 rows++gs) id= .mp b q f)):=by
     intro id
     have hr:=congrFun (c0C 0 rows) id
     simp only[LS.hf]at hr
     simp only[LS.hf,lookup_append]
     cases hl:(e9 0 rows).lookup id with
     |some x=>rw[hl]at hr;exact .inl hr
     |none=>
      rw[hl]at hr
      cases hl2:gs.lookup id with
      |none=>exact .inl hr
      |some x=>
       obtain⟨_,_,⟨i,k,cs,e1,e2⟩|⟨i,b,q,f,e1,e2⟩⟩:=hgm _ (xR hl2)
       ·exact .inr ⟨hr.symm,.inl ⟨i,k,cs,e1,e2⟩⟩
       ·exact .inr ⟨hr.symm,.inr ⟨i,b,q,f,e1,e2⟩⟩
    have hh:p8 M0 (renρ ρ ids 0) (LS.hf (e9 0 rows++gs))=p8 M0 (renρ ρ ids 0) (u2 0 rows):=bT fun id r=>by
     rcases hcase id with h|⟨h,⟨_,_,_,_,h'⟩|⟨_,_,_,_,_,h'⟩⟩
     ·rw[h]
     ·rw[h,h'];simp
     ·rw[h,h'];simp
    refine⟨renρ ρ ids 0,⟨?_,?_,?_,?_,?_,H.T1,R.m0,R.defers,?_,?_,?_,R.gT,?_,?_,R.oS⟩,?_⟩
    ·rw[R.n];exact g1.symm
    ·intro i
     show s5 (p8 M0 (renρ ρ ids 0) (LS.hf (e9 0 rows++gs))) (renρ ρ ids 0) w (LS.tf t i) _
     rw[hh]
     simp only[LS.tf,List.getD_eq_getElem?_getD]
     cases hy:t[i]? with
     |none=>exact .Z _
     |some y=>
      obtain⟨x,e1,e2⟩:=g2 i y hy
      rcases e2 with e2|rfl
      ·have hx:=R.tm i
       simp only[LS.o4,LS.tf,List.getD_eq_getElem?_getD,e1,Option.getD_some]at hx
       exact up 3 x y _ e2 hx
      ·exact .Z _
    ·intro id r h
     have h:LS.hf (e9 0 rows++gs) id= .live r:=h
     show∃b β arr e,renρ ρ ids 0 id=some (b,β,r.sz)∧_∧_∧_∧_∧∀(i j:Nat) e x u,_→_→_→s5 (p8 M0 (renρ ρ ids 0) (LS.hf (e9 0 rows++gs))) (renρ ρ ids 0) w x u
     rw[hh]
     rcases hcase id with h3|⟨_,⟨_,_,_,_,h'⟩|⟨_,_,_,_,_,h'⟩⟩
     ·rw[h3]at h;exact H.live id r h
     ·rw[h']at h;cases h
     ·rw[h']at h;cases h
    ·intro id h
     have h:LS.hf (e9 0 rows++gs) id= .free:=h
     rcases hcase id with h3|⟨_,⟨_,_,_,_,h'⟩|⟨_,_,_,_,_,h'⟩⟩
     ·rw[h3]at h;exact H.free id h
     ·rw[h']at h;cases h
     ·rw[h']at h;cases h
    ·intro id id' r r' b β β' z z' h h'
     have h:LS.hf (e9 0 rows++gs) id= .live r:=h
     have h':LS.hf (e9 0 rows++gs) id'= .live r':=h'
     rcases hcase id with h3|⟨_,⟨_,_,_,_,h4⟩|⟨_,_,_,_,_,h4⟩⟩
     ·rcases hcase id' with h5|⟨_,⟨_,_,_,_,h6⟩|⟨_,_,_,_,_,h6⟩⟩
      ·rw[h3]at h;rw[h5]at h';exact H.inj id id' r r' b β β' z z' h h'
      ·rw[h6]at h';cases h'
      ·rw[h6]at h';cases h'
     ·rw[h4]at h;cases h
     ·rw[h4]at h;cases h
    ·intro id k cs' h i x hx
     have h:LS.hf (e9 0 rows++gs) id= .u5 k cs':=h
     show s5 (p8 M0 (renρ ρ ids 0) (LS.hf (e9 0 rows++gs))) (renρ ρ ids 0) w x _
     rw[hh]
     rcases hcase id with h3|⟨_,⟨i0,k0,cs,h4,h5⟩|⟨_,_,_,_,_,h5⟩⟩
     ·rw[h3]at h
      unfold u2 at h
      split at h<;>cases h
     ·rw[h5]at h
      cases h
      rw[List.getElem?_map]at hx
      cases hc:cs[i]? with
      |none=>rw[hc]at hx;cases hx
      |some x0=>
       rw[hc]at hx
       cases hx
       have h6:=R.nL i0 k cs h4 i x0 hc
       simp only
       cases hr:n5 (r7 ids 0) 3 x0 with
       |none=>exact .Z _
       |some y=>exact up 3 x0 y _ hr h6
     ·rw[h5]at h;cases h
    ·intro x u hx
     show s5 (p8 M0 (renρ ρ ids 0) (LS.hf (e9 0 rows++gs))) (fun _=>none) w x u
     rw[hh]
     exact(R.lX x u hx).pN hM
    ·intro id b q f h
     have h:LS.hf (e9 0 rows++gs) id= .mp b q f:=h
     rcases hcase id with h3|⟨_,⟨_,_,_,_,h5⟩|⟨i0,b0,q0,f0,h4,h5⟩⟩
     ·rw[h3]at h
      unfold u2 at h
      split at h<;>cases h
     ·rw[h5]at h;cases h
     ·rw[h5]at h;cases h;exact R.jF i0 _ _ _ h4
    ·intro id r p h hp
     have h:LS.hf (e9 0 rows++gs) id= .live r:=h
     rcases hcase id with h3|⟨_,⟨_,_,_,_,h5⟩|⟨_,_,_,_,_,h5⟩⟩
     ·rw[h3]at h
      unfold u2 at h
      split at h
      ·rename_i hr
       have hlt:id-0<rows.length:=by omega
       obtain⟨id1,row1,e1,e2,_⟩:=(cF h2).2 (id-0) (rows.getD (id-0) ⟨0,[],0⟩) (by rw[List.getD_eq_getElem?_getD,List.getElem?_eq_getElem hlt,Option.getD_some])
       simp only[renρ,if_pos hr.1,e1,Option.bind_some]at hp
       exact R.dP id1 row1 p e2 hp
      ·cases h
     ·rw[h5]at h;cases h
     ·rw[h5]at h;cases h
    ·intro id b q f h
     have h:LS.hf (e9 0 rows++gs) id= .mp b q f:=h
     rcases hcase id with h3|⟨_,⟨_,_,_,_,h5⟩|⟨i0,b0,q0,f0,h4,h5⟩⟩
     ·rw[h3]at h
      unfold u2 at h
      split at h<;>cases h
     ·rw[h5]at h;cases h
     ·rw[h5]at h;cases h;exact R.nX i0 _ _ _ h4
    ·intro p hp
     simp only[List.mem_append]at hp
     rcases hp with hp|hp
     ·have:=tD rows 0 p hp
      simp only;omega
     ·exact(hgm p hp).2.1
 ·cases h
end
section
def a4u(P:Program)(fn:Func)(y:AV)(e:Exit)(s:LS):Prop:=
 (match e with| .normal| .ret=>True|_=>False)∧∃x,oH P s.o4 fn.results.toList=some x∧u6 s.o4.h 6 x=some y
def a4w(P:Program)(fn:Func)(y:Nat→AV)(rows:Nat→List Row)(e:Exit)(s:LS):Prop:=
 (match e with| .normal| .ret=>True|_=>False)∧∃x,oH P s.o4 fn.results.toList=some x∧∃ids:List Nat,ids.Nodup∧∀nid,n5 (r7 ids nid) 4 x=some (y nid)∧b5 s.o4.h (r7 ids nid) ids=some (rows nid)
def G0:Gh:=⟨fun _ _=>undef,fun _ _=>False,fun _=>none,fun _=>none,[]⟩
def nN(fn:Func)(xs:List AV):LS:=⟨xs++List.replicate (fn.ntmps-xs.length) .Z,[],0⟩
section
variable {P:Program} {f:FuncId} {fn:Func} {c:Code} {xs:List AV}
theorem a71{M:Nat→Nat→Prop}{w:World}{args:Array Value}(hM:∀b o,M b o→b<w.heap.size)(hargs:RC M (fun _=>none) w xs args):
  D7 G0 M w (nN fn xs) (fun _=>none) {tmps:=args++Array.replicate (fn.ntmps-args.size) undef,defers:=[]} w:=by
 have hh:(nN fn xs).o4.h=fun _=> .free:=by funext id;simp [nN,LS.o4,LS.hf]
 have hMM:∀b o,p8 M (fun _=>none) (nN fn xs).o4.h b o→M b o:=by
  rintro b o (g|⟨id,r,β,z,g1,g2,g3⟩)
  ·exact g
  ·cases g2
 refine⟨⟨?_,?_,?_,fun _ _=>rfl,?_,Below.refl _ _,(fun b o h=> .inl (hM b o h)),rfl,?_,fun _ _ h=>h.elim,?_,(fun _ _ h=>nomatch h),?_,?_,(fun _ _ h=>nomatch h)⟩,?_⟩
 ·simp [nN,LS.o4,hargs.1]
 ·intro t
  simp only[nN,LS.o4,LS.tf,List.getD_eq_getElem?_getD]
  by_cases ht:t<xs.length
  ·rw[List.getElem?_append_left ht,List.getElem?_eq_getElem ht,Option.getD_some]
   have h2:t<args.size:=by rw[hargs.1];exact ht
   have e:(args++Array.replicate (fn.ntmps-args.size) undef).getD t undef=args[t]:=by
    rw[Array.getD_eq_getD_getElem?,Array.getElem?_append_left h2]
    simp [h2]
   rw[e]
   exact(hargs.2 t xs[t] args[t] (by simp [ht]) (by simp [h2])).pN hMM
  ·rw[List.getElem?_append_right (by omega)]
   have:((List.replicate (fn.ntmps-xs.length) AV.Z)[t-xs.length]?).getD .Z= .Z:=by
    rw[List.getElem?_replicate];split<;>rfl
   rw[this]
   exact .Z _
 ·intro id r h;rw[hh]at h;cases h
 ·intro id id' r r' b β β' z z' h;rw[hh]at h;cases h
 ·intro id k cs h;rw[hh]at h;cases h
 ·intro id b q f h;rw[hh]at h;cases h
 ·intro id r p h;rw[hh]at h;cases h
 ·intro id b q f h;rw[hh]at h;cases h
 ·intro p hp;cases hp
theorem a9v[j5 P]{y:AV}(hf:P.funcs[f]?=some fn)(hb:fn.body=some c)(hn:(fn.name== "runtime.NumGoroutine")=false)(h:fI (md:=false) P c (nN fn xs) (a4u P fn y)):e8 P f xs (fun _=>y) (fun _=>[]):=by
 refine⟨⟨fn,hf,by simp [hb],hn⟩,fun nid M w args hg hM hargs=>?_⟩
 refine callsIn_wide.1 (callsIn_of_wp_marks (F:=Fence.wide) (n:=0) hf hb trivial (h none (fun _=>rfl) G0 M w _ _ w _ hg (a71 hM hargs) ?_))
 intro Ds e s' ρ' a' w' hDs k RX
 have key:∀(a':Act) (w':World),D7 G0 M w s' ρ' a' w'→∃v,(results fn a'.tmps).run P w'= .ok v w'∧∃ρ,lE M w (u2 nid []) ρ w'∧s5 (p8 M ρ (u2 nid [])) ρ w' y v:=by
  intro a' w' R
  obtain⟨_,x,hx,hy⟩:=k
  obtain⟨v,h1,h2⟩:=aX R.1 hx
  have h3:=eL R.1.toH (a6 s'.o4.h 6 x) 6 x y v (fun _ h=>h) hy h2
  have hfree:∀id,u2 nid [] id= .free:=by intro id;unfold u2;rw[if_neg (by simp)]
  refine⟨v,h1,fun _=>none,⟨?_,fun _ _=>rfl,?_,R.1.T1,fun b o g=>⟨Nat.lt_of_lt_of_le (hM b o g) R.1.T1.size,fun id r p h=>by rw[hfree]at h;cases h⟩⟩,h3.pN ?_⟩
  ·intro id r h;rw[hfree]at h;cases h
  ·intro id id' r r' b β β' z z' h;rw[hfree]at h;cases h
  ·rintro b o (g|⟨id,r,β,z,g1,g2,g3⟩)
   ·exact .inl g
   ·cases g2
 have fin:=jV (P:=P) (fn:=fn) (R':=fun e w'=>∃v ρ,e= .returned v∧lE M w (u2 nid []) ρ w'∧s5 (p8 M ρ (u2 nid [])) ρ w' y v) Ds hDs rfl (fun b o h=> .inl (hM b o h)) RX.1 (fun a2 w2 _ R2=>let⟨v,h1,ρ,h2,h3⟩:=key a2 w2 ⟨R2,RX.2⟩;⟨v,h1,v,ρ,rfl,h2,h3⟩)
 have k1:=k.1
 cases e<;>first
  |exact fin
  |exact k1.elim
theorem dE[j5 P]{y:Nat→AV}{rows:Nat→List Row}(hf:P.funcs[f]?=some fn)(hb:fn.body=some c)(hn:(fn.name== "runtime.NumGoroutine")=false)(h:fI (md:=false) P c (nN fn xs) (a4w P fn y rows)):e8 P f xs y rows:=by
 refine⟨⟨fn,hf,by simp [hb],hn⟩,fun nid M w args hg hM hargs=>?_⟩
 refine callsIn_wide.1 (callsIn_of_wp_marks (F:=Fence.wide) (n:=0) hf hb trivial (h none (fun _=>rfl) G0 M w _ _ w _ hg (a71 hM hargs) ?_))
 intro Ds e s' ρ' a' w' hDs k RX
 have key:∀(a':Act) (w':World),D7 G0 M w s' ρ' a' w'→∃v,(results fn a'.tmps).run P w'= .ok v w'∧∃ρ,lE M w (u2 nid (rows nid)) ρ w'∧s5 (p8 M ρ (u2 nid (rows nid))) ρ w' (y nid) v:=by
  intro a' w' R
  obtain⟨_,x,hx,ids,hnd,hy⟩:=k
  obtain⟨v,h1,h2⟩:=aX R.1 hx
  obtain⟨H,up,_⟩:=mE R.1.toH hnd (hy nid).2
  exact⟨v,h1,_,H,up 4 x _ v (hy nid).1 h2⟩
 have fin:=jV (P:=P) (fn:=fn) (R':=fun e w'=>∃v ρ,e= .returned v∧lE M w (u2 nid (rows nid)) ρ w'∧s5 (p8 M ρ (u2 nid (rows nid))) ρ w' (y nid) v) Ds hDs rfl (fun b o h=> .inl (hM b o h)) RX.1 (fun a2 w2 _ R2=>let⟨v,h1,ρ,h2,h3⟩:=key a2 w2 ⟨R2,RX.2⟩;⟨v,h1,v,ρ,rfl,h2,h3⟩)
 have k1:=k.1
 cases e<;>first
  |exact fin
  |exact k1.elim
end
end
def LS.ev(t:List AV):Operand→AV
 | .tmp i=>LS.tf t i
 | .const x=>AV.S9 x
 | .global g=> .v (.pointer (some ⟨g,0,none⟩))
 | .func f=> .fn f []
theorem LS.jR(s:LS)(x:Operand):s.o4.ev x=LS.ev s.t x:=by cases x<;>rfl
def wB(k:IntKind)(a b:Int):Int:=k.wrap (BitVec.ofInt k.bits a&&& BitVec.ofInt k.bits b).toNat
def orK(k:IntKind)(a b:Int):Int:=k.wrap (BitVec.ofInt k.bits a|||BitVec.ofInt k.bits b).toNat
def qN(k:IntKind)(a b:Int):Int:=k.wrap (BitVec.ofInt k.bits a^^^BitVec.ofInt k.bits b).toNat
def sM(k:IntKind)(a b:Int):Int:=k.wrap (BitVec.ofInt k.bits a&&& ~~~BitVec.ofInt k.bits b).toNat
def c5k(k:IntKind)(n:Int):Int:=k.wrap (BitVec.ofInt k.bits (if k.signed then -1 else k.max)^^^BitVec.ofInt k.bits n).toNat
def kE(k:IntKind)(a b:Int):Int:=k.wrap (a*2^(min b.toNat k.bits))
def b0x(k:IntKind)(a b:Int):Int:=a.fdiv (2^(min b.toNat k.bits))
def A5(op:BinOp)(x y:Value):Option (Prop×Value):=
 match x,y with
 | .int k a,.int k' b=>match op with
  | .shl=>some (0≤b,.int k (kE k a b))
  | .shr=>some (0≤b,.int k (b0x k a b))
  | .add=>if k=k' then some (True,.int k (k.wrap (a+b)))else none
  | .sub=>if k=k' then some (True,.int k (k.wrap (a-b)))else none
  | .mul=>if k=k' then some (True,.int k (k.wrap (a*b)))else none
  | .quo=>if k=k' then some (b≠0,.int k (k.wrap (a.tdiv b)))else none
  | .rem=>if k=k' then some (b≠0,.int k (a.tmod b))else none
  | .and=>if k=k' then some (True,.int k (wB k a b))else none
  | .or=>if k=k' then some (True,.int k (orK k a b))else none
  | .xor=>if k=k' then some (True,.int k (qN k a b))else none
  | .andNot=>if k=k' then some (True,.int k (sM k a b))else none
  | .eql=>if k=k' then some (True,.bool (decide (a=b)))else none
  | .neq=>if k=k' then some (True,.bool (decide (a≠b)))else none
  | .lss=>if k=k' then some (True,.bool (decide (a<b)))else none
  | .leq=>if k=k' then some (True,.bool (decide (a≤b)))else none
  | .gtr=>if k=k' then some (True,.bool (decide (b<a)))else none
  | .geq=>if k=k' then some (True,.bool (decide (b≤a)))else none
 | .string a,.string b=>match op with
  | .eql=>some (True,.bool (decide (a=b)))
  | .neq=>some (True,.bool (decide (a≠b)))
  | .add=>some ((a.size+b.size:Nat)≤9223372036854775807,.string (a++b))
  |_=>none
 |_,_=>none
theorem toList_eq(a b:ByteArray):(a.toList==b.toList)=decide (a=b):=by
 by_cases h:a=b
 ·subst h;simp
 ·rw[decide_eq_false h]
  have:a.toList≠b.toList:=by
   intro e
   apply h
   rw[ByteArray.toList_eq,ByteArray.toList_eq]at e
   cases a;cases b
   simp only[ByteArray.mk.injEq]
   exact Array.ext' e
  simpa using this
theorem a9q{P:Program}{op:BinOp}{t:TypeId}{xo yo:Operand}{x y z:Value}{c:Prop}(h:A5 op x y=some (c,z))(hc:c):b50 P op t xo yo x y z:=by
 intro w
 unfold A5 at h
 split at h
 ·rename_i k a k' b
  have hg:∀op,(eqGuard op t xo yo (.int k a) (.int k' b)).run P w= .ok () w:=by intro op;cases op<;>rfl
  simp only[Sem.run_bind,hg,Result.andThen_ok]
  cases op<;>simp only at h
  case shl=>
   simp only[Option.some.injEq,Prod.mk.injEq]at h
   obtain⟨rfl,rfl⟩:=h
   simp [binOp,Op.shift,Int.not_lt.2 hc,kE]
  case shr=>
   simp only[Option.some.injEq,Prod.mk.injEq]at h
   obtain⟨rfl,rfl⟩:=h
   simp [binOp,Op.shift,Int.not_lt.2 hc,b0x]
  all_goals
   split at h
   ·rename_i hk
    subst hk
    simp only[Option.some.injEq,Prod.mk.injEq]at h
    obtain⟨rfl,rfl⟩:=h
    first
     |(simp [binOp,Op.intArith];done)
     |(simp [binOp,Op.intDiv,hc];done)
     |(simp [binOp,Op.intBits,wB,orK,qN,sM];done)
     |(simp [binOp,Op.intCmp];done)
     |(simp [binOp,Op.intCmp];rw[Bool.eq_iff_iff];simp;done)
   ·cases h
 ·rename_i a b
  have hg:∀op,(eqGuard op t xo yo (.string a) (.string b)).run P w= .ok () w:=by intro op;cases op<;>rfl
  simp only[Sem.run_bind,hg,Result.andThen_ok]
  cases op<;>simp only at h<;>(try(cases h;done))
  all_goals
   simp only[Option.some.injEq,Prod.mk.injEq]at h
   obtain⟨rfl,rfl⟩:=h
   first
    |(simp [binOp,Op.stringOp,toList_eq];done)
    |(
      have:¬(((a.size+b.size:Nat):Int)>IntKind.i64.max):=by simp [IntKind.max,IntKind.bits,IntKind.signed];omega
      simp [binOp,Op.stringOp];omega)
 ·cases h
end Go.Ab
end
section
namespace Go.Ab
section
inductive Sc where
 |int (k:IntKind)
 |bool
 |str
def Q0:Sc→Value→Bool
 | .int k,.int k' _=>decide (k'=k)
 | .bool,.bool _=>true
 | .str,.string _=>true
 |_,_=>false
def tF:List Sc→List Value→Bool
 |[],[]=>true
 |s::l,x::xs=>Q0 s x&&tF l xs
 |_,_=>false
def eqV:Value→Value→Bool
 | .int _ a,.int _ b=>decide (a=b)
 | .bool a,.bool b=>decide (a=b)
 | .string a,.string b=>decide (a=b)
 |_,_=>false
def eqL:List Value→List Value→Bool
 |[],[]=>true
 |x::xs,y::ys=>eqV x y&&eqL xs ys
 |_,_=>false
def plF(P:Program)(rec:TypeId→Option (List Sc)):List Field→Nat→Option (List Sc)
 |[],_=>some []
 |f::fs,o=>if f.name≠ "_" ∧f.offset=o then(rec f.type).bind fun l=>if(ti P f.type).map (·.size)=some l.length then(plF P rec fs (o+l.length)).map (l++·)else none else none
def plT(P:Program):Nat→TypeId→Option (List Sc)
 |0,_=>none
 |n+1,t=>match P.underlying t with
  |some (.int k)=>some [.int k]
  |some .bool=>some [.bool]
  |some .string=>some [.str]
  |some (.struct fs)=>if P.stoodInHeld t then none else plF P (plT P n) fs.toList 0
  |some (.array len e)=>(plT P n e).bind fun l=>if(ti P e).map (·.size)=some l.length then some (List.replicate len l).flatten else none
  |_=>none
def plC(P:Program)(t:TypeId):Option (List Sc):=if P.eqGuardType P.depth t then none else plT P 20 t
theorem fR:∀{l:List Sc} {xs:List Value},tF l xs=true→xs.length=l.length:=by
 intro l
 induction l with
 |nil=>intro xs h;cases xs<;>simp_all [tF]
 |cons s l ih=>
  intro xs h
  cases xs with
  |nil=>simp [tF]at h
  |cons x xs=>simp only[tF,Bool.and_eq_true]at h;simp [ih h.2]
theorem tG:∀{l l':List Sc} {xs:List Value},tF (l++l') xs=true→tF l (xs.take l.length)=true∧tF l' (xs.drop l.length)=true:=by
 intro l
 induction l with
 |nil=>intro l' xs h;exact⟨by simp [tF],by simpa using h⟩
 |cons s l ih=>
  intro l' xs h
  cases xs with
  |nil=>simp [tF]at h
  |cons x xs=>
   simp only[List.cons_append,tF,Bool.and_eq_true]at h
   obtain⟨h1,h2⟩:=ih h.2
   simp only[List.length_cons,List.take_succ_cons,List.drop_succ_cons,tF,Bool.and_eq_true]
   exact⟨⟨h.1,h1⟩,h2⟩
theorem b1T:∀(n:Nat) (xs ys:List Value),xs.length=ys.length→eqL xs ys=(eqL (xs.take n) (ys.take n)&&eqL (xs.drop n) (ys.drop n)):=by
 intro n
 induction n with
 |zero=>intro xs ys _;simp [eqL]
 |succ n ih=>
  intro xs ys h
  cases xs with
  |nil=>cases ys with
   |nil=>simp [eqL]
   |cons y ys=>simp at h
  |cons x xs=>cases ys with
   |nil=>simp at h
   |cons y ys=>
    simp only[List.take_succ_cons,List.drop_succ_cons,eqL,Bool.and_assoc]
    rw[ih xs ys (by simpa using h)]
def mkV(P:Program)(t:TypeId)(xs:List Value):Value:=
 match P.underlying t with
 |some (.struct _)|some (.array _ _)=> .agg xs.toArray
 |_=>xs.headD undef
section
variable {P:Program}
theorem tE{t:TypeId}{T:TI}{l:List Sc}(hT:ti P t=some T)(hs:T.size=l.length){xs:List Value}{off:Nat}(h:off+l.length≤xs.length)(w:World):
  (part t xs.toArray off).run P w= .ok (mkV P t ((xs.drop off).take l.length)) w:=by
 obtain⟨i,d,z,h1,h2,h3,h4,h5,h6,h7,h8,h9⟩:=aH hT
 have hpos:0<l.length:=by omega
 simp only[part,Sem.run_bind,mG hT,Result.andThen_ok,h7,mkV,h2]
 have aF:=C9 hT w
 have hlt:off<xs.length:=by omega
 cases d with
 |struct fs=>
  simp only[xE,if_true,Sem.run_bind,aF,Result.andThen_ok,Sem.run_pure,hs]
  congr 2
  apply Array.ext'
  simp
 |array n e=>
  simp only[xE,if_true,Sem.run_bind,aF,Result.andThen_ok,Sem.run_pure,hs]
  congr 2
  apply Array.ext'
  simp
 |_=>
  simp only[xE,Bool.false_eq_true,if_false]
  have e:(xs.drop off).take l.length=xs[off]::((xs.drop (off+1)).take (l.length-1)):=by
   rw[List.drop_eq_getElem_cons hlt]
   obtain⟨m,hm⟩:∃m,l.length=m+1:=⟨l.length-1,by omega⟩
   rw[hm,List.take_succ_cons,Nat.add_sub_cancel]
  rw[e]
  simp [hlt]
def b4Q(P:Program)(n:Nat):Prop:=∀(t:TypeId) (l:List Sc),plT P n t=some l→∀d,n≤d→∀(xs ys:List Value) (w:World),tF l xs=true→tF l ys=true→
 (Op.equalIn d t (mkV P t xs) (mkV P t ys)).run P w= .ok (eqL xs ys) w
theorem a7J{n:Nat}(ih:b4Q P n){d:Nat}(hd:n≤d)(xs ys:List Value)(w:World):∀(fs:List Field) (o:Nat) (l:List Sc),plF P (plT P n) fs o=some l→tF l (xs.drop o)=true→tF l (ys.drop o)=true→o≤xs.length→o≤ys.length→
  (Op.eqFields d xs.toArray ys.toArray fs).run P w= .ok (eqL (xs.drop o) (ys.drop o)) w:=by
 intro fs
 induction fs with
 |nil=>
  intro o l h h1 h2 _ _
  cases h
  have e1:=fR h1
  have e2:=fR h2
  rw[List.length_nil,List.length_eq_zero_iff]at e1 e2
  rw[e1,e2]
  simp [Op.eqFields,eqL]
 |cons f fs ihf=>
  intro o l h h1 h2 b1 b2
  simp only[plF]at h
  split at h
  ·rename_i hf
   simp only[Option.bind_eq_some_iff]at h
   obtain⟨lf,e1,h⟩:=h
   split at h
   ·rename_i aF
    simp only[Option.map_eq_some_iff]at h aF
    obtain⟨T,hT,hT2⟩:=aF
    obtain⟨l2,e2,rfl⟩:=h
    obtain⟨q1,q2⟩:=tG h1
    obtain⟨q3,q4⟩:=tG h2
    rw[List.drop_drop]at q2 q4
    have n1:=fR h1
    have n2:=fR h2
    simp only[List.length_drop,List.length_append]at n1 n2
    simp only[Op.eqFields]
    rw[if_pos hf.1]
    rw[hf.2]
    simp only[Sem.run_bind,tE hT hT2 (xs:=xs) (off:=o) (by omega) w,tE hT hT2 (xs:=ys) (off:=o) (by omega) w,Result.andThen_ok,ih f.type lf e1 d hd _ _ w q1 q3]
    have hrec:=ihf (o+lf.length) l2 e2 q2 q4 (by omega) (by omega)
    rw[b1T lf.length (xs.drop o) (ys.drop o) (by simp;omega),List.drop_drop,List.drop_drop]
    cases hb:eqL ((xs.drop o).take lf.length) ((ys.drop o).take lf.length)
    ·simp
    ·simp [hrec]
   ·cases h
  ·cases h
theorem a9M{n:Nat}(ih:b4Q P n){d:Nat}(hd:n≤d){e:TypeId}{le:List Sc}{T:TI}(hT:ti P e=some T)(hs:T.size=le.length)(hc:P.cellsOf e=le.length)(he:plT P n e=some le)(xs ys:List Value)(w:World):
  ∀(k o:Nat),tF (List.replicate k le).flatten (xs.drop (o*le.length))=true→tF (List.replicate k le).flatten (ys.drop (o*le.length))=true→o*le.length≤xs.length→o*le.length≤ys.length→
  (Op.eqItems d e (P.cellsOf e) xs.toArray ys.toArray (List.range' o k)).run P w= .ok (eqL (xs.drop (o*le.length)) (ys.drop (o*le.length))) w:=by
 intro k
 induction k with
 |zero=>
  intro o h1 h2 _ _
  have e1:=fR h1
  have e2:=fR h2
  simp only[List.replicate_zero,List.flatten_nil,List.length_nil,List.length_eq_zero_iff]at e1 e2
  rw[e1,e2]
  simp [Op.eqItems,eqL]
 |succ k ihk=>
  intro o h1 h2 b1 b2
  rw[List.replicate_succ,List.flatten_cons]at h1 h2
  obtain⟨q1,q2⟩:=tG h1
  obtain⟨q3,q4⟩:=tG h2
  have n1:=fR h1
  have n2:=fR h2
  simp only[List.length_drop,List.length_append]at n1 n2
  have eo:(o+1)*le.length=o*le.length+le.length:=by rw[Nat.add_mul,Nat.one_mul]
  rw[List.drop_drop,←eo]at q2 q4
  rw[List.range'_succ]
  simp only[Op.eqItems,hc,Sem.run_bind,tE hT hs (xs:=xs) (off:=o*le.length) (by omega) w,tE hT hs (xs:=ys) (off:=o*le.length) (by omega) w,Result.andThen_ok,ih e le he d hd _ _ w q1 q3]
  have hrec:=ihk (o+1) q2 q4 (by omega) (by omega)
  rw[hc]at hrec
  rw[b1T le.length (xs.drop (o*le.length)) (ys.drop (o*le.length)) (by simp;omega),List.drop_drop,List.drop_drop,←eo]
  cases hb:eqL ((xs.drop (o*le.length)).take le.length) ((ys.drop (o*le.length)).take le.length)
  ·simp
  ·simp [hrec]
theorem c41(n:Nat):b4Q P n:=by
 induction n with
 |zero=>intro t l h;cases h
 |succ n ih=>
  intro t l h d hd xs ys w h1 h2
  obtain⟨d,rfl⟩:∃d',d=d'+1:=⟨d-1,by omega⟩
  have one:∀{s:Sc} {zs:List Value},tF [s] zs=true→∃z,zs=[z]∧Q0 s z=true:=by
   intro s zs hz
   cases zs with
   |nil=>simp [tF]at hz
   |cons z zs=>
    cases zs with
    |nil=>simp [tF]at hz;exact⟨z,rfl,hz⟩
    |cons _ _=>simp [tF]at hz
  unfold plT at h
  split at h
  ·rename_i k hu
   cases h
   obtain⟨x,rfl,hx⟩:=one h1
   obtain⟨y,rfl,hy⟩:=one h2
   cases x<;>simp only[Q0,Bool.false_eq_true,decide_eq_true_eq]at hx
   cases y<;>simp only[Q0,Bool.false_eq_true,decide_eq_true_eq]at hy
   subst hx;subst hy
   simp only[mkV,hu,List.headD_cons]
   rw[run_equalIn_int w d t _ _ _ _ hu]
   simp only[eqL,eqV,Bool.and_true]
   rfl
  ·rename_i hu
   cases h
   obtain⟨x,rfl,hx⟩:=one h1
   obtain⟨y,rfl,hy⟩:=one h2
   cases x<;>simp only[Q0,Bool.false_eq_true]at hx
   cases y<;>simp only[Q0,Bool.false_eq_true]at hy
   simp only[mkV,hu,List.headD_cons]
   rw[run_equalIn_bool w d t _ _ hu]
   simp only[eqL,eqV,Bool.and_true]
   rename_i a b
   cases a<;>cases b<;>rfl
  ·rename_i hu
   cases h
   obtain⟨x,rfl,hx⟩:=one h1
   obtain⟨y,rfl,hy⟩:=one h2
   cases x<;>simp only[Q0,Bool.false_eq_true]at hx
   cases y<;>simp only[Q0,Bool.false_eq_true]at hy
   simp only[mkV,hu,List.headD_cons]
   rw[run_equalIn_string w d t _ _ hu]
   simp only[eqL,eqV,Bool.and_true,toList_eq]
  ·rename_i fs hu
   split at h
   ·cases h
   ·rename_i hst
    have hst:P.stoodInHeld t=false:=by simpa using hst
    have hfs:P.fieldsOf t=fs:=by simp [Program.fieldsOf,hu]
    simp only[mkV,hu]
    rw[run_equalIn_struct w d t _ _ (by rw[hfs];exact hu) hst,hfs]
    have:=a7J ih (by omega:n≤d) xs ys w fs.toList 0 l h (by simpa using h1) (by simpa using h2) (by simp) (by simp)
    simpa using this
  ·rename_i len e hu
   simp only[Option.bind_eq_some_iff]at h
   obtain⟨le,he,h⟩:=h
   split at h
   ·rename_i aF
    cases h
    simp only[Option.map_eq_some_iff]at aF
    obtain⟨T,hT,hT2⟩:=aF
    obtain⟨i,dd,z,k1,k2,k3,k4,k5,k6,k7,k8,k9⟩:=aH hT
    have hc:P.cellsOf e=le.length:=by
     have:=run_sizeOf w k1
     rw[C9 hT]at this
     simp only[Result.ok.injEq,and_true]at this
     rw[←this];exact hT2
    simp only[mkV,hu]
    rw[run_equalIn_array w d _ _ hu k1]
    have:=a9M ih (by omega:n≤d) hT hT2 hc he xs ys w len 0 (by simpa using h1) (by simpa using h2) (by simp) (by simp)
    rw[List.range_eq_range']
    simpa using this
   ·cases h
  ·cases h
def y7:List AV→List AV→Option Bool
 |[],[]=>some true
 | .v (.int _ a)::xs,.v (.int _ b)::ys=>(y7 xs ys).map (decide (a=b)&&·)
 | .v (.bool a)::xs,.v (.bool b)::ys=>(y7 xs ys).map (decide (a=b)&&·)
 | .v (.string a)::xs,.v (.string b)::ys=>(y7 xs ys).map (decide (a=b)&&·)
 |_,_=>none
def y5:List Sc→List AV→Bool
 |[],[]=>true
 |s::l,.v x::xs=>Q0 s x&&y5 l xs
 |_,_=>false
theorem b2w:∀{l:List Sc} {xs:List AV},y5 l xs=true→∃vs,xs=vs.map AV.v∧tF l vs=true:=by
 intro l
 induction l with
 |nil=>intro xs h;cases xs with
  |nil=>exact⟨[],rfl,rfl⟩
  |cons x xs=>simp [y5]at h
 |cons s l ih=>
  intro xs h
  cases xs with
  |nil=>simp [y5]at h
  |cons x xs=>
   cases x<;>simp only[y5,Bool.false_eq_true,Bool.and_eq_true]at h
   obtain⟨vs,rfl,h2⟩:=ih h.2
   exact⟨_::vs,rfl,by simp only[tF,Bool.and_eq_true];exact⟨h.1,h2⟩⟩
theorem c0s:∀{xs ys:List Value} {b:Bool},y7 (xs.map AV.v) (ys.map AV.v)=some b→eqL xs ys=b:=by
 intro xs
 induction xs with
 |nil=>intro ys b h;cases ys with
  |nil=>cases h;rfl
  |cons y ys=>simp [y7]at h
 |cons x xs ih=>
  intro ys b h
  cases ys with
  |nil=>simp [y7]at h
  |cons y ys=>
   cases x<;>cases y<;>simp only[List.map_cons,y7,Option.map_eq_some_iff,reduceCtorEq]at h
   all_goals
    obtain⟨b',h1,rfl⟩:=h
    simp only[eqL,eqV,ih h1]
theorem a2L{op:BinOp}{t:TypeId}{xo yo:Operand}{l:List Sc}{xs ys:List AV}{b:Bool}(hl:plC P t=some l)(hagg:∃D,td P t=some D∧(match D with| .struct _| .array _ _=>True|_=>False))(hx:y5 l xs=true)(hy:y5 l ys=true)(hb:y7 xs ys=some b)(hop:op= .eql∨op= .neq):
  ∃vx vy,xs.mapM AV.scalar=some vx∧ys.mapM AV.scalar=some vy∧b50 P op t xo yo (.agg vx.toArray) (.agg vy.toArray) (.bool (if op= .eql then b else !b)):=by
 obtain⟨vx,rfl,h1⟩:=b2w hx
 obtain⟨vy,rfl,h2⟩:=b2w hy
 have hsc:∀l:List Value,(l.map AV.v).mapM AV.scalar=some l:=by
  intro l
  induction l with
  |nil=>rfl
  |cons x l ih=>simp [List.mapM_cons,ih,AV.scalar]
 refine⟨vx,vy,hsc vx,hsc vy,fun w=>?_⟩
 unfold plC at hl
 split at hl
 ·cases hl
 ·rename_i hg
  have hg:P.eqGuardType P.depth t=false:=by simpa using hg
  have hmk:∀vs,mkV P t vs= .agg vs.toArray:=by
   intro vs
   obtain⟨D,hD,hm⟩:=hagg
   unfold td at hD
   unfold mkV
   cases hu:P.underlying t with
   |none=>rw[hu]at hD;cases hD
   |some d=>
    rw[hu]at hD
    cases d<;>simp only[Option.map_eq_some_iff,Option.some.injEq]at hD⊢
    all_goals first
     |(subst hD;exact hm.elim)
     |(obtain⟨_,_,rfl⟩:=hD;exact hm.elim)
  have key:=c41 20 t l hl 10000 (by omega) vx vy w h1 h2
  rw[hmk,hmk,c0s hb]at key
  simp only[Sem.run_bind,run_eqGuard_agg w op t xo yo _ _ hg,Result.andThen_ok]
  rcases hop with rfl|rfl
  ·rw[run_eql_struct,key];rfl
  ·rw[run_neq_struct,key];rfl
def z6:BinOp→Bool→Option Bool
 | .eql,b=>some b
 | .neq,b=>some (!b)
 |_,_=>none
def tA(P:Program)(t:TypeId):Bool:=
 match P.underlying t with
 |some .bool=>true
 |_=>false
theorem b3r{op:BinOp}{t:TypeId}{xo yo:Operand}{a b z:Bool}(hl:tA P t=true)(h:z6 op (decide (a=b))=some z):b50 P op t xo yo (.bool a) (.bool b) (.bool z):=by
 intro w
 have hg:∀op,(eqGuard op t xo yo (.bool a) (.bool b)).run P w= .ok () w:=by intro op;cases op<;>rfl
 have hu:P.underlying t=some .bool:=by
  unfold tA at hl
  split at hl<;>first|assumption|cases hl
 have key:(Op.equal t (.bool a) (.bool b)).run P w= .ok (decide (a=b)) w:=by
  rw[run_equal_bool w t a b hu]
  cases a<;>cases b<;>rfl
 simp only[Sem.run_bind,hg,Result.andThen_ok]
 unfold z6 at h
 split at h
 ·cases h;simp only[binOp,Sem.run_bind,key,Result.andThen_ok,Sem.run_pure]
 ·cases h;simp only[binOp,Sem.run_bind,key,Result.andThen_ok,Sem.run_pure]
 ·cases h
theorem a2M{op:BinOp}{t:TypeId}{xo yo:Operand}{l:List Sc}{xs ys:List AV}{b z:Bool}(hl:plC P t=some l)(hagg:∃D,td P t=some D∧(match D with| .struct _| .array _ _=>True|_=>False))(hx:y5 l xs=true)(hy:y5 l ys=true)(hb:y7 xs ys=some b)(h:z6 op b=some z):
  ∃vx vy,xs.mapM AV.scalar=some vx∧ys.mapM AV.scalar=some vy∧b50 P op t xo yo (.agg vx.toArray) (.agg vy.toArray) (.bool z):=by
 unfold z6 at h
 split at h
 ·cases h
  obtain⟨vx,vy,h1,h2,h3⟩:=a2L (xo:=xo) (yo:=yo) (op:= .eql) hl hagg hx hy hb (.inl rfl)
  exact⟨vx,vy,h1,h2,h3⟩
 ·cases h
  obtain⟨vx,vy,h1,h2,h3⟩:=a2L (xo:=xo) (yo:=yo) (op:= .neq) hl hagg hx hy hb (.inr rfl)
  exact⟨vx,vy,h1,h2,h3⟩
 ·cases h
end
end
end Go.Ab
end
section
namespace Go.Ab
open Go.RowKit (Below)
def U0(op:UnOp)(x:Value):Option Value:=
 match op,x with
 | .not,.bool b=>some (.bool (!b))
 | .neg,.int k n=>some (.int k (k.wrap (0-n)))
 | .xor,.int k n=>some (.int k (c5k k n))
 |_,_=>none
def s7(P:Program)(dst:TypeId)(x:Value):Option Value:=
 match x,td P dst with
 | .int _ n,some (.int k)=>some (.int k (k.wrap n))
 | .string s,some .str=>some (.string s)
 |_,_=>none
def A7(x i:Value):Option (Prop×Value):=
 match x,i with
 | .string s,.int _ i=>some (0≤i∧i<s.size,.int .u8 (s.data.getD i.toNat 0).toNat)
 |_,_=>none
def j3(x:Option Value)(d:Int):Option Int:=
 match x with
 |none=>some d
 |some (.int _ i)=>some i
 |_=>none
def z8(x:Value)(lo hi:Option Value):Option (Prop×Value):=
 match x with
 | .string s=>(j3 lo 0).bind fun l=>(j3 hi s.size).map fun h=>(0≤l∧l≤h∧h≤s.size,.string (s.extract l.toNat h.toNat))
 |_=>none
def T7(b:Builtin)(vs:List Value):Option Value:=
 match b,vs with
 | .max,[.int k x,.int _ y]=>some (.int k (if x<y then y else x))
 | .min,[.int k x,.int _ y]=>some (.int k (if y<x then y else x))
 | .max,[.int k x,.int _ y,.int _ z]=>some (.int k (if(if x<y then y else x)<z then z else(if x<y then y else x)))
 | .min,[.int k x,.int _ y,.int _ z]=>some (.int k (if z<(if y<x then y else x)then z else(if y<x then y else x)))
 |_,_=>none
theorem b4E{P:Program}{op:UnOp}{x z:Value}(h:U0 op x=some z):unR P op x z:=by
 intro w
 unfold U0 at h
 split at h<;>first|(cases h;done)|(cases h;simp [Op.unary,Op.intArith,Op.intBits,c5k])
theorem a7E{P:Program}{src dst:TypeId}{x z:Value}(h:s7 P dst x=some z)(hs:∃d,P.underlying src=some d):c1T P src dst x z:=by
 intro w
 obtain⟨d,hs⟩:=hs
 unfold s7 at h
 split at h
 ·rename_i k n k' hd
  cases h
  have hu:P.underlying dst=some (.int k'):=by
   unfold td at hd
   split at hd<;>first|(cases hd;assumption)|(simp at hd;done)|(cases hd;done)
  simp [convert,run_underlying hs,run_underlying hu,Conv.intToInt]
 ·rename_i s hd
  cases h
  have hu:P.underlying dst=some .string:=by
   unfold td at hd
   split at hd<;>first|assumption|(simp at hd;done)|(cases hd;done)
  simp [convert,run_underlying hs,run_underlying hu]
 ·cases h
theorem a9X{P:Program}{t:TypeId}{x i z:Value}{c:Prop}(h:A7 x i=some (c,z))(hc:c)(hD:td P t=some .str):c5d P t x i z:=by
 intro w
 have hu:P.underlying t=some .string:=by
  unfold td at hD
  split at hD<;>first|assumption|(simp at hD;done)|(cases hD;done)
 unfold A7 at h
 split at h
 ·rename_i s k i
  simp only[Option.some.injEq,Prod.mk.injEq]at h
  obtain⟨rfl,rfl⟩:=h
  have hlt:i.toNat<s.size:=by omega
  have h1:s[i.toNat]?=some (s.data.getD i.toNat 0):=by
   have e1:s[i.toNat]?=some s[i.toNat]:=by simp [hlt]
   rw[e1]
   have hl2:i.toNat<s.data.size:=hlt
   rw[Array.getD_eq_getD_getElem?,Array.getElem?_eq_getElem hl2]
   rfl
  simp only[Instr.index,Sem.run_bind,asIntOf,Sem.run_pure,Result.andThen_ok,run_underlying hu]
  rw[if_pos hc.1,h1]
  rfl
 ·cases h
theorem b0A{P:Program}{t:TypeId}{x z:Value}{lo hi:Option Value}{c:Prop}(h:z8 x lo hi=some (c,z))(hc:c)(hD:td P t=some .str):c5s P t x lo hi none z:=by
 intro w
 have hu:P.underlying t=some .string:=by
  unfold td at hD
  split at hD<;>first|assumption|(simp at hD;done)|(cases hD;done)
 unfold z8 at h
 split at h
 ·rename_i s
  cases hl:j3 lo 0 with
  |none=>rw[hl]at h;cases h
  |some l=>
   cases hh:j3 hi s.size with
   |none=>rw[hl,hh]at h;cases h
   |some hv=>
    rw[hl,hh]at h
    simp only[Option.bind_some,Option.map_some,Option.some.injEq,Prod.mk.injEq]at h
    obtain⟨rfl,rfl⟩:=h
    obtain⟨q1,q2,q3⟩:=hc
    have hhi:(match hi with|some v=>Instr.sliceBound v s.size .sliceAlen|none=>(pure s.size:Sem Nat)).run P w= .ok hv.toNat w:=by
     unfold j3 at hh
     split at hh
     ·cases hh;simp
     ·cases hh;exact L3 (by omega) q3
     ·cases hh
    have hlo:(match lo with|some v=>Instr.sliceBound v hv.toNat .sliceB|none=>(pure 0:Sem Nat)).run P w= .ok l.toNat w:=by
     unfold j3 at hl
     split at hl
     ·cases hl;rfl
     ·cases hl;exact L3 q1 (by omega)
     ·cases hl
    have hb:(Instr.sliceBounds false s.size s.size lo hi none).run P w= .ok (l.toNat,hv.toNat,s.size) w:=by
     simp only[Instr.sliceBounds,Sem.run_bind,Sem.run_pure,Result.andThen_ok]
     cases hi with
     |none=>
      simp only[j3,Option.some.injEq]at hh
      subst hh
      cases lo with
      |none=>simp only[j3,Option.some.injEq]at hl;subst hl;simp
      |some v=>simp only at hlo;simp at hlo⊢;simp [hlo]
     |some v=>
      simp only[Bool.false_eq_true,if_false]at hhi⊢
      simp only[Sem.run_bind,hhi,Result.andThen_ok]
      cases lo with
      |none=>simp only[j3,Option.some.injEq]at hl;subst hl;simp
      |some v=>simp only at hlo;simp [hlo]
    simp [Instr.sliceAt,run_underlying hu,Instr.slice,hb]
 ·cases h
theorem b32{P:Program}{b:Builtin}{ts:Array TypeId}{t:TypeId}{cs:Array Bool}{vs:List Value}{z:Value}(h:T7 b vs=some z):biR P b ts t cs vs.toArray z:=by
 intro w
 unfold T7 at h
 split at h<;>first|(cases h;done)|(cases h;simp [builtin,Builtin.max_,Builtin.min_,Builtin.max2,Builtin.min2])
def T8(t:AV)(h:List (Nat×RS))(n:Nat):Option (Prop×List AV):=
 match t with
 | .ptr id i k| .dX id i k=>match LS.hf h id with
  | .live r=>(r.es[i]?).map fun e=>(k+n≤r.sz,(e.drop k).take n)
  |_=>none
 | .aA es i k=>(es[i]?).map fun e=>(k+n≤e.length,(e.drop k).take n)
 |_=>none
def s6:AV→Nat→Option (Prop×AV)
 | .ptr id i k,n=>some (True,.ptr id i (k+n))
 | .dX id i k,n=>some (True,.dX id i (k+n))
 | .aA es i k,n=>(es[i]?).map fun e=>(k+n<e.length,.aA es i (k+n))
 |_,_=>none
def a3k(T:TI)(cs:List AV)(off:Nat):Option (Prop×AV):=(o8 T.agg ((cs.drop off).take T.size)).map fun v=>(off+T.size≤cs.length,v)
def A6(D:TD)(h:List (Nat×RS))(x:AV)(i:Int):Option (Prop×AV):=
 match D,x with
 | .slice E,.a8 _ es=>some ((∀e∈es,e.length=E.size)∧0≤i∧i<es.length,.aA es i.toNat 0)
 | .slice E,.own id off n=>match LS.hf h id with
  | .live r=>some (r.sz=E.size∧0≤i∧i<n∧off+n≤r.es.length,.dX id (off+i.toNat) 0)
  |_=>none
 | .array n e,.ptr id j k=>some (0≤i∧i<n,.dX id j (k+i.toNat*e.size))
 | .array n e,.dX id j k=>some (0≤i∧i<n,.dX id j (k+i.toNat*e.size))
 |_,_=>none
def nR(t:List AV)(x:Option Operand):Option (Option Int):=
 match x with
 |none=>some none
 |some x=>match LS.ev t x with
  | .v (.int _ i)=>some (some i)
  |_=>none
def A9(E:TI)(h:List (Nat×RS))(x:AV)(l:Int)(hi mx:Option Int):Option (Prop×AV):=
 match x with
 | .a8 c es=>match mx with
  |none=>some ((∀e∈es,e.length=E.size)∧0≤l∧l≤hi.getD es.length∧hi.getD es.length≤es.length,.a8 (c&&decide (hi.getD es.length=es.length)) ((es.drop l.toNat).take (hi.getD es.length-l).toNat))
  |some m=>match hi with
   |some hv=>some ((∀e∈es,e.length=E.size)∧0≤l∧l≤hv∧hv≤es.length∧hv≤m∧m≤es.length,.a8 (decide (m=hv)) ((es.drop l.toNat).take (hv-l).toNat))
   |none=>none
 | .own id off n=>match LS.hf h id with
  | .live r=>match mx with
   |none=>some (r.sz=E.size∧0≤l∧l≤hi.getD n∧hi.getD n≤n∧(l<hi.getD n∨l=0),.own id (off+l.toNat) (hi.getD n-l).toNat)
   |some _=>none
  |_=>none
 |_=>none
def B1(h:List (Nat×RS))(E:TI):AV→Option (Prop×List (List AV))
 | .a8 _ es=>some (∀e∈es,e.length=E.size,es)
 | .own id off n=>match LS.hf h id with
  | .live r=>some (r.sz=E.size∧off+n≤r.es.length∧(∀e∈(r.es.drop off).take n,e.length=E.size),(r.es.drop off).take n)
  |_=>none
 |_=>none
def c0d(E:TI)(h:List (Nat×RS))(nx:Nat)(x y:AV):Option (Prop×Fx):=
 (B1 h E y).bind fun ys=>match x with
  | .a8 cl es=>match ys.2 with
   |[]=>some (ys.1∧(∀e∈es,e.length=E.size),{val:= .a8 cl es,fp:=j6 y})
   |_=>if cl then some (ys.1∧ys.2≠[]∧(∀e∈es,e.length=E.size)∧es.length+ys.2.length≤140737488355328∧(es.length+ys.2.length)*E.bytes≤140737488355328,
     {val:= .own nx 0 (es.length+ys.2.length),fp:=j6 y,new:=[⟨E.size,es++ys.2,0⟩]})else none
  | .own id off n=>match LS.hf h id with
   | .live r=>some (ys.1∧r.sz=E.size∧off+n≤r.es.length∧r.fro≤off+n∧(∀e∈ys.2,∀x∈e,AV.one x=true)∧n+ys.2.length≤140737488355328∧(n+ys.2.length)*E.bytes≤140737488355328,
     {val:= .own nx 0 (n+ys.2.length),fp:=(id,none,true)::j6 y,kill:=some id,new:=[⟨E.size,(r.es.drop off).take n++ys.2,r.fro-off⟩]})
   |_=>none
  |_=>none
def A8(x:AV):Option Int:=
 match x with
 | .a8 _ es=>some es.length
 | .own _ _ n=>some n
 |_=>none
noncomputable def stepC (P:Program) (op:Op) (t:List AV) (h:List (Nat×RS)) (nx:Nat):Option (Prop×Fx):=
 match op with
 | .move x| .assign x=>some (True,{val:=LS.ev t x})
 | .nilCheck x=>some (l9 (LS.ev t x)=true,{val:=LS.ev t x})
 | .pick c a b=>match LS.ev t c with
  | .v (.bool c)=>some (True,{val:=if c then LS.ev t a else LS.ev t b})
  |_=>none
 | .alloc e=>(ti P e).map fun T=>(True,{val:= .ptr nx 0 0,new:=[⟨T.size,[T.zero.map AV.w6],0⟩]})
 | .box _ x=>(LS.ev t x).e6.map fun cs=>(True,{val:= .ptr nx 0 0,new:=[⟨cs.length,[cs],0⟩]})
 | .build ty ps=>(td P ty).bind fun D=>(ti P ty).bind fun T=>(lJ (j8 D) (T.zero.map AV.w6) (ps.toList.map fun p=>(p.1,LS.ev t p.2))).map fun cs=>(D.isRow=true,{val:= .agg cs})
 | .buildSlice ty len ps=>match td P ty with
  |some (.slice E)=>(rU E.size (List.replicate len (E.zero.map AV.w6)) (ps.toList.map fun p=>(p.1,LS.ev t p.2))).map fun es=>(len*E.size≤16777216,{val:= .own nx 0 len,new:=[⟨E.size,es,0⟩]})
  |_=>none
 | .load ty a=>(ti P ty).bind fun T=>(T8 (LS.ev t a) h T.size).bind fun cs=>(o8 T.agg cs.2).map fun val=>(cs.1,{val:=val,fp:=j7 false (LS.ev t a) T.size})
 | .store ty a x=>(ti P ty).bind fun T=>(LS.ev t x).e6.bind fun cs=>match LS.ev t a with
  | .ptr id i k| .dX id i k=>match LS.hf h id with
   | .live r=>some (cs.length=T.size∧cs.all AV.one=true∧r.fro≤i∧i<r.es.length∧k+T.size≤r.sz,{val:= .Z,fp:=j7 true (LS.ev t a) T.size,wr:=some (id,i,k,cs)})
   |_=>none
  |_=>none
 | .binOp op ty x y _=>match LS.ev t x,LS.ev t y with
  | .v (.bool a),.v (.bool b)=>if tA P ty then(z6 op (decide (a=b))).map fun z=>(True,{val:= .v (.bool z)})else none
  | .agg xs,.agg ys=>match plC P ty,td P ty with
   |some l,some (.struct _)|some l,some (.array _ _)=>(y7 xs ys).bind fun b=>(z6 op b).map fun z=>(y5 l xs=true∧y5 l ys=true,{val:= .v (.bool z)})
   |_,_=>none
  | .v vx,.v vy=>(A5 op vx vy).map fun p=>(p.1,{val:= .v p.2})
  |ax,_=>match y,td P ty with
   | .const (.slice none 0 0),some (.slice _)=>(l0 op ax).map fun val=>(True,{val:=val})
   |_,_=>none
 | .unOp op _ x=>match LS.ev t x with
  | .v vx=>(U0 op vx).map fun z=>(True,{val:= .v z})
  |_=>none
 | .convert src dst x=>match LS.ev t x,td P src with
  | .v vx,some _=>(s7 P dst vx).map fun z=>(True,{val:= .v z})
  |_,_=>none
 | .makeFunc fn first W7=>match fn with
  | .func f=>match first.toList with
   |[]=>some (True,{val:= .fn f (W7.toList.map (LS.ev t))})
   |cs=>some (W7= #[],{val:= .nD f (cs.map (LS.ev t))})
  |_=>none
 | .makeSlice ty l c=>match td P ty,LS.ev t l,LS.ev t c with
  |some (.slice E),.v (.int _ n),.v (.int _ m)=>some (m=n∧0≤n∧E.bytes*n≤140737488355328∧n≤140737488355328,{val:= .own nx 0 n.toNat,new:=[⟨E.size,List.replicate n.toNat (E.zero.map AV.w6),0⟩]})
  |_,_,_=>none
 | .slice ty x lo hi mx=>match td P ty with
  |some (.slice E)=>(nR t lo).bind fun l=>(nR t hi).bind fun ho=>(nR t mx).bind fun mo=>(A9 E h (LS.ev t x) (l.getD 0) ho mo).map fun p=>(p.1,{val:=p.2,fp:=j9 (LS.ev t x)})
  |some .str=>match LS.ev t x,mx with
   | .v vx,none=>(nR t lo).bind fun l=>(nR t hi).bind fun ho=>(z8 vx (l.map (.int .i64)) (ho.map (.int .i64))).map fun p=>(p.1,{val:= .v p.2})
   |_,_=>none
  |_=>none
 | .fieldAddr ty x f=>match td P ty with
  |some (.struct fs)=>(fs[f]?).bind fun p=>(s6 (LS.ev t x) p.1).map fun q=>(q.1,{val:=q.2})
  |_=>none
 | .field ty x f=>match td P ty,LS.ev t x with
  |some (.struct fs),.agg cs=>(fs[f]?).bind fun p=>(a3k p.2 cs p.1).map fun q=>(q.1,{val:=q.2})
  |_,_=>none
 | .indexAddr ty x ix=>match LS.ev t ix with
  | .v (.int _ i)=>(td P ty).bind fun D=>(A6 D h (LS.ev t x) i).map fun q=>(q.1,{val:=q.2,fp:=j9 (LS.ev t x)})
  |_=>none
 | .index ty x ix=>match td P ty,LS.ev t x,LS.ev t ix with
  |some (.array n E),.agg cs,.v (.int _ i)=>(a3k E cs (i.toNat*E.size)).map fun q=>((0≤i∧i<n)∧q.1,{val:=q.2})
  |some .str,.v vx,.v vi=>(A7 vx vi).map fun q=>(q.1,{val:= .v q.2})
  |_,_,_=>none
 | .extract x i=>match LS.ev t x with
  | .O2 cs=>(cs[i]?).map fun val=>(True,{val:=val})
  |_=>none
 | .lookup ty m k c=>match tm P ty,LS.ev t m,(LS.ev t k).y8 with
  |some (kd,z),.v (.map (some b)),some kv=>(p9 b h).map fun q=>((q.2.1=kd∧LS.hf h q.1= .mp b q.2.1 q.2.2)∧lR P ty kd kv,{val:=if c then .O2 [.v ((q.2.2 kv).getD z),.v (.bool (q.2.2 kv).isSome)]else .v ((q.2.2 kv).getD z),fp:=[(q.1,none,false)]})
  |_,_,_=>none
 | .call c=>match c.callee,c.args.toList,c.argTypes.toList with
  | .builtin .len,[x],[ty]=>match td P ty,LS.ev t x with
   |some (.slice _),ax=>(A8 ax).map fun n=>(True,{val:= .v (.int .i64 n)})
   |some .str,.v (.string s)=>some (True,{val:= .v (.int .i64 s.size)})
   |some .other,.v (.map (some b))=>match tm P ty with
    |some (kd,_)=>(p9 b h).map fun q=>((q.2.1=kd∧LS.hf h q.1= .mp b q.2.1 q.2.2)∧kd≠ .invalid,{val:= .v (.int .i64 (mapLen q.2.2)),fp:=[(q.1,none,false)]})
    |none=>none
   |_,_=>none
  | .builtin .append,[x,y],[ty,ty2]=>match td P ty,td P ty2 with
   |some (.slice E),some (.slice _)=>c0d E h nx (LS.ev t x) (LS.ev t y)
   |_,_=>none
  | .builtin b,xs,_=>((xs.mapM fun x=>(LS.ev t x).L8).bind (T7 b)).map fun z=>(True,{val:= .v z})
  |_,_,_=>none
 |_=>none
section
section
variable {P:Program} {s:LS} {nx:Nat}
theorem b4g{x:AV}{n:Nat}{c:Prop}{cs:List AV}(h:T8 x s.h n=some (c,cs))(hc:c):rd s.o4 x n=some cs:=by
 unfold T8 at h
 split at h
 ·split at h
  ·rename_i id i k r hr
   simp only[Option.map_eq_some_iff]at h
   obtain⟨e,h1,h2⟩:=h
   cases h2
   simp only[rd,LS.o4,hr,if_pos hc,h1,Option.map_some]
  ·cases h
 ·split at h
  ·rename_i id i k r hr
   simp only[Option.map_eq_some_iff]at h
   obtain⟨e,h1,h2⟩:=h
   cases h2
   simp only[rd,LS.o4,hr,if_pos hc,h1,Option.map_some]
  ·cases h
 ·simp only[Option.map_eq_some_iff]at h
  obtain⟨e,h1,h2⟩:=h
  cases h2
  simp only[rd,h1,Option.bind_some,if_pos hc]
 ·cases h
theorem a7e{x y:AV}{n:Nat}{c:Prop}(h:s6 x n=some (c,y))(hc:c):vY x n=some y:=by
 unfold s6 at h
 split at h
 ·cases h;rfl
 ·cases h;rfl
 ·simp only[Option.map_eq_some_iff]at h
  obtain⟨e,h1,h2⟩:=h
  cases h2
  simp only[vY,h1,if_pos hc]
 ·cases h
theorem rH{T:TI}{cs:List AV}{off:Nat}{c:Prop}{v:AV}(h:a3k T cs off=some (c,v))(hc:c):rG T cs off=some v:=by
 unfold a3k at h
 simp only[Option.map_eq_some_iff]at h
 obtain⟨e,h1,h2⟩:=h
 cases h2
 unfold rG
 rw[if_pos hc];exact h1
theorem a9W{D:TD}{x y:AV}{i:Int}{c:Prop}(h:A6 D s.h x i=some (c,y))(hc:c):a34 D s.o4 x i=some y∧∀E,D= .slice E→qK s.o4 E.size x:=by
 unfold A6 at h
 split at h
 ·simp only[Option.some.injEq,Prod.mk.injEq]at h
  obtain⟨rfl,rfl⟩:=h
  refine⟨by simp only[a34];rw[if_pos hc.2],?_⟩
  intro E hE;cases hE;exact hc.1
 ·split at h
  ·rename_i E id off n r hr
   simp only[Option.some.injEq,Prod.mk.injEq]at h
   obtain⟨rfl,rfl⟩:=h
   refine⟨by simp only[a34,LS.o4,hr];rw[if_pos ⟨hc.2.1,hc.2.2.1,hc.2.2.2⟩],?_⟩
   intro E' hE;cases hE;exact⟨r,hr,hc.1⟩
  ·cases h
 ·simp only[Option.some.injEq,Prod.mk.injEq]at h
  obtain⟨rfl,rfl⟩:=h
  exact⟨by simp only[a34];rw[if_pos hc],fun E hE=>by cases hE⟩
 ·simp only[Option.some.injEq,Prod.mk.injEq]at h
  obtain⟨rfl,rfl⟩:=h
  exact⟨by simp only[a34];rw[if_pos hc],fun E hE=>by cases hE⟩
 ·cases h
theorem a74{x:Option Operand}{i:Option Int}(h:nR s.t x=some i):b37 s.o4 x i:=by
 unfold nR at h
 split at h
 ·cases h;trivial
 ·split at h
  ·rename_i x k j hx
   cases h
   exact⟨k,by rw[LS.jR];exact hx⟩
  ·cases h
theorem b0y{E:TI}{x y:AV}{l:Int}{hi mx:Option Int}{c:Prop}(h:A9 E s.h x l hi mx=some (c,y))(hc:c):iW x l hi mx=some y∧qK s.o4 E.size x:=by
 unfold A9 at h
 split at h
 ·split at h
  ·simp only[Option.some.injEq,Prod.mk.injEq]at h
   obtain⟨rfl,rfl⟩:=h
   exact⟨by simp only[iW];rw[if_pos hc.2],hc.1⟩
  ·split at h
   ·simp only[Option.some.injEq,Prod.mk.injEq]at h
    obtain⟨rfl,rfl⟩:=h
    exact⟨by simp only[iW,Option.getD_some,Option.isSome_some,true_and];rw[if_pos ⟨hc.2.1,hc.2.2.1,hc.2.2.2.1⟩,if_pos hc.2.2.2.2],hc.1⟩
   ·cases h
 ·split at h
  ·rename_i id off n r hr
   split at h
   ·simp only[Option.some.injEq,Prod.mk.injEq]at h
    obtain⟨rfl,rfl⟩:=h
    exact⟨by simp only[iW];rw[if_pos ⟨hc.2.1,hc.2.2.1,hc.2.2.2.1⟩,if_pos hc.2.2.2.2],⟨r,hr,hc.1⟩⟩
   ·cases h
  ·cases h
 ·cases h
theorem mL{E:TI}{y:AV}{c:Prop}{ys:List (List AV)}(h:B1 s.h E y=some (c,ys))(hc:c):mK s.o4 y=some ys∧qK s.o4 E.size y∧∀e∈ys,e.length=E.size:=by
 unfold B1 at h
 split at h
 ·simp only[Option.some.injEq,Prod.mk.injEq]at h
  obtain⟨rfl,rfl⟩:=h
  exact⟨rfl,hc,hc⟩
 ·split at h
  ·rename_i id off n r hr
   simp only[Option.some.injEq,Prod.mk.injEq]at h
   obtain⟨rfl,rfl⟩:=h
   exact⟨by simp only[mK,LS.o4,hr];rw[if_pos hc.2.1],⟨r,hr,hc.1⟩,hc.2.2⟩
  ·cases h
 ·cases h
theorem a93{x:AV}{n:Int}(h:A8 x=some n):∃m:Nat,c0L x=some m∧n=m:=by
 unfold A8 at h
 split at h<;>first|(cases h;exact⟨_,rfl,rfl⟩)|cases h
theorem b0z{x:Value}{lo hi:Option Value}{l ho:Option Int}(hl:(lo=none∧l=none)∨∃k i,lo=some (.int k i)∧l=some i)(hh:(hi=none∧ho=none)∨∃k i,hi=some (.int k i)∧ho=some i):
  z8 x lo hi=z8 x (l.map (.int .i64)) (ho.map (.int .i64)):=by
 have b:∀{v:Option Value} {i:Option Int} (d:Int),((v=none∧i=none)∨∃k j,v=some (.int k j)∧i=some j)→j3 v d=j3 (i.map (.int .i64)) d:=by
  intro v i d h
  rcases h with⟨rfl,rfl⟩|⟨k,j,rfl,rfl⟩<;>rfl
 unfold z8
 cases x<;>simp only
 rw[b 0 hl,b _ hh]
theorem b2m{x:Option Operand}{i:Option Int}(h:nR s.t x=some i):∃v,zY s.o4 x=some v∧((v=none∧i=none)∨∃k j,v=some (.int k j)∧i=some j):=by
 unfold nR at h
 split at h
 ·cases h;exact⟨none,rfl,.inl ⟨rfl,rfl⟩⟩
 ·split at h
  ·rename_i x k j hx
   cases h
   exact⟨some (.int k j),by simp only[zY,LS.jR,hx,AV.L8,Option.map_some],.inr ⟨k,j,rfl,rfl⟩⟩
  ·cases h
theorem rN[j5 P]{o:Oper}{c:Prop}{fx:Fx}(h:stepC P o.op s.t s.h nx=some (c,fx))(hc:c):ex P o s.o4 nx fx:=by
 unfold stepC at h
 unfold ex
 simp only[LS.jR]
 split at h
 ·rename_i ho;rw[ho];cases h;rfl
 ·rename_i ho;rw[ho];cases h;rfl
 ·rename_i ho;rw[ho];cases h;exact⟨hc,rfl⟩
 ·rename_i c' a b ho
  rw[ho]
  split at h
  ·rename_i b0 hb;cases h;exact⟨b0,hb,rfl⟩
  ·cases h
 ·rename_i e ho
  rw[ho]
  simp only[Option.map_eq_some_iff,Prod.mk.injEq]at h
  obtain⟨T,h1,_,rfl⟩:=h
  exact⟨T,h1,rfl⟩
 ·rename_i e x ho
  rw[ho]
  simp only[Option.map_eq_some_iff,Prod.mk.injEq]at h
  obtain⟨T,h1,_,rfl⟩:=h
  exact⟨T,h1,rfl⟩
 ·rename_i ty ps ho
  rw[ho]
  simp only[Option.bind_eq_some_iff,Option.map_eq_some_iff,Prod.mk.injEq]at h
  obtain⟨D,h1,T,h2,cs,h3,rfl,rfl⟩:=h
  exact⟨D,h1,hc,T,h2,cs,h3,rfl⟩
 ·rename_i ty len ps ho
  rw[ho]
  split at h
  ·rename_i E hE
   simp only[Option.map_eq_some_iff,Prod.mk.injEq]at h
   obtain⟨es,h1,rfl,rfl⟩:=h
   exact⟨E,hE,hc,es,h1,rfl⟩
  ·cases h
 ·rename_i ty a ho
  rw[ho]
  simp only[Option.bind_eq_some_iff,Option.map_eq_some_iff,Prod.mk.injEq]at h
  obtain⟨T,h1,⟨c1,cs⟩,h2,val,h3,rfl,rfl⟩:=h
  exact⟨T,h1,cs,b4g h2 hc,val,h3,rfl⟩
 ·rename_i ty a x ho
  rw[ho]
  simp only[Option.bind_eq_some_iff]at h
  obtain⟨T,h1,cs,h2,h⟩:=h
  split at h<;>first|(cases h;done)|skip
  all_goals
   rename_i id i k ha
   split at h
   ·rename_i r hr
    simp only[Option.some.injEq,Prod.mk.injEq]at h
    obtain⟨rfl,rfl⟩:=h
    refine⟨T,h1,cs,h2,hc.1,hc.2.1,id,i,k,?_,r,hr,hc.2.2.1,hc.2.2.2.1,hc.2.2.2.2,rfl⟩
    simp only[b7a,ha]
    simp
   ·cases h
 ·rename_i op ty x y yt ho
  rw[ho]
  split at h
  ·rename_i a b hx hy
   split at h
   ·rename_i hb
    simp only[Option.map_eq_some_iff,Prod.mk.injEq]at h
    obtain⟨z,h1,_,rfl⟩:=h
    exact .inl ⟨_,by rw[hx];rfl,_,by rw[hy];rfl,_,b3r hb h1,rfl⟩
   ·cases h
  ·rename_i xs ys hx hy
   split at h
   ·rename_i l fs hl hD
    simp only[Option.bind_eq_some_iff,Option.map_eq_some_iff,Prod.mk.injEq]at h
    obtain⟨b,h1,z,h2,rfl,rfl⟩:=h
    obtain⟨vx,vy,e1,e2,e3⟩:=a2M (xo:=x) (yo:=y) hl ⟨_,hD,trivial⟩ hc.1 hc.2 h1 h2
    exact .inl ⟨_,by rw[hx];simp only[AV.L8,e1,Option.map_some],_,by rw[hy];simp only[AV.L8,e2,Option.map_some],_,e3,rfl⟩
   ·rename_i l n e hl hD
    simp only[Option.bind_eq_some_iff,Option.map_eq_some_iff,Prod.mk.injEq]at h
    obtain⟨b,h1,z,h2,rfl,rfl⟩:=h
    obtain⟨vx,vy,e1,e2,e3⟩:=a2M (xo:=x) (yo:=y) hl ⟨_,hD,trivial⟩ hc.1 hc.2 h1 h2
    exact .inl ⟨_,by rw[hx];simp only[AV.L8,e1,Option.map_some],_,by rw[hy];simp only[AV.L8,e2,Option.map_some],_,e3,rfl⟩
   ·cases h
  ·rename_i vx vy _ hx hy
   simp only[Option.map_eq_some_iff,Prod.mk.injEq]at h
   obtain⟨⟨c1,z⟩,h1,rfl,rfl⟩:=h
   exact .inl ⟨vx,by rw[hx];rfl,vy,by rw[hy];rfl,z,a9q h1 hc,rfl⟩
  ·split at h
   ·simp only[Option.map_eq_some_iff,Prod.mk.injEq]at h
    obtain⟨val,h1,_,rfl⟩:=h
    exact .inr ⟨rfl,_,by assumption,val,h1,rfl⟩
   ·cases h
 ·rename_i op ty x ho
  rw[ho]
  split at h
  ·rename_i vx hx
   simp only[Option.map_eq_some_iff,Prod.mk.injEq]at h
   obtain⟨z,h1,_,rfl⟩:=h
   exact⟨vx,by rw[hx];rfl,z,b4E h1,rfl⟩
  ·cases h
 ·rename_i src dst x ho
  rw[ho]
  split at h
  ·rename_i vx d hx hd
   simp only[Option.map_eq_some_iff,Prod.mk.injEq]at h
   obtain⟨z,h1,_,rfl⟩:=h
   refine⟨vx,by rw[hx];rfl,z,a7E h1 ?_,rfl⟩
   unfold td at hd
   split at hd<;>first|(cases hd;done)|exact⟨_,by assumption⟩
  ·cases h
 ·rename_i fn first W7 ho
  rw[ho]
  split at h
  ·rename_i f
   obtain⟨l⟩:=first
   split at h
   ·rename_i hl
    simp only[Option.some.injEq,Prod.mk.injEq]at h
    obtain⟨rfl,rfl⟩:=h
    exact⟨f,rfl,.inl ⟨by simpa using hl,rfl⟩⟩
   ·simp only[Option.some.injEq,Prod.mk.injEq]at h
    obtain⟨rfl,rfl⟩:=h
    exact⟨f,rfl,.inr ⟨hc,rfl⟩⟩
  ·cases h
 ·rename_i ty l c' ho
  rw[ho]
  split at h
  ·rename_i E k n k' m hD hl hcc
   simp only[Option.some.injEq,Prod.mk.injEq]at h
   obtain⟨rfl,rfl⟩:=h
   obtain⟨rfl,h0,h1,h2⟩:=hc
   exact⟨E,hD,k,m,hl,k',hcc,h0,h1,h2,rfl⟩
  ·cases h
 ·rename_i ty x lo hi mx ho
  rw[ho]
  split at h
  ·rename_i E hD
   simp only[Option.bind_eq_some_iff,Option.map_eq_some_iff,Prod.mk.injEq]at h
   obtain⟨l,h1,hv,h2,mo,h3,⟨c1,y⟩,h4,rfl,rfl⟩:=h
   obtain⟨g1,g2⟩:=b0y h4 hc
   refine .inl ⟨E,hD,g2,l.getD 0,?_,hv,a74 h2,mo,a74 h3,y,g1,rfl⟩
   unfold nR at h1
   split at h1
   ·cases h1;exact .inl ⟨rfl,rfl⟩
   ·split at h1
    ·cases h1;exact .inr ⟨_,_,rfl,by assumption⟩
    ·cases h1
  ·rename_i hD
   split at h
   ·rename_i vx hx
    simp only[Option.bind_eq_some_iff,Option.map_eq_some_iff,Prod.mk.injEq]at h
    obtain⟨l,h1,hv,h2,⟨c1,z⟩,h3,rfl,rfl⟩:=h
    obtain⟨v1,e1,e2⟩:=b2m h1
    obtain⟨v2,e3,e4⟩:=b2m h2
    exact .inr ⟨vx,by rw[hx];rfl,v1,e1,v2,e3,none,rfl,z,b0A (by rw[b0z e2 e4];exact h3) hc hD,rfl⟩
   ·cases h
  ·cases h
 ·rename_i ty x f ho
  rw[ho]
  split at h
  ·rename_i fs hD
   simp only[Option.bind_eq_some_iff,Option.map_eq_some_iff,Prod.mk.injEq]at h
   obtain⟨p,h1,⟨c1,y⟩,h2,rfl,rfl⟩:=h
   exact⟨fs,hD,p,h1,y,a7e h2 hc,rfl⟩
  ·cases h
 ·rename_i ty x f ho
  rw[ho]
  split at h
  ·rename_i fs cs hD hx
   simp only[Option.bind_eq_some_iff,Option.map_eq_some_iff,Prod.mk.injEq]at h
   obtain⟨p,h1,⟨c1,y⟩,h2,rfl,rfl⟩:=h
   exact⟨fs,hD,p,h1,cs,hx,y,rH h2 hc,rfl⟩
  ·cases h
 ·rename_i ty x ix ho
  rw[ho]
  split at h
  ·rename_i k i hi
   simp only[Option.bind_eq_some_iff,Option.map_eq_some_iff,Prod.mk.injEq]at h
   obtain⟨D,h1,⟨c1,y⟩,h2,rfl,rfl⟩:=h
   obtain⟨g1,g2⟩:=a9W h2 hc
   exact⟨D,h1,g2,k,i,hi,y,g1,rfl⟩
  ·cases h
 ·rename_i ty x ix ho
  rw[ho]
  split at h
  ·rename_i n E cs k i hD hx hi
   simp only[Option.map_eq_some_iff,Prod.mk.injEq]at h
   obtain⟨⟨c1,y⟩,h2,rfl,rfl⟩:=h
   exact .inl ⟨n,E,hD,cs,hx,k,i,hi,hc.1.1,hc.1.2,y,rH h2 hc.2,rfl⟩
  ·rename_i vx vi hD hx hi
   simp only[Option.map_eq_some_iff,Prod.mk.injEq]at h
   obtain⟨⟨c1,y⟩,h2,rfl,rfl⟩:=h
   exact .inr ⟨vx,by rw[hx];rfl,vi,by rw[hi];rfl,y,a9X h2 hc hD,rfl⟩
  ·cases h
 ·rename_i x i ho
  rw[ho]
  split at h
  ·rename_i cs hx
   simp only[Option.map_eq_some_iff,Prod.mk.injEq]at h
   obtain⟨val,h1,_,rfl⟩:=h
   exact⟨cs,hx,val,h1,rfl⟩
  ·cases h
 ·rename_i ty m k c' ho
  rw[ho]
  split at h
  ·rename_i kd z b kv ht hm hk
   simp only[Option.map_eq_some_iff,Prod.mk.injEq]at h
   obtain⟨⟨id,d',f⟩,h1,rfl,rfl⟩:=h
   obtain⟨⟨rfl,h2⟩,h3⟩:=hc
   exact⟨_,z,ht,b,hm,kv,hk,h3,id,f,h2,rfl⟩
  ·cases h
 ·rename_i c' ho
  rw[ho]
  simp only
  split at h
  ·rename_i x ty hcal hargs hts
   rw[hcal]
   simp only
   have ha:c'.args= #[x]:=by apply Array.ext';simpa using hargs
   have ht:c'.argTypes= #[ty]:=by apply Array.ext';simpa using hts
   split at h
   ·rename_i E ax hD hx
    simp only[Option.map_eq_some_iff,Prod.mk.injEq]at h
    obtain⟨n,h1,_,rfl⟩:=h
    obtain⟨m,h2,rfl⟩:=a93 h1
    exact .inl ⟨trivial,x,ha,ty,ht,_,by assumption,m,h2,rfl⟩
   ·rename_i b hD hx
    simp only[Option.some.injEq,Prod.mk.injEq]at h
    obtain⟨_,rfl⟩:=h
    refine .inr (.inr (.inl ⟨[.string b],?_,.int .i64 b.size,?_,rfl⟩))
    ·rw[ha]
     simp [hx,AV.L8]
    ·intro w
     have hu:P.underlying ty=some .string:=by
      unfold td at hD
      split at hD<;>first|assumption|(simp at hD;done)|(cases hD;done)
     simp [builtin,Builtin.len_,goInt,ht,run_underlying hu]
   ·rename_i b hD hx
    split at h
    ·rename_i kd z htm
     simp only[Option.map_eq_some_iff,Prod.mk.injEq]at h
     obtain⟨⟨id,d',f⟩,hf,h1,rfl⟩:=h
     rw[←h1]at hc
     obtain⟨⟨rfl,h2⟩,h3⟩:=hc
     exact .inr (.inr (.inr ⟨trivial,x,ha,ty,ht,_,z,htm,h3,b,hx,id,f,h2,rfl⟩))
    ·cases h
   ·cases h
  ·rename_i x y ty ty2 hcal hargs hts
   rw[hcal]
   simp only
   have ha:c'.args= #[x,y]:=by apply Array.ext';simpa using hargs
   have ht:c'.argTypes= #[ty,ty2]:=by apply Array.ext';simpa using hts
   split at h
   ·rename_i E E2 hD hD2
    unfold c0d at h
    simp only[Option.bind_eq_some_iff]at h
    obtain⟨⟨c1,ys⟩,h1,h⟩:=h
    refine .inr (.inl ⟨trivial,x,y,ha,ty,ty2,ht,E,hD,E2,hD2,?_⟩)
    split at h
    ·rename_i cl es hx
     split at h
     ·rename_i hys
      simp only[Option.some.injEq,Prod.mk.injEq]at h
      obtain⟨rfl,rfl⟩:=h
      obtain⟨g1,g2,g3⟩:=mL h1 hc.1
      simp only at hys
      exact⟨by rw[hx];exact hc.2,g2,ys,g1,g3,.inl ⟨cl,es,hx,hys,rfl⟩⟩
     ·split at h
      ·rename_i oR
       simp only[Option.some.injEq,Prod.mk.injEq]at h
       obtain⟨rfl,rfl⟩:=h
       obtain⟨g1,g2,g3⟩:=mL h1 hc.1
       subst oR
       exact⟨by rw[hx];exact hc.2.2.1,g2,ys,g1,g3,.inr (.inl ⟨es,hx,hc.2.1,hc.2.2.2.1,hc.2.2.2.2,rfl⟩)⟩
      ·cases h
    ·rename_i id off n hx
     split at h
     ·rename_i r hr
      simp only[Option.some.injEq,Prod.mk.injEq]at h
      obtain⟨rfl,rfl⟩:=h
      obtain⟨g1,g2,g3⟩:=mL h1 hc.1
      exact⟨by rw[hx];exact⟨r,hr,hc.2.1⟩,g2,ys,g1,g3,.inr (.inr ⟨id,off,n,hx,r,hr,hc.2.2.1,hc.2.2.2.1,hc.2.2.2.2.1,hc.2.2.2.2.2.1,hc.2.2.2.2.2.2,rfl⟩)⟩
     ·cases h
    ·cases h
   ·cases h
  ·rename_i b hcal _ _
   rw[hcal]
   simp only[Option.map_eq_some_iff,Option.bind_eq_some_iff,Prod.mk.injEq]at h⊢
   obtain⟨z,⟨vs,h1,h2⟩,_,rfl⟩:=h
   exact .inr (.inr (.inl ⟨vs,h1,z,b32 h2,rfl⟩))
  ·cases h
 ·cases h
end
end
section
def S7(s:LS):Option Tmp→Prop
 |some d=>d<s.t.length
 |none=>True
def fO(P:Program)[j5 P](rest:LS→(LS→Prop)→Prop)(d:Option Tmp)(s:LS)(N:LS→Prop)(f:FuncId)(xs:List AV):Prop:=
 (∃n ys,xs.mapM (u6 (LS.hf s.h) n)=some ys∧∃y rows,e8 P f ys y rows∧(rows s.nx).length≤8∧
  ∃lend:Bool,(lend=true→rows s.nx=[]∧(y s.nx).flat=true)∧
  rest (s.cI d {val:=y s.nx,fp:=(xs.flatMap (a6 (LS.hf s.h) n)).map (fun p=>(p.1,none, !lend)),fro:=if lend then[]else xs.flatMap (a6 (LS.hf s.h) n),new:=rows s.nx}) N)∨
 (∃fn body k keep,P.funcs[f]?=some fn∧fn.body=some body∧(fn.name== "runtime.NumGoroutine")=false∧b7 k s.h∧fI (md:=false) P body (zU fn xs k keep s) (A2 P fn k keep s.t d (fun s'=>rest s' N)))∨
 a0f P f xs s (fun x s'=>rest (s'.put d x) N)∨
 ∃fx,a7x P f xs (LS.hf s.h) fx∧rest (s.cI d fx) N
def s8(P:Program)[j5 P](rest:LS→(LS→Prop)→Prop)(d:Option Tmp)(s:LS)(N:LS→Prop)(fv:AV)(xs:List AV):Prop:=
 match fv with
 | .fn f W7=>fO P rest d s N f (xs++W7)
 | .nD f cs=>fO P rest d s N f (cs++xs)
 |_=>False
def a9J(rest:LS→(LS→Prop)→Prop)(d:Option Tmp)(s:LS)(N:LS→Prop):Option (Prop×Fx)→Prop
 |some (c,fx)=>c∧rest (s.cI d fx) N
 |none=>False
def pT(h:List (Nat×RS))(b:Nat)(d:TypeDesc)(K:(Value→Option Value)→Prop):Prop:=
 match p9 b h with
 |some (id,d',f)=>d'=d∧LS.hf h id= .mp b d' f∧K f
 |none=>False
def b17(P:Program)(rest:LS→(LS→Prop)→Prop)(d:Option Tmp)(s:LS)(N:LS→Prop)(t:TypeId):Prop:=
 match tm P t with
 |some (kd,_)=>∀b,rest ⟨(s.put d (.v (.map (some b)))).t,s.h++[(s.nx,.mp b kd fun _=>none)],s.nx+8⟩ N
 |none=>False
def u0(P:Program)(rest:LS→(LS→Prop)→Prop)(d:Option Tmp)(s:LS)(N:LS→Prop)(t:TypeId)(m k:AV)(c:Bool):Prop:=
 match tm P t,m,k.y8 with
 |some (kd,z),.v (.map (some b)),some kv=>lR P t kd kv∧pT s.h b kd fun f=>rest (s.put d (if c then .O2 [.v ((f kv).getD z),.v (.bool (f kv).isSome)]else .v ((f kv).getD z))) N
 |_,_,_=>False
def B3(P:Program)(rest:LS→(LS→Prop)→Prop)(d:Option Tmp)(s:LS)(N:LS→Prop)(t:TypeId)(m k v:AV):Prop:=
 match tm P t,m,k.y8,v with
 |some (kd,_),.v (.map (some b)),some kv,.v xv=>lR P t kd kv∧pT s.h b kd fun f=>rest {s.put d .Z with h:=jH b kd (aI f kv xv) s.h} N
 |_,_,_,_=>False
def m8(P:Program)(rest:LS→(LS→Prop)→Prop)(d:Option Tmp)(s:LS)(N:LS→Prop)(ts:List TypeId)(xs:List AV):Prop:=
 match ts,xs with
 |[t],[.own id off n]=>match td P t,LS.hf s.h id with
  |some (.slice E),.live r=>E.zero.all Value.oneCell'=true∧r.sz=E.size∧off+n≤r.es.length∧r.fro≤off∧rest {s.put d (.O2 [])with h:=Z6 id (.live {r with es:=V9 r.es off n r.sz}) s.h} N
  |_,_=>False
 |_,_=>False
def P6(P:Program)[j5 P](rest:LS→(LS→Prop)→Prop)(d:Option Tmp)(op:Op)(s:LS)(N:LS→Prop):Prop:=
 match op with
 | .call c=>match c.callee with
  | .value fv=>s8 P rest d s N (LS.ev s.t fv) (c.args.toList.map (LS.ev s.t))
  | .builtin .clear=>m8 P rest d s N c.argTypes.toList (c.args.toList.map (LS.ev s.t))
  |_=>a9J rest d s N (stepC P op s.t s.h s.nx)
 | .makeMap t none=>b17 P rest d s N t
 | .lookup t m k c=>u0 P rest d s N t (LS.ev s.t m) (LS.ev s.t k) c
 | .mapUpdate t m k v=>B3 P rest d s N t (LS.ev s.t m) (LS.ev s.t k) (LS.ev s.t v)
 |op=>a9J rest d s N (stepC P op s.t s.h s.nx)
def gdS(P:Program)[j5 P](rest:LS→(LS→Prop)→Prop)(d:Option Tmp)(op:Op)(s:LS)(N:LS→Prop)(want:Bool)(g:Tmp)(b:Bool):Prop:=
 (b=want→S7 s d∧P6 P rest d op (s.put (some g) (.v (.bool want))) N)∧(b=(!want)→S7 s d∧rest ((s.put (some g) (.v (.bool (!want)))).put d AV.kF) N)
def gdC(P:Program)[j5 P](rest:LS→(LS→Prop)→Prop)(d:Option Tmp)(op:Op)(s:LS)(N:LS→Prop)(want:Bool)(g:Tmp):AV→Prop
 | .v (.bool b)=>gdS P rest d op s N want g b
 | .v (.tuple cs)=>cs.isEmpty=true∧S7 s d∧rest (s.put d AV.kF) N
 |_=>False
section
variable {P:Program} {rest:LS→(LS→Prop)→Prop} {d:Option Tmp} {op:Op} {s:LS} {N:LS→Prop} {g:Tmp}
theorem c1X[j5 P]{want:Bool}{b:Bool}:gdC P rest d op s N want g (.v (.bool b))=gdS P rest d op s N want g b:=rfl
theorem b1W[j5 P]{want:Bool}:gdC P rest d op s N want g AV.kF=(S7 s d∧rest (s.put d AV.kF) N):=by simp [gdC,AV.kF,undef]
theorem b6H[j5 P]:gdS P rest d op s N true g true=(S7 s d∧P6 P rest d op (s.put (some g) (.v (.bool true))) N):=by simp [gdS]
theorem b6E[j5 P]:gdS P rest d op s N false g false=(S7 s d∧P6 P rest d op (s.put (some g) (.v (.bool false))) N):=by simp [gdS]
theorem b6G[j5 P]:gdS P rest d op s N true g false=(S7 s d∧rest ((s.put (some g) (.v (.bool false))).put d AV.kF) N):=by simp [gdS]
theorem b6F[j5 P]:gdS P rest d op s N false g true=(S7 s d∧rest ((s.put (some g) (.v (.bool true))).put d AV.kF) N):=by simp [gdS]
theorem c10[j5 P]{p:Prop}[Decidable p]:gdS P rest d op s N true g (decide p)=((p→S7 s d∧P6 P rest d op (s.put (some g) (.v (.bool true))) N)∧(¬p→S7 s d∧rest ((s.put (some g) (.v (.bool false))).put d AV.kF) N)):=by simp [gdS]
theorem c1Z[j5 P]{p:Prop}[Decidable p]:gdS P rest d op s N false g (decide p)=((p→S7 s d∧rest ((s.put (some g) (.v (.bool true))).put d AV.kF) N)∧(¬p→S7 s d∧P6 P rest d op (s.put (some g) (.v (.bool false))) N)):=by
 simp only[gdS,decide_eq_false_iff_not,Bool.not_false,decide_eq_true_eq]
 exact propext And.comm
theorem a9R[j5 P]{b:Bool}(h1:b=true→S7 s d∧P6 P rest d op (s.put (some g) (.v (.bool true))) N)(h2:b=false→S7 s d∧rest ((s.put (some g) (.v (.bool false))).put d AV.kF) N):gdS P rest d op s N true g b:=⟨h1,h2⟩
theorem a9Q[j5 P]{b:Bool}(h1:b=false→S7 s d∧P6 P rest d op (s.put (some g) (.v (.bool false))) N)(h2:b=true→S7 s d∧rest ((s.put (some g) (.v (.bool true))).put d AV.kF) N):gdS P rest d op s N false g b:=⟨h1,h2⟩
theorem b8{t:TypeId}{q:IntKind}{n:Int}:lR P t (.int q) (.int q n)=True:=eq_true (.inl rfl)
end
def X5(ops:List Oper):List (Option Tmp):=ops.map (·.dst)
theorem a3x(ops:List Oper)(j:Nat):(X5 ops).getD j none=(ops[j]?).bind (·.dst):=by
 simp only[X5,List.getD_eq_getElem?_getD,List.getElem?_map]
 cases ops[j]?<;>rfl
def gX(P:Program)[j5 P](ops:List (Option Tmp)):List Oper→LS→(LS→Prop)→Prop
 |[],s,N=>N s
 |o::rest,s,N=>match o.guard with
  |none=>S7 s o.dst∧P6 P (gX P ops rest) o.dst o.op s N
  |some (j,want)=>match ops.getD j none with
   |some g=>gdC P (gX P ops rest) o.dst o.op s N want g (LS.tf s.t g)
   |none=>False
section
variable {P:Program}
theorem eB{s:LS}{d:Option Tmp}(h:S7 s d):H9 s.o4 d:=by cases d<;>exact h
theorem b3G{fn:Func}{k:Nat}{keep:List Nat}{t:List AV}{d:Option Tmp}{K K':LS→Prop}(hK:∀s,K s→K' s){e:Exit}{s:LS}(h:A2 P fn k keep t d K e s):A2 P fn k keep t d K' e s:=by
 obtain⟨h1,x,h2,h3⟩:=h
 refine⟨h1,x,h2,?_⟩
 split at h3
 ·rename_i id cs hf
  exact⟨h3.1,h3.2.1,hK _ h3.2.2⟩
 ·exact h3.elim
theorem a2U[j5 P]{ops:List Oper}{rest:List Oper}{o:Oper}{s:LS}{N:LS→Prop}(ih:∀s N,gX P (X5 ops) rest s N→aQ P ops rest s N)(h:P6 P (gX P (X5 ops) rest) o.dst o.op s N):
  (∃fx,ex P o s.o4 s.nx fx∧aQ P ops rest (s.cI o.dst fx) N)∨inl P o s (fun s'=>aQ P ops rest s' N):=by
 have fin:a9J (gX P (X5 ops) rest) o.dst s N (stepC P o.op s.t s.h s.nx)→∃fx,ex P o s.o4 s.nx fx∧aQ P ops rest (s.cI o.dst fx) N:=by
  intro h
  cases hst:stepC P o.op s.t s.h s.nx with
  |none=>rw[hst]at h;exact h.elim
  |some p=>
   obtain⟨c,fx⟩:=p
   rw[hst]at h
   exact⟨fx,rN hst h.1,ih _ _ h.2⟩
 unfold P6 at h
 split at h
 ·rename_i c ho
  split at h
  ·rename_i fv hfv
   have key:∀f zs,iG (LS.ev s.t fv) (c.args.toList.map (LS.ev s.t))=some (f,zs)→fO P (gX P (X5 ops) rest) o.dst s N f zs→
     (∃fx,ex P o s.o4 s.nx fx∧aQ P ops rest (s.cI o.dst fx) N)∨inl P o s (fun s'=>aQ P ops rest s' N):=by
    intro f zs hf h
    have e:s.o4.ev=LS.ev s.t:=funext fun x=>LS.jR s x
    rcases h with⟨n,ys,h1,y,rows,h2,h3,lend,hlend,h4⟩|⟨fn,body,k,keep,h1,h2,h3,h4,h5⟩|hS|⟨fx,hX,h4⟩
    ·refine .inl ⟨_,?_,ih _ _ h4⟩
     unfold ex
     rw[ho]
     simp only[hfv]
     rw[e]
     exact .inl ⟨f,zs,hf,n,ys,h1,y,rows,h2,h3,lend,hlend,rfl⟩
    ·refine .inr ?_
     unfold inl
     rw[ho]
     simp only[hfv]
     rw[e]
     exact .inl ⟨f,zs,fn,body,k,keep,hf,h1,h2,h3,h4,h5.mono fun _ _ hk=>b3G (fun s' hs=>ih _ _ hs) hk⟩
    ·refine .inr ?_
     unfold inl
     rw[ho]
     simp only[hfv]
     rw[e]
     exact .inr ⟨f,zs,hf,hS.mono fun _ _ hk=>ih _ _ hk⟩
    ·refine .inl ⟨fx,?_,ih _ _ h4⟩
     unfold ex
     rw[ho]
     simp only[hfv]
     rw[e]
     exact .inr ⟨f,zs,hf,hX⟩
   unfold s8 at h
   split at h
   ·rename_i f W7 hf;exact key _ _ (by rw[hf];rfl) h
   ·rename_i f W7 hf;exact key _ _ (by rw[hf];rfl) h
   ·exact h.elim
  ·rename_i hcal
   have e:s.o4.ev=LS.ev s.t:=funext fun x=>LS.jR s x
   unfold m8 at h
   split at h
   ·rename_i t id off n hts hxs
    split at h
    ·rename_i E r hD hh
     obtain⟨h1,h2,h3,h4,h5⟩:=h
     refine .inr ?_
     unfold inl
     rw[ho]
     simp only[hcal]
     obtain⟨x,hx1,hx2⟩:∃x,c.args.toList=[x]∧LS.ev s.t x= .own id off n:=by
      cases hc:c.args.toList with
      |nil=>rw[hc]at hxs;cases hxs
      |cons y ys=>
       rw[hc]at hxs
       cases ys with
       |nil=>simp only[List.map_cons,List.map_nil,List.cons.injEq,and_true]at hxs;exact⟨y,rfl,hxs⟩
       |cons z zs=>simp at hxs
     refine⟨x,t,E,id,off,n,r,Array.toList_inj.1 hx1,Array.toList_inj.1 hts,hD,h1,by rw[e];exact hx2,hh,h2,h3,h4,ih _ _ h5⟩
    ·exact h.elim
   ·exact h.elim
  ·exact .inl (fin h)
 ·rename_i t ho
  unfold b17 at h
  split at h
  ·rename_i kd z ht
   refine .inr ?_
   unfold inl
   rw[ho]
   exact⟨kd,z,ht,fun b=>ih _ _ (h b)⟩
  ·exact h.elim
 ·rename_i t m k c ho
  have e:s.o4.ev=LS.ev s.t:=funext fun x=>LS.jR s x
  unfold u0 at h
  split at h
  ·rename_i kd z b kv ht hm hk
   obtain⟨h1,h2⟩:=h
   unfold pT at h2
   split at h2
   ·rename_i id d' f hf
    obtain⟨rfl,h3,h4⟩:=h2
    refine .inr ?_
    unfold inl
    rw[ho,e]
    exact⟨_,z,b,kv,f,id,ht,hm,hk,h1,h3,ih _ _ h4⟩
   ·exact h2.elim
  ·exact h.elim
 ·rename_i t m k v ho
  have e:s.o4.ev=LS.ev s.t:=funext fun x=>LS.jR s x
  unfold B3 at h
  split at h
  ·rename_i kd z b kv xv ht hm hk hv
   obtain⟨h1,h2⟩:=h
   unfold pT at h2
   split at h2
   ·rename_i id d' f hf
    obtain⟨rfl,h3,h4⟩:=h2
    refine .inr ?_
    unfold inl
    rw[ho,e]
    exact⟨_,z,b,kv,xv,f,id,ht,hm,hk,hv,h1,h3,ih _ _ h4⟩
   ·exact h2.elim
  ·exact h.elim
 ·exact .inl (fin h)
theorem iT[j5 P]{ops:List Oper}:∀(l:List Oper) (s:LS) (N:LS→Prop),gX P (X5 ops) l s N→aQ P ops l s N:=by
 intro l
 induction l with
 |nil=>intro s N h;exact h
 |cons o rest ih=>
  intro s N h
  simp only[gX,a3x]at h
  simp only[aQ,a3Y]
  split at h
  ·rename_i hg
   try rw[hg]
   exact⟨eB h.1,a2U ih h.2⟩
  ·rename_i j want hg
   try rw[hg]
   try simp only
   split at h
   ·rename_i g hg2
    try simp only[hg2]
    unfold gdC at h
    split at h
    ·rename_i b hb
     unfold gdS at h
     refine .inl ⟨b,hb,fun hw=>?_,fun hw=>?_⟩
     ·obtain⟨h1,h2⟩:=h.1 hw
      refine⟨?_,a2U ih h2⟩
      cases hd:o.dst with
      |none=>trivial
      |some d=>rw[hd]at h1;simp only[H9,LS.put,LS.o4,List.length_set];exact h1
     ·obtain⟨h1,h2⟩:=h.2 hw
      refine⟨?_,ih _ _ h2⟩
      cases hd:o.dst with
      |none=>trivial
      |some d=>rw[hd]at h1;simp only[H9,LS.put,LS.o4,List.length_set];exact h1
    ·rename_i cs hb
     obtain⟨h0,h1,h2⟩:=h
     have e:cs= #[]:=Array.isEmpty_iff.1 h0
     exact .inr ⟨by rw[hb,e];rfl,eB h1,ih _ _ h2⟩
    ·exact h.elim
   ·exact h.elim
theorem c0g{md:Bool}[j5 P]{id:Nat}{l:List Oper}{s:LS}{K:Exit→LS→Prop}(h:∀N:LS→Prop,(∀s,K .normal s→N s)→gX P (X5 l) l s N):fI (md:=md) P (.region id l.toArray false) s K:=
 a9o (iT l s _ (h _ fun _ k=>k))
end
def F4(id i k:Nat)(cs:List AV):List (Nat×RS)→List (Nat×RS)
 |[]=>[]
 |(id',x)::l=>if id'=id then(id',match x with| .live r=> .live {r with es:=r.es.modify i (fun e=>o6 e k cs)}|x=>x)::F4 id i k cs l else(id',x)::F4 id i k cs l
def cM(id:Nat):List (Nat×RS)→List (Nat×RS)
 |[]=>[]
 |(id',x)::l=>if id'=id then(id',.gone)::cM id l else(id',x)::cM id l
def n4(ids:List (Nat×Nat)):List (Nat×RS)→List (Nat×RS)
 |[]=>[]
 |(id',x)::l=>(id',match x with| .live r=> .live ⟨r.sz,r.es,y0 ids id' r.fro⟩|x=>x)::n4 ids l
section
variable {P:Program} {ops:List (Option Tmp)} {s:LS} {N:LS→Prop}
theorem a3y:X5 []=[]:=rfl
theorem zA{o:Oper}{l:List Oper}:X5 (o::l)=o.dst::X5 l:=rfl
theorem a8I[j5 P]:gX P ops [] s N=N s:=rfl
theorem a3q[j5 P]{o:Oper}{rest:List Oper}:gX P ops (o::rest) s N=(match o.guard with
  |none=>S7 s o.dst∧P6 P (gX P ops rest) o.dst o.op s N
  |some (j,want)=>match ops.getD j none with
   |some g=>gdC P (gX P ops rest) o.dst o.op s N want g (LS.tf s.t g)
   |none=>False):=rfl
theorem u7 [j5 P] {rest:LS→(LS→Prop)→Prop} {d:Option Tmp} {s:LS} {N:LS→Prop} {f:FuncId} {xs:List AV} {fn:Func} {body:Code} (k:Nat) (keep:List Nat) (hf:P.funcs[f]?=some fn) (hb:fn.body=some body) (hn:(fn.name== "runtime.NumGoroutine")=false) (hfr:b7 k s.h)
  (h:fI (md:=false) P body (zU fn xs k keep s) (A2 P fn k keep s.t d (fun s'=>rest s' N))):fO P rest d s N f xs:= .inr (.inl ⟨fn,body,k,keep,hf,hb,hn,hfr,h⟩)
theorem jQ [j5 P] {rest:LS→(LS→Prop)→Prop} {d:Option Tmp} {f:FuncId} {xs ys:List AV} {y:AV} (C:e8 P f ys (fun _=>y) (fun _=>[]))
  (h1:xs.mapM (u6 (LS.hf s.h) 6)=some ys) (h2:xs.flatMap (a6 (LS.hf s.h) 6)=[]) (h:rest (s.cI d ⟨y,[],none,[],none,[]⟩) N):fO P rest d s N f xs:=
 .inl ⟨6,ys,h1,_,_,C,Nat.zero_le 8,false,(fun h=>nomatch h),by rw[h2];exact h⟩
theorem H5 [j5 P] {rest:LS→(LS→Prop)→Prop} {d:Option Tmp} {f:FuncId} {xs ys:List AV} {y:Nat→AV} {rows:Nat→List Row} (C:e8 P f ys y rows) {ids:List (Nat×Nat)}
  (h1:xs.mapM (u6 (LS.hf s.h) 6)=some ys) (h2:xs.flatMap (a6 (LS.hf s.h) 6)=ids) (hr:(rows s.nx).length≤8) (h:rest (s.cI d ⟨y s.nx,ids.map (fun p=>(p.1,none,true)),none,ids,none,rows s.nx⟩) N):fO P rest d s N f xs:=
 .inl ⟨6,ys,h1,_,_,C,hr,false,(fun h=>nomatch h),by rw[h2];exact h⟩
theorem cS [j5 P] {rest:LS→(LS→Prop)→Prop} {d:Option Tmp} {f:FuncId} {xs ys:List AV} {y:AV} (C:e8 P f ys (fun _=>y) (fun _=>[])) (hy:y.flat=true) {ids:List (Nat×Nat)}
  (h1:xs.mapM (u6 (LS.hf s.h) 6)=some ys) (h2:xs.flatMap (a6 (LS.hf s.h) 6)=ids) (h:rest (s.cI d ⟨y,ids.map (fun p=>(p.1,none,false)),none,[],none,[]⟩) N):fO P rest d s N f xs:=
 .inl ⟨6,ys,h1,_,_,C,Nat.zero_le 8,true,(fun _=>⟨rfl,hy⟩),by rw[h2];exact h⟩
end
def AV.fixed:Nat→AV→Bool
 |_,.Z=>true
 |_,.aA _ _ _=>true
 |_,.v _=>true
 |_,.L6=>true
 |_,.a8 c _=> !c
 |n+1,.agg cs=>cs.all (AV.fixed n)
 |n+1,.O2 cs=>cs.all (AV.fixed n)
 |n+1,.fn _ cs=>cs.all (AV.fixed n)
 |_,_=>false
theorem fA{h:Nat→RS}{n:Nat}{f:AV→Bool}(ih:∀x,f x=true→u6 h n x=some x):∀cs:List AV,cs.all f=true→cs.mapM (u6 h n)=some cs:=by
 intro cs
 induction cs with
 |nil=>intro _;rfl
 |cons x cs ihc=>
  intro hh
  simp only[List.all_cons,Bool.and_eq_true]at hh
  simp [List.mapM_cons,ih x hh.1,ihc hh.2]
theorem aV{h:Nat→RS}{n:Nat}{f:AV→Bool}(ih:∀x,f x=true→a6 h n x=[]):∀cs:List AV,cs.all f=true→cs.flatMap (a6 h n)=[]:=by
 intro cs hh
 rw[List.flatMap_eq_nil_iff]
 exact fun x hx=>ih x (List.all_eq_true.1 hh x hx)
theorem kN(h:Nat→RS):∀(n:Nat) (x:AV),x.fixed n=true→u6 h n x=some x∧a6 h n x=[]:=by
 intro n
 induction n with
 |zero=>intro x hx;cases x<;>simp_all [AV.fixed,u6,a6]
 |succ n ih=>
  intro x hx
  cases x with
  |Z=>exact⟨rfl,rfl⟩
  |L6=>exact⟨rfl,rfl⟩
  |v x=>exact⟨rfl,rfl⟩
  |aA es i k=>exact⟨rfl,rfl⟩
  |a8 c es=>
   have hc:c=false:=by cases c<;>simp_all [AV.fixed]
   subst hc;exact⟨rfl,rfl⟩
  |agg cs=>
   have hx:cs.all (AV.fixed n)=true:=by simpa[AV.fixed]using hx
   simp only[u6,a6]
   rw[fA (fun x hx=>(ih x hx).1) _ hx,aV (fun x hx=>(ih x hx).2) _ hx];exact⟨rfl,rfl⟩
  |O2 cs=>
   have hx:cs.all (AV.fixed n)=true:=by simpa[AV.fixed]using hx
   simp only[u6,a6]
   rw[fA (fun x hx=>(ih x hx).1) _ hx,aV (fun x hx=>(ih x hx).2) _ hx];exact⟨rfl,rfl⟩
  |fn f cs=>
   have hx:cs.all (AV.fixed n)=true:=by simpa[AV.fixed]using hx
   simp only[u6,a6]
   rw[fA (fun x hx=>(ih x hx).1) _ hx,aV (fun x hx=>(ih x hx).2) _ hx];exact⟨rfl,rfl⟩
  |_=>simp [AV.fixed]at hx
theorem a2I {P:Program} [j5 P] {s:LS} {N:LS→Prop} {rest:LS→(LS→Prop)→Prop} {d:Option Tmp} {f:FuncId} {xs:List AV} {y:AV} (C:e8 P f xs (fun _=>y) (fun _=>[]))
  (hx:xs.all (AV.fixed 6)=true) (h:rest (s.cI d ⟨y,[],none,[],none,[]⟩) N):fO P rest d s N f xs:=
 jQ C (fA (fun x hx=>(kN _ 6 x hx).1) _ hx) (aV (fun x hx=>(kN _ 6 x hx).2) _ hx) h
theorem xA(v:AV)(fp)(nx:Nat)(h:List (Nat×RS)):Fx.cK ⟨v,fp,none,[],none,[]⟩ nx h=h:=by
 have:(h.map fun p=>(p.1,zC ⟨v,fp,none,[],none,[]⟩ p.1 p.2))=h:=by
  conv=>rhs;rw[←List.map_id h]
  refine List.map_congr_left fun p _=>?_
  obtain⟨i,x⟩:=p
  cases x<;>simp [zC,Fx.row,fL,y0]
 simp only[Fx.cK,this,e9,List.append_nil]
theorem a2W(v:AV)(fp)(nx:Nat)(h:List (Nat×RS))(r:Row):Fx.cK ⟨v,fp,none,[],none,[r]⟩ nx h=h++[(nx,.live r)]:=by
 have:(h.map fun p=>(p.1,zC ⟨v,fp,none,[],none,[r]⟩ p.1 p.2))=h:=by
  conv=>rhs;rw[←List.map_id h]
  refine List.map_congr_left fun p _=>?_
  obtain⟨i,x⟩:=p
  cases x<;>simp [zC,Fx.row,fL,y0]
 simp only[Fx.cK,this,e9]
theorem a7W(v:AV)(fp)(nx:Nat)(h:List (Nat×RS))(id i k:Nat)(cs:List AV):Fx.cK ⟨v,fp,some (id,i,k,cs),[],none,[]⟩ nx h=F4 id i k cs h:=by
 simp only[Fx.cK,e9,List.append_nil]
 induction h with
 |nil=>rfl
 |cons p h ih=>
  obtain⟨i',x⟩:=p
  simp only[List.map_cons,F4,ih]
  by_cases he:i'=id
  ·subst he
   cases x<;>simp [zC,Fx.row,fL,y0]
  ·rw[if_neg he]
   cases x<;>simp [zC,Fx.row,fL,y0,Ne.symm he]
theorem wZ(v:AV)(fp)(nx:Nat)(h:List (Nat×RS))(id:Nat)(r:Row):Fx.cK ⟨v,fp,none,[],some id,[r]⟩ nx h=cM id h++[(nx,.live r)]:=by
 simp only[Fx.cK,e9]
 congr 1
 induction h with
 |nil=>rfl
 |cons p h ih=>
  obtain⟨i',x⟩:=p
  simp only[List.map_cons,cM,ih]
  by_cases he:i'=id
  ·subst he
   simp [zC]
  ·rw[if_neg he]
   cases x<;>simp [zC,Fx.row,fL,y0,Ne.symm he]
theorem wY(v:AV)(fp)(nx:Nat)(h:List (Nat×RS))(ids:List (Nat×Nat))(rs:List Row):Fx.cK ⟨v,fp,none,ids,none,rs⟩ nx h=n4 ids h++e9 nx rs:=by
 simp only[Fx.cK]
 congr 1
 induction h with
 |nil=>rfl
 |cons p h ih=>
  obtain⟨i',x⟩:=p
  simp only[List.map_cons,n4,ih]
  cases x<;>simp [zC,Fx.row,fL]
theorem a7O(h:List (Nat×RS)):n4 [] h=h:=by
 induction h with
 |nil=>rfl
 |cons p h ih=>obtain⟨i,x⟩:=p;cases x<;>simp [n4,ih,y0]
theorem a7j(t:List AV)(h:List (Nat×RS))(nx d:Nat)(fx:Fx):LS.cI ⟨t,h,nx⟩ (some d) fx=⟨t.set d fx.val,fx.cK nx h,nx+8⟩:=rfl
theorem a7i(t:List AV)(h:List (Nat×RS))(nx:Nat)(fx:Fx):LS.cI ⟨t,h,nx⟩ none fx=⟨t,fx.cK nx h,nx+8⟩:=rfl
theorem a8y(t:List AV)(h:List (Nat×RS))(nx d:Nat)(x:AV):LS.put ⟨t,h,nx⟩ (some d) x=⟨t.set d x,h,nx⟩:=rfl
theorem a8x(t:List AV)(h:List (Nat×RS))(nx:Nat)(x:AV):LS.put ⟨t,h,nx⟩ none x=⟨t,h,nx⟩:=rfl
end
end Go.Ab
end
section
namespace Go.Ab
open Go.RowKit (Below)
inductive KF where
 |seq (c:Code)
 |block (id:Nat)
def X7{md:Bool}(P:Program)[j5 P](K:Exit→LS→Prop):List KF→Exit→LS→Prop
 |[]=>K
 | .seq z::k=>O9 (fun s=>fI (md:=md) P z s (X7 (md:=md) P K k)) (X7 (md:=md) P K k)
 | .block id::k=>a9r id (X7 (md:=md) P K k)
def AK{md:Bool}(P:Program)[j5 P](c:Code)(k:List KF)(s:LS)(K:Exit→LS→Prop):Prop:=fI (md:=md) P c s (X7 (md:=md) P K k)
section
variable {md:Bool} {P:Program} {k:List KF} {s:LS} {K:Exit→LS→Prop}
theorem u4[j5 P]{c:Code}(h:AK (md:=md) P c [] s K):fI (md:=md) P c s K:=h
theorem b5K[j5 P]{x y:Code}(h:AK (md:=md) P x (.seq y::k) s K):AK (md:=md) P (.seq x y) k s K:=b1N h
theorem b1J[j5 P](h:X7 (md:=md) P K k .normal s):AK (md:=md) P .skip k s K:=b5V h
theorem b5J[j5 P](h:X7 (md:=md) P K k .ret s):AK (md:=md) P .ret k s K:=c0h h
theorem b1H[j5 P]{id:Nat}(h:X7 (md:=md) P K k (.exit id) s):AK (md:=md) P (.exit id) k s K:=b5T h
theorem a7f[j5 P]{id:Nat}{c:Code}(h:AK (md:=md) P c (.block id::k) s K):AK (md:=md) P (.block id c) k s K:=b22 h
theorem mX[j5 P]{c:Operand}{x y:Code}{b:Bool}(hc:LS.ev s.t c= .v (.bool b))(h1:b=true→AK (md:=md) P x k s K)(h2:b=false→AK (md:=md) P y k s K):AK (md:=md) P (.cond c x y) k s K:=
 b5S (by rw[LS.jR];exact hc) h1 h2
theorem a2C[j5 P]{c:Operand}{x y:Code}(hc:LS.ev s.t c= .v (.bool true))(h1:AK (md:=md) P x k s K):AK (md:=md) P (.cond c x y) k s K:=
 mX hc (fun _=>h1) (fun h=>by cases h)
theorem a2B[j5 P]{c:Operand}{x y:Code}(hc:LS.ev s.t c= .v (.bool false))(h1:AK (md:=md) P y k s K):AK (md:=md) P (.cond c x y) k s K:=
 mX hc (fun h=>by cases h) (fun _=>h1)
theorem a7g[j5 P]{c:Operand}{x y:Code}(hc:LS.ev s.t c= .L6)(h1:AK (md:=md) P x k s K)(h2:AK (md:=md) P y k s K):AK (md:=md) P (.cond c x y) k s K:=
 a3I (by rw[LS.jR];exact hc) h1 h2
theorem b5H[j5 P]{id:Nat}{l:List Oper}(h:∀N:LS→Prop,(∀s,X7 (md:=md) P K k .normal s→N s)→gX P (X5 l) l s N):AK (md:=md) P (.region id l.toArray false) k s K:=c0g h
theorem mZ[j5 P]{c:Code}(I:Nat→LS→Prop)(n0:Nat)(h0:I n0 s)(round:∀n s,I n s→AK (md:=md) P c [] s (O9 (fun s'=>∃m s'',m<n∧N3 s' s''∧I m s'') (X7 (md:=md) P K k))):AK (md:=md) P (.loop c) k s K:=b5U I n0 h0 round
theorem u9[j5 P]{c:Code}{s':LS}(h:N3 s s')(h':AK (md:=md) P c k s' K):AK (md:=md) P c k s K:=fI.c5H h h'
theorem l8[j5 P]{c:Code}(S:Nat→LS)(n:Nat)(s0:N3 s (S 0))(round:∀i,i≤n→AK (md:=md) P c [] (S i) (O9 (fun s'=>i<n∧N3 s' (S (i+1))) (X7 (md:=md) P K k))):AK (md:=md) P (.loop c) k s K:=by
 refine u9 s0 (mZ (fun m s=>∃i,i≤n∧m=n-i∧s=S i) n ⟨0,by omega,by omega,rfl⟩ ?_)
 rintro m s ⟨i,hi,rfl,rfl⟩
 refine fI.mono (round i hi) fun e s' h=>?_
 cases e with
 |normal=>exact⟨n-(i+1),S (i+1),by have:=h.1;omega,h.2,i+1,by have:=h.1;omega,rfl,rfl⟩
 |_=>exact h
theorem H4[j5 P]{c:Code}(S:Nat→LS)(I:Nat→Prop)(n:Nat)(s0:N3 s (S 0))(h0:I 0)(round:∀i,i≤n→I i→AK (md:=md) P c [] (S i) (O9 (fun s'=>i<n∧I (i+1)∧N3 s' (S (i+1))) (X7 (md:=md) P K k))):AK (md:=md) P (.loop c) k s K:=by
 refine u9 s0 (mZ (fun m s=>∃i,i≤n∧I i∧m=n-i∧s=S i) n ⟨0,by omega,h0,by omega,rfl⟩ ?_)
 rintro m s ⟨i,hi,hI,rfl,rfl⟩
 refine fI.mono (round i hi hI) fun e s' h=>?_
 cases e with
 |normal=>exact⟨n-(i+1),S (i+1),by have:=h.1;omega,h.2.2,i+1,by have:=h.1;omega,h.2.1,rfl,rfl⟩
 |_=>exact h
theorem bK[j5 P]{c:Operand}{x y:Code}{p:Prop}[Decidable p](hc:LS.ev s.t c= .v (.bool (decide p)))(h1:p→AK (md:=md) P x k s K)(h2:¬p→AK (md:=md) P y k s K):AK (md:=md) P (.cond c x y) k s K:=
 mX hc (fun h=>h1 (of_decide_eq_true h)) (fun h=>h2 (of_decide_eq_false h))
theorem a8d[j5 P](e:Exit):X7 (md:=md) P K [] e s=K e s:=rfl
theorem xK[j5 P]{z:Code}:X7 (md:=md) P K (.seq z::k) .normal s=AK (md:=md) P z k s K:=rfl
theorem xL[j5 P]{z:Code}:X7 (md:=md) P K (.seq z::k) .ret s=X7 (md:=md) P K k .ret s:=rfl
theorem xJ[j5 P]{z:Code}{id:Nat}:X7 (md:=md) P K (.seq z::k) (.exit id) s=X7 (md:=md) P K k (.exit id) s:=rfl
theorem nV[j5 P]{id:Nat}:X7 (md:=md) P K (.block id::k) .normal s=X7 (md:=md) P K k .normal s:=rfl
theorem nW[j5 P]{id:Nat}:X7 (md:=md) P K (.block id::k) .ret s=X7 (md:=md) P K k .ret s:=rfl
theorem nU[j5 P]{id id':Nat}:X7 (md:=md) P K (.block id::k) (.exit id') s=if id'=id then X7 (md:=md) P K k .normal s else X7 (md:=md) P K k (.exit id') s:=rfl
theorem b2D{N:LS→Prop}:O9 N K .normal s=N s:=rfl
theorem b2E{N:LS→Prop}:O9 N K .ret s=K .ret s:=rfl
theorem b2C{N:LS→Prop}{id:Nat}:O9 N K (.exit id) s=K (.exit id) s:=rfl
end
theorem fV{keep ids:List Nat}{s s' s'':LS}(h:c5 keep ids s=some s')(e:s'=s''):N3 s s'':=e ▸ a3Q h
end Go.Ab
namespace Go.Ab
theorem I5(nid id:Nat):r7 [] nid id=none:=rfl
theorem G9(i:Nat)(ids:List Nat)(nid id:Nat):r7 (i::ids) nid id=if i=id then some nid else r7 ids (nid+1) id:=by
 unfold r7
 rw[List.idxOf?_cons]
 by_cases h:i=id
 ·subst h;simp
 ·rw[if_neg (by simpa using h),if_neg h]
  cases ids.idxOf? id with
  |none=>rfl
  |some j=>simp;omega
end Go.Ab
namespace Go.Ab
theorem B9{fn:Func}{n:Nat}(h:fn.ntmps=n)(xs:List AV)(k:Nat)(keep:List Nat)(s:LS):zU fn xs k keep s=⟨xs++List.replicate (n-xs.length) .Z,s.h++[(s.nx,.u5 k (keep.map (LS.tf s.t)))],s.nx+8⟩:=by subst h;rfl
theorem gO{fn:Func}{n:Nat}(h:fn.ntmps=n)(xs:List AV):nN fn xs=⟨xs++List.replicate (n-xs.length) .Z,[],0⟩:=by subst h;rfl
end Go.Ab
namespace Go.Ab
section
variable {md:Bool} {P:Program} {s:LS} {K:Exit→LS→Prop} {k:List KF}
theorem mY[j5 P]{x z:Code}(S:LS)(h1:AK (md:=md) P x [] s (O9 (fun s'=>N3 s' S) (X7 (md:=md) P K k)))(h2:AK (md:=md) P z k S K):AK (md:=md) P (.seq x z) k s K:=by
 refine b1N (fI.mono h1 fun e s' h=>?_)
 cases e<;>first|exact fI.c5H h h2|exact h
end
end Go.Ab
end
section
namespace Go.Ab
open Go.RowKit (Below)
section
def lT(r:Row)(i k:Nat):Option AV:=(r.es[i]?).bind fun e=>e[k]?
def O4:Option (Nat×Nat×Nat)→RS→RS→Prop
 |none,x,y=>x=y
 |some (i,lo,hi),.live r,.live r'=>r.sz=r'.sz∧r.fro=r'.fro∧r.es.length=r'.es.length∧∀k,lo≤k→k<hi→lT r i k=lT r' i k
 |some _,x,y=>x=y
def qR(fp:List (Nat×Option (Nat×Nat×Nat)×Bool))(h h':Nat→RS):Prop:=∀p∈fp,O4 p.2.1 (h p.1) (h' p.1)
theorem aT(a:Option (Nat×Nat×Nat))(x:RS):O4 a x x:=by
 cases a with
 |none=>rfl
 |some p=>cases x<;>first|rfl|exact⟨rfl,rfl,rfl,fun _ _ _=>rfl⟩
theorem aS{a:Option (Nat×Nat×Nat)}{r:Row}{y:RS}(h:O4 a (.live r) y):∃r',y= .live r'∧r'.sz=r.sz∧r'.fro=r.fro∧r'.es.length=r.es.length:=by
 cases a with
 |none=>cases h;exact⟨r,rfl,rfl,rfl,rfl⟩
 |some p=>
  cases y with
  |live r'=>exact⟨r',rfl,h.1.symm,h.2.1.symm,h.2.2.1.symm⟩
  |_=>cases h
section
variable {P:Program} {s s':St} {nid:Nat} {fx:Fx} {o:Oper}
theorem b71{r r':Row}{i k n:Nat}(hl:r.es.length=r'.es.length)(h:∀j,k≤j→j<k+n→lT r i j=lT r' i j):(r.es[i]?).map (fun e=>(e.drop k).take n)=(r'.es[i]?).map (fun e=>(e.drop k).take n):=by
 by_cases hi:i<r.es.length
 ·have hi':i<r'.es.length:=by omega
  rw[List.getElem?_eq_getElem hi,List.getElem?_eq_getElem hi']
  simp only[Option.map_some,Option.some.injEq]
  apply List.ext_getElem?
  intro j
  rw[X6,X6]
  split
  ·rename_i hj
   have:=h (k+j) (by omega) (by omega)
   simpa[lT,List.getElem?_eq_getElem hi,List.getElem?_eq_getElem hi']using this
  ·rfl
 ·rw[List.getElem?_eq_none (by omega),List.getElem?_eq_none (by omega)]
theorem b7P{x:AV}{n:Nat}{cs:List AV}(h:rd s x n=some cs)(ha:qR (j7 false x n) s.h s'.h):rd s' x n=some cs:=by
 cases x with
 |ptr id i k=>
  have:=ha _ (List.mem_singleton.2 rfl)
  simp only[rd]at h⊢
  split at h
  ·rename_i r hr
   simp only[hr]at this
   obtain⟨r',h1,h2,h3,h4⟩:=aS this
   rw[h1]at this⊢
   simp only[O4]at this
   simp only[h2,b71 this.2.2.1 this.2.2.2]at h⊢
   exact h
  ·cases h
 |dX id i k=>
  have:=ha _ (List.mem_singleton.2 rfl)
  simp only[O4]at this
  simp only[rd]at h⊢
  rw[←this];exact h
 |aA es i k=>exact h
 |_=>simp [rd]at h
theorem mN{sz:Nat}{x:AV}{a:Option (Nat×Nat×Nat)}(h:qK s sz x)(ha:∀id off n,x= .own id off n→O4 a (s.h id) (s'.h id)):qK s' sz x:=by
 cases x with
 |own id off n=>
  obtain⟨r,h1,h2⟩:=h
  have:=ha id off n rfl
  rw[h1]at this
  obtain⟨r',g1,g2,_,_⟩:=aS this
  exact⟨r',g1,by omega⟩
 |_=>exact h
theorem b4w{y:AV}{ys:List (List AV)}(h:mK s y=some ys)(ha:qR (j6 y) s.h s'.h):mK s' y=some ys:=by
 cases y with
 |own id off n=>
  have:=ha _ (List.mem_singleton.2 rfl)
  simp only[O4]at this
  simp only[mK]at h⊢
  rw[←this];exact h
 |_=>exact h
theorem a2S{h h':Nat→RS}:∀(n:Nat) (x:AV),(∀p∈a6 h n x,h p.1=h' p.1)→u6 h' n x=u6 h n x∧a6 h' n x=a6 h n x:=by
 intro n
 induction n with
 |zero=>intro x _;cases x<;>simp [u6,a6]
 |succ n ih=>
  intro x hx
  have many:∀cs:List AV,(∀p∈cs.flatMap (a6 h n),h p.1=h' p.1)→cs.mapM (u6 h' n)=cs.mapM (u6 h n)∧cs.flatMap (a6 h' n)=cs.flatMap (a6 h n):=by
   intro cs
   induction cs with
   |nil=>intro _;simp
   |cons c cs ihc=>
    intro hc
    have h1:=ih c fun p hp=>hc p (by simp only[List.flatMap_cons,List.mem_append];exact .inl hp)
    have h2:=ihc fun p hp=>hc p (by simp only[List.flatMap_cons,List.mem_append];exact .inr hp)
    simp only[List.mapM_cons,List.flatMap_cons,h1.1,h1.2,h2.1,h2.2,and_self]
  have many2:∀es:List (List AV),(∀p∈es.flatMap (fun(e:List AV)=>e.flatMap (a6 h n)),h p.1=h' p.1)→(es.mapM fun(e:List AV)=>e.mapM (u6 h' n))=(es.mapM fun(e:List AV)=>e.mapM (u6 h n))∧es.flatMap (fun(e:List AV)=>e.flatMap (a6 h' n))=es.flatMap (fun(e:List AV)=>e.flatMap (a6 h n)):=by
   intro es
   induction es with
   |nil=>intro _;simp
   |cons e es ihe=>
    intro hc
    have h1:=many e fun p hp=>hc p (by simp only[List.flatMap_cons,List.mem_append];exact .inl hp)
    have h2:=ihe fun p hp=>hc p (by simp only[List.flatMap_cons,List.mem_append];exact .inr hp)
    simp only[List.mapM_cons,List.flatMap_cons,h1.1,h1.2,h2.1,h2.2,and_self]
  cases x with
  |agg cs=>have:=many cs hx;simp only[u6,a6,this.1,this.2,and_self]
  |O2 cs=>have:=many cs hx;simp only[u6,a6,this.1,this.2,and_self]
  |fn f cs=>have:=many cs hx;simp only[u6,a6,this.1,this.2,and_self]
  |own id off k=>
   have h0:=hx (id,off+k) (by simp [a6])
   simp only at h0
   simp only[u6,a6,←h0]
   cases hr:h id with
   |live r=>
    simp only
    by_cases hp:v7 ((r.es.drop off).take k)=true
    ·simp only[hp,if_true,and_self]
    ·have hx2:=many2 ((r.es.drop off).take k) fun p hpm=>hx p (by simp only[a6,hr,hp,List.mem_cons];exact .inr hpm)
     simp only[hp,hx2.1,hx2.2,and_self]
   |_=>simp
  |ptr id i k=>
   have h0:=hx (id,i+1) (by simp [a6])
   simp only at h0
   simp only[u6,a6,←h0]
   cases hr:h id with
   |live r=>
    simp only
    by_cases hp:v7 ((r.es.drop 0).take (i+1))=true
    ·simp only[hp,if_true,and_self]
    ·have hx2:=many2 ((r.es.drop 0).take (i+1)) fun p hpm=>hx p (by simp only[a6,hr,hp,List.mem_cons];exact .inr hpm)
     simp only[hp,hx2.1,hx2.2,and_self]
   |_=>simp
  |_=>simp [u6,a6]
end
end
section
section
variable {P:Program} {s s':St} {nid:Nat} {fx:Fx} {o:Oper}
theorem a2A{ids:List (Nat×Nat)}{lend:Bool}{h h':Nat→RS}(ha:qR (ids.map fun p=>(p.1,none,lend)) h h'):∀p∈ids,h p.1=h' p.1:=by
 intro p hp
 exact ha (p.1,none,lend) (List.mem_map.2 ⟨p,hp,rfl⟩)
theorem yE{x:Option Operand}{i:Option Int}(hev:∀y∈x.toArray,s'.ev y=s.ev y)(h:b37 s x i):b37 s' x i:=by
 cases x with
 |none=>cases i<;>exact h
 |some x=>cases i with
  |none=>exact h
  |some i=>obtain⟨k,hk⟩:=h;exact⟨k,by rw[hev x (by simp)];exact hk⟩
theorem mD{x:Option Operand}{v:Option Value}(hev:∀y∈x.toArray,s'.ev y=s.ev y)(h:zY s x=some v):zY s' x=some v:=by
 cases x with
 |none=>exact h
 |some x=>simp only[zY,hev x (by simp)]at h⊢;exact h
theorem nG[j5 P](hev:∀x∈o.op.operands,s'.ev x=s.ev x)(ha:qR fx.fp s.h s'.h)(h:ex P o s nid fx):ex P o s' nid fx:=by
 unfold ex at h⊢
 split at h
 ·rename_i x ho;simp only[ho,Op.operands]at hev;simp only[hev x (by simp)];exact h
 ·rename_i x ho;simp only[ho,Op.operands]at hev;simp only[hev x (by simp)];exact h
 ·rename_i x ho;simp only[ho,Op.operands]at hev;simp only[hev x (by simp)];exact h
 ·rename_i c x y ho;simp only[ho,Op.operands]at hev;simp only[hev c (by simp),hev x (by simp),hev y (by simp)];exact h
 ·exact h
 ·rename_i x ho;simp only[ho,Op.operands]at hev;simp only[hev x (by simp)];exact h
 ·rename_i t ps ho
  simp only[ho,Op.operands]at hev
  have e:(ps.toList.map fun p=>(p.1,s'.ev p.2))=ps.toList.map fun p=>(p.1,s.ev p.2):=List.map_congr_left fun p hp=>by rw[hev p.2 (by simp;exact⟨p.1,by simpa using hp⟩)]
  simp only[e];exact h
 ·rename_i t len ps ho
  simp only[ho,Op.operands]at hev
  have e:(ps.toList.map fun p=>(p.1,s'.ev p.2))=ps.toList.map fun p=>(p.1,s.ev p.2):=List.map_congr_left fun p hp=>by rw[hev p.2 (by simp;exact⟨p.1,by simpa using hp⟩)]
  simp only[e];exact h
 ·rename_i t x ho
  simp only[ho,Op.operands]at hev
  obtain⟨T,h1,cs,h2,val,h3,rfl⟩:=h
  exact⟨T,h1,cs,by rw[hev x (by simp)];exact b7P h2 ha,val,h3,by rw[hev x (by simp)]⟩
 ·rename_i t x y ho
  simp only[ho,Op.operands]at hev
  obtain⟨T,hT,cs,hcs,hl,hone,id,i,k,haddr,r,hr,hfro,hi,hk,rfl⟩:=h
  have hag:∃a,O4 a (s.h id) (s'.h id):=by
   rcases haddr with e|e<;>rw[e]at ha
   ·exact⟨_,ha (id,some (i,k,k+T.size),true) (by simp [j7])⟩
   ·exact⟨_,ha (id,none,true) (by simp [j7])⟩
  obtain⟨a,hag⟩:=hag
  rw[hr]at hag
  obtain⟨r',g1,g2,g3,g4⟩:=aS hag
  exact⟨T,hT,cs,by rw[hev y (by simp)];exact hcs,hl,hone,id,i,k,by rw[hev x (by simp)];exact haddr,r',g1,by omega,by omega,by omega,by rw[hev x (by simp)]⟩
 ·rename_i op t x y yt ho
  simp only[ho,Op.operands]at hev
  simp only[hev x (by simp),hev y (by simp)];exact h
 ·rename_i op t x ho;simp only[ho,Op.operands]at hev;simp only[hev x (by simp)];exact h
 ·rename_i a b x ho;simp only[ho,Op.operands]at hev;simp only[hev x (by simp)];exact h
 ·rename_i fn first W7 ho
  simp only[ho,Op.operands]at hev
  have e:W7.toList.map s'.ev=W7.toList.map s.ev:=List.map_congr_left fun p hp=>hev p (by simp;exact .inr (by simpa using hp))
  have e':first.toList.map s'.ev=first.toList.map s.ev:=List.map_congr_left fun p hp=>hev p (by simp;exact .inl (by simpa using hp))
  simp only[e,e'];exact h
 ·rename_i t l c ho
  simp only[ho,Op.operands]at hev
  simp only[hev l (by simp),hev c (by simp)];exact h
 ·rename_i t x lo hi mx ho
  simp only[ho,Op.operands]at hev
  have ex0:=hev x (by simp)
  have elo:∀y∈lo.toArray,s'.ev y=s.ev y:=fun y hy=>hev y (by simp only[Array.mem_append];exact .inl (.inl (.inr hy)))
  have ehi:∀y∈hi.toArray,s'.ev y=s.ev y:=fun y hy=>hev y (by simp only[Array.mem_append];exact .inl (.inr hy))
  have emx:∀y∈mx.toArray,s'.ev y=s.ev y:=fun y hy=>hev y (by simp only[Array.mem_append];exact .inr hy)
  rcases h with⟨E,hD,hz,l,hl,hv,hh,mo,hm,val,hv2,rfl⟩|⟨vx,hx,vlo,hlo,vhi,hhi,vmx,hmx,z,hz,rfl⟩
  ·refine .inl ⟨E,hD,?_,l,?_,hv,yE ehi hh,mo,yE emx hm,val,by rw[ex0];exact hv2,by rw[ex0]⟩
   ·rw[ex0]
    exact mN hz (a:=some (0,0,0)) fun id off n e=>by rw[e]at ha;exact ha (id,some (0,0,0),false) (by simp [j9])
   ·rcases hl with hl|⟨lx,k,rfl,hk⟩
    ·exact .inl hl
    ·exact .inr ⟨lx,k,rfl,by rw[elo lx (by simp)];exact hk⟩
  ·exact .inr ⟨vx,by rw[ex0];exact hx,vlo,mD elo hlo,vhi,mD ehi hhi,vmx,mD emx hmx,z,hz,rfl⟩
 ·rename_i t x f ho;simp only[ho,Op.operands]at hev;simp only[hev x (by simp)];exact h
 ·rename_i t x f ho;simp only[ho,Op.operands]at hev;simp only[hev x (by simp)];exact h
 ·rename_i t x ix ho
  simp only[ho,Op.operands]at hev
  have ex0:=hev x (by simp)
  obtain⟨D,hD,hz,k,i,hi,val,hv,rfl⟩:=h
  rw[hev ix (by simp),ex0]
  have hfr:∀id off n,s.ev x= .own id off n→O4 (some (0,0,0)) (s.h id) (s'.h id):=fun id off n e=>by rw[e]at ha;exact ha (id,some (0,0,0),false) (by simp [j9])
  refine⟨D,hD,fun E hE=>mN (hz E hE) hfr,k,i,hi,val,?_,rfl⟩
  unfold a34 at hv⊢
  split at hv
  ·exact hv
  ·rename_i E id off n hx
   split at hv
   ·rename_i r hr
    have:=hfr id off n hx
    rw[hr]at this
    obtain⟨r',g1,g2,g3,g4⟩:=aS this
    rw[g1]
    simp only[g4]
    exact hv
   ·cases hv
  ·exact hv
  ·exact hv
  ·cases hv
 ·rename_i t x ix ho
  simp only[ho,Op.operands]at hev
  simp only[hev x (by simp),hev ix (by simp)];exact h
 ·rename_i x i ho;simp only[ho,Op.operands]at hev;simp only[hev x (by simp)];exact h
 ·rename_i t m k c ho
  simp only[ho,Op.operands]at hev
  obtain⟨d,z,ht,b,hm,kv,hkv,hik,id,f,hh,rfl⟩:=h
  have:=ha (id,none,false) (by simp)
  simp only[O4]at this
  exact⟨d,z,ht,b,by rw[hev m (by simp)];exact hm,kv,by rw[hev k (by simp)];exact hkv,hik,id,f,by rw[←this];exact hh,rfl⟩
 ·rename_i c ho
  simp only[ho,Op.operands,Call.operands]at hev
  have eargs:∀y∈c.args,s'.ev y=s.ev y:=fun y hy=>hev y (by simp only[Array.mem_append];exact .inr hy)
  have emap:c.args.toList.map s'.ev=c.args.toList.map s.ev:=List.map_congr_left fun p hp=>eargs p (by simpa using hp)
  split at h
  ·rcases h with⟨hb,x,hx,t,ht,E,hD,n,hn,rfl⟩|⟨hb,x,y,hxy,t,t2,htt,E,hD,E2,hD2,hz1,hz2,ys,hys,hyl,h⟩|⟨vs,hvs,z,hz,rfl⟩|⟨hb,x,hx,t,ht,kd,z,htm,hne,bk,hev2,id,f,hh,rfl⟩
   ·exact .inl ⟨hb,x,hx,t,ht,E,hD,n,by rw[eargs x (by simp [hx])];exact hn,rfl⟩
   ·have e1:=eargs x (by simp [hxy])
    have e2:=eargs y (by simp [hxy])
    have hry:qR (j6 (s.ev y)) s.h s'.h:=by
     rcases h with⟨cl,es,_,_,rfl⟩|⟨es,_,_,_,_,rfl⟩|⟨id,off,n,_,r,_,_,_,_,_,_,rfl⟩
     ·exact ha
     ·exact ha
     ·exact fun p hp=>ha p (List.mem_cons_of_mem _ hp)
    have g2:qK s' E.size (s.ev y):=mN hz2 (a:=none) fun id off n e=>by rw[e]at hry;exact hry (id,none,false) (by simp [j6])
    refine .inr (.inl ⟨hb,x,y,hxy,t,t2,htt,E,hD,E2,hD2,?_,by rw[e2];exact g2,ys,by rw[e2];exact b4w hys hry,hyl,?_⟩)
    ·rw[e1]
     rcases h with⟨cl,es,hx,_,rfl⟩|⟨es,hx,_,_,_,rfl⟩|⟨id,off,n,hx,r,_,_,_,_,_,_,rfl⟩
     ·rw[hx]at hz1⊢;exact hz1
     ·rw[hx]at hz1⊢;exact hz1
     ·rw[hx]at hz1⊢
      have:=ha (id,none,true) (by simp)
      simp only[O4]at this
      obtain⟨r2,q1,q2⟩:=hz1
      exact⟨r2,by rw[←this];exact q1,q2⟩
    ·rw[e1,e2]
     rcases h with h|h|⟨id,off,n,hx,r,hr,h1,h2,h3,h4,h5,rfl⟩
     ·exact .inl h
     ·exact .inr (.inl h)
     ·have:=ha (id,none,true) (by simp)
      simp only[O4]at this
      exact .inr (.inr ⟨id,off,n,hx,r,by rw[←this];exact hr,h1,h2,h3,h4,h5,rfl⟩)
   ·refine .inr (.inr (.inl ⟨vs,?_,z,hz,rfl⟩))
    rw[←hvs]
    have:∀l:List Operand,(∀y∈l,s'.ev y=s.ev y)→l.mapM (fun x=>(s'.ev x).L8)=l.mapM fun x=>(s.ev x).L8:=by
     intro l
     induction l with
     |nil=>intro _;rfl
     |cons y l ih=>intro hl;simp only[List.mapM_cons,hl y (by simp),ih fun z hz=>hl z (by simp [hz])]
    exact this _ fun y hy=>eargs y (by simpa using hy)
   ·have:=ha (id,none,false) (by simp)
    simp only[O4]at this
    exact .inr (.inr (.inr ⟨hb,x,hx,t,ht,kd,z,htm,hne,bk,by rw[eargs x (by simp [hx])];exact hev2,id,f,by rw[←this];exact hh,rfl⟩))
  ·rename_i fv hfv
   rcases h with h|⟨f,W7,hf,⟨id,r,ys,cs,cs',val,C,hx,hl,hes,hfro,hcs,oR,hpl,hpl',hval,rfl⟩|⟨n,xs,idm,b,d,F,y,hxs,C,hm,hfl,rfl⟩⟩
   case inr.inr=>
    simp only at ha
    have hall:=a2A ha
    have hids:∀p∈W7.flatMap (a6 s.h n),s.h p.1=s'.h p.1:=fun p hp=>hall p (List.mem_cons_of_mem _ hp)
    have h0:=hall (idm,0) (by simp)
    have hfz:W7.mapM (u6 s'.h n)=W7.mapM (u6 s.h n)∧W7.flatMap (a6 s'.h n)=W7.flatMap (a6 s.h n):=by
     clear hf hxs ha C hall
     induction W7 with
     |nil=>simp
     |cons a l ih=>
      have h1:=a2S n a fun p hp=>hids p (by simp only[List.flatMap_cons,List.mem_append];exact .inl hp)
      have h2:=ih fun p hp=>hids p (by simp only[List.flatMap_cons,List.mem_append];exact .inr hp)
      simp only[List.mapM_cons,List.flatMap_cons,h1.1,h1.2,h2.1,h2.2,and_self]
    refine .inr ⟨f,W7,by rw[hev fv (by simp [hfv]),emap];exact hf,.inr ⟨n,xs,idm,b,d,F,y,by rw[hfz.1];exact hxs,C,by rw[←h0];exact hm,hfl,?_⟩⟩
    rw[hfz.2]
   case inr.inl=>
    have hag:=ha (id,some (0,0,cs.length),true) (by simp)
    simp only[hl]at hag
    obtain⟨r',q1,q2,q3,q4⟩:=aS hag
    rw[q1]at hag
    have q5:=hag.2.2.2
    refine .inr ⟨f,W7,by rw[hev fv (by simp [hfv]),emap];exact hf,.inl ⟨id,r',ys,cs,cs',val,by rw[q2];exact C,hx,q1,by rw[q4];exact hes,by rw[q3];exact hfro,fun j hj=>?_,oR,hpl,hpl',hval,rfl⟩⟩
    have:=q5 j (Nat.zero_le _) hj
    unfold lT at this
    rw[←this];exact hcs j hj
   refine .inl ?_
   obtain⟨f,W7,hf,n,xs,hxs,y,rows,C,hrl,lend,hlend,rfl⟩:=h
   simp only at ha
   have hids:=a2A ha
   have hfz:(W7.mapM (u6 s'.h n))=W7.mapM (u6 s.h n)∧W7.flatMap (a6 s'.h n)=W7.flatMap (a6 s.h n):=by
    generalize W7=l at hids
    clear hxs ha C
    induction l with
    |nil=>simp
    |cons a l ih=>
     have h1:=a2S n a fun p hp=>hids p (by simp only[List.flatMap_cons,List.mem_append];exact .inl hp)
     have h2:=ih fun p hp=>hids p (by simp only[List.flatMap_cons,List.mem_append];exact .inr hp)
     simp only[List.mapM_cons,List.flatMap_cons,h1.1,h1.2,h2.1,h2.2,and_self]
   refine⟨f,W7,by rw[hev fv (by simp [hfv]),emap];exact hf,n,xs,?_,y,rows,C,hrl,lend,hlend,?_⟩
   ·rw[hfz.1];exact hxs
   ·rw[hfz.2]
  ·exact h
 ·exact h
theorem c48[j5 P](h:ex P o s nid fx):(∀id i k cs,fx.wr=some (id,i,k,cs)→(id,none,true)∈fx.fp∨(id,some (i,k,k+cs.length),true)∈fx.fp)∧(∀p∈fx.fro,(p.1,none,true)∈fx.fp)∧(∀id,fx.kill=some id→(id,none,true)∈fx.fp)∧(fx.wr≠none→fx.fro=[]∧fx.kill=none):=by
 unfold ex at h
 split at h
 ·subst h;simp
 ·subst h;simp
 ·obtain⟨_,rfl⟩:=h;simp
 ·obtain⟨_,_,rfl⟩:=h;simp
 ·obtain⟨_,_,rfl⟩:=h;simp
 ·obtain⟨_,_,rfl⟩:=h;simp
 ·obtain⟨_,_,_,_,_,_,_,rfl⟩:=h;simp
 ·obtain⟨_,_,_,_,_,rfl⟩:=h;simp
 ·obtain⟨_,_,_,_,_,_,rfl⟩:=h;simp
 ·obtain⟨T,_,cs,_,hl,_,id,i,k,ha,_,_,_,_,_,rfl⟩:=h
  refine⟨?_,by simp,by simp,by simp⟩
  intro id' i' k' cs' he
  simp only[Option.some.injEq,Prod.mk.injEq]at he
  obtain⟨rfl,rfl,rfl,rfl⟩:=he
  rcases ha with e|e<;>rw[e]
  ·exact .inr (by simp [j7,hl])
  ·exact .inl (by simp [j7])
 ·rcases h with⟨_,_,_,_,_,_,rfl⟩|⟨_,_,_,_,_,rfl⟩<;>simp
 ·obtain⟨_,_,_,_,rfl⟩:=h;simp
 ·obtain⟨_,_,_,_,rfl⟩:=h;simp
 ·obtain⟨_,_,⟨_,rfl⟩|⟨_,rfl⟩⟩:=h<;>simp
 ·obtain⟨_,_,_,_,_,_,_,_,_,_,rfl⟩:=h;simp
 ·rcases h with⟨_,_,_,_,_,_,_,_,_,_,_,rfl⟩|⟨_,_,_,_,_,_,_,_,_,_,rfl⟩<;>simp
 ·obtain⟨_,_,_,_,_,_,rfl⟩:=h;simp
 ·obtain⟨_,_,_,_,_,_,_,_,rfl⟩:=h;simp
 ·obtain⟨_,_,_,_,_,_,_,_,rfl⟩:=h;simp
 ·rcases h with⟨_,_,_,_,_,_,_,_,_,_,_,_,rfl⟩|⟨_,_,_,_,_,_,rfl⟩<;>simp
 ·obtain⟨_,_,_,_,rfl⟩:=h;simp
 ·obtain⟨_,_,_,_,_,_,_,_,_,_,_,rfl⟩:=h;simp
 ·split at h
  ·rcases h with⟨_,_,_,_,_,_,_,_,_,rfl⟩|⟨_,_,_,_,_,_,_,_,_,_,_,_,_,_,_,_,h⟩|⟨_,_,_,_,rfl⟩|⟨_,_,_,_,_,_,_,_,_,_,_,_,_,_,rfl⟩
   ·simp
   ·rcases h with⟨_,_,_,_,rfl⟩|⟨_,_,_,_,_,rfl⟩|⟨id,_,_,_,r,hr,_,_,_,_,_,rfl⟩
    ·simp
    ·simp
    ·simp
   ·simp
   ·simp
  ·rcases h with⟨_,_,_,_,_,_,_,_,_,hl,lend,_,rfl⟩|⟨_,_,_,⟨id,r,_,cs,cs',_,_,_,_,_,_,_,oR,_,_,_,rfl⟩|⟨_,_,_,_,_,_,_,_,_,_,_,rfl⟩⟩
   ·refine⟨by simp,?_,by simp,by simp⟩
    intro p hp
    cases lend with
    |false=>exact List.mem_map.2 ⟨p,hp,rfl⟩
    |true=>cases hp
   ·refine⟨?_,by simp,by simp,by simp⟩
    intro id' i' k' cs2 he
    simp only[Option.some.injEq,Prod.mk.injEq]at he
    obtain⟨rfl,rfl,rfl,rfl⟩:=he
    exact .inr (by simp [oR])
   ·refine⟨by simp,by simp,by simp,by simp⟩
  ·cases h
 ·cases h
end
end
abbrev zL:=Nat×Option (Nat×Nat×Nat)×Bool
def a3R:Option (Nat×Nat×Nat)→Option (Nat×Nat×Nat)→Prop
 |some (i,lo,hi),some (i',lo',hi')=>i≠i'∨hi≤lo'∨hi'≤lo
 |_,_=>False
def fQ(n1:Nat)(f1:List zL)(n2:Nat)(f2:List zL):Prop:=
 (∀p∈f1,∀q∈f2,p.1=q.1→(p.2.2=true∨q.2.2=true)→a3R p.2.1 q.2.1)∧(∀p∈f1,¬(n2≤p.1∧p.1<n2+8))∧(∀q∈f2,¬(n1≤q.1∧q.1<n1+8))∧(n1+8≤n2∨n2+8≤n1)
abbrev qQ:=Option (Nat×Fx)
def dT:qQ→qQ→Prop
 |some (n1,f1),some (n2,f2)=>fQ n1 f1.fp n2 f2.fp
 |_,_=>True
theorem b3o{a b:Option (Nat×Nat×Nat)}(h:a3R a b):a3R b a:=by
 cases a<;>cases b<;>simp only[a3R]at h⊢
 rcases h with h|h|h
 ·exact .inl (Ne.symm h)
 ·exact .inr (.inr h)
 ·exact .inr (.inl h)
theorem rF{e1 e2:qQ}(h:dT e1 e2):dT e2 e1:=by
 cases e1<;>cases e2<;>simp only[dT]at h⊢
 obtain⟨h1,h2,h3,h4⟩:=h
 exact⟨fun p hp q hq e w=>b3o (h1 q hq p hp e.symm w.symm),h3,h2,h4.symm⟩
def zM(fx:Fx):Prop:=(∀id i k cs,fx.wr=some (id,i,k,cs)→(id,none,true)∈fx.fp∨(id,some (i,k,k+cs.length),true)∈fx.fp)∧(∀p∈fx.fro,(p.1,none,true)∈fx.fp)∧(∀id,fx.kill=some id→(id,none,true)∈fx.fp)∧(fx.wr≠none→fx.fro=[]∧fx.kill=none)
theorem cU{ids:List (Nat×Nat)}{id:Nat}(h:∀p∈ids,p.1≠id)(m:Nat):y0 ids id m=m:=by
 induction ids generalizing m with
 |nil=>rfl
 |cons p ids ih=>
  simp only[y0,List.foldl_cons]
  rw[if_neg (h p (by simp))]
  exact ih (fun q hq=>h q (by simp [hq])) m
theorem c3O{fx:Fx}{f:List zL}{n1 n2:Nat}{id:Nat}{a:Option (Nat×Nat×Nat)}{w:Bool}(hF:zM fx)(hc:fQ n1 fx.fp n2 f)(hm:(id,a,w)∈f):∀p∈fx.fro,p.1≠id:=by
 intro p hp e
 have:=hc.1 (p.1,none,true) (hF.2.1 p hp) (id,a,w) hm e (.inl rfl)
 exact this
theorem c0J{fx:Fx}{f:List zL}{n1 n2:Nat}{id:Nat}{a:Option (Nat×Nat×Nat)}{w:Bool}(hF:zM fx)(hc:fQ n1 fx.fp n2 f)(hm:(id,a,w)∈f):fx.kill≠some id:=by
 intro e
 exact hc.1 (id,none,true) (hF.2.2.1 id e) (id,a,w) hm rfl (.inl rfl)
theorem yB(es:List (List AV))(i k:Nat)(cs:List AV)(j:Nat):(es.modify i (fun e=>o6 e k cs))[j]?=if i=j then(es[j]?).map (fun e=>o6 e k cs)else es[j]?:=by
 rw[List.getElem?_modify]
 cases es[j]? with
 |none=>simp
 |some e=>by_cases h:i=j<;>simp [h]
theorem vZ{fx:Fx}{f:List zL}{n1 n2:Nat}{h:Nat→RS}(hF:zM fx)(hl:fx.new.length≤8)(hc:fQ n1 fx.fp n2 f):qR f (fx.heap n1 h) h:=by
 rintro⟨id,a,w⟩ hm
 have hnew:=hc.2.2.1 _ hm
 simp only at hnew⊢
 unfold Fx.heap
 rw[if_neg (by omega),if_neg (c0J hF hc hm)]
 cases hr:h id with
 |live r=>
  simp only
  have hfro:y0 fx.fro id r.fro=r.fro:=cU (c3O hF hc hm) _
  cases hw:fx.wr with
  |none=>
   have:fx.row id r=r:=by simp only[Fx.row,hw,fL,hfro]
   rw[this];exact aT _ _
  |some p=>
   obtain⟨id',i,k,cs⟩:=p
   by_cases he:id'=id
   ·subst he
    have hd:∃i' lo hi,a=some (i',lo,hi)∧(i≠i'∨k+cs.length≤lo∨hi≤k):=by
     rcases hF.1 _ _ _ _ hw with g|g
     ·exact absurd (hc.1 _ g _ hm rfl (.inl rfl)) (by cases a<;>simp [a3R])
     ·have:=hc.1 _ g _ hm rfl (.inl rfl)
      cases a with
      |none=>simp [a3R]at this
      |some q=>obtain⟨i',lo,hi⟩:=q;exact⟨i',lo,hi,rfl,this⟩
    obtain⟨i',lo,hi,rfl,hd⟩:=hd
    simp only[Fx.row,hw,fL,if_true,hfro,O4,List.length_modify,true_and]
    intro k' h1 h2
    simp only[lT,yB]
    by_cases hi2:i=i'
    ·subst hi2
     rw[if_pos rfl]
     cases r.es[i]? with
     |none=>rfl
     |some e=>
      simp only[Option.map_some,Option.bind_some,gY]
      rw[if_neg (by omega)]
    ·rw[if_neg hi2]
   ·have:fx.row id r=r:=by simp only[Fx.row,hw,fL,if_neg he,hfro]
    rw[this];exact aT _ _
 |_=>exact aT _ _
theorem a8S(e:List AV){k k':Nat}{cs cs':List AV}(h:k+cs.length≤k'∨k'+cs'.length≤k):o6 (o6 e k cs) k' cs'=o6 (o6 e k' cs') k cs:=by
 apply List.ext_getElem?
 intro j
 simp only[gY,mJ]
 by_cases h1:k≤j∧j<k+cs.length
 ·rw[if_pos h1,if_neg (by omega),if_pos h1]
 ·rw[if_neg h1,if_neg h1]
theorem b4H{fx1 fx2:Fx}{n1 n2 id:Nat}(h1:zM fx1)(h2:zM fx2)(hc:fQ n1 fx1.fp n2 fx2.fp)(es:List (List AV)):fL fx1.wr id (fL fx2.wr id es)=fL fx2.wr id (fL fx1.wr id es):=by
 cases hw1:fx1.wr with
 |none=>rfl
 |some p=>
  cases hw2:fx2.wr with
  |none=>rfl
  |some q=>
   obtain⟨a,i,k,cs⟩:=p
   obtain⟨a',i',k',cs'⟩:=q
   simp only[fL]
   by_cases e1:a=id<;>by_cases e2:a'=id<;>simp only[e1,e2,if_true,if_false]
   subst e1
   subst e2
   have hd:i≠i'∨k+cs.length≤k'∨k'+cs'.length≤k:=by
    rcases h1.1 _ _ _ _ hw1 with g|g<;>rcases h2.1 _ _ _ _ hw2 with g'|g'
    all_goals
     have:=hc.1 _ g _ g' rfl (.inl rfl)
     simp only[a3R]at this
    exact this
   apply List.ext_getElem?
   intro j
   simp only[yB]
   by_cases e1:i=j<;>by_cases e2:i'=j<;>simp only[e1,e2,if_true,if_false]
   subst e1
   subst e2
   cases es[i']? with
   |none=>rfl
   |some e=>
    simp only[Option.map_some,Option.some.injEq]
    exact(a8S e (by rcases hd with hd|hd|hd;exact absurd rfl hd;exact .inl hd;exact .inr hd)).symm
def a3F(fx:Fx)(id:Nat)(x:RS):RS:=
 if fx.kill=some id then .gone else match x with
  | .live r=> .live (fx.row id r)
  |x=>x
theorem eW{fx:Fx}{n id:Nat}(g:Nat→RS)(h:¬(n≤id∧id<n+fx.new.length)):fx.heap n g id=a3F fx id (g id):=by
 unfold Fx.heap a3F
 rw[if_neg h]
 cases g id<;>rfl
theorem b3F{fx1 fx2:Fx}{n1 n2:Nat}{h:Nat→RS}(h1:zM fx1)(h2:zM fx2)(l1:fx1.new.length≤8)(l2:fx2.new.length≤8)(hc:fQ n1 fx1.fp n2 fx2.fp):fx1.heap n1 (fx2.heap n2 h)=fx2.heap n2 (fx1.heap n1 h):=by
 have hc':fQ n2 fx2.fp n1 fx1.fp:=by
  have:=rF (e1:=some (n1,fx1)) (e2:=some (n2,fx2)) hc
  exact this
 have key:∀{fx1 fx2:Fx} {n1 n2:Nat},zM fx2→fx1.new.length≤8→fx2.new.length≤8→fQ n1 fx1.fp n2 fx2.fp→∀id,(n1≤id∧id<n1+fx1.new.length)→fx1.heap n1 (fx2.heap n2 h) id=fx2.heap n2 (fx1.heap n1 h) id:=by
  intro fx1 fx2 n1 n2 h2 l1 l2 hc id hin
  have hnot:∀p∈fx2.fp,p.1≠id:=fun p hp e=>hc.2.2.1 p hp (by rw[e];omega)
  have e1:∀g,fx1.heap n1 g id= .live (fx1.new.getD (id-n1) ⟨0,[],0⟩):=fun g=>by unfold Fx.heap;rw[if_pos hin]
  rw[e1]
  have hd:=hc.2.2.2
  have hk:fx2.kill≠some id:=fun e=>hnot _ (h2.2.2.1 id e) rfl
  rw[eW _ (by omega),e1]
  simp only[a3F,if_neg hk,Fx.row]
  have hfro:∀m,y0 fx2.fro id m=m:=cU fun p hp e=>hnot _ (h2.2.1 p hp) e
  have hwr:∀es,fL fx2.wr id es=es:=by
   intro es
   cases hw:fx2.wr with
   |none=>rfl
   |some p=>
    obtain⟨a,i,k,cs⟩:=p
    simp only[fL]
    rw[if_neg]
    intro e
    rcases h2.1 _ _ _ _ hw with g|g<;>exact hnot _ g e
  simp only[hfro,hwr]
 funext id
 by_cases c1:n1≤id∧id<n1+fx1.new.length
 ·exact key h2 l1 l2 hc id c1
 ·by_cases c2:n2≤id∧id<n2+fx2.new.length
  ·exact(key h1 l2 l1 hc' id c2).symm
  ·rw[eW _ c1,eW _ c2,eW _ c2,eW _ c1]
   by_cases k1:fx1.kill=some id<;>by_cases k2:fx2.kill=some id
   ·simp only[a3F,if_pos k1,if_pos k2]
   ·simp only[a3F,if_pos k1,if_neg k2]
   ·simp only[a3F,if_neg k1,if_pos k2]
   ·simp only[a3F,if_neg k1,if_neg k2]
    cases h id with
    |live r=>
     simp only[Fx.row,b4H h1 h2 hc]
     congr 2
     by_cases hx:∃p∈fx1.fro,p.1=id
     ·obtain⟨p,hp,e⟩:=hx
      have:∀q∈fx2.fro,q.1≠id:=fun q hq e'=>hc.1 _ (h1.2.1 p hp) _ (h2.2.1 q hq) (by rw[e,e']) (.inl rfl)
      rw[cU this,cU this]
     ·have:∀q∈fx1.fro,q.1≠id:=fun q hq e'=>hx ⟨q,hq,e'⟩
      rw[cU this,cU this]
    |_=>rfl
section
def bE(o:Oper)(e:qQ)(s:St):St:=
 match e with
 |some (nid,fx)=>s.cI o.dst nid fx
 |none=>s.put o.dst AV.kF
def gA(ops:Array Oper)(o:Oper)(s:St):Option Bool:=
 match o.guard with
 |none=>some true
 |some (j,want)=>match(ops[j]?).bind (·.dst)with
  |some d=>match s.t d with
   | .v (.bool b)=>some (b==want)
   | .v (.tuple cs)=>if cs.isEmpty=true then some false else none
   |_=>none
  |none=>none
def YE(P:Program)[j5 P](ops:Array Oper)(o:Oper)(s:St)(e:qQ):Prop:=
 H9 s o.dst∧match e with
  |some (nid,fx)=>gA ops o s=some true∧ex P o s nid fx∧∀k,k<8→s.h (nid+k)= .free
  |none=>gA ops o s=some false
theorem c3I(o:Oper)(e:qQ)(s:St):(bE o e s).n=s.n:=by
 cases e with
 |none=>cases h:o.dst<;>simp [bE,St.put,h]
 |some p=>cases h:o.dst<;>simp [bE,St.cI,St.put,h]
theorem a2K{o o':Oper}{e:qQ}{s:St}:H9 (bE o e s) o'.dst↔H9 s o'.dst:=by
 cases o'.dst<;>simp [H9,c3I]
theorem b5M{o:Oper}{e:qQ}{s:St}{t:Tmp}(h:o.dst≠some t):(bE o e s).t t=s.t t:=by
 cases e with
 |none=>
  simp only[bE,St.put]
  cases hd:o.dst with
  |none=>rfl
  |some d=>simp only;rw[if_neg];intro e;apply h;rw[hd,e]
 |some p=>
  simp only[bE,St.cI,St.put]
  cases hd:o.dst with
  |none=>rfl
  |some d=>simp only;rw[if_neg];intro e;apply h;rw[hd,e]
theorem sP{ops:Array Oper}{o o':Oper}{e:qQ}{s:St}(h:∀d,o.dst=some d→d∉o'.looksAt ops):∀x∈o'.op.operands,(bE o e s).ev x=s.ev x:=by
 intro x hx
 cases x with
 |tmp t=>
  simp only[St.ev]
  refine b5M fun hd=>h t hd ?_
  exact List.mem_append_left _ (List.mem_filterMap.2 ⟨.tmp t,by simpa using hx,rfl⟩)
 |_=>rfl
theorem a3H{ops:Array Oper}{o o':Oper}{e:qQ}{s:St}(h:∀d,o.dst=some d→d∉o'.looksAt ops):gA ops o' (bE o e s)=gA ops o' s:=by
 unfold gA
 cases hg:o'.guard with
 |none=>rfl
 |some p=>
  obtain⟨j,want⟩:=p
  simp only
  cases hd:(ops[j]?).bind (·.dst)with
  |none=>rfl
  |some d=>
   simp only
   rw[b5M]
   intro e
   exact h d e (by simp [Oper.looksAt,hg,hd])
theorem kX(s:St)(d1 d2:Option Tmp)(x y:AV)(h:∀d,d1=some d→d2≠some d):(s.put d1 x).put d2 y=(s.put d2 y).put d1 x:=by
 cases d1 with
 |none=>rfl
 |some a=>
  cases d2 with
  |none=>rfl
  |some b=>
   have hne:a≠b:=fun e=>h a rfl (by rw[e])
   simp only[St.put]
   congr 1
   funext t
   by_cases h1:t=a
   ·have h2:¬t=b:=fun e=>hne (h1.symm.trans e)
    rw[if_neg h2,if_pos h1,if_pos h1]
   ·by_cases h2:t=b
    ·rw[if_pos h2,if_neg h1,if_pos h2]
    ·rw[if_neg h2,if_neg h1,if_neg h1,if_neg h2]
section
variable {P:Program} {ops:Array Oper}
theorem c49[j5 P]{o:Oper}{s:St}{nid:Nat}{fx:Fx}(h:ex P o s nid fx):zM fx∧fx.new.length≤8:=⟨c48 h,(b6t h).1⟩
def EOK(e:qQ):Prop:=match e with
 |some (_,fx)=>zM fx∧fx.new.length≤8
 |none=>True
theorem YE.ok[j5 P]{o:Oper}{s:St}{e:qQ}(h:YE P ops o s e):EOK e:=by
 cases e with
 |none=>trivial
 |some p=>exact c49 h.2.2.1
theorem a9j{fp:List zL}{h h':Nat→RS}(ha:qR fp h h'):qR fp h' h:=by
 intro p hp
 have:=ha p hp
 generalize p.2.1=a at this⊢
 generalize h p.1=x at this⊢
 generalize h' p.1=y at this⊢
 cases a with
 |none=>exact this.symm
 |some q=>
  cases x<;>cases y<;>simp only[O4]at this⊢<;>first|exact this.symm|(cases this;done)|exact⟨this.1.symm,this.2.1.symm,this.2.2.1.symm,fun k h1 h2=>(this.2.2.2 k h1 h2).symm⟩
theorem YE.before[j5 P]{oi oj:Oper}{s:St}{ei ej:qQ}(hei:EOK ei)(hap:∀d,oi.dst=some d→d∉oj.looksAt ops)(hc:dT ei ej)(h:YE P ops oj (bE oi ei s) ej):YE P ops oj s ej:=by
 obtain⟨h1,h2⟩:=h
 refine⟨a2K.1 h1,?_⟩
 cases ej with
 |none=>simp only at h2⊢;rw[a3H hap]at h2;exact h2
 |some p=>
  obtain⟨n2,f2⟩:=p
  simp only at h2⊢
  obtain⟨g1,g2,g3⟩:=h2
  rw[a3H hap]at g1
  cases ei with
  |none=>
   refine⟨g1,nG (s:=bE oi none s) (fun x hx=>(sP hap x hx).symm) ?_ g2,?_⟩
   ·intro p hp
    have:(bE oi none s).h=s.h:=by simp only[bE,St.put];cases oi.dst<;>rfl
    rw[this];exact aT _ _
   ·intro k hk
    have:(bE oi none s).h=s.h:=by simp only[bE,St.put];cases oi.dst<;>rfl
    rw[←this];exact g3 k hk
  |some q=>
   obtain⟨n1,f1⟩:=q
   refine⟨g1,nG (s:=bE oi (some (n1,f1)) s) (fun x hx=>(sP hap x hx).symm) ?_ g2,?_⟩
   ·exact vZ hei.1 hei.2 hc
   ·intro k hk
    have:=g3 k hk
    simp only[bE,St.cI]at this
    by_cases hin:n1≤n2+k∧n2+k<n1+f1.new.length
    ·have:=hc.2.2.2;have:=hei.2;omega
    ·rw[eW _ hin]at this
     unfold a3F at this
     split at this
     ·cases this
     ·split at this
      ·cases this
      ·exact this
theorem YE.behind[j5 P]{oi oj:Oper}{s:St}{ei ej:qQ}(hej:EOK ej)(hap:∀d,oj.dst=some d→d∉oi.looksAt ops)(hc:dT ei ej)(h:YE P ops oi s ei):YE P ops oi (bE oj ej s) ei:=by
 obtain⟨h1,h2⟩:=h
 refine⟨a2K.2 h1,?_⟩
 have hc':=rF hc
 cases ei with
 |none=>simp only at h2⊢;rw[a3H hap];exact h2
 |some p=>
  obtain⟨n1,f1⟩:=p
  simp only at h2⊢
  obtain⟨g1,g2,g3⟩:=h2
  rw[a3H hap]
  cases ej with
  |none=>
   have hh:(bE oj none s).h=s.h:=by simp only[bE,St.put];cases oj.dst<;>rfl
   refine⟨g1,nG (s:=s) (sP hap) (fun p hp=>by rw[hh];exact aT _ _) g2,fun k hk=>by rw[hh];exact g3 k hk⟩
  |some q=>
   obtain⟨n2,f2⟩:=q
   refine⟨g1,nG (s:=s) (sP hap) (a9j (vZ hej.1 hej.2 hc')) g2,fun k hk=>?_⟩
   simp only[bE,St.cI]
   have hin:¬(n2≤n1+k∧n1+k<n2+f2.new.length):=by have:=hc.2.2.2;have:=hej.2;omega
   rw[eW _ hin,g3 k hk]
   unfold a3F
   rw[if_neg]
   intro e
   exact hc.2.2.1 _ (hej.1.2.2.1 _ e) (by simp only;omega)
theorem b2Z{oi oj:Oper}{s:St}{ei ej:qQ}(hei:EOK ei)(hej:EOK ej)(hd:∀d,oi.dst=some d→oj.dst≠some d)(hc:dT ei ej):bE oj ej (bE oi ei s)=bE oi ei (bE oj ej s):=by
 cases ei with
 |none=>
  cases ej with
  |none=>exact kX _ _ _ _ _ hd
  |some q=>
   obtain⟨n2,f2⟩:=q
   have:=kX s oi.dst oj.dst AV.kF f2.val hd
   have hh:(s.put oi.dst AV.kF).h=s.h:=by simp only[St.put];cases oi.dst<;>rfl
   simp only[bE,St.cI,hh]
   have e1:({(s.put oi.dst AV.kF).put oj.dst f2.val with h:=f2.heap n2 s.h}:St)={(s.put oj.dst f2.val).put oi.dst AV.kF with h:=f2.heap n2 s.h}:=by rw[this]
   refine e1.trans ?_
   cases oi.dst<;>rfl
 |some p=>
  obtain⟨n1,f1⟩:=p
  cases ej with
  |none=>
   have:=kX s oi.dst oj.dst f1.val AV.kF hd
   have hh:(s.put oj.dst AV.kF).h=s.h:=by simp only[St.put];cases oj.dst<;>rfl
   simp only[bE,St.cI,hh]
   have e1:({(s.put oj.dst AV.kF).put oi.dst f1.val with h:=f1.heap n1 s.h}:St)={(s.put oi.dst f1.val).put oj.dst AV.kF with h:=f1.heap n1 s.h}:=by rw[this]
   refine Eq.trans ?_ e1.symm
   cases oj.dst<;>rfl
  |some q=>
   obtain⟨n2,f2⟩:=q
   have h1:=kX s oi.dst oj.dst f1.val f2.val hd
   have h2:=b3F (h:=s.h) hei.1 hej.1 hei.2 hej.2 hc
   simp only[bE,St.cI,St.c2e]
   rw[h1,h2]
def b2Y(P:Program)[j5 P](ops:Array Oper)(E:Nat→qQ)(Q:St→Prop):Nat→Array Bool→St→Prop
 |0,listed,s=>Region.ready .any ops listed=[]∧Q s
 |fuel+1,listed,s=>(Region.ready .any ops listed=[]→Q s)∧
  ∀i∈Region.ready .any ops listed,∃o,ops[i]?=some o∧YE P ops o s (E i)∧b2Y P ops E Q fuel (listed.setIfInBounds i true) (bE o (E i) s)
def iJ(ops:Array Oper)(listed:Array Bool):Prop:=∀k,listed.getD k false=true→∀o,ops[k]?=some o→∀e∈o.after,Region.binds .any e=true→listed.getD e.on false=true
theorem lV{listed:Array Bool}{i:Nat}(hc:iJ ops listed)(hi:i∈Region.ready .any ops listed):iJ ops (listed.setIfInBounds i true):=by
 intro k hk o ho e he hb
 by_cases hki:k=i
 ·subst hki
  obtain⟨_,o',ho',hall⟩:=mem_ready.1 hi
  rw[ho]at ho'
  cases ho'
  exact getD_set_true (hall e he hb)
 ·rw[getD_set_ne false (Ne.symm hki)]at hk
  exact getD_set_true (hc k hk o ho e he hb)
theorem a9k [j5 P] {E:Nat→qQ} {Q:St→Prop} {D:Nat→Nat→Prop} (hD:∀listed,iJ ops listed→∀k,listed.getD k false=true→∀i,D i k→listed.getD i false=true) (hD1:∀i j o,ops[j]?=some o→D i j→∃e∈o.after,Region.binds .any e=true∧(e.on=i∨D i e.on))
  {i:Nat} {oi:Oper} (hi:ops[i]?=some oi):
  ∀(fuel:Nat) (listed:Array Bool) (s:St),iJ ops listed→
   (∀j oj,ops[j]?=some oj→j≠i→listed.getD j true=false→(∀e∈oj.after,Region.binds .any e=true→e.on≠i)→oi.apart ops oj=true)→
   (∀j oj,ops[j]?=some oj→j≠i→listed.getD j true=false→¬D i j→dT (E i) (E j))→
   i∈Region.ready .any ops listed→YE P ops oi s (E i)→
   b2Y P ops E Q fuel (listed.setIfInBounds i true) (bE oi (E i) s)→b2Y P ops E Q (fuel+1) listed s:=by
 intro fuel
 induction fuel with
 |zero=>
  intro listed s _ _ _ hr hy H
  refine⟨fun h=>(by rw[h]at hr;cases hr),fun j hj=>?_⟩
  by_cases hji:j=i
  ·subst hji;exact⟨oi,hi,hy,H⟩
  ·have:=ready_mono hj hji
   rw[H.1]at this
   cases this
 |succ fuel ih=>
  intro listed s oR hfree hmem hr hy H
  refine⟨fun h=>(by rw[h]at hr;cases hr),fun j hj=>?_⟩
  by_cases hji:j=i
  ·subst hji;exact⟨oi,hi,hy,H⟩
  ·obtain⟨oj,hoj,hyj,hrest⟩:=H.2 j (ready_mono hj hji)
   obtain⟨hjun,oj',hoj',hall⟩:=mem_ready.1 hj
   rw[hoj]at hoj'
   cases hoj'
   have hiun:=(mem_ready.1 hr).1
   have hun:listed.getD i false=false:=by
    rcases Nat.lt_or_ge i listed.size with h'|h'
    ·simp [h']at hiun⊢;exact hiun
    ·simp [Array.getElem?_eq_none h']at hiun
   have hnot:∀e∈oj.after,Region.binds .any e=true→e.on≠i:=fun e he hb heq=>by
    have h1:=hall e he hb
    rw[heq,hun]at h1
    cases h1
   have hnD:¬D i j:=by
    intro hd
    obtain⟨e,he,hb,h1⟩:=hD1 i j oj hoj hd
    rcases h1 with h1|h1
    ·exact hnot e he hb h1
    ·have:=hD listed oR e.on (hall e he hb) i h1
     rw[hun]at this
     cases this
   obtain⟨a1,a2,a3⟩:=Oper.apart_spec (hfree j oj hoj hji hjun hnot)
   have hcf:=hmem j oj hoj hji hjun hnD
   have hyj':YE P ops oj s (E j):=YE.before hy.ok a1 hcf hyj
   refine⟨oj,hoj,hyj',?_⟩
   refine ih (listed.setIfInBounds j true) _ (lV oR hj) ?_ ?_ (ready_mono hr (Ne.symm hji)) (YE.behind hyj.ok a3 hcf hy) ?_
   ·intro k ok hk hki hku hno
    refine hfree k ok hk hki ?_ hno
    by_cases hjk:j=k
    ·subst hjk;exact hjun
    ·rw[getD_set_ne true hjk]at hku;exact hku
   ·intro k ok hk hki hku hno
    refine hmem k ok hk hki ?_ hno
    by_cases hjk:j=k
    ·subst hjk;exact hjun
    ·rw[getD_set_ne true hjk]at hku;exact hku
   ·rw[Array.setIfInBounds_comm _ _ hji,←b2Z hy.ok hyj.ok a2 hcf]
    exact hrest
end
end
section
def xX(acc:List Nat)(o:Oper):Nat:=o.after.toList.foldl (fun s e=>if Region.binds .any e then s|||2^e.on|||acc.getD e.on 0 else s) 0
def O7:List Oper→List Nat→List Nat
 |[],acc=>acc
 |o::l,acc=>O7 l (acc++[xX acc o])
theorem b0b{acc:List Nat}{o:Oper}{i:Nat}(h:(xX acc o).testBit i=true):∃e∈o.after,Region.binds .any e=true∧(e.on=i∨(acc.getD e.on 0).testBit i=true):=by
 have key:∀(l:List Edge) (s:Nat),(l.foldl (fun s e=>if Region.binds .any e then s|||2^e.on|||acc.getD e.on 0 else s) s).testBit i=true→s.testBit i=true∨∃e∈l,Region.binds .any e=true∧(e.on=i∨(acc.getD e.on 0).testBit i=true):=by
  intro l
  induction l with
  |nil=>intro s h;exact .inl h
  |cons e l ih=>
   intro s h
   simp only[List.foldl_cons]at h
   rcases ih _ h with h1|⟨e',h1,h2⟩
   ·split at h1
    ·rename_i hb
     simp only[Nat.testBit_or,Bool.or_eq_true,Nat.testBit_two_pow,decide_eq_true_eq]at h1
     rcases h1 with(h1|h1)|h1
     ·exact .inl h1
     ·exact .inr ⟨e,by simp,hb,.inl h1⟩
     ·exact .inr ⟨e,by simp,hb,.inr h1⟩
    ·exact .inl h1
   ·exact .inr ⟨e',by simp [h1],h2⟩
 rcases key _ _ h with h|⟨e,h1,h2⟩
 ·simp at h
 ·exact⟨e,by simpa using h1,h2⟩
theorem xY:∀(l:List Oper) (acc:List Nat),(O7 l acc).take acc.length=acc∧(O7 l acc).length=acc.length+l.length∧∀(i:Nat) o,l[i]?=some o→(O7 l acc)[acc.length+i]?=some (xX ((O7 l acc).take (acc.length+i)) o):=by
 intro l
 induction l with
 |nil=>intro acc;simp [O7]
 |cons o l ih=>
  intro acc
  obtain⟨h1,h2,h3⟩:=ih (acc++[xX acc o])
  simp only[List.length_append,List.length_singleton]at h1 h2 h3
  simp only[O7]
  have ht:(O7 l (acc++[xX acc o])).take acc.length=acc:=by
   have:=congrArg (List.take acc.length) h1
   rw[List.take_take,Nat.min_eq_left (by omega)]at this
   rw[this];simp
  refine⟨ht,by rw[h2];simp;omega,fun i o' ho=>?_⟩
  cases i with
  |zero=>
   simp at ho
   subst ho
   rw[Nat.add_zero,ht]
   have:=congrArg (fun l=>l[acc.length]?) h1
   simp only[List.getElem?_take]at this
   rw[if_pos (by omega)]at this
   rw[this];simp
  |succ i=>
   simp at ho
   have:=h3 i o' ho
   rw[show acc.length+(i+1)=acc.length+1+i from by omega]
   exact this
def rQ(tab:List Nat)(i j:Nat):Prop:=(tab.getD j 0).testBit i=true
theorem c3N{l:List Oper}{i j:Nat}{o:Oper}(ho:l[j]?=some o)(h:rQ (O7 l []) i j):∃e∈o.after,Region.binds .any e=true∧(e.on=i∨(e.on<j∧rQ (O7 l []) i e.on)):=by
 obtain⟨_,h2,h3⟩:=xY l []
 have:=h3 j o ho
 simp only[List.length_nil,Nat.zero_add]at this
 unfold rQ at h
 rw[List.getD_eq_getElem?_getD,this,Option.getD_some]at h
 obtain⟨e,he,hb,h4⟩:=b0b h
 refine⟨e,he,hb,?_⟩
 rcases h4 with h4|h4
 ·exact .inl h4
 ·refine .inr ?_
  rw[List.getD_eq_getElem?_getD,List.getElem?_take]at h4
  split at h4
  ·rename_i hlt
   exact⟨hlt,by unfold rQ;rw[List.getD_eq_getElem?_getD];exact h4⟩
  ·simp at h4
theorem c40{l:List Oper}{listed:Array Bool}(hc:iJ l.toArray listed):∀k,listed.getD k false=true→∀i,rQ (O7 l []) i k→listed.getD i false=true:=by
 intro k
 induction k using Nat.strongRecOn with
 |_ k ih=>
  intro hk i hd
  cases ho:l[k]? with
  |none=>
   obtain⟨_,h2,_⟩:=xY l []
   unfold rQ at hd
   rw[List.getD_eq_getElem?_getD,List.getElem?_eq_none (by rw[h2];simpa using ho)]at hd
   simp at hd
  |some o=>
   obtain⟨e,he,hb,h1⟩:=c3N ho hd
   have hl:=hc k hk o (by simpa using ho) e he hb
   rcases h1 with rfl|⟨hlt,h1⟩
   ·exact hl
   ·exact ih e.on hlt hl i h1
section
variable {P:Program}
def oV(P:Program)[j5 P](ops:Array Oper):List Oper→St→List qQ→St→Prop
 |[],s,[],s'=>s=s'
 |o::l,s,e::es,s'=>YE P ops o s e∧oV P ops l (bE o e s) es s'
 |_,_,_,_=>False
theorem wD[j5 P]{L:List Oper}{E:Nat→qQ}{Q:St→Prop}(hmem:∀i j,i<j→j<L.length→¬rQ (O7 L []) i j→dT (E i) (E j)):
  ∀(l:List Oper) (k:Nat) (listed:Array Bool) (s s':St) (es:List qQ),(∀j,l[j]?=L.toArray[k+j]?)→iJ L.toArray listed→(∀j,listed.getD j true=false→k≤j)→Region.lexFrom .any L.toArray l.length k listed=true→
   (∀j:Nat,j<es.length→E (k+j)=es.getD j none)→oV P L.toArray l s es s'→Q s'→b2Y P L.toArray E Q l.length listed s
 |[],k,listed,s,s',es,_,_,_,hB,_,hR,hQ=>by
  cases es with
  |nil=>simp only[oV]at hR;subst hR;exact⟨by simpa[Region.lexFrom]using hB,hQ⟩
  |cons e es=>simp [oV]at hR
 |o::l,k,listed,s,s',es,hl,oR,hlist,hB,hE,hR,hQ=>by
  have h0:L.toArray[k]?=some o:=by simpa using(hl 0).symm
  simp only[List.length_cons,Region.lexFrom,Bool.and_eq_true]at hB
  obtain⟨⟨hr,hf⟩,hB'⟩:=hB
  cases es with
  |nil=>simp [oV]at hR
  |cons e es=>
   obtain⟨hy,hR⟩:=hR
   have hEk:E k=e:=by simpa using hE 0 (by simp)
   have hr':k∈Region.ready .any L.toArray listed:=by simpa using hr
   refine a9k (D:=rQ (O7 L [])) (fun listed hc k hk i hd=>c40 hc k hk i hd) (fun i j o ho hd=>?_) h0 l.length listed s oR (Region.free_spec h0 hf) ?_ hr' (by rw[hEk];exact hy) ?_
   ·obtain⟨e,he,hb,h1⟩:=c3N (by simpa using ho) hd
    exact⟨e,he,hb,h1.imp id (·.2)⟩
   ·intro j oj hj hne hun hnd
    have hkj:=hlist j hun
    have hjl:j<L.length:=by simpa using(Array.getElem?_eq_some_iff.1 hj).1
    exact hmem k j (by omega) hjl hnd
   ·rw[hEk]
    refine wD hmem l (k+1) _ _ s' es (fun j=>by have:=hl (j+1);simpa[Nat.add_assoc,Nat.add_comm 1 j]using this) (lV oR hr') ?_ hB' ?_ hR hQ
    ·intro j hj
     by_cases hjk:k=j
     ·subst hjk
      have hlt:k<listed.size:=by
       have h1:=(mem_ready.1 hr').1
       rcases Nat.lt_or_ge k listed.size with h'|h'
       ·exact h'
       ·simp [Array.getElem?_eq_none h']at h1
      simp [hlt]at hj
     ·rw[getD_set_ne true hjk]at hj
      have:=hlist j hj
      omega
    ·intro j hj
     have:=hE (j+1) (by simp;omega)
     simp only[List.getD_cons_succ]at this
     rw[←this];congr 1;omega
section
variable {G:Gh} {M0:Nat→Nat→Prop} {w0:World} {s:St} {ρ:Nat→Option (Nat×Nat×Nat)} {a:Act} {w:World} {Q':Exit→Act→World→Prop} {ops:Array Oper}
theorem b1V(R:Rel G M0 w0 s ρ a w){o:Oper}{b:Bool}(h:gA ops o s=some b):Region.wanted o (yielded ops a.tmps)=b:=by
 unfold gA at h
 unfold Region.wanted
 cases hg:o.guard with
 |none=>rw[hg]at h;simpa using h
 |some p=>
  obtain⟨j,want⟩:=p
  rw[hg]at h
  simp only at h⊢
  split at h
  ·rename_i d hd
   split at h
   ·rename_i c hc
    cases h
    have:=R.tm d
    rw[hc]at this
    have:=this.Y4
    have hy:yielded ops a.tmps j=some c:=by
     unfold yielded
     rw[hd]
     simp only[Option.bind_some]
     by_cases hlt:d<a.tmps.size
     ·simp [hlt]at this⊢
      rw[this]
     ·simp [hlt,undef]at this
    rw[hy]
    rfl
   ·rename_i cs ht
    split at h
    ·rename_i he
     cases h
     have e:cs= #[]:=Array.isEmpty_iff.1 he
     subst e
     have hy:yielded ops a.tmps j=none:=by
      have:=R.tm d
      rw[ht]at this
      have:=this.Y4
      unfold yielded
      rw[hd]
      simp only[Option.bind_some]
      by_cases hlt:d<a.tmps.size
      ·simp [hlt]at this⊢
       rw[this]
      ·simp [hlt]
     rw[hy]
     rfl
    ·cases h
   ·cases h
  ·cases h
theorem a9l[j5 P](m:Option Nat)(hgl:j5.ok P w0){E:Nat→qQ}{Q:St→Prop}(hQ:∀s' ρ' a' w',Q s'→Rel G M0 w0 s' ρ' a' w'→Q' .normal a' w'):
  ∀(fuel:Nat) (listed:Array Bool) (s:St) (ρ:Nat→Option (Nat×Nat×Nat)) (a:Act) (w:World),Rel G M0 w0 s ρ a w→b2Y P ops E Q fuel listed s→wpAnyIn (bP m) 0 P .any ops Q' fuel listed a w:=by
 intro fuel
 induction fuel with
 |zero=>intro listed s ρ a w R h;exact⟨h.1,hQ _ _ _ _ h.2 R⟩
 |succ fuel ih=>
  intro listed s ρ a w R h
  refine⟨fun h0=>hQ _ _ _ _ (h.1 h0) R,fun i hi=>?_⟩
  obtain⟨o,ho,hy,hrest⟩:=h.2 i hi
  obtain⟨hd,hy⟩:=hy
  unfold wpOpIn
  rw[ho]
  simp only
  cases hE:E i with
  |none=>
   rw[hE]at hy hrest
   simp only at hy
   rw[b1V R hy,if_neg (by simp)]
   exact⟨fun f _=>jY m f,ih _ _ _ _ _ (R.pure hd (.v _)) hrest⟩
  |some p=>
   obtain⟨nid,fx⟩:=p
   rw[hE]at hy hrest
   simp only at hy
   rw[b1V R hy.1,if_pos rfl]
   exact bJ m (iK hy.2.1) (nH hgl R hd hy.2.2 hy.2.1 fun ρ' a' w' R'=>ih _ _ _ _ _ R' hrest)
theorem a9G [j5 P] (m:Option Nat) (hgl:j5.ok P w0) {id:Nat} {L:List Oper} {es:List qQ} {s':St} (hm:P.follows .mixedOrders=true) (R:Rel G M0 w0 s ρ a w) (hB:Region.lexB .any L.toArray=true)
  (hmem:∀i j,i<j→j<L.length→¬rQ (O7 L []) i j→dT (es.getD i none) (es.getD j none)) (hR:oV P L.toArray L s es s') (hQ:∀ρ' a' w',Rel G M0 w0 s' ρ' a' w'→Q' .normal a' w'):(Code.region id L.toArray true).wpIn (bP m) 0 P Q' a w:=by
 simp only[Region.lexB,Bool.and_eq_true]at hB
 refine wpIn_region_any hm ?_
 refine a9l m hgl (E:=fun i=>es.getD i none) (Q:=fun t=>t=s') (fun s1 ρ' a' w' e R'=>by subst e;exact hQ _ _ _ R') _ _ s ρ a w.drew R.drew ?_
 have aF:L.toArray.size=L.length:=by simp
 rw[aF]at hB⊢
 refine wD hmem L 0 _ s s' es (by simp) ?_ (fun j _=>Nat.zero_le _) hB.2 (fun j hj=>by simp) hR rfl
 intro k hk
 exfalso
 simp only[Array.getD_eq_getD_getElem?,Array.getElem?_replicate]at hk
 split at hk<;>simp at hk
end
end
end
section
abbrev oT:=List (Option (Nat×List zL))
def b6h:Option (Nat×Nat×Nat)→Option (Nat×Nat×Nat)→Bool
 |some (i,lo,hi),some (i',lo',hi')=>i !=i'||Nat.ble hi lo'||Nat.ble hi' lo
 |_,_=>false
def b6g:Option (Nat×List zL)→Option (Nat×List zL)→Bool
 |some (n1,f1),some (n2,f2)=>f1.all (fun p=>f2.all fun q=>p.1 !=q.1|| !(p.2.2||q.2.2)||b6h p.2.1 q.2.1)&&f1.all (fun p=> !(Nat.ble n2 p.1&&Nat.blt p.1 (n2+8)))&&
   f2.all (fun p=> !(Nat.ble n1 p.1&&Nat.blt p.1 (n1+8)))&&(Nat.ble (n1+8) n2||Nat.ble (n2+8) n1)
 |_,_=>true
def dQ(tab:List Nat)(log:oT):Bool:=(List.range log.length).all fun j=>(List.range j).all fun i=>(tab.getD j 0).testBit i||b6g (log.getD i none) (log.getD j none)
def aP(e:qQ):Option (Nat×List zL):=e.map fun p=>(p.1,p.2.fp)
theorem b6i{a b:Option (Nat×Nat×Nat)}(h:b6h a b=true):a3R a b:=by
 cases a<;>cases b<;>simp only[b6h,a3R]at h⊢<;>try(cases h;done)
 simp at h
 omega
theorem a7D{e1 e2:qQ}(h:b6g (aP e1) (aP e2)=true):dT e1 e2:=by
 cases e1<;>cases e2<;>simp only[dT]
 rename_i p q
 obtain⟨n1,f1⟩:=p
 obtain⟨n2,f2⟩:=q
 simp only[aP,Option.map_some,b6g,Bool.and_eq_true,List.all_eq_true,Bool.or_eq_true,Bool.not_eq_true',Bool.and_eq_false_iff]at h
 obtain⟨⟨⟨h1,h2⟩,h3⟩,h4⟩:=h
 refine⟨fun p hp q hq e w=>?_,fun p hp hh=>?_,fun p hp hh=>?_,?_⟩
 ·have:=h1 p hp q hq
  rcases this with(h|h)|h
  ·simp [e]at h
  ·rcases w with w|w<;>simp [w]at h
  ·exact b6i h
 ·have:=h2 p hp
  rcases this with h|h
  ·rw[Nat.ble_eq_true_of_le hh.1]at h;cases h
  ·have h5:Nat.blt p.1 (n2+8)=true:=by rw[Nat.blt_eq];exact hh.2
   rw[h5]at h;cases h
 ·have:=h3 p hp
  rcases this with h|h
  ·rw[Nat.ble_eq_true_of_le hh.1]at h;cases h
  ·have h5:Nat.blt p.1 (n1+8)=true:=by rw[Nat.blt_eq];exact hh.2
   rw[h5]at h;cases h
 ·rcases h4 with h|h
  ·exact .inl (Nat.le_of_ble_eq_true h)
  ·exact .inr (Nat.le_of_ble_eq_true h)
def eT(P:Program)[j5 P](rest:LS→oT→(LS→Prop)→Prop)(d:Option Tmp)(s:LS)(log:oT)(N:LS→Prop)(f:FuncId)(xs:List AV):Prop:=
 (∃n ys,xs.mapM (u6 (LS.hf s.h) n)=some ys∧∃y rows,e8 P f ys y rows∧(rows s.nx).length≤8∧
  ∃lend:Bool,(lend=true→rows s.nx=[]∧(y s.nx).flat=true)∧
  rest (s.cI d {val:=y s.nx,fp:=(xs.flatMap (a6 (LS.hf s.h) n)).map (fun p=>(p.1,none, !lend)),fro:=if lend then[]else xs.flatMap (a6 (LS.hf s.h) n),new:=rows s.nx})
   (log++[some (s.nx,(xs.flatMap (a6 (LS.hf s.h) n)).map (fun p=>(p.1,none, !lend)))]) N)∨
 ∃fx,a7x P f xs (LS.hf s.h) fx∧rest (s.cI d fx) (log++[some (s.nx,fx.fp)]) N
def s9(P:Program)[j5 P](rest:LS→oT→(LS→Prop)→Prop)(d:Option Tmp)(s:LS)(log:oT)(N:LS→Prop)(fv:AV)(xs:List AV):Prop:=
 match fv with
 | .fn f W7=>eT P rest d s log N f (xs++W7)
 | .nD f cs=>eT P rest d s log N f (cs++xs)
 |_=>False
def a9K(rest:LS→oT→(LS→Prop)→Prop)(d:Option Tmp)(s:LS)(log:oT)(N:LS→Prop):Option (Prop×Fx)→Prop
 |some (c,fx)=>c∧rest (s.cI d fx) (log++[some (s.nx,fx.fp)]) N
 |none=>False
def P7(P:Program)[j5 P](rest:LS→oT→(LS→Prop)→Prop)(d:Option Tmp)(op:Op)(s:LS)(log:oT)(N:LS→Prop):Prop:=
 match op with
 | .call c=>match c.callee with
  | .value fv=>s9 P rest d s log N (LS.ev s.t fv) (c.args.toList.map (LS.ev s.t))
  |_=>a9K rest d s log N (stepC P op s.t s.h s.nx)
 |op=>a9K rest d s log N (stepC P op s.t s.h s.nx)
def gdT(P:Program)[j5 P](rest:LS→oT→(LS→Prop)→Prop)(d:Option Tmp)(op:Op)(s:LS)(log:oT)(N:LS→Prop)(want:Bool)(g:Tmp)(b:Bool):Prop:=
 (b=want→S7 s d∧P7 P rest d op (s.put (some g) (.v (.bool want))) log N)∧(b=(!want)→S7 s d∧rest ((s.put (some g) (.v (.bool (!want)))).put d AV.kF) (log++[none]) N)
def gdD(P:Program)[j5 P](rest:LS→oT→(LS→Prop)→Prop)(d:Option Tmp)(op:Op)(s:LS)(log:oT)(N:LS→Prop)(want:Bool)(g:Tmp):AV→Prop
 | .v (.bool b)=>gdT P rest d op s log N want g b
 | .v (.tuple cs)=>cs.isEmpty=true∧S7 s d∧rest (s.put d AV.kF) (log++[none]) N
 |_=>False
section
variable {P:Program} {rest:LS→oT→(LS→Prop)→Prop} {d:Option Tmp} {op:Op} {s:LS} {log:oT} {N:LS→Prop} {g:Tmp}
theorem c1Y[j5 P]{want:Bool}{b:Bool}:gdD P rest d op s log N want g (.v (.bool b))=gdT P rest d op s log N want g b:=rfl
theorem b1X[j5 P]{want:Bool}:gdD P rest d op s log N want g AV.kF=(S7 s d∧rest (s.put d AV.kF) (log++[none]) N):=by simp [gdD,AV.kF,undef]
theorem b6L[j5 P]:gdT P rest d op s log N true g true=(S7 s d∧P7 P rest d op (s.put (some g) (.v (.bool true))) log N):=by simp [gdT]
theorem b6I[j5 P]:gdT P rest d op s log N false g false=(S7 s d∧P7 P rest d op (s.put (some g) (.v (.bool false))) log N):=by simp [gdT]
theorem b6K[j5 P]:gdT P rest d op s log N true g false=(S7 s d∧rest ((s.put (some g) (.v (.bool false))).put d AV.kF) (log++[none]) N):=by simp [gdT]
theorem b6J[j5 P]:gdT P rest d op s log N false g true=(S7 s d∧rest ((s.put (some g) (.v (.bool true))).put d AV.kF) (log++[none]) N):=by simp [gdT]
theorem c12[j5 P]{p:Prop}[Decidable p]:gdT P rest d op s log N true g (decide p)=((p→S7 s d∧P7 P rest d op (s.put (some g) (.v (.bool true))) log N)∧(¬p→S7 s d∧rest ((s.put (some g) (.v (.bool false))).put d AV.kF) (log++[none]) N)):=by simp [gdT]
theorem c11[j5 P]{p:Prop}[Decidable p]:gdT P rest d op s log N false g (decide p)=((p→S7 s d∧rest ((s.put (some g) (.v (.bool true))).put d AV.kF) (log++[none]) N)∧(¬p→S7 s d∧P7 P rest d op (s.put (some g) (.v (.bool false))) log N)):=by
 simp only[gdT,decide_eq_false_iff_not,Bool.not_false,decide_eq_true_eq]
 exact propext And.comm
theorem a9T[j5 P]{b:Bool}(h1:b=true→S7 s d∧P7 P rest d op (s.put (some g) (.v (.bool true))) log N)(h2:b=false→S7 s d∧rest ((s.put (some g) (.v (.bool false))).put d AV.kF) (log++[none]) N):gdT P rest d op s log N true g b:=⟨h1,h2⟩
theorem a9S[j5 P]{b:Bool}(h1:b=false→S7 s d∧P7 P rest d op (s.put (some g) (.v (.bool false))) log N)(h2:b=true→S7 s d∧rest ((s.put (some g) (.v (.bool true))).put d AV.kF) (log++[none]) N):gdT P rest d op s log N false g b:=⟨h1,h2⟩
end
def mF(P:Program)[j5 P](ops:List (Option Tmp))(mk:List Nat):List Oper→LS→oT→(LS→Prop)→Prop
 |[],s,log,N=>dQ mk log=true∧N s
 |o::rest,s,log,N=>match o.guard with
  |none=>S7 s o.dst∧P7 P (mF P ops mk rest) o.dst o.op s log N
  |some (j,want)=>match ops.getD j none with
   |some g=>gdD P (mF P ops mk rest) o.dst o.op s log N want g (LS.tf s.t g)
   |none=>False
section
variable {P:Program}
theorem a2V [j5 P] {ops:List Oper} {rest:List Oper} {o:Oper} {s:LS} {log:oT} {N:LS→Prop} (hok:s.ok) (hd:S7 s o.dst) (hg:gA ops.toArray o s.o4=some true)
  (ih:∀s log N,s.ok→mF P (X5 ops) (O7 ops []) rest s log N→∃es s',es.length=rest.length∧oV P ops.toArray rest s.o4 es s'.o4∧dQ (O7 ops []) (log++es.map aP)=true∧N s'∧s'.ok)
  (h:P7 P (mF P (X5 ops) (O7 ops []) rest) o.dst o.op s log N):
  ∃es s',es.length=rest.length+1∧oV P ops.toArray (o::rest) s.o4 es s'.o4∧dQ (O7 ops []) (log++es.map aP)=true∧N s'∧s'.ok:=by
 have fin:∀fx,ex P o s.o4 s.nx fx→mF P (X5 ops) (O7 ops []) rest (s.cI o.dst fx) (log++[some (s.nx,fx.fp)]) N→
   ∃es s',es.length=rest.length+1∧oV P ops.toArray (o::rest) s.o4 es s'.o4∧dQ (O7 ops []) (log++es.map aP)=true∧N s'∧s'.ok:=by
  intro fx hx h
  obtain⟨h1,h2⟩:=wE hok (eB hd) hx
  obtain⟨es,s',g1,g2,g3,g4,g5⟩:=ih _ _ _ h2 h
  refine⟨some (s.nx,fx)::es,s',by simp [g1],⟨⟨eB hd,hg,hx,fun k _=>LS.free hok (by omega)⟩,?_⟩,?_,g4,g5⟩
  ·rw[h1]at g2;exact g2
  ·simpa[aP]using g3
 have fin2:a9K (mF P (X5 ops) (O7 ops []) rest) o.dst s log N (stepC P o.op s.t s.h s.nx)→
   ∃es s',es.length=rest.length+1∧oV P ops.toArray (o::rest) s.o4 es s'.o4∧dQ (O7 ops []) (log++es.map aP)=true∧N s'∧s'.ok:=by
  intro h
  cases hst:stepC P o.op s.t s.h s.nx with
  |none=>rw[hst]at h;exact h.elim
  |some p=>
   obtain⟨c,fx⟩:=p
   rw[hst]at h
   exact fin fx (rN hst h.1) h.2
 unfold P7 at h
 split at h
 ·rename_i c ho
  split at h
  ·rename_i fv hfv
   have key:∀f zs,iG (LS.ev s.t fv) (c.args.toList.map (LS.ev s.t))=some (f,zs)→eT P (mF P (X5 ops) (O7 ops []) rest) o.dst s log N f zs→
     ∃es s',es.length=rest.length+1∧oV P ops.toArray (o::rest) s.o4 es s'.o4∧dQ (O7 ops []) (log++es.map aP)=true∧N s'∧s'.ok:=by
    intro f zs hf h
    have e:s.o4.ev=LS.ev s.t:=funext fun x=>LS.jR s x
    rcases h with⟨n,ys,h1,y,rows,h2,h3,lend,hlend,h4⟩|⟨fx,hX,h4⟩
    ·refine fin _ ?_ h4
     unfold ex
     rw[ho]
     simp only[hfv]
     rw[e]
     exact .inl ⟨f,zs,hf,n,ys,h1,y,rows,h2,h3,lend,hlend,rfl⟩
    ·refine fin fx ?_ h4
     unfold ex
     rw[ho]
     simp only[hfv]
     rw[e]
     exact .inr ⟨f,zs,hf,hX⟩
   unfold s9 at h
   split at h
   ·rename_i f W7 hf;exact key _ _ (by rw[hf];rfl) h
   ·rename_i f W7 hf;exact key _ _ (by rw[hf];rfl) h
   ·exact h.elim
  ·exact fin2 h
 ·exact fin2 h
theorem yP[j5 P]{ops:List Oper}:∀(l:List Oper) (s:LS) (log:oT) (N:LS→Prop),s.ok→mF P (X5 ops) (O7 ops []) l s log N→
  ∃es s',es.length=l.length∧oV P ops.toArray l s.o4 es s'.o4∧dQ (O7 ops []) (log++es.map aP)=true∧N s'∧s'.ok:=by
 intro l
 induction l with
 |nil=>intro s log N hok h;exact⟨[],s,rfl,rfl,by simpa using h.1,h.2,hok⟩
 |cons o rest ih=>
  intro s log N hok h
  simp only[mF,a3x]at h
  split at h
  ·rename_i hg
   exact a2V hok h.1 (by unfold gA;rw[hg]) ih h.2
  ·rename_i j want hg
   split at h
   ·rename_i g hg2
    unfold gdD at h
    split at h
    ·rename_i b hb
     unfold gdT at h
     have hgA:gA ops.toArray o s.o4=some (b==want):=by
      unfold gA
      rw[hg]
      simp only[List.getElem?_toArray,hg2]
      have:s.o4.t g= .v (.bool b):=hb
      rw[this]
     by_cases hbw:b=want
     ·obtain⟨h1,h2⟩:=h.1 hbw
      rw[oF (by rw[hb,hbw])]at h2
      exact a2V hok h1 (by rw[hgA,hbw];simp) ih h2
     ·have hbn:b= !want:=by cases b<;>cases want<;>simp_all
      obtain⟨h1,h2⟩:=h.2 hbn
      rw[oF (by rw[hb,hbn])]at h2
      have hok':(s.put o.dst AV.kF).ok:=by cases hd:o.dst<;>exact hok
      obtain⟨es,s',g1,g2,g3,g4,g5⟩:=ih _ _ _ hok' h2
      refine⟨none::es,s',by simp [g1],⟨⟨eB h1,?_⟩,?_⟩,?_,g4,g5⟩
      ·simp only[hgA,hbn];cases want<;>rfl
      ·rw[LS.dO (eB h1)]at g2;exact g2
      ·simpa[aP]using g3
    ·rename_i cs hb
     obtain⟨h0,h1,h2⟩:=h
     have hgA:gA ops.toArray o s.o4=some false:=by
      unfold gA
      rw[hg]
      simp only[List.getElem?_toArray,hg2]
      have:s.o4.t g= .v (.tuple cs):=hb
      rw[this]
      simp [h0]
     have hok':(s.put o.dst AV.kF).ok:=by cases hd:o.dst<;>exact hok
     obtain⟨es,s',g1,g2,g3,g4,g5⟩:=ih _ _ _ hok' h2
     refine⟨none::es,s',by simp [g1],⟨⟨eB h1,hgA⟩,?_⟩,?_,g4,g5⟩
     ·rw[LS.dO (eB h1)]at g2;exact g2
     ·simpa[aP]using g3
    ·exact h.elim
   ·exact h.elim
theorem b1I {md:Bool} [j5 P] {id:Nat} {l:List Oper} {k:List KF} {s:LS} {K:Exit→LS→Prop} (hm:P.follows .mixedOrders=true) (hB:Region.lexB .any l.toArray=true)
  (h:∀N:LS→Prop,(∀s,X7 (md:=md) P K k .normal s→N s)→∀mk,O7 l []=mk→mF P (X5 l) mk l s [] N):AK (md:=md) P (.region id l.toArray true) k s K:=by
 intro m hmm G M0 w0 ρ a w Q hg R hQ
 obtain⟨es,s',h1,h2,h3,h4,h5⟩:=yP l s [] _ R.2 (h _ (fun _ k=>k) _ rfl)
 refine a9G m hg hm R.1 hB ?_ h2 fun ρ' a' w' R'=>hQ [] _ _ _ _ _ .nil h4 (by rw[aU];exact⟨R',h5⟩)
 intro i j hij hj hnd
 simp only[List.nil_append,dQ,List.length_map,List.all_eq_true,List.mem_range,Bool.or_eq_true]at h3
 rcases h3 j (by omega) i hij with g|g
 ·exact absurd g hnd
 ·have e:∀i,i<es.length→(es.map aP).getD i none=aP (es.getD i none):=by
   intro i hi
   simp [List.getD_eq_getElem?_getD,hi]
  rw[e i (by omega),e j (by omega)]at g
  exact a7D g
end
section
variable {P:Program} {ops:List (Option Tmp)} {mk:List Nat} {s:LS} {log:oT} {N:LS→Prop}
theorem a8J[j5 P]:mF P ops mk [] s log N=(dQ mk log=true∧N s):=rfl
theorem a3r[j5 P]{o:Oper}{rest:List Oper}:mF P ops mk (o::rest) s log N=(match o.guard with
  |none=>S7 s o.dst∧P7 P (mF P ops mk rest) o.dst o.op s log N
  |some (j,want)=>match ops.getD j none with
   |some g=>gdD P (mF P ops mk rest) o.dst o.op s log N want g (LS.tf s.t g)
   |none=>False):=rfl
theorem a3M [j5 P] {rest:LS→oT→(LS→Prop)→Prop} {d:Option Tmp} {f:FuncId} {xs ys:List AV} {y:AV} (C:e8 P f ys (fun _=>y) (fun _=>[]))
  (h1:xs.mapM (u6 (LS.hf s.h) 6)=some ys) (h2:xs.flatMap (a6 (LS.hf s.h) 6)=[]) (h:rest (s.cI d ⟨y,[],none,[],none,[]⟩) (log++[some (s.nx,[])]) N):eT P rest d s log N f xs:=
 .inl ⟨6,ys,h1,_,_,C,Nat.zero_le 8,false,(fun h=>nomatch h),by rw[h2];exact h⟩
theorem F1 [j5 P] {rest:LS→oT→(LS→Prop)→Prop} {d:Option Tmp} {f:FuncId} {xs ys:List AV} {y:Nat→AV} {rows:Nat→List Row} (C:e8 P f ys y rows) {ids:List (Nat×Nat)}
  (h1:xs.mapM (u6 (LS.hf s.h) 6)=some ys) (h2:xs.flatMap (a6 (LS.hf s.h) 6)=ids) (hr:(rows s.nx).length≤8)
  (h:rest (s.cI d ⟨y s.nx,ids.map (fun p=>(p.1,none,true)),none,ids,none,rows s.nx⟩) (log++[some (s.nx,ids.map (fun p=>(p.1,none,true)))]) N):eT P rest d s log N f xs:=
 .inl ⟨6,ys,h1,_,_,C,hr,false,(fun h=>nomatch h),by rw[h2];exact h⟩
theorem bL [j5 P] {rest:LS→oT→(LS→Prop)→Prop} {d:Option Tmp} {f:FuncId} {xs ys:List AV} {y:AV} (C:e8 P f ys (fun _=>y) (fun _=>[])) (hy:y.flat=true) {ids:List (Nat×Nat)}
  (h1:xs.mapM (u6 (LS.hf s.h) 6)=some ys) (h2:xs.flatMap (a6 (LS.hf s.h) 6)=ids)
  (h:rest (s.cI d ⟨y,ids.map (fun p=>(p.1,none,false)),none,[],none,[]⟩) (log++[some (s.nx,ids.map (fun p=>(p.1,none,false)))]) N):eT P rest d s log N f xs:=
 .inl ⟨6,ys,h1,_,_,C,Nat.zero_le 8,true,(fun _=>⟨rfl,hy⟩),by rw[h2];exact h⟩
theorem wQ [j5 P] {rest:LS→oT→(LS→Prop)→Prop} {d:Option Tmp} {f:FuncId} {xs:List AV} {y:AV} (C:e8 P f xs (fun _=>y) (fun _=>[]))
  (hx:xs.all (AV.fixed 6)=true) (h:rest (s.cI d ⟨y,[],none,[],none,[]⟩) (log++[some (s.nx,[])]) N):eT P rest d s log N f xs:=
 a3M C (fA (fun x hx=>(kN _ 6 x hx).1) _ hx) (aV (fun x hx=>(kN _ 6 x hx).2) _ hx) h
end
theorem c2b(x:Value):AV.one (.v x)=x.oneCell':=rfl
theorem a8r:AV.one .Z=false:=rfl
theorem b2f(cs:List AV):AV.one (.agg cs)=false:=rfl
theorem b2l(cs:List AV):AV.one (.O2 cs)=false:=rfl
theorem a8q:AV.one .L6=true:=rfl
theorem b2h(c:Bool)(es:List (List AV)):AV.one (.a8 c es)=true:=rfl
theorem b2g(es:List (List AV))(i k:Nat):AV.one (.aA es i k)=true:=rfl
theorem b2i(id off n:Nat):AV.one (.own id off n)=true:=rfl
theorem b2j(id i k:Nat):AV.one (.ptr id i k)=true:=rfl
theorem b2k(id i k:Nat):AV.one (.dX id i k)=true:=rfl
theorem b7B(f:FuncId)(cs:List AV):AV.one (.fn f cs)=true:=rfl
structure W0 (p:Prop):Prop where
 out:p
end
end Go.Ab
end
section
namespace Go.Proofs.YtgdoiokalfhjoaaGreatDoor
open Go.Ab
def T2:TI:=⟨1,false,8,[(.int .i64 0)]⟩
theorem b0X:T2.size=1:=rfl
theorem b5o:T2.agg=false:=rfl
theorem a5I:T2.bytes=8:=rfl
theorem b0Y:T2.zero.map AV.w6=[.v (.int .i64 0)]:=rfl
theorem c5B:ti Tryz.prog 2=some T2:=by kernel_rfl
def T3:TI:=⟨1,false,8,[(.int .i64 0)]⟩
theorem b07:T3.size=1:=rfl
theorem b5w:T3.agg=false:=rfl
theorem a57:T3.bytes=8:=rfl
theorem b08:T3.zero.map AV.w6=[.v (.int .i64 0)]:=rfl
theorem c5C:ti Tryz.prog 3=some T3:=by kernel_rfl
def T4:TI:=⟨1,false,1,[(.bool false)]⟩
theorem b1f:T4.size=1:=rfl
theorem b5x:T4.agg=false:=rfl
theorem a6l:T4.bytes=1:=rfl
theorem b1g:T4.zero.map AV.w6=[.v (.bool false)]:=rfl
theorem c5D:ti Tryz.prog 4=some T4:=by kernel_rfl
def T5:TI:=⟨1,false,1,[(.int .u8 0)]⟩
theorem b1m:T5.size=1:=rfl
theorem b5y:T5.agg=false:=rfl
theorem a6w:T5.bytes=1:=rfl
theorem b1n:T5.zero.map AV.w6=[.v (.int .u8 0)]:=rfl
theorem c5E:ti Tryz.prog 5=some T5:=by kernel_rfl
def T9:TI:=⟨1,false,16,[(.string ⟨#[]⟩)]⟩
theorem b1B:T9.size=1:=rfl
theorem b5A:T9.agg=false:=rfl
theorem a6X:T9.bytes=16:=rfl
theorem b1C:T9.zero.map AV.w6=[.v (.string ⟨#[]⟩)]:=rfl
theorem c5F:ti Tryz.prog 9=some T9:=by kernel_rfl
def T21:TI:=⟨1,false,4,[(.int .i32 0)]⟩
theorem a5f:T21.size=1:=rfl
theorem b0R:T21.agg=false:=rfl
theorem a09:T21.bytes=4:=rfl
theorem a5g:T21.zero.map AV.w6=[.v (.int .i32 0)]:=rfl
theorem c2Q:ti Tryz.prog 21=some T21:=by kernel_rfl
def T22:TI:=⟨1,false,24,[(.slice none 0 0)]⟩
theorem a5j:T22.size=1:=rfl
theorem b0S:T22.agg=false:=rfl
theorem a1e:T22.bytes=24:=rfl
theorem a5k:T22.zero.map AV.w6=[.a8 true []]:=rfl
theorem c2R:ti Tryz.prog 22=some T22:=by kernel_rfl
def T24:TI:=⟨1,true,24,[(.slice none 0 0)]⟩
theorem a5o:T24.size=1:=rfl
theorem b0T:T24.agg=true:=rfl
theorem a1l:T24.bytes=24:=rfl
theorem a5p:T24.zero.map AV.w6=[.a8 true []]:=rfl
theorem c2S:ti Tryz.prog 24=some T24:=by kernel_rfl
def T25:TI:=⟨1,false,2,[(.int .u16 0)]⟩
theorem a5t:T25.size=1:=rfl
theorem b0U:T25.agg=false:=rfl
theorem a1s:T25.bytes=2:=rfl
theorem a5u:T25.zero.map AV.w6=[.v (.int .u16 0)]:=rfl
theorem c2T:ti Tryz.prog 25=some T25:=by kernel_rfl
def T26:TI:=⟨1,false,1,[(.int .i8 0)]⟩
theorem a5z:T26.size=1:=rfl
theorem b0V:T26.agg=false:=rfl
theorem a1B:T26.bytes=1:=rfl
theorem a5A:T26.zero.map AV.w6=[.v (.int .i8 0)]:=rfl
theorem c2U:ti Tryz.prog 26=some T26:=by kernel_rfl
def T28:TI:=⟨5,true,56,[(.slice none 0 0),(.slice none 0 0),(.int .u16 0),(.int .i8 0),(.int .i8 0)]⟩
theorem a5F:T28.size=5:=rfl
theorem b0W:T28.agg=true:=rfl
theorem a1K:T28.bytes=56:=rfl
theorem a5G:T28.zero.map AV.w6=[.a8 true [],.a8 true [],.v (.int .u16 0),.v (.int .i8 0),.v (.int .i8 0)]:=rfl
theorem c2V:ti Tryz.prog 28=some T28:=by kernel_rfl
def T30:TI:=⟨3,true,24,[(.int .i64 0),(.int .i64 0),(.int .i32 0)]⟩
theorem a5L:T30.size=3:=rfl
theorem b00:T30.agg=true:=rfl
theorem a1R:T30.bytes=24:=rfl
theorem a5M:T30.zero.map AV.w6=[.v (.int .i64 0),.v (.int .i64 0),.v (.int .i32 0)]:=rfl
theorem c2W:ti Tryz.prog 30=some T30:=by kernel_rfl
def T32:TI:=⟨6,true,40,[(.int .u8 0),(.int .u8 0),(.int .i64 0),(.int .i64 0),(.int .i32 0),(.int .i64 0)]⟩
theorem a5N:T32.size=6:=rfl
theorem b01:T32.agg=true:=rfl
theorem a1S:T32.bytes=40:=rfl
theorem a5O:T32.zero.map AV.w6=[.v (.int .u8 0),.v (.int .u8 0),.v (.int .i64 0),.v (.int .i64 0),.v (.int .i32 0),.v (.int .i64 0)]:=rfl
theorem c2X:ti Tryz.prog 32=some T32:=by kernel_rfl
def T33:TI:=⟨12,true,80,[(.int .u8 0),(.int .u8 0),(.int .i64 0),(.int .i64 0),(.int .i32 0),(.int .i64 0),(.int .u8 0),(.int .u8 0),(.int .i64 0),(.int .i64 0),(.int .i32 0),(.int .i64 0)]⟩
theorem a5Q:T33.size=12:=rfl
theorem b02:T33.agg=true:=rfl
theorem a1V:T33.bytes=80:=rfl
theorem a5R:T33.zero.map AV.w6=[.v (.int .u8 0),.v (.int .u8 0),.v (.int .i64 0),.v (.int .i64 0),.v (.int .i32 0),.v (.int .i64 0),.v (.int .u8 0),.v (.int .u8 0),.v (.int .i64 0),.v (.int .i64 0),.v (.int .i32 0),.v (.int .i64 0)]:=rfl
theorem c2Y:ti Tryz.prog 33=some T33:=by kernel_rfl
def T34:TI:=⟨2,true,16,[(.int .i64 0),(.int .i64 0)]⟩
theorem a5W:T34.size=2:=rfl
theorem b03:T34.agg=true:=rfl
theorem a14:T34.bytes=16:=rfl
theorem a5X:T34.zero.map AV.w6=[.v (.int .i64 0),.v (.int .i64 0)]:=rfl
theorem c2Z:ti Tryz.prog 34=some T34:=by kernel_rfl
def T36:TI:=⟨1,false,24,[(.slice none 0 0)]⟩
theorem a5Y:T36.size=1:=rfl
theorem b04:T36.agg=false:=rfl
theorem a15:T36.bytes=24:=rfl
theorem a5Z:T36.zero.map AV.w6=[.a8 true []]:=rfl
theorem c20:ti Tryz.prog 36=some T36:=by kernel_rfl
def T37:TI:=⟨1,false,24,[(.slice none 0 0)]⟩
theorem a50:T37.size=1:=rfl
theorem b05:T37.agg=false:=rfl
theorem a16:T37.bytes=24:=rfl
theorem a52:T37.zero.map AV.w6=[.a8 true []]:=rfl
theorem c21:ti Tryz.prog 37=some T37:=by kernel_rfl
def T38:TI:=⟨1,false,24,[(.slice none 0 0)]⟩
theorem a55:T38.size=1:=rfl
theorem b06:T38.agg=false:=rfl
theorem a17:T38.bytes=24:=rfl
theorem a56:T38.zero.map AV.w6=[.a8 true []]:=rfl
theorem c22:ti Tryz.prog 38=some T38:=by kernel_rfl
def T40:TI:=⟨8,true,112,[(.int .i64 0),(.int .i64 0),(.int .i64 0),(.int .i64 0),(.int .i64 0),(.slice none 0 0),(.slice none 0 0),(.slice none 0 0)]⟩
theorem a58:T40.size=8:=rfl
theorem b09:T40.agg=true:=rfl
theorem a18:T40.bytes=112:=rfl
theorem a6a:T40.zero.map AV.w6=[.v (.int .i64 0),.v (.int .i64 0),.v (.int .i64 0),.v (.int .i64 0),.v (.int .i64 0),.a8 true [],.a8 true [],.a8 true []]:=rfl
theorem c23:ti Tryz.prog 40=some T40:=by kernel_rfl
def T41:TI:=⟨1,false,24,[(.slice none 0 0)]⟩
theorem a6b:T41.size=1:=rfl
theorem b1a:T41.agg=false:=rfl
theorem a19:T41.bytes=24:=rfl
theorem a6c:T41.zero.map AV.w6=[.a8 true []]:=rfl
theorem c24:ti Tryz.prog 41=some T41:=by kernel_rfl
def T43:TI:=⟨2,true,48,[(.slice none 0 0),(.slice none 0 0)]⟩
theorem a6d:T43.size=2:=rfl
theorem b1b:T43.agg=true:=rfl
theorem a2a:T43.bytes=48:=rfl
theorem a6e:T43.zero.map AV.w6=[.a8 true [],.a8 true []]:=rfl
theorem c25:ti Tryz.prog 43=some T43:=by kernel_rfl
def T44:TI:=⟨1,false,24,[(.slice none 0 0)]⟩
theorem a6f:T44.size=1:=rfl
theorem b1c:T44.agg=false:=rfl
theorem a2b:T44.bytes=24:=rfl
theorem a6g:T44.zero.map AV.w6=[.a8 true []]:=rfl
theorem c26:ti Tryz.prog 44=some T44:=by kernel_rfl
def T46:TI:=⟨2,true,48,[(.slice none 0 0),(.slice none 0 0)]⟩
theorem a6h:T46.size=2:=rfl
theorem b1d:T46.agg=true:=rfl
theorem a2c:T46.bytes=48:=rfl
theorem a6i:T46.zero.map AV.w6=[.a8 true [],.a8 true []]:=rfl
theorem c27:ti Tryz.prog 46=some T46:=by kernel_rfl
def T48:TI:=⟨3,true,24,[(.int .i64 0),(.int .i64 0),(.int .i64 0)]⟩
theorem a6j:T48.size=3:=rfl
theorem b1e:T48.agg=true:=rfl
theorem a2d:T48.bytes=24:=rfl
theorem a6k:T48.zero.map AV.w6=[.v (.int .i64 0),.v (.int .i64 0),.v (.int .i64 0)]:=rfl
theorem c28:ti Tryz.prog 48=some T48:=by kernel_rfl
def T50:TI:=⟨15,true,232,[(.int .i64 0),(.int .i64 0),(.int .i64 0),(.int .i64 0),(.int .i64 0),(.slice none 0 0),(.slice none 0 0),(.slice none 0 0),(.slice none 0 0),(.slice none 0 0),(.slice none 0 0),(.slice none 0 0),(.int .i64 0),(.int .i64 0),(.int .i64 0)]⟩
theorem a6m:T50.size=15:=rfl
theorem b1h:T50.agg=true:=rfl
theorem a2e:T50.bytes=232:=rfl
theorem a6n:T50.zero.map AV.w6=[.v (.int .i64 0),.v (.int .i64 0),.v (.int .i64 0),.v (.int .i64 0),.v (.int .i64 0),.a8 true [],.a8 true [],.a8 true [],.a8 true [],.a8 true [],.a8 true [],.a8 true [],.v (.int .i64 0),.v (.int .i64 0),.v (.int .i64 0)]:=rfl
theorem c29:ti Tryz.prog 50=some T50:=by kernel_rfl
def T52:TI:=⟨1,false,24,[(.slice none 0 0)]⟩
theorem a6o:T52.size=1:=rfl
theorem b1i:T52.agg=false:=rfl
theorem a2f:T52.bytes=24:=rfl
theorem a6p:T52.zero.map AV.w6=[.a8 true []]:=rfl
theorem c3a:ti Tryz.prog 52=some T52:=by kernel_rfl
def T54:TI:=⟨3,true,40,[(.slice none 0 0),(.int .i64 0),(.int .i64 0)]⟩
theorem a6q:T54.size=3:=rfl
theorem b1j:T54.agg=true:=rfl
theorem a2g:T54.bytes=40:=rfl
theorem a6r:T54.zero.map AV.w6=[.a8 true [],.v (.int .i64 0),.v (.int .i64 0)]:=rfl
theorem c3b:ti Tryz.prog 54=some T54:=by kernel_rfl
def T55:TI:=⟨1,false,8,[(.int .i64 0)]⟩
theorem a6s:T55.size=1:=rfl
theorem b1k:T55.agg=false:=rfl
theorem a2h:T55.bytes=8:=rfl
theorem a6t:T55.zero.map AV.w6=[.v (.int .i64 0)]:=rfl
theorem c3c:ti Tryz.prog 55=some T55:=by kernel_rfl
def T57:TI:=⟨4,true,48,[(.slice none 0 0),(.int .i64 0),(.int .i64 0),(.int .i64 0)]⟩
theorem a6u:T57.size=4:=rfl
theorem b1l:T57.agg=true:=rfl
theorem a2i:T57.bytes=48:=rfl
theorem a6v:T57.zero.map AV.w6=[.a8 true [],.v (.int .i64 0),.v (.int .i64 0),.v (.int .i64 0)]:=rfl
theorem c3d:ti Tryz.prog 57=some T57:=by kernel_rfl
def T64:TI:=⟨2,true,2,[(.int .u8 0),(.int .u8 0)]⟩
theorem a6x:T64.size=2:=rfl
theorem b1o:T64.agg=true:=rfl
theorem a2j:T64.bytes=2:=rfl
theorem a6y:T64.zero.map AV.w6=[.v (.int .u8 0),.v (.int .u8 0)]:=rfl
theorem c3e:ti Tryz.prog 64=some T64:=by kernel_rfl
def T71:TI:=⟨1,false,24,[(.slice none 0 0)]⟩
theorem a6z:T71.size=1:=rfl
theorem b1p:T71.agg=false:=rfl
theorem a2k:T71.bytes=24:=rfl
theorem a6A:T71.zero.map AV.w6=[.a8 true []]:=rfl
theorem c3f:ti Tryz.prog 71=some T71:=by kernel_rfl
def T73:TI:=⟨13,true,104,[(.int .i64 0),(.int .i64 0),(.int .i64 0),(.int .i64 0),(.int .i32 0),(.int .i64 0),(.int .i64 0),(.int .i32 0),(.int .i64 0),(.int .i64 0),(.int .i32 0),(.int .i64 0),(.int .i64 0)]⟩
theorem a6B:T73.size=13:=rfl
theorem b1q:T73.agg=true:=rfl
theorem a2l:T73.bytes=104:=rfl
theorem a6C:T73.zero.map AV.w6=[.v (.int .i64 0),.v (.int .i64 0),.v (.int .i64 0),.v (.int .i64 0),.v (.int .i32 0),.v (.int .i64 0),.v (.int .i64 0),.v (.int .i32 0),.v (.int .i64 0),.v (.int .i64 0),.v (.int .i32 0),.v (.int .i64 0),.v (.int .i64 0)]:=rfl
theorem c3g:ti Tryz.prog 73=some T73:=by kernel_rfl
def T75:TI:=⟨14,true,128,[(.slice none 0 0),(.int .i64 0),(.int .i64 0),(.int .i64 0),(.int .i64 0),(.int .i32 0),(.int .i64 0),(.int .i64 0),(.int .i32 0),(.int .i64 0),(.int .i64 0),(.int .i32 0),(.int .i64 0),(.int .i64 0)]⟩
theorem a6D:T75.size=14:=rfl
theorem b1r:T75.agg=true:=rfl
theorem a2m:T75.bytes=128:=rfl
theorem a6E:T75.zero.map AV.w6=[.a8 true [],.v (.int .i64 0),.v (.int .i64 0),.v (.int .i64 0),.v (.int .i64 0),.v (.int .i32 0),.v (.int .i64 0),.v (.int .i64 0),.v (.int .i32 0),.v (.int .i64 0),.v (.int .i64 0),.v (.int .i32 0),.v (.int .i64 0),.v (.int .i64 0)]:=rfl
theorem c3h:ti Tryz.prog 75=some T75:=by kernel_rfl
def T77:TI:=⟨15,true,120,[(.int .i64 0),(.int .i64 0),(.int .i64 0),(.int .i64 0),(.int .i64 0),(.int .i32 0),(.int .i64 0),(.int .i64 0),(.int .i32 0),(.int .i64 0),(.int .i64 0),(.int .i32 0),(.int .i64 0),(.int .i64 0),(.int .i32 0)]⟩
theorem a6F:T77.size=15:=rfl
theorem b1s:T77.agg=true:=rfl
theorem a2n:T77.bytes=120:=rfl
theorem a6G:T77.zero.map AV.w6=[.v (.int .i64 0),.v (.int .i64 0),.v (.int .i64 0),.v (.int .i64 0),.v (.int .i64 0),.v (.int .i32 0),.v (.int .i64 0),.v (.int .i64 0),.v (.int .i32 0),.v (.int .i64 0),.v (.int .i64 0),.v (.int .i32 0),.v (.int .i64 0),.v (.int .i64 0),.v (.int .i32 0)]:=rfl
theorem c3i:ti Tryz.prog 77=some T77:=by kernel_rfl
def T81:TI:=⟨1,false,24,[(.slice none 0 0)]⟩
theorem a6H:T81.size=1:=rfl
theorem b1t:T81.agg=false:=rfl
theorem a2o:T81.bytes=24:=rfl
theorem a6I:T81.zero.map AV.w6=[.a8 true []]:=rfl
theorem c3j:ti Tryz.prog 81=some T81:=by kernel_rfl
def T83:TI:=⟨8,true,8,[(.int .i8 0),(.int .i8 0),(.int .i8 0),(.int .i8 0),(.int .i8 0),(.int .i8 0),(.int .i8 0),(.int .i8 0)]⟩
theorem a6J:T83.size=8:=rfl
theorem b1u:T83.agg=true:=rfl
theorem a2p:T83.bytes=8:=rfl
theorem a6K:T83.zero.map AV.w6=[.v (.int .i8 0),.v (.int .i8 0),.v (.int .i8 0),.v (.int .i8 0),.v (.int .i8 0),.v (.int .i8 0),.v (.int .i8 0),.v (.int .i8 0)]:=rfl
theorem c3k:ti Tryz.prog 83=some T83:=by kernel_rfl
def T84:TI:=⟨4,true,4,[(.int .i8 0),(.int .i8 0),(.int .i8 0),(.int .i8 0)]⟩
theorem a6L:T84.size=4:=rfl
theorem b1v:T84.agg=true:=rfl
theorem a2q:T84.bytes=4:=rfl
theorem a6M:T84.zero.map AV.w6=[.v (.int .i8 0),.v (.int .i8 0),.v (.int .i8 0),.v (.int .i8 0)]:=rfl
theorem c3l:ti Tryz.prog 84=some T84:=by kernel_rfl
def T86:TI:=⟨13,true,13,[(.int .u8 0),(.int .i8 0),(.int .i8 0),(.int .i8 0),(.int .i8 0),(.int .i8 0),(.int .i8 0),(.int .i8 0),(.int .i8 0),(.int .i8 0),(.int .i8 0),(.int .i8 0),(.int .i8 0)]⟩
theorem a6N:T86.size=13:=rfl
theorem b1w:T86.agg=true:=rfl
theorem a2r:T86.bytes=13:=rfl
theorem a6O:T86.zero.map AV.w6=[.v (.int .u8 0),.v (.int .i8 0),.v (.int .i8 0),.v (.int .i8 0),.v (.int .i8 0),.v (.int .i8 0),.v (.int .i8 0),.v (.int .i8 0),.v (.int .i8 0),.v (.int .i8 0),.v (.int .i8 0),.v (.int .i8 0),.v (.int .i8 0)]:=rfl
theorem c3m:ti Tryz.prog 86=some T86:=by kernel_rfl
def T87:TI:=⟨1,false,24,[(.slice none 0 0)]⟩
theorem a6P:T87.size=1:=rfl
theorem b1x:T87.agg=false:=rfl
theorem a2s:T87.bytes=24:=rfl
theorem a6Q:T87.zero.map AV.w6=[.a8 true []]:=rfl
theorem c3n:ti Tryz.prog 87=some T87:=by kernel_rfl
def T91:TI:=⟨2,true,32,[(.int .i64 0),(.slice none 0 0)]⟩
theorem a6R:T91.size=2:=rfl
theorem b1y:T91.agg=true:=rfl
theorem a2t:T91.bytes=32:=rfl
theorem a6S:T91.zero.map AV.w6=[.v (.int .i64 0),.a8 true []]:=rfl
theorem c3o:ti Tryz.prog 91=some T91:=by kernel_rfl
def T94:TI:=⟨1,false,24,[(.slice none 0 0)]⟩
theorem a6T:T94.size=1:=rfl
theorem b1z:T94.agg=false:=rfl
theorem a2u:T94.bytes=24:=rfl
theorem a6U:T94.zero.map AV.w6=[.a8 true []]:=rfl
theorem c3p:ti Tryz.prog 94=some T94:=by kernel_rfl
def T96:TI:=⟨7,true,104,[(.int .i64 0),(.int .i64 0),(.int .i64 0),(.int .i64 0),(.slice none 0 0),(.slice none 0 0),(.slice none 0 0)]⟩
theorem a6V:T96.size=7:=rfl
theorem b1A:T96.agg=true:=rfl
theorem a2v:T96.bytes=104:=rfl
theorem a6W:T96.zero.map AV.w6=[.v (.int .i64 0),.v (.int .i64 0),.v (.int .i64 0),.v (.int .i64 0),.a8 true [],.a8 true [],.a8 true []]:=rfl
theorem c3q:ti Tryz.prog 96=some T96:=by kernel_rfl
def a9d:TI:=⟨1,false,24,[(.slice none 0 0)]⟩
theorem a0g:a9d.size=1:=rfl
theorem a4L:a9d.agg=false:=rfl
theorem tQ:a9d.bytes=24:=rfl
theorem a0h:a9d.zero.map AV.w6=[.a8 true []]:=rfl
theorem b84:ti Tryz.prog 104=some a9d:=by kernel_rfl
def b2J:TI:=⟨9,true,72,[(.int .i64 0),(.int .i64 0),(.int .i64 0),(.int .i64 0),(.int .i64 0),(.int .i64 0),(.int .i64 0),(.int .i64 0),(.int .i32 0)]⟩
theorem a0i:b2J.size=9:=rfl
theorem a4M:b2J.agg=true:=rfl
theorem tR:b2J.bytes=72:=rfl
theorem a0j:b2J.zero.map AV.w6=[.v (.int .i64 0),.v (.int .i64 0),.v (.int .i64 0),.v (.int .i64 0),.v (.int .i64 0),.v (.int .i64 0),.v (.int .i64 0),.v (.int .i64 0),.v (.int .i32 0)]:=rfl
theorem b85:ti Tryz.prog 108=some b2J:=by kernel_rfl
def b4U:TI:=⟨1,false,24,[(.slice none 0 0)]⟩
theorem a0k:b4U.size=1:=rfl
theorem a4N:b4U.agg=false:=rfl
theorem tS:b4U.bytes=24:=rfl
theorem a0l:b4U.zero.map AV.w6=[.a8 true []]:=rfl
theorem b86:ti Tryz.prog 110=some b4U:=by kernel_rfl
def b2K:TI:=⟨1,true,24,[(.slice none 0 0)]⟩
theorem a0m:b2K.size=1:=rfl
theorem a4O:b2K.agg=true:=rfl
theorem tT:b2K.bytes=24:=rfl
theorem a0n:b2K.zero.map AV.w6=[.a8 true []]:=rfl
theorem b87:ti Tryz.prog 113=some b2K:=by kernel_rfl
def b4V:TI:=⟨10,true,144,[(.int .i64 0),(.int .i64 0),(.int .i64 0),(.int .i64 0),(.int .i64 0),(.slice none 0 0),(.slice none 0 0),(.slice none 0 0),(.slice none 0 0),(.int .i64 0)]⟩
theorem a0o:b4V.size=10:=rfl
theorem a4P:b4V.agg=true:=rfl
theorem tU:b4V.bytes=144:=rfl
theorem a0p:b4V.zero.map AV.w6=[.v (.int .i64 0),.v (.int .i64 0),.v (.int .i64 0),.v (.int .i64 0),.v (.int .i64 0),.a8 true [],.a8 true [],.a8 true [],.a8 true [],.v (.int .i64 0)]:=rfl
theorem b88:ti Tryz.prog 115=some b4V:=by kernel_rfl
def b4W:TI:=⟨3,true,3,[(.int .u8 0),(.int .u8 0),(.int .u8 0)]⟩
theorem a0q:b4W.size=3:=rfl
theorem a4Q:b4W.agg=true:=rfl
theorem tV:b4W.bytes=3:=rfl
theorem a0r:b4W.zero.map AV.w6=[.v (.int .u8 0),.v (.int .u8 0),.v (.int .u8 0)]:=rfl
theorem b89:ti Tryz.prog 126=some b4W:=by kernel_rfl
def b4X:TI:=⟨1,false,8,[(.int .u64 0)]⟩
theorem a0s:b4X.size=1:=rfl
theorem a4R:b4X.agg=false:=rfl
theorem tW:b4X.bytes=8:=rfl
theorem a0t:b4X.zero.map AV.w6=[.v (.int .u64 0)]:=rfl
theorem b9a:ti Tryz.prog 127=some b4X:=by kernel_rfl
def b4Y:TI:=⟨18,true,48,[(.slice none 0 0),(.int .u8 0),(.int .i8 0),(.int .i8 0),(.int .i8 0),(.int .i8 0),(.int .i8 0),(.int .i8 0),(.int .i8 0),(.int .i8 0),(.int .i8 0),(.int .i8 0),(.int .i8 0),(.int .i8 0),(.int .u8 0),(.int .u8 0),(.int .i32 0),(.int .u8 0)]⟩
theorem a0u:b4Y.size=18:=rfl
theorem a4S:b4Y.agg=true:=rfl
theorem tX:b4Y.bytes=48:=rfl
theorem a0v:b4Y.zero.map AV.w6=[.a8 true [],.v (.int .u8 0),.v (.int .i8 0),.v (.int .i8 0),.v (.int .i8 0),.v (.int .i8 0),.v (.int .i8 0),.v (.int .i8 0),.v (.int .i8 0),.v (.int .i8 0),.v (.int .i8 0),.v (.int .i8 0),.v (.int .i8 0),.v (.int .i8 0),.v (.int .u8 0),.v (.int .u8 0),.v (.int .i32 0),.v (.int .u8 0)]:=rfl
theorem b9b:ti Tryz.prog 131=some b4Y:=by kernel_rfl
def b4Z:TI:=⟨11,true,184,[(.int .i64 0),(.int .i64 0),(.int .i64 0),(.int .i64 0),(.slice none 0 0),(.slice none 0 0),(.slice none 0 0),(.slice none 0 0),(.slice none 0 0),(.slice none 0 0),(.int .i64 0)]⟩
theorem a0w:b4Z.size=11:=rfl
theorem a4T:b4Z.agg=true:=rfl
theorem tY:b4Z.bytes=184:=rfl
theorem a0x:b4Z.zero.map AV.w6=[.v (.int .i64 0),.v (.int .i64 0),.v (.int .i64 0),.v (.int .i64 0),.a8 true [],.a8 true [],.a8 true [],.a8 true [],.a8 true [],.a8 true [],.v (.int .i64 0)]:=rfl
theorem b9c:ti Tryz.prog 133=some b4Z:=by kernel_rfl
def b40:TI:=⟨5,true,56,[(.slice none 0 0),(.int .i64 0),(.int .i64 0),(.int .i64 0),(.int .i64 0)]⟩
theorem a0y:b40.size=5:=rfl
theorem a4U:b40.agg=true:=rfl
theorem tZ:b40.bytes=56:=rfl
theorem a0z:b40.zero.map AV.w6=[.a8 true [],.v (.int .i64 0),.v (.int .i64 0),.v (.int .i64 0),.v (.int .i64 0)]:=rfl
theorem b9d:ti Tryz.prog 148=some b40:=by kernel_rfl
def b41:TI:=⟨1,false,8,[(.pointer none)]⟩
theorem a0A:b41.size=1:=rfl
theorem a4V:b41.agg=false:=rfl
theorem uA:b41.bytes=8:=rfl
theorem a0B:b41.zero.map AV.w6=[.v (.pointer none)]:=rfl
theorem b9e:ti Tryz.prog 150=some b41:=by kernel_rfl
def b2L:TI:=⟨1,false,8,[(.map none)]⟩
theorem a0C:b2L.size=1:=rfl
theorem a4W:b2L.agg=false:=rfl
theorem uB:b2L.bytes=8:=rfl
theorem a0D:b2L.zero.map AV.w6=[.v (.map none)]:=rfl
theorem b9f:ti Tryz.prog 156=some b2L:=by kernel_rfl
def b2M:TI:=⟨1,false,24,[(.slice none 0 0)]⟩
theorem a0E:b2M.size=1:=rfl
theorem a4X:b2M.agg=false:=rfl
theorem uC:b2M.bytes=24:=rfl
theorem a0F:b2M.zero.map AV.w6=[.a8 true []]:=rfl
theorem b9g:ti Tryz.prog 157=some b2M:=by kernel_rfl
def b42:TI:=⟨13,true,216,[(.int .i64 0),(.int .i64 0),(.int .i64 0),(.int .i64 0),(.int .i64 0),(.slice none 0 0),(.slice none 0 0),(.slice none 0 0),(.slice none 0 0),(.slice none 0 0),(.slice none 0 0),(.map none),(.slice none 0 0)]⟩
theorem a0G:b42.size=13:=rfl
theorem a4Y:b42.agg=true:=rfl
theorem uD:b42.bytes=216:=rfl
theorem a0H:b42.zero.map AV.w6=[.v (.int .i64 0),.v (.int .i64 0),.v (.int .i64 0),.v (.int .i64 0),.v (.int .i64 0),.a8 true [],.a8 true [],.a8 true [],.a8 true [],.a8 true [],.a8 true [],.v (.map none),.a8 true []]:=rfl
theorem b9h:ti Tryz.prog 159=some b42:=by kernel_rfl
def b43:TI:=⟨2,true,16,[(.int .i64 0),(.int .i64 0)]⟩
theorem a0I:b43.size=2:=rfl
theorem a4Z:b43.agg=true:=rfl
theorem uE:b43.bytes=16:=rfl
theorem a0J:b43.zero.map AV.w6=[.v (.int .i64 0),.v (.int .i64 0)]:=rfl
theorem b9i:ti Tryz.prog 161=some b43:=by kernel_rfl
def b2N:TI:=⟨1,false,8,[(.int .u64 0)]⟩
theorem a0K:b2N.size=1:=rfl
theorem a40:b2N.agg=false:=rfl
theorem uF:b2N.bytes=8:=rfl
theorem a0L:b2N.zero.map AV.w6=[.v (.int .u64 0)]:=rfl
theorem b9j:ti Tryz.prog 166=some b2N:=by kernel_rfl
def b2O:TI:=⟨4,true,32,[(.int .u64 0),(.int .u64 0),(.int .u64 0),(.int .u64 0)]⟩
theorem a0M:b2O.size=4:=rfl
theorem a41:b2O.agg=true:=rfl
theorem uG:b2O.bytes=32:=rfl
theorem a0N:b2O.zero.map AV.w6=[.v (.int .u64 0),.v (.int .u64 0),.v (.int .u64 0),.v (.int .u64 0)]:=rfl
theorem b9k:ti Tryz.prog 168=some b2O:=by kernel_rfl
def b2P:TI:=⟨4,true,40,[(.string ⟨#[]⟩),(.int .i64 0),(.int .i64 0),(.int .i64 0)]⟩
theorem a0O:b2P.size=4:=rfl
theorem a43:b2P.agg=true:=rfl
theorem uH:b2P.bytes=40:=rfl
theorem a0P:b2P.zero.map AV.w6=[.v (.string ⟨#[]⟩),.v (.int .i64 0),.v (.int .i64 0),.v (.int .i64 0)]:=rfl
theorem b9l:ti Tryz.prog 182=some b2P:=by kernel_rfl
def b2Q:TI:=⟨3,true,24,[(.int .i64 0),(.int .i64 0),(.int .i64 0)]⟩
theorem a0Q:b2Q.size=3:=rfl
theorem a45:b2Q.agg=true:=rfl
theorem uI:b2Q.bytes=24:=rfl
theorem a0R:b2Q.zero.map AV.w6=[.v (.int .i64 0),.v (.int .i64 0),.v (.int .i64 0)]:=rfl
theorem b9m:ti Tryz.prog 185=some b2Q:=by kernel_rfl
def b44:TI:=⟨1,false,8,[.nilFunc]⟩
theorem a0S:b44.size=1:=rfl
theorem a46:b44.agg=false:=rfl
theorem uJ:b44.bytes=8:=rfl
theorem a0T:b44.zero.map AV.w6=[.v .nilFunc]:=rfl
theorem b9n:ti Tryz.prog 188=some b44:=by kernel_rfl
def b45:TI:=⟨1,false,8,[(.pointer none)]⟩
theorem a0U:b45.size=1:=rfl
theorem a47:b45.agg=false:=rfl
theorem uK:b45.bytes=8:=rfl
theorem a0V:b45.zero.map AV.w6=[.v (.pointer none)]:=rfl
theorem b9o:ti Tryz.prog 197=some b45:=by kernel_rfl
def b2R:TI:=⟨1,false,8,[(.map none)]⟩
theorem a0W:b2R.size=1:=rfl
theorem a49:b2R.agg=false:=rfl
theorem uL:b2R.bytes=8:=rfl
theorem a0X:b2R.zero.map AV.w6=[.v (.map none)]:=rfl
theorem b9p:ti Tryz.prog 199=some b2R:=by kernel_rfl
def b46:TI:=⟨21,true,328,[(.int .i64 0),(.int .i64 0),(.int .i64 0),(.int .i64 0),(.int .i64 0),(.slice none 0 0),(.slice none 0 0),(.slice none 0 0),(.int .i64 0),(.slice none 0 0),(.int .i64 0),(.int .i64 0),(.int .i64 0),(.int .i64 0),(.slice none 0 0),(.slice none 0 0),(.slice none 0 0),(.slice none 0 0),(.slice none 0 0),(.slice none 0 0),(.map none)]⟩
theorem a0Y:b46.size=21:=rfl
theorem a5a:b46.agg=true:=rfl
theorem uM:b46.bytes=328:=rfl
theorem a0Z:b46.zero.map AV.w6=[.v (.int .i64 0),.v (.int .i64 0),.v (.int .i64 0),.v (.int .i64 0),.v (.int .i64 0),.a8 true [],.a8 true [],.a8 true [],.v (.int .i64 0),.a8 true [],.v (.int .i64 0),.v (.int .i64 0),.v (.int .i64 0),.v (.int .i64 0),.a8 true [],.a8 true [],.a8 true [],.a8 true [],.a8 true [],.a8 true [],.v (.map none)]:=rfl
theorem b9q:ti Tryz.prog 201=some b46:=by kernel_rfl
def b47:TI:=⟨1,false,8,[(.pointer none)]⟩
theorem a01:b47.size=1:=rfl
theorem a5b:b47.agg=false:=rfl
theorem uN:b47.bytes=8:=rfl
theorem a02:b47.zero.map AV.w6=[.v (.pointer none)]:=rfl
theorem b9r:ti Tryz.prog 204=some b47:=by kernel_rfl
def b48:TI:=⟨10,true,144,[(.slice none 0 0),(.int .i64 0),(.int .i64 0),(.int .i64 0),(.int .i64 0),(.int .i64 0),(.int .i64 0),(.slice none 0 0),(.slice none 0 0),(.slice none 0 0)]⟩
theorem a03:b48.size=10:=rfl
theorem a5c:b48.agg=true:=rfl
theorem uO:b48.bytes=144:=rfl
theorem a04:b48.zero.map AV.w6=[.a8 true [],.v (.int .i64 0),.v (.int .i64 0),.v (.int .i64 0),.v (.int .i64 0),.v (.int .i64 0),.v (.int .i64 0),.a8 true [],.a8 true [],.a8 true []]:=rfl
theorem b9s:ti Tryz.prog 206=some b48:=by kernel_rfl
def b5a:TI:=⟨1,false,8,[.nilFunc]⟩
theorem a05:b5a.size=1:=rfl
theorem a5d:b5a.agg=false:=rfl
theorem uP:b5a.bytes=8:=rfl
theorem a06:b5a.zero.map AV.w6=[.v .nilFunc]:=rfl
theorem b9t:ti Tryz.prog 214=some b5a:=by kernel_rfl
def b5b:TI:=⟨1,false,24,[(.slice none 0 0)]⟩
theorem a07:b5b.size=1:=rfl
theorem a5e:b5b.agg=false:=rfl
theorem uQ:b5b.bytes=24:=rfl
theorem a08:b5b.zero.map AV.w6=[.a8 true []]:=rfl
theorem b9u:ti Tryz.prog 216=some b5b:=by kernel_rfl
def b5c:TI:=⟨8,true,112,[(.int .i64 0),(.int .i64 0),(.int .i64 0),(.int .i64 0),(.slice none 0 0),(.slice none 0 0),(.slice none 0 0),(.int .i64 0)]⟩
theorem a1a:b5c.size=8:=rfl
theorem a5h:b5c.agg=true:=rfl
theorem uR:b5c.bytes=112:=rfl
theorem a1b:b5c.zero.map AV.w6=[.v (.int .i64 0),.v (.int .i64 0),.v (.int .i64 0),.v (.int .i64 0),.a8 true [],.a8 true [],.a8 true [],.v (.int .i64 0)]:=rfl
theorem b9v:ti Tryz.prog 221=some b5c:=by kernel_rfl
def b5d:TI:=⟨2,true,48,[(.slice none 0 0),(.slice none 0 0)]⟩
theorem a1c:b5d.size=2:=rfl
theorem a5i:b5d.agg=true:=rfl
theorem uS:b5d.bytes=48:=rfl
theorem a1d:b5d.zero.map AV.w6=[.a8 true [],.a8 true []]:=rfl
theorem b9w:ti Tryz.prog 225=some b5d:=by kernel_rfl
def b2S:TI:=⟨17,true,136,[(.int .i64 0),(.int .i64 0),(.int .i64 0),(.int .i64 0),(.int .i64 0),(.int .i64 0),(.int .i32 0),(.int .i64 0),(.int .i64 0),(.int .i32 0),(.int .i64 0),(.int .i64 0),(.int .i32 0),(.int .i64 0),(.int .i64 0),(.int .i32 0),(.bool false)]⟩
theorem a1f:b2S.size=17:=rfl
theorem a5l:b2S.agg=true:=rfl
theorem uT:b2S.bytes=136:=rfl
theorem a1g:b2S.zero.map AV.w6=[.v (.int .i64 0),.v (.int .i64 0),.v (.int .i64 0),.v (.int .i64 0),.v (.int .i64 0),.v (.int .i64 0),.v (.int .i32 0),.v (.int .i64 0),.v (.int .i64 0),.v (.int .i32 0),.v (.int .i64 0),.v (.int .i64 0),.v (.int .i32 0),.v (.int .i64 0),.v (.int .i64 0),.v (.int .i32 0),.v (.bool false)]:=rfl
theorem b9x:ti Tryz.prog 244=some b2S:=by kernel_rfl
def b2T:TI:=⟨1,false,24,[(.slice none 0 0)]⟩
theorem a1h:b2T.size=1:=rfl
theorem a5m:b2T.agg=false:=rfl
theorem uU:b2T.bytes=24:=rfl
theorem a1i:b2T.zero.map AV.w6=[.a8 true []]:=rfl
theorem b9y:ti Tryz.prog 246=some b2T:=by kernel_rfl
def b5e:TI:=⟨1,false,8,[.nilFunc]⟩
theorem a1j:b5e.size=1:=rfl
theorem a5n:b5e.agg=false:=rfl
theorem uV:b5e.bytes=8:=rfl
theorem a1k:b5e.zero.map AV.w6=[.v .nilFunc]:=rfl
theorem b9z:ti Tryz.prog 248=some b5e:=by kernel_rfl
def b5f:TI:=⟨1,false,8,[.nilFunc]⟩
theorem a1m:b5f.size=1:=rfl
theorem a5q:b5f.agg=false:=rfl
theorem uW:b5f.bytes=8:=rfl
theorem a1n:b5f.zero.map AV.w6=[.v .nilFunc]:=rfl
theorem b9A:ti Tryz.prog 255=some b5f:=by kernel_rfl
def b5g:TI:=⟨1,false,8,[.nilFunc]⟩
theorem a1o:b5g.size=1:=rfl
theorem a5r:b5g.agg=false:=rfl
theorem uX:b5g.bytes=8:=rfl
theorem a1p:b5g.zero.map AV.w6=[.v .nilFunc]:=rfl
theorem b9B:ti Tryz.prog 256=some b5g:=by kernel_rfl
def b5h:TI:=⟨1,false,24,[(.slice none 0 0)]⟩
theorem a1q:b5h.size=1:=rfl
theorem a5s:b5h.agg=false:=rfl
theorem uY:b5h.bytes=24:=rfl
theorem a1r:b5h.zero.map AV.w6=[.a8 true []]:=rfl
theorem b9C:ti Tryz.prog 259=some b5h:=by kernel_rfl
def b2U:TI:=⟨6,true,40,[(.int .i64 0),(.string ⟨#[]⟩),(.bool false),(.bool false),(.bool false),(.int .i64 0)]⟩
theorem a1t:b2U.size=6:=rfl
theorem a5v:b2U.agg=true:=rfl
theorem uZ:b2U.bytes=40:=rfl
theorem a1u:b2U.zero.map AV.w6=[.v (.int .i64 0),.v (.string ⟨#[]⟩),.v (.bool false),.v (.bool false),.v (.bool false),.v (.int .i64 0)]:=rfl
theorem b9D:ti Tryz.prog 263=some b2U:=by kernel_rfl
def b5i:TI:=⟨1,false,8,[.nilFunc]⟩
theorem a1v:b5i.size=1:=rfl
theorem a5w:b5i.agg=false:=rfl
theorem vA:b5i.bytes=8:=rfl
theorem a1w:b5i.zero.map AV.w6=[.v .nilFunc]:=rfl
theorem b9E:ti Tryz.prog 264=some b5i:=by kernel_rfl
def b2V:TI:=⟨1,false,8,[(.pointer none)]⟩
theorem a1x:b2V.size=1:=rfl
theorem a5x:b2V.agg=false:=rfl
theorem vB:b2V.bytes=8:=rfl
theorem a1y:b2V.zero.map AV.w6=[.v (.pointer none)]:=rfl
theorem b9F:ti Tryz.prog 266=some b2V:=by kernel_rfl
def b5j:TI:=⟨1,false,24,[(.slice none 0 0)]⟩
theorem a1z:b5j.size=1:=rfl
theorem a5y:b5j.agg=false:=rfl
theorem vC:b5j.bytes=24:=rfl
theorem a1A:b5j.zero.map AV.w6=[.a8 true []]:=rfl
theorem b9G:ti Tryz.prog 267=some b5j:=by kernel_rfl
def b5k:TI:=⟨1,false,8,[.nilFunc]⟩
theorem a1C:b5k.size=1:=rfl
theorem a5B:b5k.agg=false:=rfl
theorem vD:b5k.bytes=8:=rfl
theorem a1D:b5k.zero.map AV.w6=[.v .nilFunc]:=rfl
theorem b9H:ti Tryz.prog 274=some b5k:=by kernel_rfl
def a9e:TI:=⟨1,false,8,[(.map none)]⟩
theorem a1E:a9e.size=1:=rfl
theorem a5C:a9e.agg=false:=rfl
theorem vE:a9e.bytes=8:=rfl
theorem a1F:a9e.zero.map AV.w6=[.v (.map none)]:=rfl
theorem b9I:ti Tryz.prog 284=some a9e:=by kernel_rfl
def b5l:TI:=⟨1,false,8,[(.pointer none)]⟩
theorem a1G:b5l.size=1:=rfl
theorem a5D:b5l.agg=false:=rfl
theorem vF:b5l.bytes=8:=rfl
theorem a1H:b5l.zero.map AV.w6=[.v (.pointer none)]:=rfl
theorem b9J:ti Tryz.prog 285=some b5l:=by kernel_rfl
def b5m:TI:=⟨4,true,48,[(.map none),(.int .i64 0),(.slice none 0 0),(.map none)]⟩
theorem a1I:b5m.size=4:=rfl
theorem a5E:b5m.agg=true:=rfl
theorem vG:b5m.bytes=48:=rfl
theorem a1J:b5m.zero.map AV.w6=[.v (.map none),.v (.int .i64 0),.a8 true [],.v (.map none)]:=rfl
theorem b9K:ti Tryz.prog 287=some b5m:=by kernel_rfl
def b5n:TI:=⟨1,false,8,[(.pointer none)]⟩
theorem a1L:b5n.size=1:=rfl
theorem a5H:b5n.agg=false:=rfl
theorem vH:b5n.bytes=8:=rfl
theorem a1M:b5n.zero.map AV.w6=[.v (.pointer none)]:=rfl
theorem b9L:ti Tryz.prog 298=some b5n:=by kernel_rfl
def b5p:TI:=⟨1,false,8,[.nilFunc]⟩
theorem a1N:b5p.size=1:=rfl
theorem a5J:b5p.agg=false:=rfl
theorem vI:b5p.bytes=8:=rfl
theorem a1O:b5p.zero.map AV.w6=[.v .nilFunc]:=rfl
theorem b9M:ti Tryz.prog 304=some b5p:=by kernel_rfl
def b5q:TI:=⟨64,true,64,[(.int .u8 0),(.int .u8 0),(.int .u8 0),(.int .u8 0),(.int .u8 0),(.int .u8 0),(.int .u8 0),(.int .u8 0),(.int .u8 0),(.int .u8 0),(.int .u8 0),(.int .u8 0),(.int .u8 0),(.int .u8 0),(.int .u8 0),(.int .u8 0),(.int .u8 0),(.int .u8 0),(.int .u8 0),(.int .u8 0),(.int .u8 0),(.int .u8 0),(.int .u8 0),(.int .u8 0),(.int .u8 0),(.int .u8 0),(.int .u8 0),(.int .u8 0),(.int .u8 0),(.int .u8 0),(.int .u8 0),(.int .u8 0),(.int .u8 0),(.int .u8 0),(.int .u8 0),(.int .u8 0),(.int .u8 0),(.int .u8 0),(.int .u8 0),(.int .u8 0),(.int .u8 0),(.int .u8 0),(.int .u8 0),(.int .u8 0),(.int .u8 0),(.int .u8 0),(.int .u8 0),(.int .u8 0),(.int .u8 0),(.int .u8 0),(.int .u8 0),(.int .u8 0),(.int .u8 0),(.int .u8 0),(.int .u8 0),(.int .u8 0),(.int .u8 0),(.int .u8 0),(.int .u8 0),(.int .u8 0),(.int .u8 0),(.int .u8 0),(.int .u8 0),(.int .u8 0)]⟩
theorem a1P:b5q.size=64:=rfl
theorem a5K:b5q.agg=true:=rfl
theorem vJ:b5q.bytes=64:=rfl
theorem a1Q:b5q.zero.map AV.w6=[.v (.int .u8 0),.v (.int .u8 0),.v (.int .u8 0),.v (.int .u8 0),.v (.int .u8 0),.v (.int .u8 0),.v (.int .u8 0),.v (.int .u8 0),.v (.int .u8 0),.v (.int .u8 0),.v (.int .u8 0),.v (.int .u8 0),.v (.int .u8 0),.v (.int .u8 0),.v (.int .u8 0),.v (.int .u8 0),.v (.int .u8 0),.v (.int .u8 0),.v (.int .u8 0),.v (.int .u8 0),.v (.int .u8 0),.v (.int .u8 0),.v (.int .u8 0),.v (.int .u8 0),.v (.int .u8 0),.v (.int .u8 0),.v (.int .u8 0),.v (.int .u8 0),.v (.int .u8 0),.v (.int .u8 0),.v (.int .u8 0),.v (.int .u8 0),.v (.int .u8 0),.v (.int .u8 0),.v (.int .u8 0),.v (.int .u8 0),.v (.int .u8 0),.v (.int .u8 0),.v (.int .u8 0),.v (.int .u8 0),.v (.int .u8 0),.v (.int .u8 0),.v (.int .u8 0),.v (.int .u8 0),.v (.int .u8 0),.v (.int .u8 0),.v (.int .u8 0),.v (.int .u8 0),.v (.int .u8 0),.v (.int .u8 0),.v (.int .u8 0),.v (.int .u8 0),.v (.int .u8 0),.v (.int .u8 0),.v (.int .u8 0),.v (.int .u8 0),.v (.int .u8 0),.v (.int .u8 0),.v (.int .u8 0),.v (.int .u8 0),.v (.int .u8 0),.v (.int .u8 0),.v (.int .u8 0),.v (.int .u8 0)]:=rfl
theorem b9N:ti Tryz.prog 306=some b5q:=by kernel_rfl
def b5r:TI:=⟨1,false,4,[(.int .u32 0)]⟩
theorem a1T:b5r.size=1:=rfl
theorem a5P:b5r.agg=false:=rfl
theorem vK:b5r.bytes=4:=rfl
theorem a1U:b5r.zero.map AV.w6=[.v (.int .u32 0)]:=rfl
theorem b9O:ti Tryz.prog 336=some b5r:=by kernel_rfl
def b5s:TI:=⟨2,true,16,[(.int .i32 0),(.int .i64 0)]⟩
theorem a1W:b5s.size=2:=rfl
theorem a5S:b5s.agg=true:=rfl
theorem vL:b5s.bytes=16:=rfl
theorem a1X:b5s.zero.map AV.w6=[.v (.int .i32 0),.v (.int .i64 0)]:=rfl
theorem b9P:ti Tryz.prog 340=some b5s:=by kernel_rfl
def b5t:TI:=⟨2,true,16,[(.int .i32 0),(.int .i64 0)]⟩
theorem a1Y:b5t.size=2:=rfl
theorem a5T:b5t.agg=true:=rfl
theorem vM:b5t.bytes=16:=rfl
theorem a1Z:b5t.zero.map AV.w6=[.v (.int .i32 0),.v (.int .i64 0)]:=rfl
theorem b9Q:ti Tryz.prog 343=some b5t:=by kernel_rfl
def b5u:TI:=⟨2,true,48,[(.slice none 0 0),(.slice none 0 0)]⟩
theorem a10:b5u.size=2:=rfl
theorem a5U:b5u.agg=true:=rfl
theorem vN:b5u.bytes=48:=rfl
theorem a11:b5u.zero.map AV.w6=[.a8 true [],.a8 true []]:=rfl
theorem b9R:ti Tryz.prog 346=some b5u:=by kernel_rfl
def b5v:TI:=⟨1,false,8,[(.int .u64 0)]⟩
theorem a12:b5v.size=1:=rfl
theorem a5V:b5v.agg=false:=rfl
theorem vO:b5v.bytes=8:=rfl
theorem a13:b5v.zero.map AV.w6=[.v (.int .u64 0)]:=rfl
theorem b9S:ti Tryz.prog 348=some b5v:=by kernel_rfl
theorem c5w:td Tryz.prog 2=some (.int .i64):=by kernel_rfl
theorem c5x:td Tryz.prog 3=some (.int .i64):=by kernel_rfl
theorem c5y:td Tryz.prog 4=some .other:=by kernel_rfl
theorem c5z:td Tryz.prog 5=some (.int .u8):=by kernel_rfl
theorem c5A:td Tryz.prog 9=some .str:=by kernel_rfl
theorem c2g:td Tryz.prog 21=some (.int .i32):=by kernel_rfl
theorem c2h:td Tryz.prog 22=some (.slice T5):=by kernel_rfl
theorem c2i:td Tryz.prog 24=some (.struct [(0,T22)]):=by kernel_rfl
theorem c2j:td Tryz.prog 25=some (.int .u16):=by kernel_rfl
theorem c2k:td Tryz.prog 26=some (.int .i8):=by kernel_rfl
theorem c2l:td Tryz.prog 28=some (.struct [(0,T24),(1,T22),(2,T25),(3,T26),(4,T26)]):=by kernel_rfl
theorem c2m:td Tryz.prog 30=some (.struct [(0,T3),(1,T3),(2,T21)]):=by kernel_rfl
theorem c2n:td Tryz.prog 32=some (.struct [(0,T5),(1,T5),(2,T30),(5,T3)]):=by kernel_rfl
theorem c2o:td Tryz.prog 33=some (.array 2 T32):=by kernel_rfl
theorem b8X:td Tryz.prog 34=some (.array 2 T3):=by kernel_rfl
theorem c2p:td Tryz.prog 36=some (.slice b2P):=by kernel_rfl
theorem c2q:td Tryz.prog 37=some (.slice b2Q):=by kernel_rfl
theorem c2r:td Tryz.prog 38=some (.slice T75):=by kernel_rfl
theorem c2s:td Tryz.prog 40=some (.struct [(0,T3),(1,T3),(2,T3),(3,T3),(4,T3),(5,T36),(6,T37),(7,T38)]):=by kernel_rfl
theorem c2t:td Tryz.prog 41=some (.slice T4):=by kernel_rfl
theorem c2u:td Tryz.prog 43=some (.struct [(0,T41),(1,T41)]):=by kernel_rfl
theorem c2v:td Tryz.prog 44=some (.slice T81):=by kernel_rfl
theorem c2w:td Tryz.prog 46=some (.struct [(0,T44),(1,T44)]):=by kernel_rfl
theorem c2x:td Tryz.prog 48=some (.struct [(0,T3),(1,T3),(2,T3)]):=by kernel_rfl
theorem c2y:td Tryz.prog 50=some (.struct [(0,T40),(8,T43),(10,T46),(12,T48)]):=by kernel_rfl
theorem c2z:td Tryz.prog 52=some (.slice T30):=by kernel_rfl
theorem c2A:td Tryz.prog 54=some (.struct [(0,T52),(1,T3),(2,T3)]):=by kernel_rfl
theorem c2B:td Tryz.prog 55=some (.int .i64):=by kernel_rfl
theorem c2C:td Tryz.prog 57=some (.struct [(0,T54),(3,T55)]):=by kernel_rfl
theorem c2D:td Tryz.prog 64=some (.array 2 T5):=by kernel_rfl
theorem c2E:td Tryz.prog 71=some (.slice T77):=by kernel_rfl
theorem c2F:td Tryz.prog 73=some (.struct [(0,T3),(1,T3),(2,T30),(5,T30),(8,T30),(11,T34)]):=by kernel_rfl
theorem c2G:td Tryz.prog 75=some (.struct [(0,T71),(1,T73)]):=by kernel_rfl
theorem c2H:td Tryz.prog 77=some (.struct [(0,T3),(1,T3),(2,T3),(3,T30),(6,T30),(9,T30),(12,T30)]):=by kernel_rfl
theorem c2I:td Tryz.prog 81=some (.slice T3):=by kernel_rfl
theorem c2J:td Tryz.prog 83=some (.array 8 T26):=by kernel_rfl
theorem c2K:td Tryz.prog 84=some (.array 4 T26):=by kernel_rfl
theorem c2L:td Tryz.prog 86=some (.struct [(0,T5),(1,T83),(9,T84)]):=by kernel_rfl
theorem c2M:td Tryz.prog 87=some (.slice T21):=by kernel_rfl
theorem c2N:td Tryz.prog 91=some (.struct [(0,T3),(1,T87)]):=by kernel_rfl
theorem c2O:td Tryz.prog 94=some (.slice T87):=by kernel_rfl
theorem c2P:td Tryz.prog 96=some (.struct [(0,T3),(1,T3),(2,T3),(3,T3),(4,T87),(5,T94),(6,T87)]):=by kernel_rfl
theorem b8b:td Tryz.prog 104=some (.slice b2J):=by kernel_rfl
theorem b8c:td Tryz.prog 108=some (.struct [(0,T3),(1,T3),(2,T3),(3,T3),(4,T3),(5,T3),(6,T3),(7,T3),(8,T21)]):=by kernel_rfl
theorem b8d:td Tryz.prog 110=some (.slice T26):=by kernel_rfl
theorem b8e:td Tryz.prog 113=some (.struct [(0,T81)]):=by kernel_rfl
theorem b8f:td Tryz.prog 115=some (.struct [(0,T40),(8,b2K),(9,T55)]):=by kernel_rfl
theorem b8g:td Tryz.prog 126=some (.array 3 T5):=by kernel_rfl
theorem b8h:td Tryz.prog 127=some (.int .u64):=by kernel_rfl
theorem b8i:td Tryz.prog 131=some (.struct [(0,T24),(1,T86),(14,T5),(15,T5),(16,T21),(17,T5)]):=by kernel_rfl
theorem b8j:td Tryz.prog 133=some (.struct [(0,T96),(7,T94),(8,T94),(9,a9d),(10,T55)]):=by kernel_rfl
theorem b8k:td Tryz.prog 148=some (.struct [(0,T54),(3,T3),(4,T55)]):=by kernel_rfl
theorem b8l:td Tryz.prog 150=some .other:=by kernel_rfl
theorem b8m:td Tryz.prog 156=some .other:=by kernel_rfl
theorem b8n:td Tryz.prog 157=some (.slice b2T):=by kernel_rfl
theorem b8o:td Tryz.prog 159=some (.struct [(0,T40),(8,T43),(10,T41),(11,b2L),(12,b2M)]):=by kernel_rfl
theorem b8p:td Tryz.prog 161=some (.struct [(0,T3),(1,T3)]):=by kernel_rfl
theorem b8q:td Tryz.prog 166=some (.int .u64):=by kernel_rfl
theorem b8r:td Tryz.prog 168=some (.array 4 b2N):=by kernel_rfl
theorem b8s:td Tryz.prog 182=some (.struct [(0,T9),(1,T3),(2,T3),(3,T3)]):=by kernel_rfl
theorem b8t:td Tryz.prog 185=some (.struct [(0,T3),(1,T3),(2,T3)]):=by kernel_rfl
theorem b8u:td Tryz.prog 188=some .other:=by kernel_rfl
theorem b8v:td Tryz.prog 195=some (.struct []):=by kernel_rfl
theorem b8w:td Tryz.prog 197=some .other:=by kernel_rfl
theorem b8x:td Tryz.prog 199=some .other:=by kernel_rfl
theorem b8y:td Tryz.prog 201=some (.struct [(0,T40),(8,T91),(10,T96),(17,T94),(18,T94),(19,a9d),(20,b2R)]):=by kernel_rfl
theorem b8z:td Tryz.prog 204=some .other:=by kernel_rfl
theorem b8A:td Tryz.prog 206=some (.struct [(0,T22),(1,T3),(2,T40)]):=by kernel_rfl
theorem b8B:td Tryz.prog 214=some .other:=by kernel_rfl
theorem b8C:td Tryz.prog 216=some (.slice b2O):=by kernel_rfl
theorem b8D:td Tryz.prog 221=some (.struct [(0,T96),(7,T55)]):=by kernel_rfl
theorem b8E:td Tryz.prog 225=some (.array 2 T94):=by kernel_rfl
theorem b8F:td Tryz.prog 244=some (.struct [(0,T3),(1,T77),(16,T4)]):=by kernel_rfl
theorem b8G:td Tryz.prog 246=some (.slice b2S):=by kernel_rfl
theorem b8H:td Tryz.prog 248=some .other:=by kernel_rfl
theorem b8I:td Tryz.prog 255=some .other:=by kernel_rfl
theorem b8J:td Tryz.prog 256=some .other:=by kernel_rfl
theorem b8K:td Tryz.prog 259=some (.slice b2U):=by kernel_rfl
theorem b8L:td Tryz.prog 263=some (.struct [(0,T3),(1,T9),(2,T4),(3,T4),(4,T4),(5,T3)]):=by kernel_rfl
theorem b8M:td Tryz.prog 264=some .other:=by kernel_rfl
theorem b8N:td Tryz.prog 266=some .other:=by kernel_rfl
theorem b8O:td Tryz.prog 267=some (.slice b2V):=by kernel_rfl
theorem b8P:td Tryz.prog 274=some .other:=by kernel_rfl
theorem b8Q:td Tryz.prog 284=some .other:=by kernel_rfl
theorem b8R:td Tryz.prog 285=some .other:=by kernel_rfl
theorem b8S:td Tryz.prog 287=some (.struct [(0,a9e),(1,T3),(2,T71),(3,a9e)]):=by kernel_rfl
theorem b8T:td Tryz.prog 298=some .other:=by kernel_rfl
theorem b8U:td Tryz.prog 304=some .other:=by kernel_rfl
theorem b8V:td Tryz.prog 306=some (.array 64 T5):=by kernel_rfl
theorem b8W:td Tryz.prog 336=some (.int .u32):=by kernel_rfl
theorem b8Y:td Tryz.prog 340=some (.struct [(0,T21),(1,T55)]):=by kernel_rfl
theorem b8Z:td Tryz.prog 343=some (.struct [(0,T21),(1,T55)]):=by kernel_rfl
theorem b80:td Tryz.prog 346=some (.struct [(0,T41),(1,T81)]):=by kernel_rfl
theorem b81:td Tryz.prog 348=some (.int .u64):=by kernel_rfl
theorem b9T:tm Tryz.prog 284=some ((.int .i64),(.int .i64 0)):=by kernel_rfl
theorem c15:tA Tryz.prog 4=true:=by kernel_rfl
end Go.Proofs.YtgdoiokalfhjoaaGreatDoor
end
section
namespace Go.Ab
open Go.RowKit (Below)
theorem kP(ids:List (Nat×Nat))(l:List (Nat×RS)):LS.hf (n4 ids l)=raise ids (LS.hf l):=by
 funext id
 simp only[LS.hf,raise]
 induction l with
 |nil=>rfl
 |cons p l ih=>
  obtain⟨i,x⟩:=p
  simp only[n4,List.lookup_cons]
  by_cases h:(id==i)=true
  ·rw[h]
   have:id=i:=by simpa using h
   subst this
   cases x<;>rfl
  ·have h:(id==i)=false:=by simpa using h
   rw[h];exact ih
theorem a3W{ids:List (Nat×Nat)}{n:Nat}:∀{l:List (Nat×RS)},(∀p∈l,p.1<n)→∀p∈n4 ids l,p.1<n:=by
 intro l
 induction l with
 |nil=>intro _ p hp;cases hp
 |cons q l ih=>
  intro h p hp
  simp only[n4,List.mem_cons]at hp
  rcases hp with rfl|hp
  ·exact h q (List.mem_cons_self ..)
  ·exact ih (fun p hp=>h p (List.mem_cons_of_mem _ hp)) p hp
theorem N5{ids:List (Nat×Nat)}{h:Nat→RS}{id:Nat}{r:Row}(hr:raise ids h id= .live r):∃r0,h id= .live r0∧r={r0 with fro:=y0 ids id r0.fro}:=by
 unfold raise at hr
 split at hr
 ·rename_i r0 h0;cases hr;exact⟨r0,h0,rfl⟩
 ·rename_i hn;exact absurd hr (hn _)
theorem N4{ids:List (Nat×Nat)}{h:Nat→RS}{id:Nat}{x:RS}(hr:raise ids h id=x)(hx:∀r,x≠ .live r):h id=x:=by
 unfold raise at hr
 split at hr
 ·exact absurd hr.symm (hx _)
 ·exact hr
theorem iA{s:LS}(d n:Nat)(y:AV)(h:u6 (LS.hf s.h) n (LS.tf s.t d)=some y):N3 s ⟨s.t.set d y,n4 (a6 (LS.hf s.h) n (LS.tf s.t d)) s.h,s.nx⟩:=by
 intro G M0 w0 ρ a w ⟨R,hok⟩
 refine⟨ρ,?_,a3W hok⟩
 generalize hids:a6 (LS.hf s.h) n (LS.tf s.t d)=ids
 have hH:LS.hf (n4 ids s.h)=raise ids s.o4.h:=kP ids s.h
 have hy:s5 (p8 M0 ρ (raise ids s.o4.h)) (fun _=>none) w y (a.tmps.getD d undef):=eL R.toH ids n _ y _ (fun p hp=>by rw[←hids];exact hp) h (R.tm d)
 refine{n:=?_,tm:=fun t=>?_,live:=fun id r hr=>?_,free:=fun id hr=>?_,inj:=fun id id' r r' b β β' z z' h1 h2 h3 h4=>?_,T1:=R.T1,m0:=R.m0,defers:=R.defers,nL:=fun id k cs hg i x hx=>?_,lX:=fun x u hx=>?_,jF:=fun id b q f hm=>?_,gT:=R.gT,dP:=fun id r p hr hp=>?_,nX:=fun id b q f hm=>?_,oS:=R.oS}
 ·show a.tmps.size=(s.t.set d y).length
  rw[List.length_set];exact R.n
 ·show s5 (p8 M0 ρ (LS.hf (n4 ids s.h))) ρ w (LS.tf (s.t.set d y) t) _
  rw[hH]
  unfold LS.tf
  rw[List.getD_eq_getElem?_getD,List.getElem?_set]
  by_cases ht:d=t
  ·subst ht
   by_cases hl:d<s.t.length
   ·simp only[hl,if_true,Option.getD_some];exact hy.up
   ·simp only[hl,if_false,if_true,Option.getD_none];exact .Z _
  ·rw[if_neg ht,←List.getD_eq_getElem?_getD];exact(R.tm t).raise
 ·have hr:LS.hf (n4 ids s.h) id= .live r:=hr
  rw[hH]at hr
  obtain⟨r0,h0,rfl⟩:=N5 hr
  obtain⟨b,β,arr,e,l1,l2,l3,l4,l5,l6⟩:=R.live id r0 h0
  refine⟨b,β,arr,e,l1,l2,l3,l4,l5,fun i j e x u g1 g2 g3=>?_⟩
  show s5 (p8 M0 ρ (LS.hf (n4 ids s.h))) ρ w x u
  rw[hH];exact(l6 i j e x u g1 g2 g3).raise
 ·have hr:LS.hf (n4 ids s.h) id= .free:=hr
  rw[hH]at hr
  exact R.free id (N4 hr fun r h=>by cases h)
 ·have h1:LS.hf (n4 ids s.h) id= .live r:=h1
  have h2:LS.hf (n4 ids s.h) id'= .live r':=h2
  rw[hH]at h1 h2
  obtain⟨r0,g0,_⟩:=N5 h1
  obtain⟨r1,g1,_⟩:=N5 h2
  exact R.inj id id' r0 r1 b β β' z z' g0 g1 h3 h4
 ·have hg:LS.hf (n4 ids s.h) id= .u5 k cs:=hg
  rw[hH]at hg
  show s5 (p8 M0 ρ (LS.hf (n4 ids s.h))) ρ w x _
  rw[hH]
  exact(R.nL id k cs (N4 hg fun r h=>by cases h) i x hx).raise
 ·show s5 (p8 M0 ρ (LS.hf (n4 ids s.h))) _ w x u
  rw[hH];exact(R.lX x u hx).mono (fun _ _ h=>h) (fun _ _ _ g1 g2=>⟨fun g=>g1 (F5 g),g2⟩) (fun _ _ h=>h)
 ·have hm:LS.hf (n4 ids s.h) id= .mp b q f:=hm
  rw[hH]at hm
  exact R.jF id b q f (N4 hm fun r h=>by cases h)
 ·have hr:LS.hf (n4 ids s.h) id= .live r:=hr
  rw[hH]at hr
  obtain⟨r0,h0,_⟩:=N5 hr
  exact R.dP id r0 p h0 hp
 ·have hm:LS.hf (n4 ids s.h) id= .mp b q f:=hm
  rw[hH]at hm
  exact R.nX id b q f (N4 hm fun r h=>by cases h)
theorem a3G {md:Bool} {P:Program} [j5 P] {c:Code} {k:List KF} {s:LS} {K:Exit→LS→Prop} (d:Nat) {y:AV} {ids:List (Nat×Nat)} (h:u6 (LS.hf s.h) 6 (LS.tf s.t d)=some y) (hi:a6 (LS.hf s.h) 6 (LS.tf s.t d)=ids)
  (h':AK (md:=md) P c k ⟨s.t.set d y,n4 ids s.h,s.nx⟩ K):AK (md:=md) P c k s K:=by
 subst hi
 exact u9 (iA d 6 y h) h'
theorem yY(e:List AV):o6 e 0 []=e:=by cases e<;>rfl
theorem b0C(y:AV):∀(e:List AV) (k:Nat),o6 e k [y]=e.set k y:=by
 intro e
 induction e with
 |nil=>intro k;rfl
 |cons x e ih=>
  intro k
  cases k with
  |zero=>simp [o6,yY]
  |succ k=>simp [o6,ih]
theorem c3P(id i k:Nat)(cs:List AV)(l:List (Nat×RS))(id':Nat):LS.hf (F4 id i k cs l) id'=if id'=id then(match LS.hf l id with| .live r=> .live {r with es:=r.es.modify i (fun e=>o6 e k cs)}|x=>x)else LS.hf l id':=by
 simp only[LS.hf]
 induction l with
 |nil=>simp [F4]
 |cons p l ih=>
  obtain⟨i0,x⟩:=p
  simp only[F4]
  by_cases h:i0=id
  ·subst h
   simp only[if_true,List.lookup_cons]
   by_cases h2:id'=i0
   ·subst h2;cases x<;>simp
   ·have:(id'==i0)=false:=by simpa using h2
    rw[this];simp only[if_neg h2]
    rw[ih,if_neg h2]
  ·rw[if_neg h]
   simp only[List.lookup_cons]
   by_cases h2:id'=i0
   ·subst h2
    simp only[beq_self_eq_true,if_neg h,Option.getD_some]
   ·have:(id'==i0)=false:=by simpa using h2
    rw[this]
    have h3:(id==i0)=false:=by simpa using Ne.symm h
    rw[h3];exact ih
theorem c4k{id i k:Nat}{cs:List AV}{n:Nat}:∀{l:List (Nat×RS)},(∀p∈l,p.1<n)→∀p∈F4 id i k cs l,p.1<n:=by
 intro l
 induction l with
 |nil=>intro _ p hp;cases hp
 |cons q l ih=>
  intro h p hp
  obtain⟨i0,x⟩:=q
  simp only[F4]at hp
  split at hp<;>(simp only[List.mem_cons]at hp;rcases hp with rfl|hp;exact h (i0,x) (List.mem_cons_self ..);exact ih (fun p hp=>h p (List.mem_cons_of_mem _ hp)) p hp)
theorem V3{s:LS}(id i j n:Nat)(x y:AV){r:Row}(hr:LS.hf s.h id= .live r)(hx:(r.es[i]?).bind (·[j]?)=some x)(h:u6 (LS.hf s.h) n x=some y):N3 s ⟨s.t,n4 (a6 (LS.hf s.h) n x) (F4 id i j [y] s.h),s.nx⟩:=by
 intro G M0 w0 ρ a w ⟨R,hok⟩
 refine⟨ρ,?_,a3W (c4k hok)⟩
 generalize hids:a6 (LS.hf s.h) n x=ids
 have hH:∀id',LS.hf (n4 ids (F4 id i j [y] s.h)) id'=if id'=id then .live ⟨r.sz,r.es.modify i (fun e=>e.set j y),y0 ids id r.fro⟩else raise ids (LS.hf s.h) id':=by
  intro id'
  rw[kP]
  unfold raise
  rw[c3P,hr]
  by_cases h:id'=id
  ·subst h;simp [b0C]
  ·simp [h]
 have hM:∀b o,p8 M0 ρ (LS.hf (n4 ids (F4 id i j [y] s.h))) b o→p8 M0 ρ (raise ids (LS.hf s.h)) b o:=by
  rintro b o (g|⟨id',q,β,z,h1,h2,h3⟩)
  ·exact .inl g
  ·rw[hH]at h1
   split at h1
   ·rename_i e
    cases h1
    exact .inr ⟨id,{r with fro:=y0 ids id r.fro},β,z,by unfold raise;rw[hr],by rw[←e];exact h2,h3⟩
   ·exact .inr ⟨id',q,β,z,h1,h2,h3⟩
 have inH:∀{x:AV} {u:Value} {ρ':Nat→Option (Nat×Nat×Nat)},s5 (p8 M0 ρ (raise ids (LS.hf s.h))) ρ' w x u→s5 (p8 M0 ρ (LS.hf (n4 ids (F4 id i j [y] s.h)))) ρ' w x u:=fun hx=>
  hx.mono (fun _ _ h=>h) (fun _ _ _ g1 g2=>⟨fun g=>g1 (hM _ _ g),g2⟩) (fun _ _ h=>h)
 have up:∀{x:AV} {u:Value} {ρ':Nat→Option (Nat×Nat×Nat)},s5 (p8 M0 ρ (LS.hf s.h)) ρ' w x u→s5 (p8 M0 ρ (LS.hf (n4 ids (F4 id i j [y] s.h)))) ρ' w x u:=fun hx=>
  inH (hx.mono (fun _ _ h=>h) (fun _ _ _ g1 g2=>⟨fun g=>g1 (F5 g),g2⟩) (fun _ _ h=>h))
 refine{n:=R.n,tm:=fun t=>up (R.tm t),live:=fun id' r' hr'=>?_,free:=fun id' hr'=>?_,inj:=fun id1 id2 r1 r2 b β β' z z' h1 h2 h3 h4=>?_,T1:=R.T1,m0:=R.m0,defers:=R.defers,nL:=fun id' k cs hg i' x' hx'=>?_,lX:=fun x u hx=>up (R.lX x u hx),jF:=fun id' b q f hm=>?_,gT:=R.gT,dP:=fun id' r' p hr' hp=>?_,nX:=fun id' b q f hm=>?_,oS:=R.oS}
 ·have hr':LS.hf (n4 ids (F4 id i j [y] s.h)) id'= .live r':=hr'
  rw[hH]at hr'
  split at hr'
  ·rename_i e
   subst e
   cases hr'
   obtain⟨b,β,arr,e,l1,l2,l3,l4,l5,l6⟩:=R.live id' r hr
   refine⟨b,β,arr,e,l1,l2,l3,by simpa using l4,fun e0 he0=>?_,fun i' j' e0 x0 u g1 g2 g3=>?_⟩
   ·obtain⟨m,hm,rfl⟩:=List.mem_iff_getElem.1 he0
    have hm':m<r.es.length:=by simpa using hm
    rw[List.getElem_modify]
    split
    ·rw[List.length_set];exact l5 _ (List.getElem_mem hm')
    ·exact l5 _ (List.getElem_mem hm')
   ·rw[List.getElem?_modify]at g1
    cases hq:r.es[i']? with
    |none=>rw[hq]at g1;cases g1
    |some e1=>
     rw[hq]at g1
     simp only[Option.map_eq_map,Option.map_some,Option.some.injEq]at g1
     by_cases hi:i=i'
     ·subst hi
      rw[if_pos rfl]at g1
      subst g1
      rw[List.getElem?_set]at g2
      by_cases hj:j=j'
      ·subst hj
       rw[if_pos rfl]at g2
       split at g2
       ·cases g2
        rw[hq]at hx
        exact(inH (eL R.toH ids n x y u (fun p hp=>by rw[←hids];exact hp) h (l6 i j e1 x u hq hx g3))).up
       ·cases g2
      ·rw[if_neg hj]at g2
       exact up (l6 i j' e1 x0 u hq g2 g3)
     ·rw[if_neg hi]at g1
      subst g1
      exact up (l6 i' j' e1 x0 u hq g2 g3)
  ·obtain⟨r0,h0,rfl⟩:=N5 hr'
   obtain⟨b,β,arr,e,l1,l2,l3,l4,l5,l6⟩:=R.live id' r0 h0
   exact⟨b,β,arr,e,l1,l2,l3,l4,l5,fun i j e x u g1 g2 g3=>up (l6 i j e x u g1 g2 g3)⟩
 ·have hr':LS.hf (n4 ids (F4 id i j [y] s.h)) id'= .free:=hr'
  rw[hH]at hr'
  split at hr'
  ·cases hr'
  ·exact R.free id' (N4 hr' fun r h=>by cases h)
 ·have key:∀{id' r'},LS.hf (n4 ids (F4 id i j [y] s.h)) id'= .live r'→∃r0,LS.hf s.h id'= .live r0:=by
   intro id' r' h
   rw[hH]at h
   split at h
   ·rename_i e;subst e;exact⟨r,hr⟩
   ·obtain⟨r0,h0,_⟩:=N5 h;exact⟨r0,h0⟩
  obtain⟨q1,g1⟩:=key h1
  obtain⟨q2,g2⟩:=key h2
  exact R.inj id1 id2 q1 q2 b β β' z z' g1 g2 h3 h4
 ·have hg:LS.hf (n4 ids (F4 id i j [y] s.h)) id'= .u5 k cs:=hg
  rw[hH]at hg
  split at hg
  ·cases hg
  ·exact up (R.nL id' k cs (N4 hg fun r h=>by cases h) i' x' hx')
 ·have hm:LS.hf (n4 ids (F4 id i j [y] s.h)) id'= .mp b q f:=hm
  rw[hH]at hm
  split at hm
  ·cases hm
  ·exact R.jF id' b q f (N4 hm fun r h=>by cases h)
 ·have hr':LS.hf (n4 ids (F4 id i j [y] s.h)) id'= .live r':=hr'
  rw[hH]at hr'
  split at hr'
  ·rename_i e;subst e;exact R.dP id' r p hr hp
  ·obtain⟨r0,h0,_⟩:=N5 hr'
   exact R.dP id' r0 p h0 hp
 ·have hm:LS.hf (n4 ids (F4 id i j [y] s.h)) id'= .mp b q f:=hm
  rw[hH]at hm
  split at hm
  ·cases hm
  ·exact R.nX id' b q f (N4 hm fun r h=>by cases h)
theorem aZ {md:Bool} {P:Program} [j5 P] {c:Code} {k:List KF} {s:LS} {K:Exit→LS→Prop} (id i j:Nat) {x y:AV} {r:Row} {ids:List (Nat×Nat)} (hr:LS.hf s.h id= .live r) (hx:(r.es[i]?).bind (·[j]?)=some x) (h:u6 (LS.hf s.h) 6 x=some y) (hi:a6 (LS.hf s.h) 6 x=ids)
  (h':AK (md:=md) P c k ⟨s.t,n4 ids (F4 id i j [y] s.h),s.nx⟩ K):AK (md:=md) P c k s K:=by
 subst hi
 exact u9 (V3 id i j 6 x y hr hx h) h'
theorem n3{α:Type}{S:α→LS}{I:α→Prop}{s s':LS}{keep ids:List Nat}(a:α)(h:c5 keep ids s=some s')(e:s'=S a)(hI:I a):∃a,W0 (I a)∧N3 s (S a):=⟨a,⟨hI⟩,fV h e⟩
def v8(g:Nat→Nat):Nat→AV→AV
 |_,.Z=> .Z
 |_,.v x=> .v x
 |_,.L6=> .L6
 |_,.a8 c es=> .a8 c es
 |_,.aA es i k=> .aA es i k
 |_,.own id o k=> .own (g id) o k
 |_,.ptr id i k=> .ptr (g id) i k
 |_,.dX id i k=> .dX (g id) i k
 |n+1,.agg cs=> .agg (cs.map (v8 g n))
 |n+1,.O2 cs=> .O2 (cs.map (v8 g n))
 |n+1,.fn f cs=> .fn f (cs.map (v8 g n))
 |n+1,.nD f cs=> .nD f (cs.map (v8 g n))
 |0,_=> .Z
def bH(g:Nat→Nat)(row:Row):Row:=
 if v7 row.es=true then row else{row with es:=row.es.map fun e=>e.map (v8 g 3)}
theorem a99{M M':Nat→Nat→Prop}{ρ ρ':Nat→Option (Nat×Nat×Nat)}{w:World}{g:Nat→Nat}(hM:∀b o,M' b o→M b o)(hg:∀j p,ρ j=some p→ρ' (g j)=some p):
  ∀(n:Nat) {x:AV} {u:Value},s5 M ρ w x u→s5 M' ρ' w (v8 g n x) u:=by
 intro n
 induction n with
 |zero=>
  intro x u h
  cases h with
  |Z u=>exact .Z u
  |L6 t=>exact .L6 t
  |v=>exact .v _
  |a8 c es a cap b o sz cell h1 h2 h3 h4 h5 h6=>exact(s5.a8 (ρ:=ρ') c es a cap b o sz cell h1 h2 h3 h4 h5 h6).pN hM
  |aA es i k b o sz cell h1 h2 h3 h4 h5=>exact(s5.aA (ρ:=ρ') es i k b o sz cell h1 h2 h3 h4 h5).pN hM
  |own id off n cap b β sz N e h1 h2 h3 h4=>exact .own (g id) off n cap b β sz N e (hg _ _ h1) h2 h3 h4
  |ptr id i k b β sz h1=>exact .ptr (g id) i k b β sz (hg _ _ h1)
  |dX id i k b β sz h1=>exact .dX (g id) i k b β sz (hg _ _ h1)
  |agg cs vs hn hh=>exact .Z _
  |O2 cs vs hn hh=>exact .Z _
  |fn f cs vs hn hh=>exact .Z _
  |nD f cs vs hn hh=>exact .Z _
 |succ n ih=>
  intro x u h
  have many:∀(cs:List AV) (vs:Array Value),vs.size=cs.length→(∀(i:Nat) x u,cs[i]?=some x→vs[i]?=some u→s5 M ρ w x u)→
    vs.size=(cs.map (v8 g n)).length∧∀(i:Nat) x u,(cs.map (v8 g n))[i]?=some x→vs[i]?=some u→s5 M' ρ' w x u:=by
   intro cs vs hn hh
   refine⟨by simpa using hn,fun i x u h1 h2=>?_⟩
   rw[List.getElem?_map]at h1
   cases hc:cs[i]? with
   |none=>rw[hc]at h1;cases h1
   |some x0=>rw[hc]at h1;cases h1;exact ih (hh i x0 u hc h2)
  cases h with
  |Z u=>exact .Z u
  |L6 t=>exact .L6 t
  |v=>exact .v _
  |a8 c es a cap b o sz cell h1 h2 h3 h4 h5 h6=>exact(s5.a8 (ρ:=ρ') c es a cap b o sz cell h1 h2 h3 h4 h5 h6).pN hM
  |aA es i k b o sz cell h1 h2 h3 h4 h5=>exact(s5.aA (ρ:=ρ') es i k b o sz cell h1 h2 h3 h4 h5).pN hM
  |own id off n cap b β sz N e h1 h2 h3 h4=>exact .own (g id) off n cap b β sz N e (hg _ _ h1) h2 h3 h4
  |ptr id i k b β sz h1=>exact .ptr (g id) i k b β sz (hg _ _ h1)
  |dX id i k b β sz h1=>exact .dX (g id) i k b β sz (hg _ _ h1)
  |agg cs vs hn hh=>obtain⟨g1,g2⟩:=many cs vs hn hh;exact .agg _ vs g1 g2
  |O2 cs vs hn hh=>obtain⟨g1,g2⟩:=many cs vs hn hh;exact .O2 _ vs g1 g2
  |fn f cs vs hn hh=>obtain⟨g1,g2⟩:=many cs vs hn hh;exact .fn f _ vs g1 g2
  |nD f cs vs hn hh=>obtain⟨g1,g2⟩:=many cs vs hn hh;exact .nD f _ vs g1 g2
def lH(ids:List Nat)(m nx j:Nat):Nat:=if j<m then ids.getD j 0 else nx+(j-m)
def yJ(ids:List Nat)(m:Nat)(rows:List Row)(id:Nat)(x:RS):RS:=
 match r7 ids 0 id with
 |some j=>if j<m then .live (rows.getD j ⟨0,[],0⟩)else .gone
 |none=>x
def bV(ids:List Nat)(m nx:Nat)(rows:List Row)(l:List (Nat×RS)):List (Nat×RS):=(l.map fun p=>(p.1,yJ ids m rows p.1 p.2))++e9 nx (rows.drop m)
theorem b0o{ids:List Nat}{id:Nat}(h:id∉ids):r7 ids 0 id=none:=by
 unfold r7
 rw[List.idxOf?_eq_none_iff.2 h];rfl
theorem yM{ids:List Nat}{id j:Nat}(h:r7 ids 0 id=some j):ids[j]?=some id:=by
 unfold r7 at h
 cases hi:ids.idxOf? id with
 |none=>rw[hi]at h;cases h
 |some k=>
  rw[hi]at h
  simp only[Option.map_some,Option.some.injEq,Nat.zero_add]at h
  subst h
  exact a37 hi
theorem b4p{ids:List Nat}{id:Nat}(h:id∈ids):∃j,r7 ids 0 id=some j:=by
 unfold r7
 cases hi:ids.idxOf? id with
 |none=>exact absurd h (List.idxOf?_eq_none_iff.1 hi)
 |some k=>exact⟨_,rfl⟩
theorem c0A{ids:List Nat}{m nx:Nat}{rows:List Row}{l:List (Nat×RS)}(hl:∀p∈l,p.1<nx)(hp:∀id∈ids,LS.hf l id≠ .free)(id:Nat):
  LS.hf (bV ids m nx rows l) id=if nx≤id∧id<nx+(rows.length-m)then .live (rows.getD (m+(id-nx)) ⟨0,[],0⟩)else yJ ids m rows id (LS.hf l id):=by
 unfold bV
 simp only[LS.hf,lookup_append,xQ]
 cases hx:l.lookup id with
 |some x=>
  have:id<nx:=hl _ (xR hx)
  rw[if_neg (by omega)]
  rfl
 |none=>
  have hni:id∉ids:=fun h=>hp id h (by simp only[LS.hf,hx];rfl)
  simp only[Option.map_none,dK,List.length_drop]
  split
  ·simp only[Option.getD_some,RS.live.injEq,List.getD_eq_getElem?_getD,List.getElem?_drop]
  ·simp only[yJ,b0o hni,Option.getD_none]
theorem c0i{ids:List Nat}{m nx:Nat}{rows:List Row}{l:List (Nat×RS)}(hl:∀p∈l,p.1<nx)(hr:rows.length≤m+8):∀p∈bV ids m nx rows l,p.1<nx+8:=by
 intro p hp
 unfold bV at hp
 simp only[List.mem_append,List.mem_map]at hp
 rcases hp with⟨q,hq,rfl⟩|hp
 ·have:=hl q hq;simp only;omega
 ·have:=tD _ _ p hp
  simp only[List.length_drop]at this
  omega
section
section
variable {P:Program} {f:FuncId} {xs xs0:List AV} {rs:List Row} {m:Nat} {α:Type} {I:α→Prop} {y:α→AV} {rs':α→List Row} {s:LS} {K:AV→LS→Prop}
theorem b38{h:Nat→RS}{ids:List Nat}{rows:List Row}(hp:b5 h (r7 ids 0) ids=some rows){id:Nat}(hi:id∈ids):∃r,h id= .live r:=by
 obtain⟨h1,h2⟩:=cF hp
 obtain⟨j,hj,rfl⟩:=List.mem_iff_getElem.1 hi
 have hj2:j<rows.length:=by omega
 obtain⟨id',r,e1,e2,_⟩:=h2 j rows[j] (by simp [hj2])
 rw[List.getElem?_eq_getElem hj]at e1
 cases e1
 exact⟨r,e2⟩
theorem b0u [j5 P] (C:y6 P f xs rs m I y rs') (ids:List Nat) (hnd:ids.Nodup) (h1:b5 (LS.hf s.h) (r7 ids 0) ids=some rs) (h2:xs0.mapM (n5 (r7 ids 0) 4)=some xs) (hm:m≤ids.length)
  (h3:∀a,I a→m≤(rs' a).length∧(rs' a).length≤m+8)
  (hK:∀a,I a→K (v8 (lH ids m s.nx) 4 (y a)) ⟨s.t,bV ids m s.nx ((rs' a).map (bH (lH ids m s.nx))) s.h,s.nx+8⟩):a0f P f xs0 s K:=by
 refine⟨C.1,fun G M0 w0 ρ a w args hgl R hargs=>?_⟩
 obtain⟨R,hok⟩:=R
 have hlive:∀id∈ids,∃r,LS.hf s.h id= .live r:=fun id hi=>b38 h1 hi
 have hnf:∀id∈ids,LS.hf s.h id≠ .free:=fun id hi e=>by obtain⟨r,hr⟩:=hlive id hi;rw[hr]at e;cases e
 have hlt:∀id,LS.hf s.h id≠ .free→id<s.nx:=fun id h=>by
  rcases Nat.lt_or_ge id s.nx with h'|h'
  ·exact h'
  ·exact absurd (LS.free (s:=s) hok h') h
 have hids:∀{id j},r7 ids 0 id=some j→id∈ids:=fun h=>List.mem_of_getElem? (yM h)
 let M1:Nat→Nat→Prop:=fun b o=>M0 b o∨∃id r β z,id∉ids∧LS.hf s.h id= .live r∧ρ id=some (b,β,z)∧β+r.fro*z≤o
 have hM1:∀b o,M1 b o→p8 M0 ρ (LS.hf s.h) b o:=by
  rintro b o (g|⟨id,r,β,z,_,g1,g2,g3⟩)
  ·exact .inl g
  ·exact .inr ⟨id,r,β,z,g1,g2,g3⟩
 have hm1:∀b o,M1 b o→b<w.heap.size∧∀id∈ids,∀r p,LS.hf s.h id= .live r→ρ id=some p→p.1≠b:=by
  rintro b o (g|⟨id,r,β,z,g0,g1,g2,g3⟩)
  ·exact⟨(R.toH.m0 b o g).1,fun id _ r p=>(R.toH.m0 b o g).2 id r p⟩
  ·refine⟨(R.zJ g1 g2).1,fun id' hi r' p hl' hp' e=>?_⟩
   obtain⟨b',β',z'⟩:=p
   simp only at e
   subst e
   have:=R.inj _ _ _ _ _ _ _ _ _ g1 hl' g2 hp'
   subst this
   exact g0 hi
 obtain⟨H,up,hM⟩:=rI R.toH hM1 hnd hm1 h1
 have hargs':RC (p8 M1 (renρ ρ ids 0) (u2 0 rs)) (renρ ρ ids 0) w xs args:=by
  refine⟨by rw[H3 h2];exact hargs.1,fun i x u e1 e2=>?_⟩
  obtain⟨x0,e3,e4⟩:=D9 h2 i x e1
  exact up 4 x0 x u e4 (hargs.2 i x0 u e3 e2)
 refine(C.2 M1 w0 _ w args hgl H hargs').mono ?_
 rintro e w' ⟨v,b,ρ',he,hI,H',hv,hst,F⟩
 obtain⟨l1,l2⟩:=h3 b hI
 generalize hn:(rs' b).length=n at l1 l2
 obtain⟨g,hg⟩:∃g,lH ids m s.nx=g:=⟨_,rfl⟩
 obtain⟨rows,hrows⟩:∃rows,(rs' b).map (bH g)=rows:=⟨_,rfl⟩
 have hrl:rows.length=n:=by rw[←hrows];simpa using hn
 obtain⟨ρ2,hρ2⟩:∃ρ2:Nat→Option (Nat×Nat×Nat),ρ2=fun id=>if s.nx≤id∧id<s.nx+(n-m)then ρ' (m+(id-s.nx))else ρ id:=⟨_,rfl⟩
 have hKb:=hK b hI
 rw[hg,hrows]at hKb
 have hh:∀id,LS.hf (bV ids m s.nx rows s.h) id=if s.nx≤id∧id<s.nx+(n-m)then .live (rows.getD (m+(id-s.nx)) ⟨0,[],0⟩)else yJ ids m rows id (LS.hf s.h id):=fun id=>by
  rw[c0A hok hnf,hrl]
 have rlive:∀j,j<n→u2 0 (rs' b) j= .live ((rs' b).getD j ⟨0,[],0⟩):=fun j hj=>by
  unfold u2;rw[if_pos (by omega)];rfl
 have rrow:∀j,j<n→rows.getD j ⟨0,[],0⟩=bH g ((rs' b).getD j ⟨0,[],0⟩):=fun j hj=>by
  rw[←hrows,List.getD_eq_getElem?_getD,List.getElem?_map,List.getD_eq_getElem?_getD,List.getElem?_eq_getElem (by omega)];rfl
 have hρlt:∀j p,ρ' j=some p→j<n:=fun j p h=>by
  rcases Nat.lt_or_ge j n with h'|h'
  ·exact h'
  ·have:=H'.free j (by unfold u2;rw[if_neg (by omega)])
   rw[this]at h;cases h
 have hρids:∀j,j<m→ρ' j=ρ (ids.getD j 0):=fun j hj=>by
  have hj2:j<ids.length:=by omega
  rw[hst j hj]
  simp only[renρ,Nat.zero_le,if_true,Nat.sub_zero,List.getElem?_eq_getElem hj2,Option.bind_some,List.getD_eq_getElem?_getD,Option.getD_some]
 have hmem:∀j,j<ids.length→ids.getD j 0∈ids:=fun j hj=>by
  rw[List.getD_eq_getElem?_getD,List.getElem?_eq_getElem hj];exact List.getElem_mem hj
 have hgj:∀j p,ρ' j=some p→ρ2 (g j)=some p:=fun j p h=>by
  have hj:=hρlt j p h
  rw[←hg,hρ2]
  unfold lH
  by_cases hjm:j<m
  ·have:=hlt _ (hnf _ (hmem j (by omega)))
   rw[if_pos hjm]
   simp only
   rw[if_neg (by omega),←hρids j hjm];exact h
  ·rw[if_neg hjm]
   simp only
   rw[if_pos (by omega),show m+(s.nx+(j-m)-s.nx)=j from by omega];exact h
 have hρ:∀id p,ρ id=some p→ρ2 id=some p:=fun id p h=>by
  rw[hρ2]
  simp only
  by_cases hid:s.nx≤id∧id<s.nx+(n-m)
  ·have:=R.free id (LS.free (s:=s) hok hid.1)
   rw[this]at h;cases h
  ·rw[if_neg hid];exact h
 have ent:∀{id r},LS.hf (bV ids m s.nx rows s.h) id= .live r→(∃j,j<n∧r=bH g ((rs' b).getD j ⟨0,[],0⟩)∧ρ2 id=ρ' j∧((s.nx≤id∧j=m+(id-s.nx))∨(id∈ids∧j<m∧ids[j]?=some id)))∨(id∉ids∧LS.hf s.h id= .live r∧ρ2 id=ρ id):=by
  intro id r h
  rw[hh]at h
  by_cases hid:s.nx≤id∧id<s.nx+(n-m)
  ·rw[if_pos hid]at h
   cases h
   exact .inl ⟨m+(id-s.nx),by omega,rrow _ (by omega),by rw[hρ2];simp only;rw[if_pos hid],.inl ⟨hid.1,rfl⟩⟩
  ·rw[if_neg hid]at h
   have e2:ρ2 id=ρ id:=by rw[hρ2];simp only;rw[if_neg hid]
   unfold yJ at h
   split at h
   ·rename_i j hj
    split at h
    ·rename_i hjm
     cases h
     have e3:=yM hj
     refine .inl ⟨j,by omega,rrow _ (by omega),?_,.inr ⟨hids hj,hjm,e3⟩⟩
     rw[e2,hρids j hjm,List.getD_eq_getElem?_getD,e3];rfl
    ·cases h
   ·rename_i hj
    refine .inr ⟨fun hi=>?_,h,e2⟩
    obtain⟨j,hj'⟩:=b4p hi
    rw[hj]at hj';cases hj'
 have rsz:∀row:Row,(bH g row).sz=row.sz∧(bH g row).fro=row.fro∧(bH g row).es.length=row.es.length:=fun row=>by
  unfold bH;split<;>simp
 have hMM:∀b' o,p8 M0 ρ2 (LS.hf (bV ids m s.nx rows s.h)) b' o→p8 M1 ρ' (u2 0 (rs' b)) b' o:=by
  rintro b' o (g1|⟨id,r,β,z,g1,g2,g3⟩)
  ·exact .inl (.inl g1)
  ·rcases ent g1 with⟨j,hj,rfl,e1,_⟩|⟨e0,e1,e2⟩
   ·exact .inr ⟨j,_,β,z,rlive j hj,by rw[←e1];exact g2,by rw[(rsz _).2.1]at g3;exact g3⟩
   ·exact .inl (.inr ⟨id,r,β,z,e0,e1,by rw[←e2];exact g2,g3⟩)
 have hc:∀b' o c,¬p8 M0 ρ (LS.hf s.h) b' o→w.cell? ⟨b',o,none⟩=some c→¬p8 M0 ρ2 (LS.hf (bV ids m s.nx rows s.h)) b' o∧w'.cell? ⟨b',o,none⟩=some c:=by
  intro b' o c g1 g2
  obtain⟨q1,q2⟩:=F.hc b' o c (fun h=>g1 (hM b' o h)) g2
  exact⟨fun h=>q1 (hMM b' o h),q2⟩
 have upB:∀(k:Nat) {x:AV} {u:Value},s5 (p8 M1 ρ' (u2 0 (rs' b))) ρ' w' x u→s5 (p8 M0 ρ2 (LS.hf (bV ids m s.nx rows s.h))) ρ2 w' (v8 g k x) u:=fun k x u h=>a99 hMM hgj k h
 have hkeep:∀b' x,w.heap[b']?=some x→(∀id∈ids,∀p,ρ id=some p→p.1≠b')→w'.heap[b']?=some x:=fun b' x h1 h2=>by
  refine F.hk b' x h1 fun j p hp=>?_
  simp only[renρ,Nat.zero_le,if_true,Nat.sub_zero]at hp
  cases hj:ids[j]? with
  |none=>rw[hj]at hp;cases hp
  |some id=>rw[hj]at hp;exact h2 id (List.mem_of_getElem? hj) p hp
 have hother:∀{id r b' β z},id∉ids→LS.hf s.h id= .live r→ρ id=some (b',β,z)→∀id'∈ids,∀p,ρ id'=some p→p.1≠b':=by
  intro id r b' β z h1 h2 h3 id' h4 p h5 e
  obtain⟨r',hr'⟩:=hlive id' h4
  obtain⟨b2,β2,z2⟩:=p
  simp only at e
  subst e
  have:=R.inj _ _ _ _ _ _ _ _ _ h2 hr' h3 h5
  subst this
  exact h1 h4
 have hmaps:U3 w w':=fun b' o ho h=>by
  refine hkeep b' _ h fun id hi p hp e=>?_
  obtain⟨r,hr⟩:=hlive id hi
  obtain⟨b2,β2,arr,e',p1,p2,p3,_⟩:=R.live id r hr
  rw[hp]at p1
  cases p1
  simp only at e
  subst e
  rw[h]at p3;cases p3;cases ho
 have hnew:∀{id r p},LS.hf (bV ids m s.nx rows s.h) id= .live r→ρ2 id=some p→(∃j r0 q,LS.hf s.h j= .live r0∧ρ j=some q∧q.1=p.1)∨w.heap.size≤p.1:=by
  intro id r p h1 h2
  rcases ent h1 with⟨j,hj,rfl,e1,_⟩|⟨e0,e1,e2⟩
  ·rw[e1]at h2
   rcases F.hn j _ p (rlive j hj) h2 with⟨i,q,q1,q2⟩|q
   ·simp only[renρ,Nat.zero_le,if_true,Nat.sub_zero]at q1
    cases hi:ids[i]? with
    |none=>rw[hi]at q1;cases q1
    |some id'=>
     rw[hi]at q1
     obtain⟨r0,hr0⟩:=hlive id' (List.mem_of_getElem? hi)
     exact .inl ⟨id',r0,q,hr0,q1,q2⟩
   ·exact .inr q
  ·exact .inl ⟨id,r,p,e1,by rw[←e2];exact h2,rfl⟩
 refine⟨v,_,_,ρ2,he,hKb,⟨?_,c0i hok (by omega)⟩,upB 4 hv⟩
 refine{n:=R.n,tm:=fun t=>(R.tm t).mono hρ hc F.hs,live:=?_,free:=?_,inj:=?_,T1:=H'.T1,m0:=R.m0,defers:=R.defers,nL:=?_,lX:=fun x u hx=>(R.lX x u hx).mono (fun _ _ h=>h) hc F.hs,jF:=?_,gT:=?_,dP:=?_,nX:=?_,oS:=fun b' x h=>F.hs _ _ (R.oS b' x h)}
 ·intro id r h
  rcases ent h with⟨j,hj,rfl,e1,_⟩|⟨e0,e1,e2⟩
  ·obtain⟨b',β,arr,e',p1,p2,p3,p4,p5,p6⟩:=H'.live j _ (rlive j hj)
   obtain⟨q1,q2,q3⟩:=rsz ((rs' b).getD j ⟨0,[],0⟩)
   refine⟨b',β,arr,e',by rw[e1,q1];exact p1,p2,p3,by rw[q1,q3];exact p4,?_,?_⟩
   ·intro z hz
    rw[q1]
    unfold bH at hz
    split at hz
    ·exact p5 z hz
    ·simp only[List.mem_map]at hz
     obtain⟨z0,hz0,rfl⟩:=hz
     rw[List.length_map];exact p5 z0 hz0
   ·intro i k ee x u g1 g2 g3
    rw[q1]at g3
    unfold bH at g1
    split at g1
    ·rename_i hpl
     have hp:x.plain=true:=by
      have:=List.all_eq_true.1 hpl ee (List.mem_of_getElem? g1)
      exact List.all_eq_true.1 this x (List.mem_of_getElem? g2)
     exact(((p6 i k ee x u g1 g2 g3).Z4 hp).up).pN hMM
    ·simp only[List.getElem?_map]at g1
     cases hq:((rs' b).getD j ⟨0,[],0⟩).es[i]? with
     |none=>rw[hq]at g1;cases g1
     |some e0=>
      rw[hq]at g1
      simp only[Option.map_some,Option.some.injEq]at g1
      subst g1
      rw[List.getElem?_map]at g2
      cases hx:e0[k]? with
      |none=>rw[hx]at g2;cases g2
      |some x0=>
       rw[hx]at g2
       cases g2
       exact upB 3 (p6 i k e0 x0 u hq hx g3)
  ·obtain⟨b',β,arr,e',p1,p2,p3,p4,p5,p6⟩:=R.live id r e1
   exact⟨b',β,arr,e',by rw[e2];exact p1,p2,hkeep _ _ p3 (hother e0 e1 p1),p4,p5,fun i j e x u g1 g2 g3=>(p6 i j e x u g1 g2 g3).mono hρ hc F.hs⟩
 ·intro id h
  have h:LS.hf (bV ids m s.nx rows s.h) id= .free:=h
  rw[hh]at h
  by_cases hid:s.nx≤id∧id<s.nx+(n-m)
  ·rw[if_pos hid]at h;cases h
  ·rw[if_neg hid]at h
   rw[hρ2]
   simp only
   rw[if_neg hid]
   refine R.free id ?_
   unfold yJ at h
   split at h
   ·split at h<;>cases h
   ·exact h
 ·intro i1 i2 r1 r2 b' β β' z z' g1 g2 g3 g4
  have new_old:∀{i1 i2 r1 r2 b' β β' z z'},(∃j,j<n∧r1=bH g ((rs' b).getD j ⟨0,[],0⟩)∧ρ2 i1=ρ' j∧((s.nx≤i1∧j=m+(i1-s.nx))∨(i1∈ids∧j<m∧ids[j]?=some i1)))→(i2∉ids∧LS.hf s.h i2= .live r2∧ρ2 i2=ρ i2)→ρ2 i1=some (b',β,z)→ρ2 i2=some (b',β',z')→False:=by
   rintro i1 i2 r1 r2 b' β β' z z' ⟨j,hj,rfl,e1,_⟩ ⟨f0,f1,f2⟩ q1 q2
   rw[e1]at q1
   rw[f2]at q2
   rcases F.hn j _ _ (rlive j hj) q1 with⟨i,q,t1,t2⟩|t
   ·simp only[renρ,Nat.zero_le,if_true,Nat.sub_zero]at t1
    cases hi:ids[i]? with
    |none=>rw[hi]at t1;cases t1
    |some id'=>
     rw[hi]at t1
     exact hother f0 f1 q2 id' (List.mem_of_getElem? hi) q t1 t2
   ·have:=(R.zJ f1 q2).1
    simp only at t
    omega
  rcases ent g1 with c1|c1<;>rcases ent g2 with c2|c2
  ·obtain⟨j1,hj1,rfl,e1,d1⟩:=c1
   obtain⟨j2,hj2,rfl,e2,d2⟩:=c2
   rw[e1]at g3
   rw[e2]at g4
   have hj:=H'.inj _ _ _ _ _ _ _ _ _ (rlive j1 hj1) (rlive j2 hj2) g3 g4
   subst hj
   rcases d1 with⟨d1,d1'⟩|⟨d1,d1',d1''⟩<;>rcases d2 with⟨d2,d2'⟩|⟨d2,d2',d2''⟩
   ·omega
   ·omega
   ·omega
   ·rw[d1'']at d2'';cases d2'';rfl
  ·exact(new_old c1 c2 g3 g4).elim
  ·exact(new_old c2 c1 g4 g3).elim
  ·obtain⟨_,f1,f2⟩:=c1
   obtain⟨_,f3,f4⟩:=c2
   rw[f2]at g3
   rw[f4]at g4
   exact R.inj _ _ _ _ _ _ _ _ _ f1 f3 g3 g4
 ·intro id k cs h i x hx
  have h:LS.hf (bV ids m s.nx rows s.h) id= .u5 k cs:=h
  rw[hh]at h
  by_cases hid:s.nx≤id∧id<s.nx+(n-m)
  ·rw[if_pos hid]at h;cases h
  ·rw[if_neg hid]at h
   unfold yJ at h
   split at h
   ·split at h<;>cases h
   ·exact(R.nL id k cs h i x hx).mono hρ hc F.hs
 ·intro id b' q f' h
  have h:LS.hf (bV ids m s.nx rows s.h) id= .mp b' q f':=h
  rw[hh]at h
  by_cases hid:s.nx≤id∧id<s.nx+(n-m)
  ·rw[if_pos hid]at h;cases h
  ·rw[if_neg hid]at h
   unfold yJ at h
   split at h
   ·split at h<;>cases h
   ·obtain⟨q1,q2⟩:=R.jF id b' q f' h
    exact⟨q1,q2.keep hmaps⟩
 ·intro b' o h
  refine hkeep b' o (R.gT b' o h) fun id hi p hp e=>?_
  obtain⟨r,hr⟩:=hlive id hi
  have:=R.dP id r p hr hp
  rw[e,h]at this
  cases this
 ·intro id r p h hp
  rcases hnew h hp with⟨j,r0,q,h1,h2,h3⟩|h1
  ·rw[←h3];exact R.dP j r0 q h1 h2
  ·exact R.b12 h1
 ·intro id b' q f' h
  have h:LS.hf (bV ids m s.nx rows s.h) id= .mp b' q f':=h
  rw[hh]at h
  by_cases hid:s.nx≤id∧id<s.nx+(n-m)
  ·rw[if_pos hid]at h;cases h
  ·rw[if_neg hid]at h
   unfold yJ at h
   split at h
   ·split at h<;>cases h
   ·exact R.nX id b' q f' h
end
end
section
def Z0(fn:Func)(xs:List AV)(rs:List Row)(m:Nat):LS:=
 ⟨xs++List.replicate (fn.ntmps-xs.length) .Z,e9 0 rs++[(7,.u5 99 ((List.range m).map fun j=> .ptr j 0 0))],8⟩
def a4v(P:Program)(fn:Func)(rs:List Row)(m:Nat){α:Type}(I:α→Prop)(y:α→AV)(rs':α→List Row)(e:Exit)(s:LS):Prop:=
 (match e with| .normal| .ret=>True|_=>False)∧∃x,oH P s.o4 fn.results.toList=some x∧∃a,I a∧∃ids:List Nat,ids.Nodup∧(rs' a).length=ids.length∧((rs' a).take m).map Row.sz=(rs.take m).map Row.sz∧
  (∃gid,p7 99 s.h=some (gid,(ids.take m).map fun j=> .ptr j 0 0)∧LS.hf s.h gid= .u5 99 ((ids.take m).map fun j=> .ptr j 0 0))∧n5 (r7 ids 0) 4 x=some (y a)∧b5 (LS.hf s.h) (r7 ids 0) ids=some (rs' a)
section
variable {P:Program} {f:FuncId} {fn:Func} {c:Code} {xs:List AV} {rs:List Row} {m:Nat} {α:Type} {I:α→Prop} {y:α→AV} {rs':α→List Row}
theorem c0B(fn:Func)(xs:List AV)(rs:List Row)(m:Nat)(id:Nat)(hrs:rs.length≤7):LS.hf (Z0 fn xs rs m).h id=if id=7 then .u5 99 ((List.range m).map fun j=> .ptr j 0 0)else u2 0 rs id:=by
 simp only[Z0,LS.hf,lookup_append,dK,u2]
 by_cases h1:0≤id∧id<0+rs.length
 ·rw[if_pos h1,if_neg (by omega),if_pos h1];rfl
 ·rw[if_neg h1,if_neg h1]
  by_cases h2:id=7
  ·subst h2;simp
  ·have:(id==7)=false:=by simpa using h2
   simp only[List.lookup_cons,this,List.lookup_nil,if_neg h2]
   rfl
open Classical in
theorem a8w [j5 P] (hf:P.funcs[f]?=some fn) (hb:fn.body=some c) (hn:(fn.name== "runtime.NumGoroutine")=false) (hrs:rs.length≤7) (hm:m≤rs.length)
  (h:fI (md:=false) P c (Z0 fn xs rs m) (a4v P fn rs m I y rs')):y6 P f xs rs m I y rs':=by
 refine⟨⟨fn,hf,by simp [hb],hn⟩,fun M0 w0 ρ w args hg H hargs=>?_⟩
 have rlive:∀j,j<rs.length→u2 0 rs j= .live (rs.getD j ⟨0,[],0⟩):=fun j hj=>by
  unfold u2;rw[if_pos (by omega)];rfl
 have rlt:∀j p,ρ j=some p→j<rs.length:=fun j p h=>by
  rcases Nat.lt_or_ge j rs.length with h'|h'
  ·exact h'
  ·have:=H.free j (by unfold u2;rw[if_neg (by omega)])
   rw[this]at h;cases h
 have hfi:=fun id=>c0B fn xs rs m id hrs
 have hMo:p8 M0 ρ (LS.hf (Z0 fn xs rs m).h)=p8 M0 ρ (u2 0 rs):=bT fun id r=>by
  rw[hfi]
  by_cases h7:id=7
  ·subst h7
   rw[if_pos rfl]
   unfold u2
   rw[if_neg (by omega)]
   simp
  ·rw[if_neg h7]
 let kp:Nat→Option Obj:=fun b=>if∃j p,ρ j=some p∧p.1=b then none else w.heap[b]?
 let G:Gh:=⟨fun _ i=>match ρ i with|some (b,β,_)=> .pointer (some ⟨b,β,none⟩)|none=>undef,
  fun x u=>∃b o c,¬p8 M0 ρ (u2 0 rs) b o∧w.cell? ⟨b,o,none⟩=some c∧x= .aA [[.v c]] 0 0∧u= .pointer (some ⟨b,o,none⟩),kp,w.shape?,[]⟩
 have R0:D7 G M0 w0 (Z0 fn xs rs m) ρ {tmps:=args++Array.replicate (fn.ntmps-args.size) undef,defers:=[]} w:=by
  refine⟨{n:=?_,tm:=?_,live:=?_,free:=?_,inj:=?_,T1:=H.T1,m0:=?_,defers:=rfl,nL:=?_,lX:=?_,jF:=?_,gT:=?_,dP:=?_,nX:=?_,oS:=fun _ _ h=>h},?_⟩
  ·simp [Z0,LS.o4,hargs.1]
  ·intro t
   show s5 (p8 M0 ρ (LS.hf (Z0 fn xs rs m).h)) ρ w (LS.tf (Z0 fn xs rs m).t t) _
   rw[hMo]
   simp only[Z0,LS.tf,List.getD_eq_getElem?_getD]
   by_cases ht:t<xs.length
   ·rw[List.getElem?_append_left ht,List.getElem?_eq_getElem ht,Option.getD_some]
    have h2:t<args.size:=by rw[hargs.1];exact ht
    have e:(args++Array.replicate (fn.ntmps-args.size) undef).getD t undef=args[t]:=by
     rw[Array.getD_eq_getD_getElem?,Array.getElem?_append_left h2]
     simp [h2]
    rw[e]
    exact hargs.2 t xs[t] args[t] (by simp [ht]) (by simp [h2])
   ·rw[List.getElem?_append_right (by omega)]
    have:((List.replicate (fn.ntmps-xs.length) AV.Z)[t-xs.length]?).getD .Z= .Z:=by
     rw[List.getElem?_replicate];split<;>rfl
    rw[this]
    exact .Z _
  ·intro id r h
   have h:LS.hf (Z0 fn xs rs m).h id= .live r:=h
   rw[hfi]at h
   split at h
   ·cases h
   ·show∃b β arr e,ρ id=some (b,β,r.sz)∧_∧_∧_∧_∧∀(i j:Nat) e x u,_→_→_→s5 (p8 M0 ρ (LS.hf (Z0 fn xs rs m).h)) ρ w x u
    rw[hMo];exact H.live id r h
  ·intro id h
   have h:LS.hf (Z0 fn xs rs m).h id= .free:=h
   rw[hfi]at h
   split at h
   ·cases h
   ·exact H.free id h
  ·intro i1 i2 r1 r2 b β β' z z' h1 h2 h3 h4
   have h1:LS.hf (Z0 fn xs rs m).h i1= .live r1:=h1
   have h2:LS.hf (Z0 fn xs rs m).h i2= .live r2:=h2
   rw[hfi]at h1 h2
   split at h1
   ·cases h1
   ·split at h2
    ·cases h2
    ·exact H.inj i1 i2 r1 r2 b β β' z z' h1 h2 h3 h4
  ·intro b o g
   obtain⟨g1,g2⟩:=H.m0 b o g
   refine .inr ⟨w.heap[b],?_⟩
   show kp b=_
   simp only[kp]
   rw[if_neg,Array.getElem?_eq_getElem g1]
   rintro⟨j,p,q1,q2⟩
   exact g2 j _ p (rlive j (rlt j p q1)) q1 q2
  ·intro id k cs hgh i x hx
   have hgh:LS.hf (Z0 fn xs rs m).h id= .u5 k cs:=hgh
   show s5 (p8 M0 ρ (LS.hf (Z0 fn xs rs m).h)) ρ w x _
   rw[hMo]
   rw[hfi]at hgh
   split at hgh
   ·cases hgh
    rw[List.getElem?_map]at hx
    cases hi:(List.range m)[i]? with
    |none=>rw[hi]at hx;cases hx
    |some j=>
     rw[hi]at hx
     cases hx
     have hj:j<m∧j=i:=by
      have:=(List.getElem?_eq_some_iff.1 hi)
      obtain⟨l1,l2⟩:=this
      simp at l1 l2
      exact⟨by omega,l2.symm⟩
     obtain⟨hj,rfl⟩:=hj
     obtain⟨b,β,arr,e,p1,_⟩:=H.live j _ (rlive j (by omega))
     show s5 _ ρ w (.ptr j 0 0) (match ρ j with|some (b,β,_)=> .pointer (some ⟨b,β,none⟩)|none=>undef)
     rw[p1]
     have:=s5.ptr (M:=p8 M0 ρ (u2 0 rs)) (w:=w) j 0 0 b β _ p1
     simpa using this
   ·unfold u2 at hgh
    split at hgh<;>cases hgh
  ·rintro x u ⟨b,o,c',g1,g2,rfl,rfl⟩
   show s5 (p8 M0 ρ (LS.hf (Z0 fn xs rs m).h)) _ w _ _
   rw[hMo]
   have:=s5.aA (M:=p8 M0 ρ (u2 0 rs)) (ρ:=fun _=>none) (w:=w) [[AV.v c']] 0 0 b o 1 (fun _ _=>c') (by simp) (by simp) (by simp) (fun i j hi hj=>by
    have e1:i=0:=by simpa using hi
    have e2:j=0:=by omega
    subst e1;subst e2
    simpa using⟨g1,g2⟩) (fun i j e x h1 h2=>by
    match i,h1 with
    |0,h1=>
     cases h1
     match j,h2 with
     |0,h2=>cases h2;exact .v _)
   simpa using this
  ·intro id b q f' hh
   have hh:LS.hf (Z0 fn xs rs m).h id= .mp b q f':=hh
   rw[hfi]at hh
   split at hh
   ·cases hh
   ·unfold u2 at hh
    split at hh<;>cases hh
  ·intro b o hh
   have hh:kp b=some o:=hh
   simp only[kp]at hh
   split at hh
   ·cases hh
   ·exact hh
  ·intro id r p hh hp
   show kp p.1=none
   simp only[kp]
   rw[if_pos ⟨id,p,hp,rfl⟩]
  ·intro id b q f' hh
   have hh:LS.hf (Z0 fn xs rs m).h id= .mp b q f':=hh
   rw[hfi]at hh
   split at hh
   ·cases hh
   ·unfold u2 at hh
    split at hh<;>cases hh
  ·intro p hp
   simp only[Z0,List.mem_append,List.mem_singleton]at hp
   rcases hp with hp|rfl
   ·have:=tD rs 0 p hp
    simp only[Z0];omega
   ·simp only[Z0];omega
 refine callsIn_wide.1 (callsIn_of_wp_marks (F:=Fence.wide) (n:=0) hf hb trivial (h none (fun _=>rfl) G M0 w0 ρ _ w _ hg R0 ?_))
 intro Ds e s' ρF a' w' hDs k RX
 have key:∀(a':Act) (w':World),D7 G M0 w0 s' ρF a' w'→∃v,(results fn a'.tmps).run P w'= .ok v w'∧∃b ρ',I b∧lE M0 w0 (u2 0 (rs' b)) ρ' w'∧s5 (p8 M0 ρ' (u2 0 (rs' b))) ρ' w' (y b) v∧(∀i,i<m→ρ' i=ρ i)∧b4R M0 ρ (u2 0 rs) w ρ' (u2 0 (rs' b)) w':=by
  intro a' w' R
  obtain⟨_,x,hx,b,hI,ids,hnd,hlen,aF,⟨gid,_,hgh⟩,hy,hp⟩:=k
  obtain⟨v,h1,h2⟩:=aX R.1 hx
  obtain⟨H',up,hM⟩:=mE R.1.toH hnd hp
  obtain⟨gl,gget⟩:=cF hp
  refine⟨v,h1,b,_,hI,H',up 4 x _ v hy h2,?_,?_⟩
  ·intro i hi
   have hml:m≤ids.length:=by
    have:=congrArg List.length aF
    simp only[List.length_map,List.length_take]at this
    omega
   have hil:i<ids.length:=by omega
   have hρ':renρ ρF ids 0 i=ρF ids[i]:=by
    simp only[renρ,Nat.zero_le,if_true,Nat.sub_zero,List.getElem?_eq_getElem hil,Option.bind_some]
   rw[hρ']
   have hg1:=R.1.nL gid 99 _ hgh i (.ptr ids[i] 0 0) (by
    rw[List.getElem?_map,List.getElem?_take,if_pos hi,List.getElem?_eq_getElem hil];rfl)
   obtain⟨b0,β0,arr0,e0,p1,_⟩:=H.live i _ (rlive i (by omega))
   have hg2:G.g 99 i= .pointer (some ⟨b0,β0,none⟩):=by
    show(match ρ i with|some (b,β,_)=>Value.pointer (some ⟨b,β,none⟩)|none=>undef)=_
    rw[p1]
   rw[hg2]at hg1
   have hil2:i<(rs' b).length:=by omega
   obtain⟨id',row0,e1,e2,e3⟩:=gget i (rs' b)[i] (by simp [hil2])
   rw[List.getElem?_eq_getElem hil]at e1
   cases e1
   obtain⟨b1,β1,arr1,e4,q1,_⟩:=R.1.live _ row0 e2
   have hszi:(rs' b)[i].sz=(rs.getD i ⟨0,[],0⟩).sz:=by
    have:=congrArg (fun l=>l[i]?) aF
    simp only[List.getElem?_map,List.getElem?_take,if_pos hi,List.getElem?_eq_getElem hil2,Option.map_some]at this
    have hir:i<rs.length:=by omega
    rw[List.getElem?_eq_getElem hir]at this
    simp only[Option.map_some,Option.some.injEq]at this
    rw[this,List.getD_eq_getElem?_getD,List.getElem?_eq_getElem hir];rfl
   have hr0:row0.sz=(rs' b)[i].sz:=by
    unfold c8 at e3
    split at e3
    ·cases e3;rfl
    ·simp only[Option.map_eq_some_iff]at e3
     obtain⟨es,_,e5⟩:=e3
     rw[←e5]
   rw[p1,q1]
   generalize hu:Value.pointer (some (⟨b0,β0,none⟩:Addr))=u at hg1
   cases hg1 with
   |ptr _ _ _ b2 β2 sz2 g=>
    rw[q1]at g
    cases g
    simp only[Value.pointer.injEq,Option.some.injEq,Addr.mk.injEq,Nat.zero_mul,Nat.add_zero,and_true]at hu
    obtain⟨rfl,rfl⟩:=hu
    rw[hr0,hszi]
  ·refine⟨?_,?_,?_,?_⟩
   ·intro b' o c' g1 g2
    have hk:=R.1.lX (.aA [[.v c']] 0 0) (.pointer (some ⟨b',o,none⟩)) ⟨b',o,c',g1,g2,rfl,rfl⟩
    generalize hu:Value.pointer (some (⟨b',o,none⟩:Addr))=u at hk
    cases hk with
    |aA _ _ _ b2 o2 sz cell hi hk hsz' hm' hr=>
     have e1:sz=1:=(hsz' _ (List.mem_singleton.2 rfl)).symm
     subst e1
     obtain⟨t1,t2⟩:=hm' 0 0 (by simp) (by simp)
     simp only[Nat.zero_mul,Nat.add_zero,Value.pointer.injEq,Option.some.injEq,Addr.mk.injEq,and_true]at t1 t2 hu
     obtain⟨rfl,rfl⟩:=hu
     have:=hr 0 0 _ _ rfl rfl
     rw[this.Y4]at t2
     exact⟨fun q=>t1 (hM _ _ q),t2⟩
   ·intro r s h;exact R.1.oS r s h
   ·intro b' x' g1 g2
    refine R.1.gT b' x' ?_
    show kp b'=some x'
    simp only[kp]
    rw[if_neg,g1]
    rintro⟨j,p,q1,q2⟩
    exact g2 j p q1 q2
   ·intro id r p g1 g2
    unfold u2 at g1
    split at g1
    ·rename_i hr
     have hlt:id<ids.length:=by omega
     have hlt2:id<(rs' b).length:=by omega
     obtain⟨id',row0,e1,e2,e3⟩:=gget id (rs' b)[id] (by simp [hlt2])
     simp only[renρ,Nat.zero_le,if_true,Nat.sub_zero,e1,Option.bind_some]at g2
     have:=R.1.dP id' row0 p e2 g2
     have this:kp p.1=none:=this
     simp only[kp]at this
     split at this
     ·rename_i hq
      obtain⟨j,q,q1,q2⟩:=hq
      exact .inl ⟨j,q,q1,q2⟩
     ·exact .inr (Array.getElem?_eq_none_iff.1 this)
    ·cases g1
 have k1:=k.1
 cases e<;>first
  |exact jV (P:=P) (fn:=fn) Ds hDs rfl R0.1.m0 RX.1 (fun a2 w2 _ R2=>let⟨v,h1,b,ρ',h2,h3,h4,h5,h6⟩:=key a2 w2 ⟨R2,RX.2⟩;⟨v,h1,v,b,ρ',rfl,h2,h3,h4,h5,h6⟩)
  |exact k1.elim
end
end
section
def b1O(l:List Oper):Bool:=(List.range l.length).all fun i=>match l[i]? with
 |some o=>o.after.all fun e=> !Region.binds .any e||decide (e.on<i)
 |none=>true
def b13(l:List Oper):Bool:=(List.range (l.length-1)).all fun i=>((O7 l []).getD (l.length-1) 0).testBit i
section
variable {G:Gh} {M0:Nat→Nat→Prop} {w0:World} {P:Program} {Q':Exit→Act→World→Prop}
structure zK (n:Nat) (l' l:Array Bool):Prop where
 s':l'.size=n
 s:l.size=n+1
 eq:∀j,j<n→l'.getD j true=l.getD j true
 last:l.getD n true=false
theorem eM(l:Array Bool){j:Nat}(h:j<l.size):l.getD j true=l.getD j false:=by
 simp [h]
theorem zK.eqf{n:Nat}{l' l:Array Bool}(c:zK n l' l){j:Nat}(h:j<n):l'.getD j false=l.getD j false:=by
 have h1:=c.s'
 have h2:=c.s
 rw[←eM l' (by omega),←eM l (by omega)]
 exact c.eq j h
theorem zK.set{n:Nat}{l' l:Array Bool}(c:zK n l' l){i:Nat}(h:i<n):zK n (l'.setIfInBounds i true) (l.setIfInBounds i true):=by
 refine⟨by simp [c.s'],by simp [c.s],fun j hj=>?_,?_⟩
 ·by_cases hij:i=j
  ·subst hij
   have h1:=c.s'
   have h2:=c.s
   have e1:i<l'.size:=by omega
   have e2:i<l.size:=by omega
   simp [e1,e2]
  ·rw[getD_set_ne true hij,getD_set_ne true hij];exact c.eq j hj
 ·rw[getD_set_ne true (by omega)];exact c.last
theorem b7e [j5 P] (m:Option Nat) (hgl:j5.ok P w0) {L0:List Oper} {o:Oper} (hback:b1O (L0++[o])=true) (hlast:b13 (L0++[o])=true) {E:Nat→qQ} {Q:St→Prop}
  (hQ:∀s ρ a w,Q s→Rel G M0 w0 s ρ a w→wpListIn (bP m) 0 P (L0++[o]).toArray Q' [o] a w):
  ∀(fuel:Nat) (l' l:Array Bool) (s:St) (ρ:Nat→Option (Nat×Nat×Nat)) (a:Act) (w:World),zK L0.length l' l→iJ (L0++[o]).toArray l→Rel G M0 w0 s ρ a w→b2Y P L0.toArray E Q fuel l' s→wpAnyIn (bP m) 0 P .any (L0++[o]).toArray Q' (fuel+1) l a w:=by
 have hget:∀i,i<L0.length→(L0++[o]).toArray[i]?=L0.toArray[i]?:=fun i hi=>by
  simp [List.getElem?_append_left hi]
 have hgetn:(L0++[o]).toArray[L0.length]?=some o:=by simp
 have hedge:∀(i:Nat) oi,(L0++[o]).toArray[i]?=some oi→∀e∈oi.after,Region.binds .any e=true→e.on<i:=by
  intro i oi hi e he hb
  have hi':(L0++[o])[i]?=some oi:=by simpa using hi
  have hlt:i<(L0++[o]).length:=(List.getElem?_eq_some_iff.1 hi').1
  unfold b1O at hback
  rw[List.all_eq_true]at hback
  have:=hback i (List.mem_range.2 hlt)
  rw[hi']at this
  simp only[Array.all_eq_true_iff_forall_mem]at this
  have:=this e he
  simpa[hb]using this
 have hall:∀l:Array Bool,iJ (L0++[o]).toArray l→L0.length∈Region.ready .any (L0++[o]).toArray l→∀j,j<L0.length→l.getD j false=true:=by
  intro l hc hr j hj
  obtain⟨_,o',ho',hdep⟩:=mem_ready.1 hr
  rw[hgetn]at ho'
  cases ho'
  unfold b13 at hlast
  rw[List.all_eq_true]at hlast
  have hd:rQ (O7 (L0++[o]) []) j L0.length:=by
   have:=hlast j (List.mem_range.2 (by simpa using hj))
   simpa[rQ]using this
  obtain⟨e,he,hb,h1⟩:=c3N (l:=L0++[o]) (j:=L0.length) (o:=o) (by simp) hd
  have hl:=hdep e he hb
  rcases h1 with rfl|⟨_,h1⟩
  ·exact hl
  ·exact c40 hc _ hl j h1
 have hiff:∀l' l:Array Bool,zK L0.length l' l→∀i,i<L0.length→(i∈Region.ready .any (L0++[o]).toArray l↔i∈Region.ready .any L0.toArray l'):=by
  intro l' l c i hi
  rw[mem_ready,mem_ready,hget i hi,c.eq i hi]
  refine and_congr Iff.rfl ⟨?_,?_⟩
  ·rintro⟨o',h1,h2⟩
   exact⟨o',h1,fun e he hb=>by
    have:=hedge i o' (by rw[hget i hi];exact h1) e he hb
    rw[c.eqf (by omega)];exact h2 e he hb⟩
  ·rintro⟨o',h1,h2⟩
   exact⟨o',h1,fun e he hb=>by
    have:=hedge i o' (by rw[hget i hi];exact h1) e he hb
    rw[←c.eqf (by omega)];exact h2 e he hb⟩
 have hsome:∀l' l:Array Bool,zK L0.length l' l→Region.ready .any (L0++[o]).toArray l≠[]∧(Region.ready .any L0.toArray l'=[]→L0.length∈Region.ready .any (L0++[o]).toArray l):=by
  intro l' l c
  by_cases h:∃j,j<L0.length∧l.getD j true=false
  ·obtain⟨j,⟨hj,hu⟩,hmin⟩:=c17 _ h
   have hr:j∈Region.ready .any (L0++[o]).toArray l:=by
    rw[mem_ready]
    refine⟨hu,L0[j],by rw[hget j hj];simp [hj],fun e he hb=>?_⟩
    have hlt:=hedge j L0[j] (by rw[hget j hj];simp [hj]) e he hb
    cases hq:l.getD e.on true with
    |true=>rw[eM l (by have:=c.s;omega)]at hq;exact hq
    |false=>exact absurd (hmin e.on ⟨by omega,hq⟩) (by omega)
   refine⟨fun e=>(by rw[e]at hr;cases hr),fun e=>?_⟩
   have:=(hiff l' l c j hj).1 hr
   rw[e]at this;cases this
  ·have hr:L0.length∈Region.ready .any (L0++[o]).toArray l:=by
    rw[mem_ready]
    refine⟨c.last,o,hgetn,fun e he hb=>?_⟩
    have hlt:=hedge _ o hgetn e he hb
    cases hq:l.getD e.on true with
    |true=>rw[eM l (by have:=c.s;omega)]at hq;exact hq
    |false=>exact absurd ⟨e.on,hlt,hq⟩ h
   exact⟨fun e=>(by rw[e]at hr;cases hr),fun _=>hr⟩
 have hend:∀(k:Nat) (l' l:Array Bool) (a:Act) (w:World),zK L0.length l' l→(∀j,j<L0.length→l.getD j false=true)→Q' .normal a w→wpAnyIn (bP m) 0 P .any (L0++[o]).toArray Q' k (l.setIfInBounds L0.length true) a w:=by
  intro k l' l a w c hl hq
  have hnone:Region.ready .any (L0++[o]).toArray (l.setIfInBounds L0.length true)=[]:=by
   refine List.eq_nil_iff_forall_not_mem.2 fun i hi=>?_
   obtain⟨h1,o',h2,_⟩:=mem_ready.1 hi
   have hlt:i<L0.length+1:=by
    have:=(Array.getElem?_eq_some_iff.1 h2).1
    simpa using this
   by_cases hin:i=L0.length
   ·subst hin
    have:L0.length<l.size:=by have:=c.s;omega
    simp [this]at h1
   ·rw[getD_set_ne true (Ne.symm hin)]at h1
    have:=hl i (by omega)
    rw[eM l (by have:=c.s;omega),this]at h1
    cases h1
  cases k with
  |zero=>exact⟨hnone,hq⟩
  |succ k=>exact⟨fun _=>hq,fun i hi=>by rw[hnone]at hi;cases hi⟩
 have hfin:∀(k:Nat) (l' l:Array Bool) (s:St) (ρ:Nat→Option (Nat×Nat×Nat)) (a:Act) (w:World),zK L0.length l' l→iJ (L0++[o]).toArray l→L0.length∈Region.ready .any (L0++[o]).toArray l→Q s→Rel G M0 w0 s ρ a w→
   wpOpIn (bP m) 0 P (L0++[o]).toArray Q' L0.length (wpAnyIn (bP m) 0 P .any (L0++[o]).toArray Q' k (l.setIfInBounds L0.length true)) a w:=by
  intro k l' l s ρ a w c hc hr hq R
  have h1:=hall l hc hr
  have h2:=hQ s ρ a w hq R
  refine wpOpIn_mono (K:=fun a w=>Q' .normal a w) (fun a w hh=>hend k l' l a w c h1 hh) ?_
  unfold wpOpIn
  rw[hgetn]
  exact h2
 intro fuel
 induction fuel with
 |zero=>
  intro l' l s ρ a w c hc R h
  obtain⟨h1,h2⟩:=hsome l' l c
  refine⟨fun e=>absurd e h1,fun i hi=>?_⟩
  by_cases hin:i=L0.length
  ·subst hin
   exact hfin 0 l' l s ρ a w c hc hi h.2 R
  ·obtain⟨_,o',g2,_⟩:=mem_ready.1 hi
   have hlt:i<L0.length:=by
    have:=(Array.getElem?_eq_some_iff.1 g2).1
    simp at this
    omega
   have:=(hiff l' l c i hlt).1 hi
   rw[h.1]at this;cases this
 |succ fuel ih=>
  intro l' l s ρ a w c hc R h
  obtain⟨h1,h2⟩:=hsome l' l c
  refine⟨fun e=>absurd e h1,fun i hi=>?_⟩
  by_cases hin:i=L0.length
  ·subst hin
   have hr':Region.ready .any L0.toArray l'=[]:=by
    refine List.eq_nil_iff_forall_not_mem.2 fun j hj=>?_
    obtain⟨g1,o',g2,_⟩:=mem_ready.1 hj
    have hjl:j<L0.length:=by
     have:=(Array.getElem?_eq_some_iff.1 g2).1
     simpa using this
    have:=hall l hc hi j hjl
    rw[c.eq j hjl,eM l (by have:=c.s;omega),this]at g1
    cases g1
   exact hfin _ l' l s ρ a w c hc hi (h.1 hr') R
  ·obtain⟨_,o',g2,_⟩:=mem_ready.1 hi
   have hlt:i<L0.length:=by
    have:=(Array.getElem?_eq_some_iff.1 g2).1
    simp at this
    omega
   obtain⟨oi,ho,hy,hrest⟩:=h.2 i ((hiff l' l c i hlt).1 hi)
   obtain⟨hd,hy⟩:=hy
   have hcs:=lV hc hi
   unfold wpOpIn
   rw[hget i hlt,ho]
   simp only
   have hgA:∀b,gA L0.toArray oi s=some b→gA (L0++[o]).toArray oi s=some b:=by
    intro b hb
    unfold gA at hb⊢
    cases hg:oi.guard with
    |none=>rw[hg]at hb;exact hb
    |some p=>
     obtain⟨j,want⟩:=p
     rw[hg]at hb
     simp only at hb⊢
     cases hj:L0.toArray[j]? with
     |none=>rw[hj]at hb;cases hb
     |some oj=>
      have hjl:j<L0.length:=by
       have:=(Array.getElem?_eq_some_iff.1 hj).1
       simpa using this
      rw[hget j hjl];exact hb
   cases hE:E i with
   |none=>
    rw[hE]at hy hrest
    simp only at hy
    rw[b1V R (hgA _ hy),if_neg (by simp)]
    exact⟨fun f _=>jY m f,ih _ _ _ _ _ _ (c.set hlt) hcs (R.pure hd (.v _)) hrest⟩
   |some p=>
    obtain⟨nid,fx⟩:=p
    rw[hE]at hy hrest
    simp only at hy
    rw[b1V R (hgA _ hy.1),if_pos rfl]
    exact bJ m (iK hy.2.1) (nH hgl R hd hy.2.2 hy.2.1 fun ρ' a' w' R'=>ih _ _ _ _ _ _ (c.set hlt) hcs R' hrest)
theorem a7H [j5 P] (m:Option Nat) (hgl:j5.ok P w0) {id:Nat} {L0:List Oper} {o:Oper} {es:List qQ} {s s':St} {ρ:Nat→Option (Nat×Nat×Nat)} {a:Act} {w:World} (hm:P.follows .mixedOrders=true) (R:Rel G M0 w0 s ρ a w)
  (hB:Region.lexB .any L0.toArray=true) (hback:b1O (L0++[o])=true) (hlast:b13 (L0++[o])=true)
  (hmem:∀i j,i<j→j<L0.length→¬rQ (O7 L0 []) i j→dT (es.getD i none) (es.getD j none)) (hR:oV P L0.toArray L0 s es s')
  (hQ:∀ρ' a' w',Rel G M0 w0 s' ρ' a' w'→wpListIn (bP m) 0 P (L0++[o]).toArray Q' [o] a' w'):(Code.region id (L0++[o]).toArray true).wpIn (bP m) 0 P Q' a w:=by
 simp only[Region.lexB,Bool.and_eq_true]at hB
 refine wpIn_region_any hm ?_
 have aF:(L0++[o]).toArray.size=L0.length+1:=by simp
 have hsz0:L0.toArray.size=L0.length:=by simp
 rw[aF]
 rw[hsz0]at hB
 refine b7e m hgl hback hlast (E:=fun i=>es.getD i none) (Q:=fun t=>t=s') (fun t ρ' a' w' e R'=>by subst e;exact hQ _ _ _ R') L0.length (Array.replicate L0.length false) _ s ρ a w.drew ?_ ?_ R.drew ?_
 ·refine⟨by simp,by simp,fun j hj=>?_,?_⟩
  ·rw[Array.getD_eq_getD_getElem?,Array.getD_eq_getD_getElem?,Array.getElem?_replicate,Array.getElem?_replicate,if_pos hj,if_pos (by omega)]
  ·rw[Array.getD_eq_getD_getElem?,Array.getElem?_replicate,if_pos (by omega)];rfl
 ·intro k hk
  exfalso
  simp only[Array.getD_eq_getD_getElem?,Array.getElem?_replicate]at hk
  split at hk<;>simp at hk
 ·refine wD hmem L0 0 _ s s' es (by simp) ?_ (fun j _=>Nat.zero_le _) hB.2 (fun j hj=>by simp) hR rfl
  intro k hk
  exfalso
  simp only[Array.getD_eq_getD_getElem?,Array.getElem?_replicate]at hk
  split at hk<;>simp at hk
end
section
variable {P:Program} {s:LS} {K:Exit→LS→Prop} {k:List KF}
theorem b0D{l:List Oper}(h:l≠[]):l.dropLast++[l.getLastD default]=l:=by
 rw[List.getLastD_eq_getLast?,List.getLast?_eq_some_getLast h,Option.getD_some]
 exact List.dropLast_concat_getLast h
def c16(P:Program)[j5 P](ops:List (Option Tmp))(o:Oper)(N:LS→Prop)(s:LS):Prop:=gX P ops [o] s N
theorem a8e[j5 P]{ops:List (Option Tmp)}{o:Oper}{N:LS→Prop}(h:gX P ops [o] s N):c16 P ops o N s:=h
theorem c0b {md:Bool} [j5 P] {id:Nat} {l:List Oper} (hm:P.follows .mixedOrders=true) (hne:l.isEmpty=false) (hB:Region.lexB .any l.dropLast.toArray=true) (hback:b1O l=true) (hlast:b13 l=true)
  (h:∀N:LS→Prop,(∀s,X7 (md:=md) P K k .normal s→N s)→∀mk,O7 l.dropLast []=mk→mF P (X5 l.dropLast) mk l.dropLast s [] (c16 P (X5 l) (l.getLastD default) N)):AK (md:=md) P (.region id l.toArray true) k s K:=by
 intro m hmm G M0 w0 ρ a w Q hg R hQ
 have hsp:=b0D (l:=l) (by intro e;rw[e]at hne;cases hne)
 obtain⟨es,s',h1,h2,h3,h4,h5⟩:=yP l.dropLast s [] _ R.2 (h _ (fun _ k=>k) _ rfl)
 have h4':=iT [l.getLastD default] s' _ h4
 generalize hL0:l.dropLast=L0 at*
 generalize ho:l.getLastD default=o at*
 clear hL0 ho
 subst hsp
 refine a7H m hg hm R.1 hB hback hlast ?_ h2 fun ρ' a' w' R'=>iU m hg [o] (K:=fun s=>X7 (md:=md) P K k .normal s) ⟨R',h5⟩ h4' fun s2 ρ2 a2 w2 hk R2=>hQ [] _ _ _ _ _ .nil hk (by rw[aU];exact R2)
 intro i j hij hj hnd
 simp only[List.nil_append,dQ,List.length_map,List.all_eq_true,List.mem_range,Bool.or_eq_true]at h3
 rcases h3 j (by omega) i hij with g|g
 ·exact absurd g hnd
 ·have e:∀i,i<es.length→(es.map aP).getD i none=aP (es.getD i none):=by
   intro i hi
   simp [List.getD_eq_getElem?_getD,hi]
  rw[e i (by omega),e j (by omega)]at g
  exact a7D g
end
end
section
theorem b6U{fn:Func}{n:Nat}(h:fn.ntmps=n)(xs:List AV)(rs:List Row)(m:Nat):Z0 fn xs rs m=⟨xs++List.replicate (n-xs.length) .Z,e9 0 rs++[(7,.u5 99 ((List.range m).map fun j=> .ptr j 0 0))],8⟩:=by subst h;rfl
def xF:AV→Bool
 | .v _=>true
 |_=>false
theorem b4o(id:Nat):∀zs:List AV,zs.all xF=true→zs.mapM (b4n id)=some zs:=by
 intro zs
 induction zs with
 |nil=>intro _;rfl
 |cons z zs ih=>
  intro h
  simp only[List.all_cons,Bool.and_eq_true]at h
  have h1:b4n id z=some z:=by
   cases z<;>first|rfl|(simp [xF]at h)
  rw[List.mapM_cons,h1,ih h.2];rfl
section
variable {P:Program} {s:LS} {N:LS→Prop} {rest:LS→(LS→Prop)→Prop} {restD:LS→oT→(LS→Prop)→Prop} {log:oT} {d:Option Tmp} {f:FuncId} {zs cs cs' e:List AV} {val:AV} {n id:Nat}
theorem a7y[j5 P](C:jI P f n (.ptr 0 0 0::zs) cs cs' val)(hz:zs.all xF=true)(h1:LS.hf s.h id= .live ⟨n,[e],0⟩)(h2:e.take cs.length=cs)(h3:cs'.length=cs.length)(h4:cs.all AV.plain=true)(h5:cs'.all AV.plain=true)(h6:val.flat=true):
  a7x P f (.ptr id 0 0::zs) (LS.hf s.h) ⟨val,[(id,some (0,0,cs.length),true)],some (id,0,0,cs'),[],none,[]⟩:=by
 refine .inl ⟨id,⟨n,[e],0⟩,.ptr 0 0 0::zs,cs,cs',val,C,?_,h1,rfl,rfl,fun j hj=>?_,h3,h4,h5,h6,rfl⟩
 ·rw[List.mapM_cons,b4o id zs hz]
  simp [b4n]
 ·show e[j]?=cs[j]?
  rw[←h2,List.getElem?_take]
  have:j<(e.take cs.length).length:=by rw[h2];exact hj
  rw[if_pos (by simp at this;omega)]
theorem a9t [j5 P] (C:jI P f n (.ptr 0 0 0::zs) cs cs' val) (hz:zs.all xF=true) (h1:LS.hf s.h id= .live ⟨n,[e],0⟩) (h2:e.take cs.length=cs) (h3:cs'.length=cs.length) (h4:cs.all AV.plain=true) (h5:cs'.all AV.plain=true) (h6:val.flat=true)
  (h:rest (s.cI d ⟨val,[(id,some (0,0,cs.length),true)],some (id,0,0,cs'),[],none,[]⟩) N):fO P rest d s N f (.ptr id 0 0::zs):=
 .inr (.inr (.inr ⟨_,a7y C hz h1 h2 h3 h4 h5 h6,h⟩))
theorem a7u [j5 P] (C:jI P f n (.ptr 0 0 0::zs) cs cs' val) (hz:zs.all xF=true) (h1:LS.hf s.h id= .live ⟨n,[e],0⟩) (h2:e.take cs.length=cs) (h3:cs'.length=cs.length) (h4:cs.all AV.plain=true) (h5:cs'.all AV.plain=true) (h6:val.flat=true)
  (h:restD (s.cI d ⟨val,[(id,some (0,0,cs.length),true)],some (id,0,0,cs'),[],none,[]⟩) (log++[some (s.nx,[(id,some (0,0,cs.length),true)])]) N):eT P restD d s log N f (.ptr id 0 0::zs):=
 .inr ⟨_,a7y C hz h1 h2 h3 h4 h5 h6,h⟩
theorem a9u [j5 P] {xs ys:List AV} {rs:List Row} {m:Nat} {α:Type} {I:α→Prop} {y:α→AV} {rs':α→List Row} (C:y6 P f ys rs m I y rs') (ids:List Nat) (hnd:ids.Nodup) (h1:b5 (LS.hf s.h) (r7 ids 0) ids=some rs) (h2:xs.mapM (n5 (r7 ids 0) 4)=some ys)
  (hm:m≤ids.length) (h3:∀a,I a→m≤(rs' a).length∧(rs' a).length≤m+8)
  (h:∀a,W0 (I a)→rest (LS.put ⟨s.t,bV ids m s.nx ((rs' a).map (bH (lH ids m s.nx))) s.h,s.nx+8⟩ d (v8 (lH ids m s.nx) 4 (y a))) N):fO P rest d s N f xs:=
 .inr (.inr (.inl (b0u C ids hnd h1 h2 hm h3 fun a ha=>h a ⟨ha⟩)))
end
theorem b7U {P:Program} {fn:Func} {rs:List Row} {m:Nat} {α:Type} {I:α→Prop} {y:α→AV} {rs':α→List Row} {e:Exit} {s:LS} (he:match e with| .normal| .ret=>True|_=>False) (a:α) (ids:List Nat) {x:AV} {gid:Nat} {gcs:List AV}
  (hx:oH P s.o4 fn.results.toList=some x) (hI:I a) (hnd:ids.Nodup) (hl:(rs' a).length=ids.length) (aF:((rs' a).take m).map Row.sz=(rs.take m).map Row.sz) (hg:p7 99 s.h=some (gid,gcs)) (hg2:LS.hf s.h gid= .u5 99 gcs) (hg3:gcs=(ids.take m).map fun j=> .ptr j 0 0)
  (hy:n5 (r7 ids 0) 4 x=some (y a)) (hp:b5 (LS.hf s.h) (r7 ids 0) ids=some (rs' a)):a4v P fn rs m I y rs' e s:=
 ⟨he,x,hx,a,hI,ids,hnd,hl,aF,⟨gid,by rw[hg,hg3],by rw[hg2,hg3]⟩,hy,hp⟩
theorem yL(r:Nat→Option Nat)(n:Nat){x:AV}(h:x.plain=true):n5 r (n+1) x=some x:=by
 cases x<;>first|rfl|(simp [AV.plain]at h;done)|skip
 rename_i f cs
 cases cs with
 |nil=>rfl
 |cons c cs=>simp [AV.plain]at h
theorem gV{α:Type}{f:α→Option α}:∀{l:List α},(∀x∈l,f x=some x)→l.mapM f=some l:=by
 intro l
 induction l with
 |nil=>intro _;rfl
 |cons a l ih=>
  intro h
  rw[List.mapM_cons,h a (by simp),ih fun x hx=>h x (by simp [hx])];rfl
theorem oG{l:List (List AV)}(h:v7 l=true)(r:Nat→Option Nat):(l.mapM fun(e:List AV)=>e.mapM (n5 r 3))=some l:=
 gV fun e he=>gV fun x hx=>yL r 2 (List.all_eq_true.1 (List.all_eq_true.1 h e he) x hx)
theorem a8i{α β:Type}(f:α→Option β):∀(l l':List α),(l++l').mapM f=(l.mapM f).bind fun x=>(l'.mapM f).map (x++·):=by
 intro l l'
 induction l with
 |nil=>simp
 |cons a l ih=>
  simp only[List.cons_append,List.mapM_cons,ih]
  cases f a with
  |none=>rfl
  |some b=>
   cases l.mapM f with
   |none=>rfl
   |some x=>cases l'.mapM f<;>simp
theorem eH{l:List (List AV)}(h:v7 l=true)(l':List (List AV))(r:Nat→Option Nat):((l++l').mapM fun(e:List AV)=>e.mapM (n5 r 3))=(l'.mapM fun(e:List AV)=>e.mapM (n5 r 3)).map (l++·):=by
 rw[a8i,oG h];rfl
theorem xW(g:Nat→Nat)(n:Nat){x:AV}(h:x.plain=true):v8 g (n+1) x=x:=by
 cases x<;>first|rfl|(simp [AV.plain]at h;done)|skip
 rename_i f cs
 cases cs with
 |nil=>rfl
 |cons c cs=>simp [AV.plain]at h
theorem pV{l:List (List AV)}(h:v7 l=true)(g:Nat→Nat):(l.map fun(e:List AV)=>e.map (v8 g 3))=l:=by
 have:∀e∈l,(e.map (v8 g 3))=e:=fun e he=>by
  have:∀x∈e,v8 g 3 x=x:=fun x hx=>xW g 2 (List.all_eq_true.1 (List.all_eq_true.1 h e he) x hx)
  exact(List.map_congr_left this).trans (List.map_id e)
 exact(List.map_congr_left this).trans (List.map_id l)
theorem fX{l:List (List AV)}(h:v7 l=true)(l':List (List AV))(g:Nat→Nat):((l++l').map fun(e:List AV)=>e.map (v8 g 3))=l++l'.map fun(e:List AV)=>e.map (v8 g 3):=by
 rw[List.map_append,pV h]
end
end Go.Ab
end
section
namespace Go.Proofs.YtgdoiokalfhjoaaGreatDoor
open Go.Ab
open Go.RowKit (Below)
theorem b4F{n:String}{x:Array Value}{w w':World}(h:w.var? Tryz.prog n=some x)(hb:Below w.heap.size w w'):w'.var? Tryz.prog n=some x:=by
 unfold World.var? at h⊢
 cases hg:Tryz.prog.globalNamed n with
 |none=>rw[hg]at h;cases h
 |some g=>
  rw[hg]at h
  simp only[Option.bind_some]at h⊢
  cases hh:w.heap[g]? with
  |none=>rw[hh]at h;cases h
  |some b=>rw[hb.block g (A4 hh)];exact h
def a3w:List Int:=Lib.deBruijn64tab.map fun n:Nat=>(n:Int)
def okW(w:World):Prop:=Lib.TabIs Tryz.prog w "math/bits.deBruijn64tab" .u8 a3w
theorem b7A{w w':World}(h:okW w)(hb:Below w.heap.size w w'):okW w':=b4F h hb
instance:j5 Tryz.prog:=⟨okW,b7A⟩
end Go.Proofs.YtgdoiokalfhjoaaGreatDoor
end
section
namespace Go.Proofs.YtgdoiokalfhjoaaGreatDoor
open Go.Ab
structure E3 where
 k:Int
 n:Int
 v:Int
 deriving DecidableEq
def E3.av(o:E3):List AV:=[.v (.int .i64 o.k),.v (.int .i64 o.n),.v (.int .i32 o.v)]
def O0:E3:=⟨0,0,0⟩
structure e7 where
 op:Int
 sub:Int
 n:Int
 d:E3
 a:E3
 b:E3
 c:E3
 deriving DecidableEq
def e7.av(i:e7):List AV:=[.v (.int .i64 i.op),.v (.int .i64 i.sub),.v (.int .i64 i.n),.v (.int .i64 i.d.k),.v (.int .i64 i.d.n),.v (.int .i32 i.d.v),.v (.int .i64 i.a.k),.v (.int .i64 i.a.n),.v (.int .i32 i.a.v),.v (.int .i64 i.b.k),.v (.int .i64 i.b.n),.v (.int .i32 i.b.v),.v (.int .i64 i.c.k),.v (.int .i64 i.c.n),.v (.int .i32 i.c.v)]
def I0:e7:=⟨0,0,0,O0,O0,O0,O0⟩
structure q9 where
 kind:Int
 sub:Int
 d:E3
 a:E3
 b:E3
 t0:Int
 t1:Int
 deriving DecidableEq
def q9.av(t:q9):List AV:=[.v (.int .i64 t.kind),.v (.int .i64 t.sub),.v (.int .i64 t.d.k),.v (.int .i64 t.d.n),.v (.int .i32 t.d.v),.v (.int .i64 t.a.k),.v (.int .i64 t.a.n),.v (.int .i32 t.a.v),.v (.int .i64 t.b.k),.v (.int .i64 t.b.n),.v (.int .i32 t.b.v),.v (.int .i64 t.t0),.v (.int .i64 t.t1)]
def Q6:q9:=⟨0,0,O0,O0,O0,0,0⟩
def c6(l:List e7):List (List AV):=l.map e7.av
structure b6 where
 i:List e7
 t:q9
def b6.av(b:b6):List AV:= .a8 false (c6 b.i)::b.t.av
def B0:b6:=⟨[],Q6⟩
def o0(l:List b6):List (List AV):=l.map b6.av
structure Loop where
 h:Int
 r:Int
 b:Int
def Loop.av(l:Loop):List AV:=[.v (.int .i64 l.h),.v (.int .i64 l.r),.v (.int .i64 l.b)]
def loops(l:List Loop):List (List AV):=l.map Loop.av
structure cN where
 name:ByteArray
 space:Int
 ty:Int
 len:Int
def cN.av(a:cN):List AV:=[.v (.string a.name),.v (.int .i64 a.space),.v (.int .i64 a.ty),.v (.int .i64 a.len)]
def A0:cN:=⟨⟨#[]⟩,0,0,0⟩
def y4(l:List cN):List (List AV):=l.map cN.av
def eR(l:List Int):List (List AV):=l.map fun z=>[.v (.int .u8 z)]
def c7(l:List Int):List (List AV):=l.map fun z=>[.v (.int .i64 z)]
structure Code where
 group:Int
 sub:Int
 regs:Int
 w5:Int
 params:Int
 c9:List cN
 loops:List Loop
 b:List b6
def Code.av(c:Code):List AV:=[.v (.int .i64 c.group),.v (.int .i64 c.sub),.v (.int .i64 c.regs),.v (.int .i64 c.w5),.v (.int .i64 c.params),.a8 false (y4 c.c9),.a8 false (Proofs.YtgdoiokalfhjoaaGreatDoor.loops c.loops),.a8 false (o0 c.b)]
theorem O3(l:List e7):(c6 l).length=l.length:=by simp [c6]
theorem cA(l:List e7):(∀e∈c6 l,e.length=15)=True:=by simp [c6,e7.av]
theorem eX(l:List e7)(z:Nat)(h:z<l.length):(c6 l)[z]?=some (l.getD z I0).av:=by simp [c6,h,List.getD_eq_getElem?_getD]
theorem L1(l:List e7):((c6 l).all fun e=>e.all AV.plain)=true:=by simp [c6,e7.av,AV.plain]
theorem cB(l:List e7):v7 (c6 l)=true:=L1 l
theorem pP:c6 []=[]:=rfl
theorem lY(l:List e7)(a b c d e f g h i j k m n o p:Int):
  c6 l++[[.v (.int .i64 a),.v (.int .i64 b),.v (.int .i64 c),.v (.int .i64 d),.v (.int .i64 e),.v (.int .i32 f),.v (.int .i64 g),.v (.int .i64 h),.v (.int .i32 i),.v (.int .i64 j),.v (.int .i64 k),.v (.int .i32 m),.v (.int .i64 n),.v (.int .i64 o),.v (.int .i32 p)]]=c6 (l++[⟨a,b,c,⟨d,e,f⟩,⟨g,h,i⟩,⟨j,k,m⟩,⟨n,o,p⟩⟩]):=by simp [c6,e7.av]
theorem fH(l:List e7):(c6 l).take l.length=c6 l:=by rw[←O3,List.take_length]
theorem nQ(l:List e7):(∀e∈c6 l,∀x∈e,AV.one x=true)=True:=by
 simp only[eq_iff_iff,iff_true]
 intro e he x hx
 simp only[c6,List.mem_map]at he
 obtain⟨j,_,rfl⟩:=he
 simp only[e7.av,List.mem_cons,List.not_mem_nil,or_false]at hx
 rcases hx with rfl|rfl|rfl|rfl|rfl|rfl|rfl|rfl|rfl|rfl|rfl|rfl|rfl|rfl|rfl<;>rfl
theorem D4(l:List b6):(o0 l).length=l.length:=by simp [o0]
theorem N7(l:List b6):(∀e∈o0 l,e.length=14)=True:=by simp [o0,b6.av,q9.av]
theorem Q7(l:List b6)(z:Nat)(h:z<l.length):(o0 l)[z]?=some (l.getD z B0).av:=by simp [o0,h,List.getD_eq_getElem?_getD]
theorem O5(l:List b6):((o0 l).all fun e=>e.all AV.plain)=true:=by simp [o0,b6.av,q9.av,AV.plain]
theorem S6(l:List b6):v7 (o0 l)=true:=O5 l
theorem gK:o0 []=[]:=rfl
theorem nC(l:List b6):(∀e∈o0 l,∀x∈e,AV.one x=true)=True:=by
 simp only[eq_iff_iff,iff_true]
 intro e he x hx
 simp only[o0,List.mem_map]at he
 obtain⟨j,_,rfl⟩:=he
 simp only[b6.av,q9.av,List.mem_cons,List.not_mem_nil,or_false]at hx
 rcases hx with rfl|rfl|rfl|rfl|rfl|rfl|rfl|rfl|rfl|rfl|rfl|rfl|rfl|rfl<;>rfl
theorem eQ(l:List cN):(y4 l).length=l.length:=by simp [y4]
theorem oX(l:List cN):(∀e∈y4 l,e.length=4)=True:=by simp [y4,cN.av]
theorem oY(l:List cN)(z:Nat)(h:z<l.length):(y4 l)[z]?=some (l.getD z A0).av:=by simp [y4,h,List.getD_eq_getElem?_getD]
theorem a2E(l:List cN)(z:Int)(h:0≤z∧z<l.length):(y4 l)[z.toNat]?=some (l.getD z.toNat A0).av:=oY l z.toNat (by omega)
theorem iB(l:List cN):((y4 l).all fun e=>e.all AV.plain)=true:=by simp [y4,cN.av,AV.plain]
theorem M7(l:List Loop):(loops l).length=l.length:=by simp [loops]
theorem fP(l:List Loop):(∀e∈loops l,e.length=3)=True:=by simp [loops,Loop.av]
theorem dG(l:List Loop):((loops l).all fun e=>e.all AV.plain)=true:=by simp [loops,Loop.av,AV.plain]
theorem xV(l:List Loop)(a b c:Int):loops l++[[.v (.int .i64 a),.v (.int .i64 b),.v (.int .i64 c)]]=loops (l++[⟨a,b,c⟩]):=by simp [loops,Loop.av]
theorem Z8(l:List Loop):(loops l).take l.length=loops l:=by rw[←M7,List.take_length]
theorem jW(l:List Loop):(∀e∈loops l,∀x∈e,AV.one x=true)=True:=by
 simp only[eq_iff_iff,iff_true]
 intro e he x hx
 simp only[loops,List.mem_map]at he
 obtain⟨j,_,rfl⟩:=he
 simp only[Loop.av,List.mem_cons,List.not_mem_nil,or_false]at hx
 rcases hx with rfl|rfl|rfl<;>rfl
theorem a7r(l:List Int):(eR l).length=l.length:=by simp [eR]
theorem b6b(l:List Int):(∀e∈eR l,e.length=1)=True:=by simp [eR]
theorem a2G(l:List Int)(z:Nat)(h:z<l.length):(eR l)[z]?=some [.v (.int .u8 (l.getD z 0))]:=by simp [eR,h,List.getD_eq_getElem?_getD]
theorem b3b(l:List Int)(z:Int)(h:0≤z∧z<l.length):(eR l)[z.toNat]?=some [.v (.int .u8 (l.getD z.toNat 0))]:=a2G l z.toNat (by omega)
theorem I2(l:List Int):(c7 l).length=l.length:=by simp [c7]
theorem iM(l:List Int):(∀e∈c7 l,e.length=1)=True:=by simp [c7]
theorem eP(l:List Int)(z:Nat)(h:z<l.length):(c7 l)[z]?=some [.v (.int .i64 (l.getD z 0))]:=by simp [c7,h,List.getD_eq_getElem?_getD]
theorem a23(l:List Int)(z:Int)(h:0≤z∧z<l.length):(c7 l)[z.toNat]?=some [.v (.int .i64 (l.getD z.toNat 0))]:=eP l z.toNat (by omega)
theorem m9(l:List Int):((c7 l).all fun e=>e.all AV.plain)=true:=by simp [c7,AV.plain]
theorem a77:c7 []=[]:=rfl
theorem cV(l:List Int)(a:Int):c7 l++[[.v (.int .i64 a)]]=c7 (l++[a]):=by simp [c7]
theorem N1(l:List Int):(c7 l).take l.length=c7 l:=by rw[←I2,List.take_length]
theorem b82(t:q9):t.av.length=13:=rfl
theorem mO(t:q9):t.av.all AV.plain=true:=by simp [q9.av,AV.plain]
theorem a81(t:q9)(r:Nat→Option Nat):t.av.mapM (n5 r 3)=some t.av:=gV fun x hx=>yL r 2 (List.all_eq_true.1 (mO t) x hx)
theorem b83(t:q9)(g:Nat→Nat):t.av.map (v8 g 3)=t.av:=by
 have:∀x∈t.av,v8 g 3 x=id x:=fun x hx=>xW g 2 (List.all_eq_true.1 (mO t) x hx)
 rw[List.map_congr_left this,List.map_id]
theorem b56(l:List b6)(l':List (List AV))(r:Nat→Option Nat):((o0 l++l').mapM fun(e:List AV)=>e.mapM (n5 r 3))=(l'.mapM fun(e:List AV)=>e.mapM (n5 r 3)).map (o0 l++·):=eH (S6 l) l' r
theorem b54(l:List b6)(l':List (List AV))(g:Nat→Nat):((o0 l++l').map fun(e:List AV)=>e.map (v8 g 3))=o0 l++l'.map fun(e:List AV)=>e.map (v8 g 3):=fX (S6 l) l' g
def wrap(n:Int):Int:=IntKind.i64.wrap n
theorem tL(n:Int):IntKind.i64.wrap n=wrap n:=rfl
theorem tM{n:Int}(h: -9223372036854775808≤n)(h2:n<9223372036854775808):wrap n=n:=by
 simp [wrap,IntKind.wrap,IntKind.bits,IntKind.signed];omega
def w32(n:Int):Int:=IntKind.i32.wrap n
theorem qM(n:Int):IntKind.i32.wrap n=w32 n:=rfl
theorem zE{n:Int}(h: -2147483648≤n)(h2:n<2147483648):w32 n=n:=by
 simp [w32,IntKind.wrap,IntKind.bits,IntKind.signed];omega
theorem cH(a b:Int)(h:0≤a):a.tmod b=a%b:=Int.tmod_eq_emod_of_nonneg h
theorem c1B(a b:Int)(h:0≤a):a.tdiv b=a / b:=Int.tdiv_eq_ediv_of_nonneg h
end Go.Proofs.YtgdoiokalfhjoaaGreatDoor
end
