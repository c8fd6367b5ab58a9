/- Own work (by an AI agent; no person has read it): part of a proof of the seat YtgdoiokalfhjoaaDoor. -/
import Derived.LoopNIn
import Derived.RangeFuncNested
import Derived.RangeFuncBound
import Derived.Shelf.Abstract
import Derived.Deep.Slices
import Derived.ProofKit
import Derived.OpenShut
import Derived.Test.YtgdoiokalfhjoaaDoorTie
import Derived.Test.YtgdoiokalfhjoaaDoorCards
import Derived.LaidMore
import Derived.Lay
import Derived.SevenTiedAt
import Derived.Stop.Joined
import Derived.Shelf.Vars
import Derived.Deep.DeepHandedRow
import Derived.RangeFuncBox
import Derived.RangeFuncLeaves
import Derived.WalkKit
import Derived.OwnWalkIn
import Derived.TacticsInMore
import Derived.LoopIn
import Derived.Test.YtgdoiokalfhjoaaDoorXb
set_option linter.unusedVariables false
set_option linter.unusedSimpArgs false
set_option maxRecDepth 100000
set_option maxHeartbeats 10000000
section
namespace Go.Ab
open Go.RowKit (Below)
section
section
variable {G:Gh} {M0:Nat→Nat→Prop} {w0:World} {ρ:Nat→Option (Nat×Nat×Nat)} {a:Act} {w:World} {P:Program} {K:Exit→LS→Prop} {s:LS} {Q:Exit→Act→World→Prop}
theorem a9d(ids:List (Nat×Nat))(R0:E8 G M0 w0 s ρ a w):E8 G M0 w0 ⟨s.t,u1 ids s.h,s.nx⟩ ρ a w:=by
 obtain⟨R,hok⟩:=R0
 refine⟨?_,a0L hok⟩
 have hH:LS.hf (u1 ids s.h)=raise ids s.n8.h:=jV ids s.h
 refine{n:=R.n,tm:=fun t=>?_,live:=fun id r hr=>?_,free:=fun id hr=>?_,inj:=fun id id' r r' b β β' z z' h1 h2 h3 h4=>?_,U2:=R.U2,m0:=R.m0,defers:=R.defers,mS:=fun id k cs hg i x hx=>?_,lE:=fun x u hx=>?_,iM:=fun id b q f hm=>?_,fY:=R.fY,dH:=fun id r p hr hp=>?_,nD:=fun id b q f hm=>?_,oI:=R.oI}
 ·show r7 (p7 M0 ρ (LS.hf (u1 ids s.h))) ρ w (LS.tf s.t t) _
  rw[hH];exact(R.tm t).raise
 ·have hr:LS.hf (u1 ids s.h) id= .live r:=hr
  rw[hH]at hr
  obtain⟨r0,h0,rfl⟩:=P4 hr
  obtain⟨b,β,arr,e,l1,l2,l3,l4,l5,l6⟩:=R.live id r0 h0
  refine⟨b,β,arr,e,l1,l2,l3,l4,l5,fun i j e x u g1 g2 g3=>?_⟩
  show r7 (p7 M0 ρ (LS.hf (u1 ids s.h))) ρ w x u
  rw[hH];exact(l6 i j e x u g1 g2 g3).raise
 ·have hr:LS.hf (u1 ids s.h) id= .free:=hr
  rw[hH]at hr
  exact R.free id (O9 hr fun r h=>by cases h)
 ·have h1:LS.hf (u1 ids s.h) id= .live r:=h1
  have h2:LS.hf (u1 ids s.h) id'= .live r':=h2
  rw[hH]at h1 h2
  obtain⟨r0,g0,_⟩:=P4 h1
  obtain⟨r1,g1,_⟩:=P4 h2
  exact R.inj id id' r0 r1 b β β' z z' g0 g1 h3 h4
 ·have hg:LS.hf (u1 ids s.h) id= .u3 k cs:=hg
  rw[hH]at hg
  show r7 (p7 M0 ρ (LS.hf (u1 ids s.h))) ρ w x _
  rw[hH]
  exact(R.mS id k cs (O9 hg fun r h=>by cases h) i x hx).raise
 ·show r7 (p7 M0 ρ (LS.hf (u1 ids s.h))) _ w x u
  rw[hH];exact(R.lE x u hx).mono (fun _ _ h=>h) (fun _ _ _ g1 g2=>⟨fun g=>g1 (H4 g),g2⟩) (fun _ _ h=>h)
 ·have hm:LS.hf (u1 ids s.h) id= .mp b q f:=hm
  rw[hH]at hm
  exact R.iM id b q f (O9 hm fun r h=>by cases h)
 ·have hr:LS.hf (u1 ids s.h) id= .live r:=hr
  rw[hH]at hr
  obtain⟨r0,h0,_⟩:=P4 hr
  exact R.dH id r0 p h0 hp
 ·have hm:LS.hf (u1 ids s.h) id= .mp b q f:=hm
  rw[hH]at hm
  exact R.nD id b q f (O9 hm fun r h=>by cases h)
def SOp(P:Program)[j9 P](o:Oper)(s:LS)(N:LS→Prop):Prop:=
 ∀(G:Gh) (M0:Nat→Nat→Prop) (w0:World) (ρ:Nat→Option (Nat×Nat×Nat)) (a:Act) (w:World),j9.ok P w0→E8 G M0 w0 s ρ a w→
  ∃v s' ρ' w',(execOp a.eval o).run P w= .ok (.value v) w'∧N s'∧E8 G M0 w0 s' ρ' (a.put o.dst v) w'
theorem a5J[j9 P](m:Option Nat)(hgl:j9.ok P w0){ops:List Oper}(l2:List Oper):∀(l:List Oper) {s:LS} {ρ:Nat→Option (Nat×Nat×Nat)} {a:Act} {w:World} {K:LS→Prop},E8 G M0 w0 s ρ a w→aO P ops l s K→
  (∀s' ρ' a' w',K s'→E8 G M0 w0 s' ρ' a' w'→wpListIn (bP m) 0 P ops.toArray Q l2 a' w')→wpListIn (bP m) 0 P ops.toArray Q (l++l2) a w:=by
 intro l
 induction l with
 |nil=>intro s ρ a w K R h hK;exact hK _ _ _ _ h R
 |cons o rest ih=>
  intro s ρ a w K R h hK
  simp only[aO]at h
  rw[List.cons_append]
  unfold wpListIn
  rcases a3s R h with⟨hw,hd,hx⟩|⟨hw,hd,hr⟩
  ·rw[if_pos hw]
   rcases hx with⟨fx,hx,hr⟩|hx
   ·refine bH m (gT hx) (mP hgl R.1 hd (fun k _=>LS.free R.2 (by omega)) hx fun ρ' a' w' R'=>?_)
    obtain⟨h1,h2⟩:=sW R.2 hd hx
    exact ih ⟨by rw[h1];exact R',h2⟩ hr hK
   ·exact bH m (qH hx) (zL hgl R hd hx fun s' ρ' a' w' hs R'=>ih R' hs hK)
  ·rw[if_neg (by simp [hw])]
   exact⟨fun f _=>jG m f,ih (R.put hd (.v _)) hr hK⟩
theorem b2O {md:Bool} [j9 P] {id:Nat} {k:List KF} (l1:List Oper) (o:Oper) (l2:List Oper) {l:Array Oper} (hl:l=(l1++o::l2).toArray) (hg:o.guard=none) (hnd:∀c,o.op≠ .defer c)
  (h:∀N:LS→Prop,(∀s,Y2 (md:=md) P K k .normal s→N s)→gF P (X9 (l1++o::l2)) l1 s (fun s1=>SOp P o s1 (fun s2=>gF P (X9 (l1++o::l2)) l2 s2 N))):AK (md:=md) P (.region id l false) k s K:=by
 subst hl
 intro m hmm G M0 w0 ρ a w Q hgl R hQ
 refine wpIn_region_lit (a5J m hgl (o::l2) l1 R (iB l1 s _ (h _ fun _ k=>k)) fun s1 ρ1 a1 w1 hS R1=>?_)
 obtain⟨v,s2,ρ2,w2,hrun,h2,R2⟩:=hS G M0 w0 ρ1 a1 w1 hgl R1
 unfold wpListIn
 rw[if_pos (by simp [Region.wanted,hg])]
 refine bH m hnd ?_
 unfold Oper.wp
 rw[hrun]
 exact iC m hgl l2 R2 (iB l2 s2 _ h2) fun s' ρ' a' w' hk R'=>hQ [] _ _ _ _ _ .nil hk (by rw[aS];exact R')
theorem b3W [j9 P] {o:Oper} {t:TypeId} {x:Operand} {n:Nat} {E:TI} {id i k:Nat} {r:Row} {e:List AV} {N:LS→Prop} (ho:o.op= .slice t x none none none) (hD:td P t=some (.array n E)) (hE9:E.size=1) (hd:T8 s o.dst)
  (hx:LS.ev s.t x= .ptr id i k) (hr:LS.hf s.h id= .live r) (hi:r.es[i]?=some e) (hk:k+n≤r.sz) (hpl:e.all AV.plain=true) (hn:0<n)
  (hN:N ((⟨s.t,u1 [(id,i+1)] s.h,s.nx⟩:LS).put o.dst (.c5 true (((e.drop k).take n).map fun c=>[c])))):SOp P o s N:=by
 intro G M0 w0 ρ a w hgl R
 obtain⟨b,β,arr,ty,l1,l2,l3,l4,l5,l6⟩:=R.1.live id r hr
 obtain⟨e',hund,hti⟩:=oD hD
 have hev:=R.1.ev x
 rw[LS.iZ,hx]at hev
 have hlen:i<r.es.length:=(List.getElem?_eq_some_iff.1 hi).1
 have he:e.length=r.sz:=l5 e (List.mem_of_getElem? hi)
 have hmul:(i+1)*r.sz≤r.es.length*r.sz:=Nat.mul_le_mul_right _ hlen
 rw[Nat.add_mul,Nat.one_mul]at hmul
 have hu:a.eval x= .pointer (some ⟨b,β+i*r.sz+k,none⟩):=by
  generalize a.eval x=u at hev
  cases hev with
  |ptr _ _ _ b' β' sz' h'=>rw[l1]at h';cases h';rfl
 have R2:=a9d [(id,i+1)] R
 have hrun:(execOp a.eval o).run P w= .ok (.value (.slice (some ⟨b,β+i*r.sz+k,none⟩) n n)) w:=by
  have h1:(Instr.sliceAt t (.pointer (some ⟨b,β+i*r.sz+k,none⟩)) none none none).run P w= .ok (.slice (some ⟨b,β+i*r.sz+k,none⟩) n n) w:=by
   have aD:=D9 hti w
   simp only[Instr.sliceAt,run_underlying hund,Sem.run_bind,Result.andThen_ok,Instr.sureAddr,Instr.sliceBounds,Sem.run_pure,aD,Nat.sub_zero,Nat.zero_mul]
   rw[if_neg (by omega),X1,Nat.add_zero]
  simp only[execOp,ho,Option.map_none,hu]
  exact H7 h1
 refine⟨_,_,ρ,w,hrun,hN,?_⟩
 refine E8.put R2 (dU (by cases hdd:o.dst with|none=>trivial|some d=>rw[hdd]at hd;exact hd)) ?_
 have hfr:∀j,j<n→¬p7 M0 ρ (LS.hf (u1 [(id,i+1)] s.h)) b (β+i*r.sz+k+j):=by
  rintro j hj (g|⟨id',r',β',z',g1,g2,g3⟩)
  ·rcases R.1.m0 b _ g with g|⟨x,g⟩
   ·omega
   ·have:=R.1.dH id r _ hr l1
    rw[this]at g;cases g
  ·rw[jV]at g1
   obtain⟨r0,h0,e0⟩:=P4 g1
   have:id'=id:=R.1.inj id' id r0 r b β' β z' r.sz h0 hr g2 l1
   subst this
   rw[l1]at g2;cases g2
   have h0':LS.hf s.h id'= .live r0:=h0
   rw[hr]at h0';cases h0'
   rw[e0]at g3
   simp only[E7,List.foldl_cons,List.foldl_nil,if_true]at g3
   have:(i+1)*r.sz≤max r.fro (i+1)*r.sz:=Nat.mul_le_mul_right _ (Nat.le_max_right _ _)
   rw[Nat.add_mul,Nat.one_mul]at this
   omega
 have hcell:∀j,j<n→∃c u,e[k+j]?=some c∧arr[β+i*r.sz+(k+j)]?=some u∧r7 (p7 M0 ρ s.n8.h) ρ w c u:=by
  intro j hj
  have h1:k+j<e.length:=by omega
  have h2:β+i*r.sz+(k+j)<arr.size:=by omega
  exact⟨e[k+j],arr[β+i*r.sz+(k+j)],List.getElem?_eq_getElem h1,Array.getElem?_eq_getElem h2,l6 i (k+j) e _ _ hi (List.getElem?_eq_getElem h1) (Array.getElem?_eq_getElem h2)⟩
 have hln:(((e.drop k).take n).map fun c=>[c]).length=n:=by simp;omega
 have hrep:=r7.c5 (M:=p7 M0 ρ (LS.hf (u1 [(id,i+1)] s.h))) (ρ:=ρ) (w:=w) true (((e.drop k).take n).map fun c=>[c]) (some ⟨b,β+i*r.sz+k,none⟩) n b (β+i*r.sz+k) 1 (fun i' j'=>arr.getD (β+i*r.sz+k+i'+j') undef) (by rw[hln];exact Nat.le_refl _) (fun _=>hln.symm)
  (fun z hz=>by
   simp only[List.mem_map]at hz
   obtain⟨c,_,rfl⟩:=hz
   rfl)
  (fun _=>rfl)
  (fun i' j' hi' hj'=>by
   rw[hln]at hi'
   obtain rfl:j'=0:=by omega
   refine⟨by rw[Nat.mul_one,Nat.add_zero];exact hfr i' hi',?_⟩
   obtain⟨c,u,_,h2,_⟩:=hcell i' hi'
   rw[dT l3,Nat.mul_one,Nat.add_zero,show β+i*r.sz+k+i'=β+i*r.sz+(k+i') by omega,h2]
   rw[Array.getD_eq_getD_getElem?];first|(rw[h2];rfl)|(rw[show β+i*r.sz+(k+i')+0=β+i*r.sz+(k+i') by omega,h2];rfl))
  (fun i' j' e2 x2 h1 h2=>by
   have hi':i'<n:=by have:=(List.getElem?_eq_some_iff.1 h1).1;rw[hln]at this;exact this
   obtain⟨c,u,g1,g2,g3⟩:=hcell i' hi'
   rw[List.getElem?_map,List.getElem?_take_of_lt hi',List.getElem?_drop,g1]at h1
   cases h1
   cases j' with
   |succ j'=>simp at h2
   |zero=>
    simp only[List.getElem?_cons_zero,Option.some.injEq]at h2
    subst h2
    rw[Array.getD_eq_getD_getElem?,show β+i*r.sz+k+i'+0=β+i*r.sz+(k+i') by omega,g2]
    have hc:c.plain=true:=List.all_eq_true.1 hpl c (List.mem_of_getElem? g1)
    have g4:r7 (p7 M0 ρ (raise [(id,i+1)] s.n8.h)) (fun _=>none) w c u:=g3.raise.Z5 hc
    rw[jV];exact g4)
 rw[hln]at hrep
 exact hrep
end
end
end Go.Ab
end
section
namespace Go.Ab
section
section
variable {P:Program} {K:Exit→LS→Prop} {s:LS}
def nM{md:Bool}(P:Program)[j9 P](c:Code)(K:Exit→LS→Prop):List Unit→LS→Prop
 |[],_=>False
 |_::l,s=>AK (md:=md) P c [] s (S4 (nM (md:=md) P c K l) K)
theorem X0{md:Bool}[j9 P]{c:Code}{u:Unit}{l:List Unit}:nM (md:=md) P c K (u::l) s=AK (md:=md) P c [] s (S4 (nM (md:=md) P c K l) K):=rfl
theorem y3{md:Bool}[j9 P]{c:Code}{k:List KF}(l:List Unit)(h:nM (md:=md) P c (Y2 (md:=md) P K k) l s):AK (md:=md) P (.loop c) k s K:=by
 intro m hmm G M0 w0 ρ a w Q hgl R hQ
 refine wpIn_loop_rounds l.length ?_
 suffices H:∀(l:List Unit) (s:LS) (Ds:List Nat) (ρ:Nat→Option (Nat×Nat×Nat)) (a:Act) (w:World),iS w0 G Ds→E8 (Z2 G Ds) M0 w0 s ρ a w→nM (md:=md) P c (Y2 (md:=md) P K k) l s→Code.roundsIn (bP m) 0 P c Q l.length a w from H l s [] ρ a w .nil (by rw[aS];exact R) h
 intro l
 induction l with
 |nil=>intro s Ds ρ a w _ _ h;exact h.elim
 |cons u l ih=>
  intro s Ds ρ a w hD R h
  rw[List.length_cons,roundsIn_succ]
  refine h m hmm (Z2 G Ds) M0 w0 ρ a w _ hgl R fun D2 e s' ρ' a' w' hD2 hk R'=>?_
  have hD3:=hD.cE hD2
  rw[tL]at R'
  cases e with
  |normal=>exact ih s' _ ρ' a' w' hD3 R' hk
  |_=>exact hQ _ _ _ _ _ _ hD3 hk R'
theorem a7j:∀(rs:List Row) (nid:Nat),∀p∈j7 nid rs,p.1<nid+rs.length
 |[],_,_,h=>by simp [j7]at h
 |r::rs,nid,p,h=>by
  simp only[j7,List.mem_cons]at h
  rcases h with rfl|h
  ·simp
  ·have:=a7j rs (nid+1) p h;simp;omega
theorem a5Z(ks:List Nat){t:List AV}{h:List (Nat×RS)}{nx nx':Nat}{s'':LS}(hlt:∀p∈h,p.1<nx')(e:(⟨mZ ks 0 t,h,nx'⟩:LS)=s''):O8 ⟨t,h,nx⟩ s'':=by
 subst e
 intro G M0 w0 ρ a w R
 obtain⟨ρ',R',_⟩:=b2H (pC ks t 0) (fun j=>tY ks t 0 j) G M0 w0 ρ a w R
 exact⟨ρ',R',hlt⟩
theorem a94 {md:Bool} [j9 P] {id:Nat} {k:List KF} (n:Nat) {L:List Oper} {o:Oper} (ho:L[n]?=some o) (hg:o.guard=none) (hnd:∀c,o.op≠ .defer c)
  (h:∀N N2:LS→Prop,(∀s,Y2 (md:=md) P K k .normal s→N s)→(∀s2,gF P (X9 L) (L.drop (n+1)) s2 N→N2 s2)→gF P (X9 L) (L.take n) s (fun s1=>SOp P o s1 N2)):AK (md:=md) P (.region id L.toArray false) k s K:=by
 have hl:L=L.take n++o::L.drop (n+1):=by
  obtain⟨hlt,e⟩:=List.getElem?_eq_some_iff.1 ho
  rw[←e,←List.drop_eq_getElem_cons hlt,List.take_append_drop]
 refine b2O (L.take n) o (L.drop (n+1)) (congrArg List.toArray hl) hg hnd fun N hN=>?_
 rw[←hl]
 exact h N _ hN fun s2 h2=>h2
end
end
end Go.Ab
end
section
namespace Go.Ab
open Go.RowKit (Below)
section
theorem vS{F:Fence}(hd:F.depth=none){n n':Nat}{P:Program}{c:Code}{Q:Exit→Act→World→Prop}{a:Act}{w:World}(h:c.wpIn F n P Q a w):c.wpIn F n' P Q a w:=
 fun b k cs hro hb _=>h b k cs hro hb (fun _ hh=>by rw[hd]at hh;cases hh)
section
variable {M0:Nat→Nat→Prop} {w0:World} {ρ:Nat→Option (Nat×Nat×Nat)} {a:Act} {w:World} {G:Gh} {P:Program} {s:LS}
def ghG(G:Gh)(a:Act)(t:List AV)(keep:List Nat)(k:Nat):Gh:=
 {g:=fun l i=>if l=k then a.tmps.getD (keep.getD i 0) undef else G.g l i,fr:=fun x u=>G.fr x u∨∃j,x=LS.tf (Y7 t) j∧u=a.tmps.getD j undef,kp:=G.kp,sh:=G.sh,df:=[]}
theorem b01{t:List AV}{a1:Act}{keep:List Nat}{k:Nat}(R:E8 G M0 w0 s ρ a w)(hn1:a1.tmps.size=t.length)(ht1:∀j,r7 (p7 M0 ρ s.n8.h) ρ w (LS.tf t j) (a1.tmps.getD j undef))(hfresh:e9 k s.h)(hd:a1.defers=[]):
  E8 (ghG G a s.t keep k) M0 w0 ⟨t,s.h++[(s.nx,.u3 k (keep.map (LS.tf s.t)))],s.nx+8⟩ ρ a1 w:=by
 have hh:∀id,LS.hf (s.h++[(s.nx,.u3 k (keep.map (LS.tf s.t)))]) id=if id=s.nx then .u3 k (keep.map (LS.tf s.t))else s.n8.h id:=fun id=>a0Q R.2 id
 have hfree:s.n8.h s.nx= .free:=LS.free R.2 (Nat.le_refl _)
 have hM:p7 M0 ρ (LS.hf (s.h++[(s.nx,.u3 k (keep.map (LS.tf s.t)))]))=p7 M0 ρ s.n8.h:=bT fun id r=>by
  rw[hh]
  by_cases hid:id=s.nx
  ·subst hid;rw[if_pos rfl,hfree];simp
  ·rw[if_neg hid]
 refine⟨⟨hn1,?_,?_,?_,?_,R.1.U2,R.1.m0,hd,?_,?_,?_,R.1.fY,?_,?_,R.1.oI⟩,?_⟩
 ·intro j
  show r7 (p7 M0 ρ (LS.hf (s.h++[(s.nx,.u3 k (keep.map (LS.tf s.t)))]))) ρ w _ _
  rw[hM];exact ht1 j
 ·intro id r h
  have h:LS.hf (s.h++[(s.nx,.u3 k (keep.map (LS.tf s.t)))]) id= .live r:=h
  rw[hh]at h
  by_cases hid:id=s.nx
  ·rw[if_pos hid]at h;cases h
  ·rw[if_neg hid]at h
   show∃b β arr e,ρ id=some (b,β,r.sz)∧_∧_∧_∧_∧∀(i j:Nat) e x u,_→_→_→r7 (p7 M0 ρ (LS.hf (s.h++[(s.nx,.u3 k (keep.map (LS.tf s.t)))]))) ρ w x u
   rw[hM];exact R.1.live id r h
 ·intro id h
  have h:LS.hf (s.h++[(s.nx,.u3 k (keep.map (LS.tf s.t)))]) id= .free:=h
  rw[hh]at h
  by_cases hid:id=s.nx
  ·rw[if_pos hid]at h;cases h
  ·rw[if_neg hid]at h;exact R.1.free id h
 ·intro id id' r r' b β β' z z' h h'
  have h:LS.hf (s.h++[(s.nx,.u3 k (keep.map (LS.tf s.t)))]) id= .live r:=h
  have h':LS.hf (s.h++[(s.nx,.u3 k (keep.map (LS.tf s.t)))]) id'= .live r':=h'
  rw[hh]at h h'
  by_cases hid:id=s.nx
  ·rw[if_pos hid]at h;cases h
  ·by_cases hid':id'=s.nx
   ·rw[if_pos hid']at h';cases h'
   ·rw[if_neg hid]at h;rw[if_neg hid']at h';exact R.1.inj id id' r r' b β β' z z' h h'
 ·intro id l cs h i x hx
  show r7 (p7 M0 ρ (LS.hf (s.h++[(s.nx,.u3 k (keep.map (LS.tf s.t)))]))) ρ w x _
  rw[hM]
  have h:LS.hf (s.h++[(s.nx,.u3 k (keep.map (LS.tf s.t)))]) id= .u3 l cs:=h
  rw[hh]at h
  by_cases hid:id=s.nx
  ·rw[if_pos hid]at h
   cases h
   simp only[ghG,if_true]
   rw[List.getElem?_map]at hx
   cases hk:keep[i]? with
   |none=>rw[hk]at hx;cases hx
   |some j=>
    rw[hk]at hx
    cases hx
    rw[List.getD_eq_getElem?_getD,hk,Option.getD_some]
    exact R.1.tm j
  ·rw[if_neg hid]at h
   have:=jS hfresh h
   simp only[ghG,if_neg this]
   exact R.1.mS id l cs h i x hx
 ·intro x u hx
  show r7 (p7 M0 ρ (LS.hf (s.h++[(s.nx,.u3 k (keep.map (LS.tf s.t)))]))) _ w x u
  rw[hM]
  rcases hx with hx|⟨t,rfl,rfl⟩
  ·exact R.1.lE x u hx
  ·exact a3D R t
 ·intro id b q f h
  have h:LS.hf (s.h++[(s.nx,.u3 k (keep.map (LS.tf s.t)))]) id= .mp b q f:=h
  rw[hh]at h
  by_cases hid:id=s.nx
  ·rw[if_pos hid]at h;cases h
  ·rw[if_neg hid]at h;exact R.1.iM id b q f h
 ·intro id r p h hp
  have h:LS.hf (s.h++[(s.nx,.u3 k (keep.map (LS.tf s.t)))]) id= .live r:=h
  rw[hh]at h
  by_cases hid:id=s.nx
  ·rw[if_pos hid]at h;cases h
  ·rw[if_neg hid]at h;exact R.1.dH id r p h hp
 ·intro id b q f h
  have h:LS.hf (s.h++[(s.nx,.u3 k (keep.map (LS.tf s.t)))]) id= .mp b q f:=h
  rw[hh]at h
  by_cases hid:id=s.nx
  ·rw[if_pos hid]at h;cases h
  ·rw[if_neg hid]at h;exact R.1.nD id b q f h
 ·intro p hp
  simp only[List.mem_append,List.mem_singleton]at hp⊢
  rcases hp with hp|rfl
  ·have:=R.2 p hp;omega
  ·simp
theorem a8y{id:Nat}{p:Nat×RS}:∀{l:List (Nat×RS)},p∈C9 id l→∃q∈l,q.1=p.1:=by
 intro l
 induction l with
 |nil=>intro h;cases h
 |cons q l ih=>
  intro h
  simp only[C9,List.mem_cons]at h
  rcases h with h|h
  ·refine⟨q,by simp,?_⟩
   split at h
   ·rw[h]
   ·rw[h]
  ·obtain⟨q',h1,h2⟩:=ih h
   exact⟨q',List.mem_cons_of_mem _ h1,h2⟩
theorem a5f {t:List AV} {keep:List Nat} {k:Nat} {s':LS} {ρ':Nat→Option (Nat×Nat×Nat)} {a':Act} {w':World} {id:Nat} {cs:List AV} (R':E8 (ghG G a t keep k) M0 w0 s' ρ' a' w')
  (q1:LS.hf s'.h id= .u3 k cs) (q2:e9 k (C9 id s'.h)) (hn:a.tmps.size=t.length) (hd:a.defers=G.df):E8 G M0 w0 ⟨x7 (Y7 t) keep cs,C9 id s'.h,s'.nx⟩ ρ' a w':=by
 have hg:∀id',LS.hf (C9 id s'.h) id'=if id'=id then .gone else LS.hf s'.h id':=fun id'=>a3u id s'.h id' (by rw[q1];intro h;cases h)
 have hM2:p7 M0 ρ' (LS.hf (C9 id s'.h))=p7 M0 ρ' s'.n8.h:=bT fun id' r=>by
  rw[hg]
  by_cases hid:id'=id
  ·subst hid
   rw[if_pos rfl]
   show RS.gone=RS.live r↔LS.hf s'.h id'= .live r
   rw[q1];simp
  ·rw[if_neg hid];rfl
 have hkt:∀i,r7 (p7 M0 ρ' s'.n8.h) ρ' w' (LS.tf (Y7 t) i) (a.tmps.getD i undef):=fun i=>(R'.1.lE _ _ (.inr ⟨i,rfl,rfl⟩)).up
 obtain⟨l1,l2⟩:=a2T (ρ:=ρ') (w:=w') keep (Y7 t) cs hkt (fun i y hy hi=>by
  have:=R'.1.mS id k cs q1 i y hy
  simpa[ghG]using this)
 refine⟨⟨?_,?_,?_,?_,?_,R'.1.U2,R'.1.m0,hd,?_,?_,?_,R'.1.fY,?_,?_,R'.1.oI⟩,?_⟩
 ·show a.tmps.size=(x7 (Y7 t) keep cs).length
  rw[l1];simp [Y7];exact hn
 ·intro i
  show r7 (p7 M0 ρ' (LS.hf (C9 id s'.h))) ρ' w' _ _
  rw[hM2];exact l2 i
 ·intro id' r h
  have h:LS.hf (C9 id s'.h) id'= .live r:=h
  rw[hg]at h
  by_cases hid:id'=id
  ·rw[if_pos hid]at h;cases h
  ·rw[if_neg hid]at h
   show∃b β arr e,ρ' id'=some (b,β,r.sz)∧_∧_∧_∧_∧∀(i j:Nat) e x u,_→_→_→r7 (p7 M0 ρ' (LS.hf (C9 id s'.h))) ρ' w' x u
   rw[hM2];exact R'.1.live id' r h
 ·intro id' h
  have h:LS.hf (C9 id s'.h) id'= .free:=h
  rw[hg]at h
  by_cases hid:id'=id
  ·rw[if_pos hid]at h;cases h
  ·rw[if_neg hid]at h;exact R'.1.free id' h
 ·intro i1 i2 r r' b β β' z z' h h'
  have h:LS.hf (C9 id s'.h) i1= .live r:=h
  have h':LS.hf (C9 id s'.h) i2= .live r':=h'
  rw[hg]at h h'
  by_cases hid:i1=id
  ·rw[if_pos hid]at h;cases h
  ·by_cases hid':i2=id
   ·rw[if_pos hid']at h';cases h'
   ·rw[if_neg hid]at h;rw[if_neg hid']at h';exact R'.1.inj i1 i2 r r' b β β' z z' h h'
 ·intro id' l cs' h i y hy
  show r7 (p7 M0 ρ' (LS.hf (C9 id s'.h))) ρ' w' _ _
  rw[hM2]
  have h:LS.hf (C9 id s'.h) id'= .u3 l cs':=h
  have hlk:=jS q2 h
  rw[hg]at h
  by_cases hid:id'=id
  ·rw[if_pos hid]at h;cases h
  ·rw[if_neg hid]at h
   have:=R'.1.mS id' l cs' h i y hy
   simpa only[ghG,if_neg hlk]using this
 ·intro y u hy
  show r7 (p7 M0 ρ' (LS.hf (C9 id s'.h))) (fun _=>none) w' _ _
  rw[hM2];exact R'.1.lE y u (.inl hy)
 ·intro id' b q f h
  have h:LS.hf (C9 id s'.h) id'= .mp b q f:=h
  rw[hg]at h
  by_cases hid:id'=id
  ·rw[if_pos hid]at h;cases h
  ·rw[if_neg hid]at h;exact R'.1.iM id' b q f h
 ·intro id' r p h hp
  have h:LS.hf (C9 id s'.h) id'= .live r:=h
  rw[hg]at h
  by_cases hid:id'=id
  ·rw[if_pos hid]at h;cases h
  ·rw[if_neg hid]at h;exact R'.1.dH id' r p h hp
 ·intro id' b q f h
  have h:LS.hf (C9 id s'.h) id'= .mp b q f:=h
  rw[hg]at h
  by_cases hid:id'=id
  ·rw[if_pos hid]at h;cases h
  ·rw[if_neg hid]at h;exact R'.1.nD id' b q f h
 ·intro p hp
  obtain⟨q,h1,h2⟩:=a8y hp
  rw[←h2];exact R'.2 q h1
end
end
section
section
variable {M0:Nat→Nat→Prop} {w0:World} {ρ:Nat→Option (Nat×Nat×Nat)} {a a2:Act} {w w2:World} {G G2:Gh} {P:Program} {s:LS}
def a5A(h:List (Nat×RS)):Prop:=∀id b q f,LS.hf h id≠ .mp b q f
theorem E8.a4r (R:E8 G M0 w0 s ρ a w) (hmp:a5A s.h) (ht:a2.tmps=a.tmps) (hg:G2.g=G.g) (hf:∀x u,G2.fr x u→G.fr x u) (hsh:G2.sh=G.sh)
  (h1:∀(b:Nat) (arr:Array Value) (e:TypeId) (fr:Nat×Nat),w.heap[b]?=some (.cells arr e fr)→w2.heap[b]?=some (.cells arr e fr))
  (hb:Below w0.heap.size w0 w2) (hk:∀b o,G2.kp b=some o→w2.heap[b]?=some o) (hkc:∀b arr e fr,w.heap[b]?=some (.cells arr e fr)→G.kp b=none→G2.kp b=none)
  (hm:∀b o,M0 b o→b<w0.heap.size∨∃x,G2.kp b=some x) (hd:a2.defers=G2.df):E8 G2 M0 w0 s ρ a2 w2:=by
 obtain⟨R,hok⟩:=R
 have mono:∀{M:Nat→Nat→Prop} {ρ':Nat→Option (Nat×Nat×Nat)} {x:AV} {u:Value},r7 M ρ' w x u→r7 M ρ' w2 x u:=fun hr=>hr.mono (fun _ _ h=>h) (fun _ _ _ g1 g2=>⟨g1,oV h1 g2⟩) (fun _ _ h=>eN h1 h)
 refine⟨⟨by rw[ht];exact R.n,fun t=>by rw[ht];exact mono (R.tm t),fun id r hr=>?_,R.free,R.inj,hb,hm,hd,fun id k cs hc i x hx=>by rw[hg];exact mono (R.mS id k cs hc i x hx),fun x u hx=>mono (R.lE x u (hf x u hx)),fun id b q f h=>absurd h (hmp id b q f),hk,fun id r p hr hp=>?_,fun id b q f h=>absurd h (hmp id b q f),fun b x hx=>eN h1 (R.oI b x (by rw[←hsh];exact hx))⟩,hok⟩
 ·obtain⟨b,β,arr,e,l1,l2,l3,l4,l5,l6⟩:=R.live id r hr
  exact⟨b,β,arr,e,l1,l2,h1 _ _ _ _ l3,l4,l5,fun i j e' x u g1 g2 g3=>mono (l6 i j e' x u g1 g2 g3)⟩
 ·obtain⟨b,β,arr,e,l1,l2,l3,_⟩:=R.live id r hr
  rw[l1]at hp;cases hp
  exact hkc _ _ _ _ l3 (R.dH id r _ hr l1)
def cM(G:Gh)(w:World):Gh:={G with kp:=fun b=>match w.heap[b]? with|some o=>if o.isCells then G.kp b else some o|none=>G.kp b}
theorem oO(R:E8 G M0 w0 s ρ a w){b:Nat}{o:Obj}(h:G.kp b=some o):(cM G w).kp b=some o:=by
 have hw:=R.1.fY b o h
 simp only[cM,hw]
 split
 ·exact h
 ·rfl
theorem E8.big(R:E8 G M0 w0 s ρ a w)(hmp:a5A s.h):E8 (cM G w) M0 w0 s ρ a w:=by
 refine R.a4r hmp rfl rfl (fun _ _ h=>h) rfl (fun _ _ _ _ h=>h) R.1.U2 (fun b o h=>?_) (fun b arr e fr h hn=>?_) (fun b o h=>?_) R.1.defers
 ·simp only[cM]at h
  cases hw:w.heap[b]? with
  |none=>rw[hw]at h;have:=R.1.fY b o h;rw[hw]at this;cases this
  |some x=>
   rw[hw]at h
   simp only at h
   split at h
   ·have:=R.1.fY b o h;rw[hw]at this;exact this
   ·exact h
 ·simp only[cM,h,Obj.isCells,if_true];exact hn
 ·rcases R.1.m0 b o h with h|⟨x,h⟩
  ·exact .inl h
  ·exact .inr ⟨x,oO R h⟩
def HX(X:Nat→Nat→Value→Prop)(W:World):Prop:=∀b o c,X b o c→W.cell? ⟨b,o,none⟩=some c
def a4v(G:Gh)(X:Nat→Nat→Value→Prop):Gh:={G with fr:=fun x u=>G.fr x u∨∃b o c,X b o c∧x= .Z9 [[.v c]] 0 0∧u= .pointer (some ⟨b,o,none⟩)}
theorem HX.of{X:Nat→Nat→Value→Prop}(R:E8 (a4v G X) M0 w0 s ρ a w):HX X w:=by
 intro b o c h
 have:=R.1.lE (.Z9 [[.v c]] 0 0) (.pointer (some ⟨b,o,none⟩)) (.inr ⟨b,o,c,h,rfl,rfl⟩)
 generalize hu:Value.pointer (some ⟨b,o,none⟩)=u at this
 cases this with
 |Z9 es i k b' o' sz cell hi hk aD hm hr=>
  simp only[Value.pointer.injEq,Option.some.injEq,Addr.mk.injEq,Nat.zero_mul,Nat.add_zero,and_true]at hu
  obtain⟨rfl,rfl⟩:=hu
  have h1:=(hm 0 0 (by simp) (by omega)).2
  have h2:=(hr 0 0 [.v c] (.v c) rfl rfl).Y8
  rw[h2]at h1
  simpa using h1
theorem E8.a4v{X:Nat→Nat→Value→Prop}(R:E8 G M0 w0 s ρ a w)(hX:∀b o c,X b o c→¬p7 M0 ρ s.n8.h b o∧w.cell? ⟨b,o,none⟩=some c):E8 (a4v G X) M0 w0 s ρ a w:=by
 refine⟨⟨R.1.n,R.1.tm,R.1.live,R.1.free,R.1.inj,R.1.U2,R.1.m0,R.1.defers,R.1.mS,fun x u hx=>?_,R.1.iM,R.1.fY,R.1.dH,R.1.nD,R.1.oI⟩,R.2⟩
 rcases hx with hx|⟨b,o,c,hx,rfl,rfl⟩
 ·exact R.1.lE x u hx
 ·obtain⟨h1,h2⟩:=hX b o c hx
  have:=r7.Z9 (M:=p7 M0 ρ s.n8.h) (ρ:=fun _=>none) (w:=w) [[.v c]] 0 0 b o 1 (fun _ _=>c) (by simp) (by omega) (by simp) (fun i j hi hj=>by
   have:i=0:=by simpa using hi
   have:j=0:=by omega
   subst this;subst i
   exact⟨h1,h2⟩) (fun i j e x h1 h2=>by
   cases i with
   |zero=>
    cases h1
    cases j with
    |zero=>cases h2;exact .v _
    |succ j=>simp at h2
   |succ i=>simp at h1)
  simpa using this
end
def b57(t:List AV)(keep:List Nat)(lab:Nat)(Nx:LS):LS→Prop:=fun s2=>∃id cs,LS.hf s2.h id= .u3 lab cs∧e9 lab (C9 id s2.h)∧a5A s2.h∧O8 ⟨x7 (Y7 t) keep cs,C9 id s2.h,s2.nx⟩ Nx
def b14(t:List AV)(h:List (Nat×RS))(nx:Nat)(keep:List Nat)(lab:Nat)(p1 p2:Tmp)(x1 x2:AV):LS:=
 ⟨(t.set p1 x1).set p2 x2,h++[(nx,.u3 lab (keep.map (LS.tf t)))],nx+8⟩
theorem a7W {P:Program} [j9 P] {g:Operand} {p1 p2:Tmp} {assign body:Code} {s:LS} {K:Exit→LS→Prop} {gf:FuncId} {α:Type} (N:Nat) (v1 v2:α→Value) (x1 x2:α→AV) (S:List α→LS) (Sq:List α→Prop) (lab:Nat) (keep:List Nat)
  (hv:∀x,(∀M ρ w,r7 M ρ w (x1 x) (v1 x))∧∀M ρ w,r7 M ρ w (x2 x) (v2 x))
  (hcal:eF P gf) (hw:O8 s (S [])) (hp:∀pre,p1<(S pre).t.length∧p2<(S pre).t.length) (hmp:∀pre,a5A (S pre).h) (hfr:∀pre,e9 lab (S pre).h)
  (hit:∀(G:Gh) (M0:Nat→Nat→Prop) (w0:World) (ρ:Nat→Option (Nat×Nat×Nat)) (a:Act) (w:World),E8 G M0 w0 (S []) ρ a w→∃lb,a.eval g= .func (.func gf) #[] lb∧
   ∀X:Nat→Nat→Value→Prop,(∀b o c,¬p7 M0 ρ (S []).n8.h b o→w.cell? ⟨b,o,none⟩=some c→X b o c)→HX X w→
    SeqStopsK Fence.wide 2 P gf lb (fun x=> #[v1 x,v2 x]) (fun W W'=>HX X W→HX X W') Sq (fun _=>True) N w)
  (hround:∀pre x,pre.length<N→eR (md:=true) P assign (b14 (S pre).t (S pre).h (S pre).nx keep lab p1 p2 (x1 x) (x2 x))
   (S4 (fun s1=>a5A s1.h∧eR (md:=true) P body s1 (S4 (b57 (S pre).t keep lab (S (pre++[x]))) (fun _ _=>False))) (fun _ _=>False)))
  (hK:∀xs,Sq xs→K .normal (S xs)):eR (md:=false) P (.rangeFunc g #[p1,p2] assign body) s K:=by
 intro m hm G M0 w0 ρ a w Q hgl R hQ
 obtain rfl:=hm rfl
 obtain⟨ρ1,R1⟩:=hw G M0 w0 ρ a w R
 obtain⟨lb,hev,hseq⟩:=hit G M0 w0 ρ1 a w R1
 obtain⟨X,hX⟩:∃X:Nat→Nat→Value→Prop,X=fun b o c=>¬p7 M0 ρ1 (S []).n8.h b o∧w.cell? ⟨b,o,none⟩=some c:=⟨_,rfl⟩
 have hXw:HX X w:=fun b o c h=>by rw[hX]at h;exact h.2
 have hseq:=hseq X (fun b o c h1 h2=>by rw[hX];exact⟨h1,h2⟩) hXw
 obtain⟨G1,hG1⟩:∃G1,G1=a4v G X:=⟨_,rfl⟩
 have R2:E8 G1 M0 w0 (S []) ρ1 a w:=by rw[hG1];exact R1.a4v (fun b o c h=>by rw[hX]at h;exact h)
 have hkB:∀b o,G1.kp b=some o→b<w.heap.size:=fun b o h=>B4 (R2.1.fY b o h)
 have aD:=R2.1.U2.size
 have hdf:a.defers=G1.df:=R2.1.defers
 have hm0:=R2.1.m0
 have hX1:∀{sx:LS} {ρx:Nat→Option (Nat×Nat×Nat)} {ax:Act} {W:World},E8 G1 M0 w0 sx ρx ax W→HX X W:=fun Rx=>by rw[hG1]at Rx;exact HX.of Rx
 obtain⟨fnr,hfn,hbody,hname⟩:=hcal
 have heg:∀args w,(callFunc gf args).run P w= .ok (.enter gf args) w:=fun args w=>by
  have hb:fnr.body.isNone=false:=by cases hb:fnr.body with|none=>rw[hb]at hbody;cases hbody|some _=>rfl
  simp only[callFunc,Sem.run_bind,run_program,Result.andThen_ok,hfn,hname,hb,Bool.false_eq_true,if_false,Sem.run_pure]
 have grown:∀{Gx:Gh} {sx:LS} {ρx:Nat→Option (Nat×Nat×Nat)} {ax:Act} {A B:World} {row:Option Nat},(∀b o,Gx.kp b=some o→b<w.heap.size)→a5A sx.h→E8 Gx M0 w0 sx ρx ax A→A.grownBy B row→
   (∀r,row=some r→w.heap.size≤r∧∃o:Obj,A.heap[r]?=some o∧o.isCells=false)→E8 Gx M0 w0 sx ρx ax B:=by
  intro Gx sx ρx ax A B row hkx hmx Rx hg hr
  have blk:∀(b:Nat) (o:Obj),A.heap[b]?=some o→(∀r,row=some r→r≠b)→B.heap[b]?=some o:=fun b o h hne=>(hg.block b (B4 h) (fun e=>hne b e.symm rfl)).trans h
  refine Rx.a4r hmx rfl rfl (fun _ _ h=>h) rfl (fun b arr e fr h=>blk b _ h fun r hr2 e2=>?_) ?_ (fun b o h=>blk b _ (Rx.1.fY b o h) fun r hr2 e2=>?_) (fun _ _ _ _ _ h=>h) Rx.1.m0 Rx.1.defers
  ·subst e2
   obtain⟨_,o,ho,hc⟩:=hr r hr2
   rw[h]at ho;cases ho;cases hc
  ·have hb:=Rx.1.U2
   refine⟨hg.os.trans hb.os,hg.tape.trans hb.tape,hg.output.trans hb.output,Nat.le_trans hb.size hg.size,fun k hk=>?_⟩
   have hlt:k<A.heap.size:=Nat.lt_of_lt_of_le hk hb.size
   refine(hg.block k hlt (fun e=>?_)).trans (hb.block k hk)
   have:=(hr k e.symm).1
   omega
  ·subst e2
   have:=(hr r hr2).1
   have:=hkx r o h
   omega
 refine vS (dC none) (n:=3) ?_
 have key:(Code.rangeFunc g #[p1,p2] assign body).wpIn Fence.wide 3 P Q a w:=by
  refine wpIn_rangeFunc ?_
  intro fn hfnn
  obtain⟨rec,hrec⟩:∃rec:LoopState→Loop,rec=fun st=>{state:=st,pending:=none,fn,tmps:=a.tmps,params:= #[p1,p2],assign,body,defers:=w.heap.size}:=⟨_,rfl⟩
  obtain⟨l,hl⟩:∃l,l=w.heap.size+1:=⟨_,rfl⟩
  obtain⟨W1,hW1⟩:∃W1,W1=(w.alloc (.deferred (some []))).alloc (.loop (rec .ready)):=⟨_,rfl⟩
  have hL1:W1.heap[l]?=some (.loop (rec .ready)):=by
   rw[hW1,hl];have:=World.alloc_heap_new (w.alloc (.deferred (some []))) (.loop (rec .ready));rwa [World.size_alloc]at this
  have hD1:W1.heap[w.heap.size]?=some (.deferred (some [])):=by
   rw[hW1];exact(Below.heap_alloc _ _ _ (by simp)).trans (World.alloc_heap_new w _)
  have hs1:W1.heap.size=w.heap.size+2:=by rw[hW1];simp
  have R3:E8 G1 M0 w0 (S []) ρ1 a W1:=by
   rw[hW1]
   refine grown hkB (hmp _) (grown hkB (hmp _) R2 (World.grownBy_alloc _ _ none) (fun r e=>by cases e)) (World.grownBy_alloc _ _ none) (fun r e=>by cases e)
  have hb1:Below w.heap.size w W1:=by
   rw[hW1];exact(((Below.refl _ w).alloc (Nat.le_refl _) _).alloc (by simp) _)
  refine⟨l,[a04 w.heap.size],W1,{target:= .fn (.func gf) lb,args:= #[.func (.yield l) #[] #[]]},W1,gf, #[.func (.yield l) #[] #[]]++lb,W1,?_,?_,fun _ _=>trivial,?_,fun _=>by omega,?_⟩
  ·rw[hW1,hrec,hl];exact run_enterLoop_outer _ _ _ _ _
  ·simp only[resolve,hev]
   simp [go_sem]
  ·simp [invoke,go_sem,heg]
  obtain⟨J,hJ⟩:∃J:List α→World→Prop,J=fun pre W=>(∃ρx,E8 G1 M0 w0 (S pre) ρx a W)∧W.heap[l]?=some (.loop (rec .ready))∧W.heap[w.heap.size]?=some (.deferred (some [])):=⟨_,rfl⟩
  refine(hseq l J (fun _ _=>False) W1 hb1 ?_ (fun _ _ _ _ h=>h.elim) ?_ (by rw[hJ];exact⟨⟨ρ1,R3⟩,hL1,hD1⟩)).mono ?_
  ·intro pre A B row hs hg hr
   rw[hJ]at hs⊢
   obtain⟨⟨ρx,Rx⟩,q1,q2⟩:=hs
   refine⟨⟨ρx,grown hkB (hmp _) Rx hg fun r e=>?_⟩,(grownBy_keeps hg (fun r e=>(hr r e).2) q1 rfl).trans q1,(grownBy_keeps hg (fun r e=>(hr r e).2) q2 rfl).trans q2⟩
   obtain⟨hB,o,ho,hw⟩:=hr r e
   exact⟨by omega,o,ho,Obj.not_cells_of_walk hw⟩
  ·
   intro pre x W hj hlen
   rw[hJ]at hj
   obtain⟨⟨ρx,Rx⟩,q1,q2⟩:=hj
   have hy:=run_yield (P:=P) (args:= #[v1 x,v2 x]) q1 (by rw[hrec];rfl)
   rw[hrec]at hy
   refine⟨fn,_,assign,body,hy,roundIn_of_wpIn hfnn ?_⟩
   refine vS (dC (some l)) (n:=0) ?_
   obtain⟨a1,ha1⟩:∃a1:Act,a1={tmps:=(#[p1,p2].zip #[v1 x,v2 x]).foldl (fun t (p,v)=>t.setIfInBounds p v) a.tmps,defers:=[]}:=⟨_,rfl⟩
   rw[←ha1]
   have Rb:=Rx.big (hmp _)
   have Rp:E8 (cM G1 W) M0 w0 (((S pre).put (some p1) (x1 x)).put (some p2) (x2 x)) ρx ((a.put (some p1) (v1 x)).put (some p2) (v2 x)) W:=
    E8.put (d:=some p2) (E8.put (d:=some p1) Rb (hp pre).1 ((hv x).1 _ _ _)) (by show p2<((S pre).t.set p1 (x1 x)).length;rw[List.length_set];exact(hp pre).2) ((hv x).2 _ _ _)
   have hat:a1.tmps=((a.put (some p1) (v1 x)).put (some p2) (v2 x)).tmps:=by rw[ha1];simp [Act.put]
   have Ri:E8 (ghG (cM G1 W) a (S pre).t keep lab) M0 w0 (b14 (S pre).t (S pre).h (S pre).nx keep lab p1 p2 (x1 x) (x2 x)) ρx a1 W:=
    b01 (t:=((S pre).t.set p1 (x1 x)).set p2 (x2 x)) Rb (by rw[hat];exact Rp.1.n) (fun j=>by rw[hat];exact Rp.1.tm j) (hfr _) (by rw[ha1])
   have hkl:(cM G1 W).kp l=some (.loop (rec .ready)):=by simp only[cM,q1,Obj.isCells];rfl
   have hkD:(cM G1 W).kp w.heap.size=some (.deferred (some [])):=by simp only[cM,q2,Obj.isCells];rfl
   refine hround pre x hlen (some l) (fun h=>by cases h) _ M0 w0 ρx a1 W _ hgl Ri ?_
   intro Ds e s1 ρ2 a2 W2 hDs hs1 R4
   cases e with
   |normal=>
    obtain⟨hm1,hbd⟩:=hs1
    have ne1:∀b o,(cM G1 W).kp b=some o→b∉Ds:=fun b o h hb=>by have:=(hDs.2 b hb).2;simp only[ghG]at this;rw[h]at this;cases this
    have kp1:∀b o,(cM G1 W).kp b=some o→W2.heap[b]?=some o:=fun b o h=>R4.1.fY b o (by simp only[Z2,ne1 b o h,if_false];exact h)
    have q3:=kp1 _ _ hkl
    have q4:=kp1 _ _ hkD
    refine⟨_,run_beginRound q3 (by rw[hrec]),?_⟩
    obtain⟨W3,hW3⟩:∃W3,W3=W2.putObj l (.loop {rec .ready with state:= .busy}):=⟨_,rfl⟩
    rw[←hW3]
    have hlt:l<W2.heap.size:=B4 q3
    have q5:W3.heap[l]?=some (.loop (rec .busy)):=by rw[hW3,World.putObj_heap_same hlt,hrec]
    have oth:∀b,b≠l→W3.heap[b]?=W2.heap[b]?:=fun b hb=>by rw[hW3];exact World.putObj_heap_other hb
    have q6:W3.heap[w.heap.size]?=some (.deferred (some [])):=(oth _ (by omega)).trans q4
    have celO:∀(b:Nat) (arr:Array Value) (e:TypeId) (fr:Nat×Nat),W2.heap[b]?=some (.cells arr e fr)→W3.heap[b]?=some (.cells arr e fr):=fun b arr e fr h=>by
     rw[oth b (fun e=>by rw[e,q3]at h;cases h)];exact h
    have blO:Below w0.heap.size w0 W3:=by
     have hb:=R4.1.U2
     rw[hW3]
     exact hb.grown (grownBy_putObj' W2 l _) hb.size (fun k e=>by cases e;omega)
    have kB2:∀b o,(cM G1 W3).kp b=some o→W3.heap[b]?=some o:=fun b o h=>by
     have base:G1.kp b=some o→W3.heap[b]?=some o:=fun hh=>(oth b (by have:=hkB b o hh;omega)).trans (kp1 b o (oO Rx hh))
     simp only[cM]at h
     cases hw:W3.heap[b]? with
     |none=>rw[hw]at h;simp only at h;exact hw ▸ base h
     |some y=>
      rw[hw]at h
      simp only at h
      split at h
      ·exact hw ▸ base h
      ·exact h
    obtain⟨G3,hG3⟩:∃G3:Gh,G3={ghG (cM G1 W3) a (S pre).t keep lab with df:=a2.defers}:=⟨_,rfl⟩
    have R5:E8 G3 M0 w0 s1 ρ2 a2 W3:=by
     refine R4.a4r hm1 rfl (by rw[hG3];rfl) (fun y u h=>by rw[hG3]at h;exact h) (by rw[hG3];rfl) celO blO (fun b o h=>by rw[hG3]at h;exact kB2 b o h) (fun b arr e fr h hn=>?_) (fun b o h=>?_) (by rw[hG3])
     ·rw[hG3]
      show(cM G1 W3).kp b=none
      simp only[cM,celO _ _ _ _ h,Obj.isCells,if_true]
      simp only[Z2]at hn
      split at hn
      ·cases hn
      ·have hn:(cM G1 W).kp b=none:=hn
       cases hh:G1.kp b with
       |none=>rfl
       |some y=>rw[oO Rx hh]at hn;cases hn
     ·rcases Rx.1.m0 b o h with h|⟨y,h⟩
      ·exact .inl h
      ·refine .inr ⟨y,?_⟩
       rw[hG3]
       show(cM G1 W3).kp b=some y
       have:=kp1 b y (oO Rx h)
       simp only[cM,(oth b (by have:=hkB b y h;omega)).trans this]
       split
       ·exact h
       ·rfl
    refine vS (dC (some l)) (n:=0) ?_
    refine hbd (some l) (fun h=>by cases h) G3 M0 w0 ρ2 a2 W3 _ hgl R5 ?_
    intro Ds2 e s2 ρ3 a3 W4 hD2 hs2 R6
    cases e with
    |normal=>
     obtain⟨id,cs,k1,k2,k3,k4⟩:=hs2
     have hkl3:G3.kp l=some (.loop (rec .busy)):=by rw[hG3];simp only[ghG,cM,q5,Obj.isCells];rfl
     have hkD3:G3.kp w.heap.size=some (.deferred (some [])):=by rw[hG3];simp only[ghG,cM,q6,Obj.isCells];rfl
     have kp3:∀b o,G3.kp b=some o→W4.heap[b]?=some o:=fun b o h=>R6.1.fY b o (by
      have:b∉Ds2:=fun hb=>by have:=(hD2.2 b hb).2;rw[h]at this;cases this
      simp only[Z2,this,if_false];exact h)
     have q7:=kp3 _ _ hkl3
     have q8:=kp3 _ _ hkD3
     have hre:=run_endRound (P:=P) none q7
     obtain⟨W5,hW5⟩:∃W5,W5=W4.putObj l (.loop (rec .ready)):=⟨_,rfl⟩
     have hlt4:l<W4.heap.size:=B4 q7
     have hre5:(Instr.endRound l none).run P W4= .ok (.bool true) W5:=by rw[hre,hW5,hrec];rfl
     have oth5:∀b,b≠l→W5.heap[b]?=W4.heap[b]?:=fun b hb=>by rw[hW5];exact World.putObj_heap_other hb
     obtain⟨a4,ha4⟩:∃a4:Act,a4={tmps:=a3.tmps,defers:=[]}:=⟨_,rfl⟩
     have R7:E8 (ghG G1 a (S pre).t keep lab) M0 w0 s2 ρ3 a4 W5:=by
      refine R6.a4r k3 (by rw[ha4]) (by rw[hG3];rfl) (fun y u h=>by rw[hG3];exact h) (by rw[hG3];rfl) (fun b arr e fr h=>?_) ?_ (fun b o h=>?_) (fun b arr e fr h hn=>?_) (fun b o h=>Rx.1.m0 b o h) (by rw[ha4];rfl)
      ·rw[oth5 b (fun e=>by rw[e,q7]at h;cases h)];exact h
      ·rw[hW5];exact R6.1.U2.grown (grownBy_putObj' W4 l _) R6.1.U2.size (fun k e=>by cases e;omega)
      ·have h:G1.kp b=some o:=h
       refine(oth5 b (by have:=hkB b o h;omega)).trans (kp3 b o ?_)
       rw[hG3]
       show(cM G1 W3).kp b=some o
       have:=kp1 b o (oO Rx h)
       simp only[cM,(oth b (by have:=hkB b o h;omega)).trans this]
       split
       ·exact h
       ·rfl
      ·show G1.kp b=none
       cases hh:G1.kp b with
       |none=>rfl
       |some y=>
        simp only[Z2]at hn
        split at hn
        ·cases hn
        ·rw[hG3]at hn
         have hn:(cM G1 W3).kp b=none:=hn
         have:=kp1 b y (oO Rx hh)
         simp only[cM,(oth b (by have:=hkB b y hh;omega)).trans this]at hn
         split at hn
         ·rw[hh]at hn;cases hn
         ·cases hn
     have R8:=a5f R7 k1 k2 Rx.1.n Rx.1.defers
     obtain⟨ρ4,R9⟩:=k4 _ _ _ _ _ _ R8
     refine⟨_,W5,hre5,.inl ⟨rfl,?_,fun _=>hX1 R9⟩⟩
     rw[hJ]
     refine⟨⟨ρ4,R9⟩,by rw[hW5];exact World.putObj_heap_same hlt4,(oth5 _ (by omega)).trans q8⟩
    |_=>exact hs2.elim
   |_=>exact hs1.elim
  ·
   rintro e W2 ⟨⟨v,rfl⟩,(⟨xs,hS,hj⟩|⟨pre,_,hj⟩)⟩
   ·rw[hJ]at hj
    obtain⟨⟨ρx,Rx⟩,q1,q2⟩:=hj
    refine⟨none,_,by have:=run_endLoop (P:=P) q1 (by rw[hrec];simp);rw[hrec]at this;exact this,?_⟩
    have hDn:G.kp w.heap.size=none:=by
     cases hh:G.kp w.heap.size with
     |none=>rfl
     |some o=>have:=R1.1.fY _ o hh;have:=B4 this;omega
    have Ry:=grown hkB (hmp _) Rx (grownBy_putObj' W2 l (.loop {rec .ready with state:= .exhausted})) (fun r e=>by cases e;exact⟨by omega,_,q1,rfl⟩)
    have q3:(W2.putObj l (.loop {rec .ready with state:= .exhausted})).heap[w.heap.size]?=some (.deferred (some [])):=(World.putObj_heap_other (by omega)).trans q2
    rw[hrec]at Ry q3
    refine hQ [w.heap.size] .normal (S xs) ρx _ _ ⟨by simp,fun D' h'=>?_⟩ (hK xs hS) ?_
    ·obtain rfl:=List.mem_singleton.1 h'
     exact⟨by omega,hDn⟩
    ·refine Ry.a4r (hmp _) rfl (by rw[hG1];rfl) (fun y u h=>by rw[hG1];exact .inl h) (by rw[hG1];rfl) (fun _ _ _ _ h=>h) Ry.1.U2 (fun b o h=>?_) (fun b arr e fr h hn=>?_) (fun b o h=>?_) ?_
     ·simp only[Z2,List.mem_singleton]at h
      split at h
      ·rename_i e;subst e;cases h;exact q3
      ·exact Ry.1.fY b o (by rw[hG1];exact h)
     ·simp only[Z2,List.mem_singleton]
      split
      ·rename_i e;subst e;rw[q3]at h;cases h
      ·rw[hG1]at hn;exact hn
     ·rcases hm0 b o h with h|⟨y,h⟩
      ·exact .inl h
      ·right
       simp only[Z2,List.mem_singleton]
       split
       ·exact⟨_,rfl⟩
       ·rw[hG1]at h;exact⟨y,h⟩
     ·show a04 w.heap.size::a.defers=_
      rw[R1.1.defers];rfl
   ·exact hj.elim
 exact key
end
def a7k(h:List (Nat×RS)):Bool:=h.all fun p=>match p.2 with| .mp _ _ _=>false|_=>true
theorem a1a{h:List (Nat×RS)}(hb:a7k h=true):a5A h:=by
 intro id b q f he
 unfold LS.hf at he
 cases hl:h.lookup id with
 |none=>rw[hl]at he;cases he
 |some x=>
  rw[hl]at he
  simp only[Option.getD_some]at he
  subst he
  have hm:(id,RS.mp b q f)∈h:=by
   clear hb
   induction h with
   |nil=>cases hl
   |cons p h ih=>
    obtain⟨i,y⟩:=p
    rw[List.lookup_cons]at hl
    by_cases e:id=i
    ·subst e;simp at hl;subst hl;simp
    ·have hb':(id==i)=false:=by simp [e]
     rw[hb']at hl
     exact List.mem_cons_of_mem _ (ih hl)
  have:=List.all_eq_true.1 hb _ hm
  exact absurd this (by simp)
theorem a7B{t:List AV}{keep:List Nat}{lab:Nat}{Nx s2:LS}(id:Nat){cs:List AV}(h1:LS.hf s2.h id= .u3 lab cs)(h2:e9 lab (C9 id s2.h))(h3:a7k s2.h=true)(h4:O8 ⟨x7 (Y7 t) keep cs,C9 id s2.h,s2.nx⟩ Nx):b57 t keep lab Nx s2:=
 ⟨id,cs,h1,h2,a1a h3,h4⟩
theorem b3b{M:Nat→Nat→Prop}{ρ:Nat→Option (Nat×Nat×Nat)}{w:World}{c:Bool}{es:List (List AV)}{u:Value}(h:r7 M ρ w (.c5 c es) u):
  ∃(a:Option Addr) (cap b o sz:Nat) (cell:Nat→Nat→Value),u= .slice a es.length cap∧es.length≤cap∧(∀e∈es,e.length=sz)∧(es≠[]→a=some ⟨b,o,none⟩)∧
   (∀i j,i<es.length→j<sz→¬M b (o+i*sz+j)∧w.cell? ⟨b,o+i*sz+j,none⟩=some (cell i j))∧∀(i j:Nat) e x,es[i]?=some e→e[j]?=some x→r7 M (fun _=>none) w x (cell i j):=by
 cases h with
 |c5 c es a cap b o sz cell hc oH aD ha hm hr=>exact⟨a,cap,b,o,sz,cell,rfl,hc,aD,ha,hm,hr⟩
theorem b05{M:Nat→Nat→Prop}{ρ:Nat→Option (Nat×Nat×Nat)}{w:World}{x:AV}{u:Value}(h:r7 M ρ w (.Z9 [[x]] 0 0) u):
  ∃(b o:Nat) (c:Value),u= .pointer (some ⟨b,o,none⟩)∧¬M b o∧w.cell? ⟨b,o,none⟩=some c∧r7 M (fun _=>none) w x c:=by
 cases h with
 |Z9 es i k b o sz cell hi hk aD hm hr=>
  have h1:=hm 0 0 (by simp) (by omega)
  refine⟨b,o,cell 0 0,by simp,?_,?_,hr 0 0 [x] x rfl rfl⟩
  ·simpa using h1.1
  ·simpa using h1.2
theorem b25{M:Nat→Nat→Prop}{ρ:Nat→Option (Nat×Nat×Nat)}{w:World}{f:FuncId}{x:AV}{u:Value}(h:r7 M ρ w (.fn f [x]) u):
  ∃y,u= .func (.func f) #[] #[y]∧r7 M ρ w x y:=by
 cases h with
 |fn f cs vs hn h=>
  obtain⟨vs⟩:=vs
  match vs,hn with
  |[y],_=>exact⟨y,rfl,h 0 x y rfl rfl⟩
end Go.Ab
end
section
namespace Go.Ab
section
section
variable {md:Bool} {P:Program} {k:List KF} {s:LS} {K:Exit→LS→Prop}
theorem sT [j9 P] {c:Code} (S:Nat→LS) (n:Nat) (first:AK (md:=md) P c [] s (S4 (fun s'=>O8 s' (S 0)) (Y2 (md:=md) P K k)))
  (round:∀i,i≤n→AK (md:=md) P c [] (S i) (S4 (fun s'=>i<n∧O8 s' (S (i+1))) (Y2 (md:=md) P K k))):AK (md:=md) P (.loop c) k s K:=by
 refine mH (fun m s'=>(m=n+1∧s'=s)∨∃i,i≤n∧m=n-i∧s'=S i) (n+1) (.inl ⟨rfl,rfl⟩) ?_
 rintro m s' (⟨rfl,rfl⟩|⟨i,hi,rfl,rfl⟩)
 ·refine eR.mono first fun e s1 h=>?_
  cases e with
  |normal=>exact⟨n,S 0,by omega,h,.inr ⟨0,by omega,by omega,rfl⟩⟩
  |_=>exact h
 ·refine eR.mono (round i hi) fun e s1 h=>?_
  cases e with
  |normal=>exact⟨n-(i+1),S (i+1),by have:=h.1;omega,h.2,.inr ⟨i+1,by have:=h.1;omega,rfl,rfl⟩⟩
  |_=>exact h
end
end
def wB(id:Nat)(r:RS):List (Nat×RS)→List (Nat×RS)
 |[]=>[]
 |(i,x)::l=>(if i=id then(i,r)else(i,x))::wB id r l
theorem a0O(id:Nat)(r:RS):∀(h:List (Nat×RS)),LS.hf h id≠ .free→LS.hf (wB id r h)=m9 (LS.hf h) id r
 |[],hn=>absurd rfl hn
 |(i,x)::l,hn=>by
  funext j
  unfold m9
  by_cases hi:i=id
  ·subst hi
   simp only[wB,if_true,LS.hf,List.lookup_cons]
   by_cases hj:j=i
   ·subst hj;simp
   ·have:(j==i)=false:=by simp [hj]
    rw[this,if_neg hj]
    clear hn
    induction l with
    |nil=>rfl
    |cons p l ih=>
     obtain⟨q,y⟩:=p
     simp only[wB]
     split
     ·rename_i e
      subst e
      rw[List.lookup_cons,List.lookup_cons,this]
      exact ih
     ·rw[List.lookup_cons,List.lookup_cons]
      cases j==q with
      |true=>rfl
      |false=>exact ih
  ·simp only[wB,if_neg hi,LS.hf,List.lookup_cons]
   by_cases hj:j=id
   ·subst hj
    have e:(j==i)=false:=by simp;exact fun h=>hi h.symm
    have hn':LS.hf l j≠ .free:=by
     intro h;apply hn
     simp only[LS.hf,List.lookup_cons,e];exact h
    have:=congrFun (a0O j r l hn') j
    simp only[m9,if_true]at this
    rw[if_pos rfl,e]
    exact this
   ·rw[if_neg hj]
    cases hji:j==i with
    |true=>rfl
    |false=>
     have e:(id==i)=false:=by simp;exact fun h=>hi h.symm
     have hn':LS.hf l id≠ .free:=by
      intro h;apply hn
      simp only[LS.hf,List.lookup_cons,e];exact h
     have:=congrFun (a0O id r l hn') j
     simp only[m9,if_neg hj]at this
     exact this
theorem a7m{id:Nat}{r:RS}{n:Nat}:∀{h:List (Nat×RS)},(∀p∈h,p.1<n)→∀p∈wB id r h,p.1<n
 |[],_,p,hp=>by cases hp
 |(i,x)::l,hh,p,hp=>by
  simp only[wB,List.mem_cons]at hp
  rcases hp with rfl|hp
  ·have:=hh (i,x) (by simp)
   split<;>exact this
  ·exact a7m (fun q hq=>hh q (by simp [hq])) p hp
theorem a92 {md:Bool} {P:Program} [j9 P] {c:Code} {k:List KF} {K:Exit→LS→Prop} {t:List AV} {h:List (Nat×RS)} {nx:Nat} (id n:Nat) {sz fro:Nat} {es:List (List AV)} (h1:LS.hf h id= .live ⟨sz,es,fro⟩)
  (h2:AK (md:=md) P c k ⟨t,wB id (.live ⟨sz,es.take n,fro⟩) h,nx⟩ K):AK (md:=md) P c k ⟨t,h,nx⟩ K:=by
 refine A5 ?_ h2
 intro G M0 w0 ρ a w R
 exact b2E id sz (es.take n) (es.drop n) fro (by rw[List.take_append_drop];exact h1) (a0O id _ h (by rw[h1];intro e;cases e)) (a7m R.2) G M0 w0 ρ a w R
end Go.Ab
end
section
namespace Go.Ab
open Go.RowKit (Below)
section
section
variable {G:Gh} {M0:Nat→Nat→Prop} {w0:World} {ρ ρ':Nat→Option (Nat×Nat×Nat)} {w:World} {P:Program} {h:Nat→RS}
theorem a37{M:Nat→Nat→Prop}{r:Nat→Option Nat}(hrr:∀id j,r id=some j→ρ' j=ρ id):∀(n:Nat) (x y:AV) (u:Value),n6 r n x=some y→r7 M ρ w x u→r7 M ρ' w y u:=by
 intro n
 induction n with
 |zero=>
  intro x y u hr hx
  cases hx with
  |Z=>cases hr;exact .Z _
  |N6 t=>cases hr;exact .N6 t
  |v=>cases hr;exact .v _
  |c5 c es a cap b o sz cell h1 h2 h3 h4 h5 h6=>cases hr;exact .c5 c es a cap b o sz cell h1 h2 h3 h4 h5 h6
  |Z9 es i k b o sz cell h1 h2 h3 h4 h5=>cases hr;exact .Z9 es i k b o sz cell h1 h2 h3 h4 h5
  |own id off n cap b β sz N e h1 h2 h3 h4=>simp only[n6,Option.map_eq_some_iff]at hr;obtain⟨j,hj,rfl⟩:=hr;exact .own j off n cap b β sz N e (by rw[hrr _ _ hj];exact h1) h2 h3 h4
  |ptr id i k b β sz h1=>simp only[n6,Option.map_eq_some_iff]at hr;obtain⟨j,hj,rfl⟩:=hr;exact .ptr j i k b β sz (by rw[hrr _ _ hj];exact h1)
  |dP id i k b β sz h1=>simp only[n6,Option.map_eq_some_iff]at hr;obtain⟨j,hj,rfl⟩:=hr;exact .dP j i k b β sz (by rw[hrr _ _ hj];exact h1)
  |_=>simp [n6]at hr
 |succ n ih=>
  intro x y u hr hx
  have many:∀(cs cs':List AV) (vs:Array Value),cs.mapM (n6 r n)=some cs'→vs.size=cs.length→(∀(i:Nat) x u,cs[i]?=some x→vs[i]?=some u→r7 M ρ w x u)→
    vs.size=cs'.length∧∀(i:Nat) x u,cs'[i]?=some x→vs[i]?=some u→r7 M ρ' w x u:=by
   intro cs cs' vs hm hn hr
   refine⟨by rw[K6 hm];exact hn,fun i x u h1 h2=>?_⟩
   obtain⟨x0,e1,e2⟩:=F5 hm i x h1
   exact ih x0 x u e2 (hr i x0 u e1 h2)
  cases hx with
  |Z=>cases hr;exact .Z _
  |N6 t=>cases hr;exact .N6 t
  |v=>cases hr;exact .v _
  |c5 c es a cap b o sz cell h1 h2 h3 h4 h5 h6=>cases hr;exact .c5 c es a cap b o sz cell h1 h2 h3 h4 h5 h6
  |Z9 es i k b o sz cell h1 h2 h3 h4 h5=>cases hr;exact .Z9 es i k b o sz cell h1 h2 h3 h4 h5
  |own id off n cap b β sz N e h1 h2 h3 h4=>simp only[n6,Option.map_eq_some_iff]at hr;obtain⟨j,hj,rfl⟩:=hr;exact .own j off n cap b β sz N e (by rw[hrr _ _ hj];exact h1) h2 h3 h4
  |ptr id i k b β sz h1=>simp only[n6,Option.map_eq_some_iff]at hr;obtain⟨j,hj,rfl⟩:=hr;exact .ptr j i k b β sz (by rw[hrr _ _ hj];exact h1)
  |dP id i k b β sz h1=>simp only[n6,Option.map_eq_some_iff]at hr;obtain⟨j,hj,rfl⟩:=hr;exact .dP j i k b β sz (by rw[hrr _ _ hj];exact h1)
  |agg cs vs hn hh=>
   simp only[n6,Option.map_eq_some_iff]at hr
   obtain⟨cs',hm,rfl⟩:=hr
   obtain⟨g1,g2⟩:=many cs cs' vs hm hn hh
   exact .agg cs' vs g1 g2
  |Q0 cs vs hn hh=>
   simp only[n6,Option.map_eq_some_iff]at hr
   obtain⟨cs',hm,rfl⟩:=hr
   obtain⟨g1,g2⟩:=many cs cs' vs hm hn hh
   exact .Q0 cs' vs g1 g2
  |fn f cs vs hn hh=>
   simp only[n6,Option.map_eq_some_iff]at hr
   obtain⟨cs',hm,rfl⟩:=hr
   obtain⟨g1,g2⟩:=many cs cs' vs hm hn hh
   exact .fn f cs' vs g1 g2
  |mJ f cs vs hn hh=>
   simp only[n6,Option.map_eq_some_iff]at hr
   obtain⟨cs',hm,rfl⟩:=hr
   obtain⟨g1,g2⟩:=many cs cs' vs hm hn hh
   exact .mJ f cs' vs g1 g2
theorem vD{r:Nat→Option Nat}{row row':Row}(hr:e7 r row=some row'):row'.sz=row.sz∧row'.fro=row.fro∧row'.es.length=row.es.length:=by
 unfold e7 at hr
 split at hr
 ·cases hr;exact⟨rfl,rfl,rfl⟩
 ·simp only[Option.map_eq_some_iff]at hr
  obtain⟨es,hm,rfl⟩:=hr
  exact⟨rfl,rfl,K6 hm⟩
end
def RS.a5l:RS→Bool
 | .live _=>true
 |_=>false
theorem b2G {s:LS} {t':List AV} {h':List (Nat×RS)} {nx':Nat} (keep:List Nat) (r:Nat→Option Nat) (src:Nat→Nat)
  (ht:n7 keep r 0 s.t=some t')
  (hr:∀id j,r id=some j→(∃row,LS.hf h' j= .live row)∧src j=id)
  (hrow:∀j row',LS.hf h' j= .live row'→∃row,LS.hf s.h (src j)= .live row∧e7 r row=some row')
  (hel:∀j,(∃row',LS.hf h' j= .live row')∨LS.hf h' j= .gone∨LS.hf h' j= .free)
  (inj:∀i j r1 r2,LS.hf h' i= .live r1→LS.hf h' j= .live r2→src i=src j→i=j)
  (ok:∀p∈h',p.1<nx'):O8 s ⟨t',h',nx'⟩:=by
 intro G M0 w0 ρ a w ⟨R,hok⟩
 obtain⟨ρ',hρ⟩:∃ρ':Nat→Option (Nat×Nat×Nat),ρ'=fun j=>if(LS.hf h' j).a5l then ρ (src j)else none:=⟨_,rfl⟩
 have hl:∀j row,LS.hf h' j= .live row→ρ' j=ρ (src j):=fun j row hj=>by rw[hρ];simp only[hj,RS.a5l,if_true]
 have hrr:∀id j,r id=some j→ρ' j=ρ id:=fun id j hj=>by
  obtain⟨⟨row,h1⟩,h2⟩:=hr id j hj
  rw[hl j row h1,h2]
 obtain⟨g1,g2⟩:=a0a ht
 have hM:∀b o,p7 M0 ρ' (LS.hf h') b o→p7 M0 ρ (LS.hf s.h) b o:=by
  rintro b o (g|⟨j,row',β,z,q1,q2,q3⟩)
  ·exact .inl g
  ·obtain⟨row,e1,e2⟩:=hrow j row' q1
   rw[hl j row' q1]at q2
   exact .inr ⟨src j,row,β,z,e1,q2,by rw[←(vD e2).2.1];exact q3⟩
 have up:∀n x y u,n6 r n x=some y→r7 (p7 M0 ρ (LS.hf s.h)) ρ w x u→r7 (p7 M0 ρ' (LS.hf h')) ρ' w y u:=fun n x y u h1 h2=>(a37 hrr n x y u h1 h2).oY hM
 refine⟨ρ',⟨?_,?_,?_,?_,?_,R.U2,R.m0,R.defers,?_,?_,?_,R.fY,?_,?_,R.oI⟩,ok⟩
 ·rw[R.n];exact g1.symm
 ·intro i
  show r7 (p7 M0 ρ' (LS.hf h')) ρ' w (LS.tf t' i) _
  simp only[LS.tf,List.getD_eq_getElem?_getD]
  cases hy:t'[i]? with
  |none=>exact .Z _
  |some y=>
   obtain⟨x,e1,e2⟩:=g2 i y hy
   rcases e2 with e2|rfl
   ·have hx:=R.tm i
    simp only[LS.n8,LS.tf,List.getD_eq_getElem?_getD,e1,Option.getD_some]at hx
    exact up 3 x y _ e2 hx
   ·exact .Z _
 ·intro j row' hj
  have hj:LS.hf h' j= .live row':=hj
  obtain⟨row,e1,e2⟩:=hrow j row' hj
  obtain⟨b,β,arr,e,p1,p2,p3,p4,p5,p6⟩:=R.live (src j) row e1
  obtain⟨q1,q2,q3⟩:=vD e2
  have hρj:ρ' j=some (b,β,row'.sz):=by rw[hl j row' hj,p1,q1]
  unfold e7 at e2
  split at e2
  ·rename_i hpl
   cases e2
   refine⟨b,β,arr,e,hρj,p2,p3,p4,p5,fun m k e' x u g1 g2 g3=>?_⟩
   have hp:x.plain=true:=by
    have:=List.all_eq_true.1 hpl e' (List.mem_of_getElem? g1)
    exact List.all_eq_true.1 this x (List.mem_of_getElem? g2)
   exact(((p6 m k e' x u g1 g2 g3).Z5 hp).up).oY hM
  ·simp only[Option.map_eq_some_iff]at e2
   obtain⟨es,hm,rfl⟩:=e2
   simp only at q3 hρj⊢
   refine⟨b,β,arr,e,hρj,p2,p3,by rw[q3];exact p4,fun x hx=>?_,fun m k e' x u g1 g2 g3=>?_⟩
   ·obtain⟨m,hm1,hm2⟩:=List.mem_iff_getElem.1 hx
    obtain⟨e0,t1,t2⟩:=F5 hm m x (by simp [hm1,hm2])
    rw[K6 t2]
    exact p5 e0 (List.mem_of_getElem? t1)
   ·obtain⟨e0,t1,t2⟩:=F5 hm m e' g1
    obtain⟨x0,t3,t4⟩:=F5 t2 k x g2
    exact up 3 x0 x u t4 (p6 m k e0 x0 u t1 t3 g3)
 ·intro j hj
  have hj:LS.hf h' j= .free:=hj
  rw[hρ];simp only[hj,RS.a5l,Bool.false_eq_true,if_false]
 ·intro i j r1 r2 b β β' z z' h1 h2 h3 h4
  have h1:LS.hf h' i= .live r1:=h1
  have h2:LS.hf h' j= .live r2:=h2
  obtain⟨row1,e1,_⟩:=hrow i r1 h1
  obtain⟨row2,e2,_⟩:=hrow j r2 h2
  rw[hl i r1 h1]at h3
  rw[hl j r2 h2]at h4
  exact inj i j r1 r2 h1 h2 (R.inj _ _ row1 row2 b β β' z z' e1 e2 h3 h4)
 ·intro j k cs hj
  have hj:LS.hf h' j= .u3 k cs:=hj
  rcases hel j with⟨_,e⟩|e|e<;>rw[e]at hj<;>cases hj
 ·intro x u hx
  exact(R.lE x u hx).oY hM
 ·intro j b q f hj
  have hj:LS.hf h' j= .mp b q f:=hj
  rcases hel j with⟨_,e⟩|e|e<;>rw[e]at hj<;>cases hj
 ·intro j row' p hj hp
  have hj:LS.hf h' j= .live row':=hj
  obtain⟨row,e1,_⟩:=hrow j row' hj
  rw[hl j row' hj]at hp
  exact R.dH (src j) row p e1 hp
 ·intro j b q f hj
  have hj:LS.hf h' j= .mp b q f:=hj
  rcases hel j with⟨_,e⟩|e|e<;>rw[e]at hj<;>cases hj
end
def gU(b n:Nat)(f:Nat→RS):List (Nat×RS):=(List.range n).map fun z=>(b+z,f z)
theorem fS(b n:Nat)(f:Nat→RS):gU b (n+1) f=gU b n f++[(b+n,f n)]:=by simp [gU,List.range_succ]
theorem jB(b n:Nat)(f:Nat→RS)(id:Nat):(gU b n f).lookup id=if b≤id∧id<b+n then some (f (id-b))else none:=by
 induction n with
 |zero=>rw[if_neg (by omega)];rfl
 |succ n ih=>
  rw[fS,lookup_append,ih]
  by_cases h:b≤id∧id<b+n
  ·rw[if_pos h,if_pos (by omega)]
  ·rw[if_neg h]
   simp only[List.lookup_cons,List.lookup_nil]
   by_cases h2:id=b+n
   ·subst h2;simp
   ·have:(id==b+n)=false:=by simpa using h2
    rw[this,if_neg (by omega)]
theorem mQ(b n:Nat)(f:Nat→RS)(z:Nat)(h:z<n):(gU b n f).lookup (b+z)=some (f z):=by
 rw[jB,if_pos (by omega),Nat.add_sub_cancel_left]
theorem D4(b n:Nat)(f:Nat→RS)(id:Nat)(h:id<b∨b+n≤id):(gU b n f).lookup id=none:=by
 rw[jB,if_neg (by omega)]
theorem b0L{b n:Nat}{f:Nat→RS}{p:Nat×RS}(h:p∈gU b n f):p.1<b+n:=by
 simp only[gU,List.mem_map,List.mem_range]at h
 obtain⟨z,hz,rfl⟩:=h
 simp only;omega
theorem a7M(id i k:Nat)(cs:List AV)(l1 l2:List (Nat×RS)):T1 id i k cs (l1++l2)=T1 id i k cs l1++T1 id i k cs l2:=by
 induction l1 with
 |nil=>rfl
 |cons p l ih=>
  obtain⟨j,x⟩:=p
  simp only[List.cons_append,T1]
  split<;>rw[ih]<;>rfl
theorem pD(id:Nat)(l1 l2:List (Nat×RS)):cJ id (l1++l2)=cJ id l1++cJ id l2:=by
 induction l1 with
 |nil=>rfl
 |cons p l ih=>
  obtain⟨j,x⟩:=p
  simp only[List.cons_append,cJ]
  split<;>rw[ih]<;>rfl
theorem a7N(id i k:Nat)(cs:List AV)(b n:Nat)(f:Nat→RS)(h:id<b∨b+n≤id):T1 id i k cs (gU b n f)=gU b n f:=by
 induction n with
 |zero=>rfl
 |succ n ih=>
  rw[fS,a7M,ih (by omega)]
  simp only[T1]
  rw[if_neg (by omega)]
theorem a0V(id b n:Nat)(f:Nat→RS)(h:id<b∨b+n≤id):cJ id (gU b n f)=gU b n f:=by
 induction n with
 |zero=>rfl
 |succ n ih=>
  rw[fS,pD,ih (by omega)]
  simp only[cJ]
  rw[if_neg (by omega)]
theorem a8K(z b n:Nat)(f:Nat→RS):cJ (b+z) (gU b n f)=gU b n (fun y=>if y=z then .gone else f y):=by
 induction n with
 |zero=>rfl
 |succ n ih=>
  rw[fS,fS,pD,ih]
  simp only[cJ]
  by_cases h:n=z
  ·subst h;simp
  ·rw[if_neg (by omega),if_neg h]
theorem B8(k b z:Nat)(h:k<b∨b+z<k):(b+z==k)=false:=by simp;omega
theorem A8(k b z:Nat)(h:k<b∨b+z<k):(k==b+z)=false:=by simp;omega
theorem G7(k b z:Nat)(h:k<b∨b+z<k):(k=b+z)=False:=by simp;omega
theorem lG{β γ:Type}{g:γ→Option β}{n:Nat}{a:Nat→γ}{c:Nat→β}(h:∀z,z<n→g (a z)=some (c z)):((List.range n).map a).mapM g=some ((List.range n).map c):=by
 induction n with
 |zero=>rfl
 |succ n ih=>
  rw[List.range_succ,List.map_append,a3L,ih fun z hz=>h z (by omega),List.map_append]
  simp [h n (by omega)]
theorem a06{γ:Type}(n z:Nat)(a:Nat→γ)(g:γ→γ):((List.range n).map a).modify z g=(List.range n).map fun y=>if y=z then g (a y)else a y:=by
 apply List.ext_getElem?
 intro j
 rw[List.getElem?_modify]
 simp only[List.getElem?_map]
 by_cases h:j<n
 ·rw[List.getElem?_range h]
  by_cases h2:z=j
  ·subst h2;simp
  ·have:¬j=z:=fun e=>h2 e.symm
   simp [h2,this]
 ·rw[List.getElem?_eq_none (by simp;omega)];rfl
theorem vR {s:LS} {t':List AV} {rows:List Row} (keep ids:List Nat) (n:Nat) (f:Nat→RS) (b:Nat) (r:Nat→Option Nat) (src:Nat→Nat)
  (hnd:ids.Nodup)
  (hr0:∀id j,p8 ids 0 id=some j→r id=some j)
  (hrf:∀id j,p8 ids 0 id=none→r id=some j→∃z,z<n∧j=b+z∧src z=id∧∃row,f z= .live row)
  (ht:n7 keep r 0 s.t=some t')
  (hp:b6 (LS.hf s.h) r ids=some rows)
  (hb:ids.length≤b)
  (hf:∀z,z<n→f z= .gone∨∃row,f z= .live row∧src z∉ids∧∃row0,LS.hf s.h (src z)= .live row0∧e7 r row0=some row)
  (inj:∀y z r1 r2,y<n→z<n→f y= .live r1→f z= .live r2→src y=src z→y=z) (nx':Nat) (hnx:b+n≤nx'):
  O8 s ⟨t',j7 0 rows++gU b n f,nx'⟩:=by
 obtain⟨hlen,hget⟩:=cC hp
 have hl:∀j,LS.hf (j7 0 rows++gU b n f) j=if j<rows.length then .live (rows.getD j ⟨0,[],0⟩)else if b≤j∧j<b+n then f (j-b)else .free:=by
  intro j
  simp only[LS.hf,lookup_append,dD,jB]
  by_cases h1:j<rows.length
  ·rw[if_pos (by omega),if_pos h1];simp
  ·rw[if_neg (by omega),if_neg h1]
   simp only
   split<;>rfl
 have rid:∀j,j<rows.length→∃id,ids[j]?=some id∧p8 ids 0 id=some j:=by
  intro j hj
  have hj':j<ids.length:=by omega
  refine⟨ids[j],List.getElem?_eq_getElem hj',?_⟩
  unfold p8
  have:ids.idxOf? ids[j]=some j:=by
   rw[List.idxOf?_eq_some_iff]
   refine⟨hj',by simp,fun k hk=>?_⟩
   have:=List.pairwise_iff_getElem.1 hnd k j (by omega) hj' hk
   simpa using this
  rw[this];simp
 refine b2G keep r (fun j=>if j<rows.length then ids.getD j 0 else src (j-b)) ht (fun id j hj=>?_) (fun j row' hj=>?_) (fun j=>?_) (fun i j r1 r2 h1 h2 e=>?_) (fun p hp=>?_)
 ·cases h:p8 ids 0 id with
  |some j'=>
   have:=hr0 id j' h
   rw[this]at hj;cases hj
   have hi:ids[j]?=some id:=by
    simp only[p8,Option.map_eq_some_iff]at h
    obtain⟨k,h1,h2⟩:=h
    have:=a0S h1
    rw[show j=k by omega];exact this
   have hj2:j<ids.length:=(List.getElem?_eq_some_iff.1 hi).1
   refine⟨⟨rows.getD j ⟨0,[],0⟩,by rw[hl,if_pos (by omega)]⟩,?_⟩
   rw[if_pos (by omega),List.getD_eq_getElem?_getD,hi];rfl
  |none=>
   obtain⟨z,hz,rfl,e,row,hrow⟩:=hrf id j h hj
   refine⟨⟨row,by rw[hl,if_neg (by omega),if_pos (by omega),Nat.add_sub_cancel_left];exact hrow⟩,?_⟩
   rw[if_neg (by omega),Nat.add_sub_cancel_left];exact e
 ·rw[hl]at hj
  by_cases h1:j<rows.length
  ·rw[if_pos h1]at hj
   cases hj
   obtain⟨id,row,e1,e2,e3⟩:=hget j (rows.getD j ⟨0,[],0⟩) (by rw[List.getD_eq_getElem?_getD,List.getElem?_eq_getElem h1,Option.getD_some])
   rw[if_pos h1,List.getD_eq_getElem?_getD,e1]
   exact⟨row,e2,e3⟩
  ·rw[if_neg h1]at hj
   rw[if_neg h1]
   split at hj
   ·rename_i h2
    rcases hf (j-b) (by omega)with h3|⟨row,h3,_,row0,h4,h5⟩
    ·rw[h3]at hj;cases hj
    ·rw[h3]at hj;cases hj;exact⟨row0,h4,h5⟩
   ·cases hj
 ·rw[hl]
  split
  ·exact .inl ⟨_,rfl⟩
  ·split
   ·rename_i h2
    rcases hf (j-b) (by omega)with h3|⟨row,h3,_⟩
    ·exact .inr (.inl h3)
    ·exact .inl ⟨row,h3⟩
   ·exact .inr (.inr rfl)
 ·rw[hl]at h1 h2
  by_cases c1:i<rows.length
  ·by_cases c2:j<rows.length
   ·rw[if_pos c1,if_pos c2]at e
    obtain⟨id,e1,e2⟩:=rid i c1
    obtain⟨id',f1,f2⟩:=rid j c2
    rw[List.getD_eq_getElem?_getD,e1,List.getD_eq_getElem?_getD,f1]at e
    have e:id=id':=e
    subst e
    rw[e2]at f2;cases f2;rfl
   ·exfalso
    rw[if_neg c2]at h2
    split at h2
    ·rcases hf (j-b) (by omega)with h3|⟨row,h3,h4,_⟩
     ·rw[h3]at h2;cases h2
     ·rw[if_pos c1,if_neg c2]at e
      obtain⟨id,e1,_⟩:=rid i c1
      rw[List.getD_eq_getElem?_getD,e1]at e
      have e:id=src (j-b):=e
      exact h4 (by rw[←e];exact List.mem_of_getElem? e1)
    ·cases h2
  ·rw[if_neg c1]at h1
   split at h1
   ·rename_i d1
    rcases hf (i-b) (by omega)with h3|⟨row,h3,h4,_⟩
    ·rw[h3]at h1;cases h1
    ·by_cases c2:j<rows.length
     ·exfalso
      rw[if_neg c1,if_pos c2]at e
      obtain⟨id,e1,_⟩:=rid j c2
      rw[List.getD_eq_getElem?_getD,e1]at e
      have e:src (i-b)=id:=e
      exact h4 (by rw[e];exact List.mem_of_getElem? e1)
     ·rw[if_neg c1,if_neg c2]at e
      rw[if_neg c2]at h2
      split at h2
      ·have:=inj (i-b) (j-b) _ _ (by omega) (by omega) h1 h2 e
       omega
      ·cases h2
   ·cases h1
 ·rcases List.mem_append.1 hp with hp|hp
  ·have:=rN rows 0 p hp;omega
  ·have:=b0L hp;omega
theorem b0Q{ids:List (Nat×Nat)}{id:Nat}(h:∀p∈ids,p.1≠id)(m:Nat):E7 ids id m=m:=by
 unfold E7
 induction ids generalizing m with
 |nil=>rfl
 |cons p l ih=>
  rw[List.foldl_cons,if_neg (h p (by simp))]
  exact ih (fun q hq=>h q (by simp [hq])) m
end Go.Ab
end
section
namespace Go.Proofs.YtgdoiokalfhjoaaDoor
open Go.Ab
theorem sA:((((((((type_of%(@a4c))∧((type_of%(@a0i))∧(type_of%(@Go.Ab.a43.eq_1))))∧((type_of%(@Go.Ab.a43.eq_2))∧((type_of%(@b4k))∧(type_of%(@a64)))))∧(((type_of%(@b0Z))∧((type_of%(@b0W))∧(type_of%(@b0Y))))∧((type_of%(@b0X))∧((type_of%(@b4o))∧(type_of%(@b4n))))))∧((((type_of%(@a3F))∧((type_of%(@uB))∧(type_of%(@uC))))∧((type_of%(@uA))∧((type_of%(@nB))∧(type_of%(@nC)))))∧(((type_of%(@nA))∧((type_of%(@a7J))∧(type_of%(@a7K))))∧((type_of%(@a7I))∧((type_of%(@Bool.false_and))∧(type_of%(@Bool.and_false)))))))∧(((((type_of%(@Go.Ab.C9.eq_1))∧((type_of%(@Go.Ab.C9.eq_2))∧(type_of%(@Go.Ab.Y7.eq_1))))∧((type_of%(@ne_eq.{1}))∧((type_of%(@not_false_eq_true))∧(type_of%(@Go.Ab.E7.eq_1)))))∧(((type_of%(@List.foldl_cons.{0,0}))∧((type_of%(@List.foldl_nil.{0,0}))∧(type_of%(@Nat.zero_max))))∧((type_of%(@Nat.max_self))∧((type_of%(@Go.Ab.a7f.eq_1))∧(type_of%(@Go.Ab.pE.eq_1))))))∧((((type_of%(@Go.Ab.iP.eq_1))∧((type_of%(@Go.Ab.iP.eq_2))∧(type_of%(@b9))))∧((type_of%(@c6))∧((type_of%(@Go.Ab.Z7.eq_1))∧(type_of%(@Go.Ab.Z7.eq_2)))))∧(((type_of%(@Go.Ab.bV.eq_1))∧((type_of%(@Go.Ab.uZ.eq_1))∧(type_of%(@Go.Ab.kS.eq_1))))∧((type_of%(@Go.Ab.bG.eq_1))∧((type_of%(@L6))∧(type_of%(@I5))))))))∧((((((type_of%(@Go.Ab.w7.eq_1))∧((type_of%(@fG))∧(type_of%(@pH))))∧((type_of%(@List.all_append.{0}))∧((type_of%(@List.dropLast_cons_cons.{0}))∧(type_of%(@List.dropLast_singleton.{0})))))∧(((type_of%(@List.getLastD_cons.{0}))∧((type_of%(@List.getLastD_nil.{0}))∧(type_of%(@Go.Ab.LS.n8.eq_1))))∧((type_of%(@Go.Ab.nL.eq_1))∧((type_of%(@Go.Ab.pL.eq_1))∧(type_of%(@Go.Ab.pL.eq_2))))))∧((((type_of%(@exists_eq_left'.{1}))∧((type_of%(@AV.v.injEq))∧(type_of%(@Value.bool.injEq))))∧((type_of%(@Value.int.injEq))∧((type_of%(@List.flatMap_cons.{0,0}))∧(type_of%(@List.flatMap_nil.{0,0})))))∧(((type_of%(@a0p))∧((type_of%(@vM))∧(type_of%(@a4b))))∧((type_of%(@a0h))∧((type_of%(@Go.Ab.a41.eq_1))∧(type_of%(@Go.Ab.a41.eq_2)))))))∧(((((type_of%(@b4j))∧((type_of%(@a62))∧(type_of%(@b0V))))∧((type_of%(@b0S))∧((type_of%(@b0U))∧(type_of%(@b0T)))))∧(((type_of%(@b4m))∧((type_of%(@b4l))∧(type_of%(@Go.Ab.T8.eq_1))))∧((type_of%(@Go.Ab.T8.eq_2))∧((type_of%(@Go.Ab.LS.ev.eq_1))∧(type_of%(@Go.Ab.LS.ev.eq_2))))))∧((((type_of%(@Go.Ab.LS.ev.eq_3))∧((type_of%(@Go.Ab.LS.ev.eq_4))∧(type_of%(@Go.Ab.LS.tf.eq_1))))∧((type_of%(@Go.Ab.LS.hf.eq_1))∧((type_of%(@b4v))∧(type_of%(@a3U)))))∧(((type_of%(@a7n))∧((type_of%(@a7t))∧(type_of%(@a3T))))∧((type_of%(@a7p))∧((type_of%(@a7o))∧(type_of%(@a7q)))))))))∧(((((((type_of%(@a7r))∧((type_of%(@a7s))∧(type_of%(@b1O))))∧((type_of%(@Go.Ab.zZ.eq_1))∧((type_of%(@Go.Ab.mX.eq_1))∧(type_of%(@Go.Ab.mX.eq_2)))))∧(((type_of%(@Go.Ab.b2P.eq_1))∧((type_of%(@Go.Ab.kT.eq_1))∧(type_of%(@Go.Ab.kT.eq_2))))∧((type_of%(@Go.Ab.qT.eq_1))∧((type_of%(@Go.Ab.qT.eq_2))∧(type_of%(@Go.Ab.u2.eq_1))))))∧((((type_of%(@Go.Ab.u2.eq_2))∧((type_of%(@Go.Ab.u2.eq_3))∧(type_of%(@Go.Ab.u2.eq_4))))∧((type_of%(@Go.Ab.cJ.eq_1))∧((type_of%(@Go.Ab.cJ.eq_2))∧(type_of%(@a3m)))))∧(((type_of%(@Go.Ab.j7.eq_1))∧((type_of%(@Go.Ab.j7.eq_2))∧(type_of%(@zK))))∧((type_of%(@tS))∧((type_of%(@a3t))∧(type_of%(@tR)))))))∧(((((type_of%(@tQ))∧((type_of%(@a2Q))∧(type_of%(@a2P))))∧((type_of%(@a32))∧((type_of%(@a31))∧(type_of%(@List.lookup_cons.{0,0})))))∧(((type_of%(@List.lookup_nil.{0,0}))∧((type_of%(@List.length_cons.{0}))∧(type_of%(@List.length_nil.{0}))))∧((type_of%(@List.getD_cons_zero.{0}))∧((type_of%(@List.getD_cons_succ.{0}))∧(type_of%(@List.set_cons_zero.{0}))))))∧((((type_of%(@List.set_cons_succ.{0}))∧((type_of%(@List.map_cons.{0,0}))∧(type_of%(@List.map_nil.{0,0}))))∧((type_of%(@List.mapM_cons.{0,0,0}))∧((type_of%(@List.mapM_nil.{0,0,0}))∧(type_of%(@List.take_succ_cons.{0})))))∧(((type_of%(@List.take_zero.{0}))∧((type_of%(@List.take_nil.{0}))∧(type_of%(@List.drop_succ_cons.{0}))))∧((type_of%(@List.drop_zero.{0}))∧((type_of%(@List.drop_nil.{0}))∧(type_of%(@List.nil_append.{0}))))))))∧((((((type_of%(@List.cons_append.{0}))∧((type_of%(@List.append_nil.{0}))∧(type_of%(@List.all_cons.{0}))))∧((type_of%(@List.all_nil.{0}))∧((type_of%(@List.modify_zero_cons.{0}))∧(type_of%(@List.modify_succ_cons.{0})))))∧(((type_of%(@List.getElem?_cons_zero.{0}))∧((type_of%(@List.getElem?_cons_succ.{0}))∧(type_of%(@List.getElem?_nil.{0}))))∧((type_of%(@List.replicate_succ.{0}))∧((type_of%(@List.replicate_zero.{0}))∧(type_of%(@List.forall_mem_cons.{0}))))))∧((((type_of%(@List.not_mem_nil.{0}))∧((type_of%(@Option.map_some.{0,0}))∧(type_of%(@Option.map_none.{0,0}))))∧((type_of%(@Option.bind_some.{0,0}))∧((type_of%(@Option.bind_none.{0,0}))∧(type_of%(@Option.bind_eq_bind.{0})))))∧(((type_of%(@Option.pure_def.{0}))∧((type_of%(@Option.getD_some.{0}))∧(type_of%(@Option.getD_none.{0}))))∧((type_of%(@Bool.and_true))∧((type_of%(@Bool.true_and))∧(type_of%(@Bool.not_true)))))))∧(((((type_of%(@Bool.not_false))∧((type_of%(@true_and))∧(type_of%(@and_true))))∧((type_of%(@if_true.{1}))∧((type_of%(@if_false.{1}))∧(type_of%(@Nat.add_zero)))))∧(((type_of%(@Nat.zero_add))∧((type_of%(@Int.toNat_natCast))∧(type_of%(@Nat.le_refl))))∧((type_of%(@Nat.zero_le))∧((type_of%(@Option.some.injEq.{0}))∧(type_of%(@forall_const.{1}))))))∧((((type_of%(@false_implies))∧((type_of%(@implies_true.{1}))∧(type_of%(@and_self))))∧((type_of%(@beq_self_eq_true.{0}))∧((type_of%(@Bool.false_eq_true))∧(type_of%(@forall_eq.{1})))))∧(((type_of%(@decide_true))∧((type_of%(@decide_false))∧(type_of%(@List.size_toArray.{0}))))∧((type_of%(@Nat.not_lt_zero))∧((type_of%(@Nat.lt_irrefl))∧(type_of%(@List.length_append.{0})))))))))):=⟨⟨⟨⟨⟨⟨⟨@a4c,⟨@a0i,@Go.Ab.a43.eq_1⟩⟩,⟨@Go.Ab.a43.eq_2,⟨@b4k,@a64⟩⟩⟩,⟨⟨@b0Z,⟨@b0W,@b0Y⟩⟩,⟨@b0X,⟨@b4o,@b4n⟩⟩⟩⟩,⟨⟨⟨@a3F,⟨@uB,@uC⟩⟩,⟨@uA,⟨@nB,@nC⟩⟩⟩,⟨⟨@nA,⟨@a7J,@a7K⟩⟩,⟨@a7I,⟨@Bool.false_and,@Bool.and_false⟩⟩⟩⟩⟩,⟨⟨⟨⟨@Go.Ab.C9.eq_1,⟨@Go.Ab.C9.eq_2,@Go.Ab.Y7.eq_1⟩⟩,⟨@ne_eq.{1},⟨@not_false_eq_true,@Go.Ab.E7.eq_1⟩⟩⟩,⟨⟨@List.foldl_cons.{0,0},⟨@List.foldl_nil.{0,0},@Nat.zero_max⟩⟩,⟨@Nat.max_self,⟨@Go.Ab.a7f.eq_1,@Go.Ab.pE.eq_1⟩⟩⟩⟩,⟨⟨⟨@Go.Ab.iP.eq_1,⟨@Go.Ab.iP.eq_2,@b9⟩⟩,⟨@c6,⟨@Go.Ab.Z7.eq_1,@Go.Ab.Z7.eq_2⟩⟩⟩,⟨⟨@Go.Ab.bV.eq_1,⟨@Go.Ab.uZ.eq_1,@Go.Ab.kS.eq_1⟩⟩,⟨@Go.Ab.bG.eq_1,⟨@L6,@I5⟩⟩⟩⟩⟩⟩,⟨⟨⟨⟨⟨@Go.Ab.w7.eq_1,⟨@fG,@pH⟩⟩,⟨@List.all_append.{0},⟨@List.dropLast_cons_cons.{0},@List.dropLast_singleton.{0}⟩⟩⟩,⟨⟨@List.getLastD_cons.{0},⟨@List.getLastD_nil.{0},@Go.Ab.LS.n8.eq_1⟩⟩,⟨@Go.Ab.nL.eq_1,⟨@Go.Ab.pL.eq_1,@Go.Ab.pL.eq_2⟩⟩⟩⟩,⟨⟨⟨@exists_eq_left'.{1},⟨@AV.v.injEq,@Value.bool.injEq⟩⟩,⟨@Value.int.injEq,⟨@List.flatMap_cons.{0,0},@List.flatMap_nil.{0,0}⟩⟩⟩,⟨⟨@a0p,⟨@vM,@a4b⟩⟩,⟨@a0h,⟨@Go.Ab.a41.eq_1,@Go.Ab.a41.eq_2⟩⟩⟩⟩⟩,⟨⟨⟨⟨@b4j,⟨@a62,@b0V⟩⟩,⟨@b0S,⟨@b0U,@b0T⟩⟩⟩,⟨⟨@b4m,⟨@b4l,@Go.Ab.T8.eq_1⟩⟩,⟨@Go.Ab.T8.eq_2,⟨@Go.Ab.LS.ev.eq_1,@Go.Ab.LS.ev.eq_2⟩⟩⟩⟩,⟨⟨⟨@Go.Ab.LS.ev.eq_3,⟨@Go.Ab.LS.ev.eq_4,@Go.Ab.LS.tf.eq_1⟩⟩,⟨@Go.Ab.LS.hf.eq_1,⟨@b4v,@a3U⟩⟩⟩,⟨⟨@a7n,⟨@a7t,@a3T⟩⟩,⟨@a7p,⟨@a7o,@a7q⟩⟩⟩⟩⟩⟩⟩,⟨⟨⟨⟨⟨⟨@a7r,⟨@a7s,@b1O⟩⟩,⟨@Go.Ab.zZ.eq_1,⟨@Go.Ab.mX.eq_1,@Go.Ab.mX.eq_2⟩⟩⟩,⟨⟨@Go.Ab.b2P.eq_1,⟨@Go.Ab.kT.eq_1,@Go.Ab.kT.eq_2⟩⟩,⟨@Go.Ab.qT.eq_1,⟨@Go.Ab.qT.eq_2,@Go.Ab.u2.eq_1⟩⟩⟩⟩,⟨⟨⟨@Go.Ab.u2.eq_2,⟨@Go.Ab.u2.eq_3,@Go.Ab.u2.eq_4⟩⟩,⟨@Go.Ab.cJ.eq_1,⟨@Go.Ab.cJ.eq_2,@a3m⟩⟩⟩,⟨⟨@Go.Ab.j7.eq_1,⟨@Go.Ab.j7.eq_2,@zK⟩⟩,⟨@tS,⟨@a3t,@tR⟩⟩⟩⟩⟩,⟨⟨⟨⟨@tQ,⟨@a2Q,@a2P⟩⟩,⟨@a32,⟨@a31,@List.lookup_cons.{0,0}⟩⟩⟩,⟨⟨@List.lookup_nil.{0,0},⟨@List.length_cons.{0},@List.length_nil.{0}⟩⟩,⟨@List.getD_cons_zero.{0},⟨@List.getD_cons_succ.{0},@List.set_cons_zero.{0}⟩⟩⟩⟩,⟨⟨⟨@List.set_cons_succ.{0},⟨@List.map_cons.{0,0},@List.map_nil.{0,0}⟩⟩,⟨@List.mapM_cons.{0,0,0},⟨@List.mapM_nil.{0,0,0},@List.take_succ_cons.{0}⟩⟩⟩,⟨⟨@List.take_zero.{0},⟨@List.take_nil.{0},@List.drop_succ_cons.{0}⟩⟩,⟨@List.drop_zero.{0},⟨@List.drop_nil.{0},@List.nil_append.{0}⟩⟩⟩⟩⟩⟩,⟨⟨⟨⟨⟨@List.cons_append.{0},⟨@List.append_nil.{0},@List.all_cons.{0}⟩⟩,⟨@List.all_nil.{0},⟨@List.modify_zero_cons.{0},@List.modify_succ_cons.{0}⟩⟩⟩,⟨⟨@List.getElem?_cons_zero.{0},⟨@List.getElem?_cons_succ.{0},@List.getElem?_nil.{0}⟩⟩,⟨@List.replicate_succ.{0},⟨@List.replicate_zero.{0},@List.forall_mem_cons.{0}⟩⟩⟩⟩,⟨⟨⟨@List.not_mem_nil.{0},⟨@Option.map_some.{0,0},@Option.map_none.{0,0}⟩⟩,⟨@Option.bind_some.{0,0},⟨@Option.bind_none.{0,0},@Option.bind_eq_bind.{0}⟩⟩⟩,⟨⟨@Option.pure_def.{0},⟨@Option.getD_some.{0},@Option.getD_none.{0}⟩⟩,⟨@Bool.and_true,⟨@Bool.true_and,@Bool.not_true⟩⟩⟩⟩⟩,⟨⟨⟨⟨@Bool.not_false,⟨@true_and,@and_true⟩⟩,⟨@if_true.{1},⟨@if_false.{1},@Nat.add_zero⟩⟩⟩,⟨⟨@Nat.zero_add,⟨@Int.toNat_natCast,@Nat.le_refl⟩⟩,⟨@Nat.zero_le,⟨@Option.some.injEq.{0},@forall_const.{1}⟩⟩⟩⟩,⟨⟨⟨@false_implies,⟨@implies_true.{1},@and_self⟩⟩,⟨@beq_self_eq_true.{0},⟨@Bool.false_eq_true,@forall_eq.{1}⟩⟩⟩,⟨⟨@decide_true,⟨@decide_false,@List.size_toArray.{0}⟩⟩,⟨@Nat.not_lt_zero,⟨@Nat.lt_irrefl,@List.length_append.{0}⟩⟩⟩⟩⟩⟩⟩⟩
theorem sC:((((((type_of%(@L6))∧((type_of%(@I5))∧(type_of%(@Go.Ab.w7.eq_1))))∧(((type_of%(@Go.Ab.LS.hf.eq_1))∧(type_of%(@Go.Ab.j7.eq_1)))∧((type_of%(@Go.Ab.j7.eq_2))∧(type_of%(@List.lookup_cons.{0,0})))))∧(((type_of%(@List.lookup_nil.{0,0}))∧((type_of%(@List.map_cons.{0,0}))∧(type_of%(@List.map_nil.{0,0}))))∧(((type_of%(@List.all_cons.{0}))∧(type_of%(@List.all_nil.{0})))∧((type_of%(@List.contains_cons.{0}))∧(type_of%(@List.contains_nil.{0}))))))∧((((type_of%(@Bool.or_false))∧((type_of%(@Bool.or_true))∧(type_of%(@Bool.false_or))))∧(((type_of%(@Bool.true_or))∧(type_of%(@if_true.{1})))∧((type_of%(@if_false.{1}))∧(type_of%(@Nat.add_zero)))))∧(((type_of%(@Bool.not_true))∧((type_of%(@Bool.not_false))∧(type_of%(@Option.map_some.{0,0}))))∧(((type_of%(@Option.bind_some.{0,0}))∧(type_of%(@Option.getD_some.{0})))∧((type_of%(@Option.getD_none.{0}))∧(type_of%(@List.length_cons.{0})))))))∧(((((type_of%(@List.length_nil.{0}))∧((type_of%(@Bool.and_true))∧(type_of%(@Bool.and_false))))∧(((type_of%(@Bool.and_self))∧(type_of%(@Bool.true_and)))∧((type_of%(@List.nodup_cons.{0}))∧(type_of%(@List.not_mem_nil.{0})))))∧(((type_of%(@List.mem_cons.{0}))∧((type_of%(@not_false_eq_true))∧(type_of%(@and_self))))∧(((type_of%(@List.nodup_nil.{0}))∧(type_of%(@or_false)))∧((type_of%(@false_or))∧(type_of%(@Bool.false_eq_true))))))∧((((type_of%(@beq_self_eq_true.{0}))∧((type_of%(@List.nil_append.{0}))∧(type_of%(@List.cons_append.{0}))))∧(((type_of%(@List.append_nil.{0}))∧(type_of%(@List.mapM_cons.{0,0,0})))∧((type_of%(@List.mapM_nil.{0,0,0}))∧(type_of%(@Option.bind_eq_bind.{0})))))∧(((type_of%(@Option.pure_def.{0}))∧((type_of%(@Option.bind_none.{0,0}))∧(type_of%(@Option.map_none.{0,0}))))∧(((type_of%(@Nat.zero_add))∧(type_of%(@iA)))∧((type_of%(@vE))∧(type_of%(@List.all_append.{0})))))))):=⟨⟨⟨⟨⟨@L6,⟨@I5,@Go.Ab.w7.eq_1⟩⟩,⟨⟨@Go.Ab.LS.hf.eq_1,@Go.Ab.j7.eq_1⟩,⟨@Go.Ab.j7.eq_2,@List.lookup_cons.{0,0}⟩⟩⟩,⟨⟨@List.lookup_nil.{0,0},⟨@List.map_cons.{0,0},@List.map_nil.{0,0}⟩⟩,⟨⟨@List.all_cons.{0},@List.all_nil.{0}⟩,⟨@List.contains_cons.{0},@List.contains_nil.{0}⟩⟩⟩⟩,⟨⟨⟨@Bool.or_false,⟨@Bool.or_true,@Bool.false_or⟩⟩,⟨⟨@Bool.true_or,@if_true.{1}⟩,⟨@if_false.{1},@Nat.add_zero⟩⟩⟩,⟨⟨@Bool.not_true,⟨@Bool.not_false,@Option.map_some.{0,0}⟩⟩,⟨⟨@Option.bind_some.{0,0},@Option.getD_some.{0}⟩,⟨@Option.getD_none.{0},@List.length_cons.{0}⟩⟩⟩⟩⟩,⟨⟨⟨⟨@List.length_nil.{0},⟨@Bool.and_true,@Bool.and_false⟩⟩,⟨⟨@Bool.and_self,@Bool.true_and⟩,⟨@List.nodup_cons.{0},@List.not_mem_nil.{0}⟩⟩⟩,⟨⟨@List.mem_cons.{0},⟨@not_false_eq_true,@and_self⟩⟩,⟨⟨@List.nodup_nil.{0},@or_false⟩,⟨@false_or,@Bool.false_eq_true⟩⟩⟩⟩,⟨⟨⟨@beq_self_eq_true.{0},⟨@List.nil_append.{0},@List.cons_append.{0}⟩⟩,⟨⟨@List.append_nil.{0},@List.mapM_cons.{0,0,0}⟩,⟨@List.mapM_nil.{0,0,0},@Option.bind_eq_bind.{0}⟩⟩⟩,⟨⟨@Option.pure_def.{0},⟨@Option.bind_none.{0,0},@Option.map_none.{0,0}⟩⟩,⟨⟨@Nat.zero_add,@iA⟩,⟨@vE,@List.all_append.{0}⟩⟩⟩⟩⟩⟩
theorem sF:((((((type_of%(@Go.Ab.LS.hf.eq_1))∧(type_of%(@List.lookup_cons.{0,0})))∧((type_of%(@List.lookup_nil.{0,0}))∧(type_of%(@beq_self_eq_true.{0}))))∧(((type_of%(@Option.getD_some.{0}))∧(type_of%(@Option.getD_none.{0})))∧((type_of%(@List.mapM_cons.{0,0,0}))∧((type_of%(@List.mapM_nil.{0,0,0}))∧(type_of%(@Option.map_some.{0,0}))))))∧((((type_of%(@Option.map_none.{0,0}))∧(type_of%(@Option.bind_some.{0,0})))∧((type_of%(@Option.bind_eq_bind.{0}))∧((type_of%(@Option.pure_def.{0}))∧(type_of%(@Go.Ab.w7.eq_1)))))∧(((type_of%(@List.all_cons.{0}))∧(type_of%(@List.all_nil.{0})))∧((type_of%(@Bool.and_true))∧((type_of%(@Bool.true_and))∧(type_of%(@Bool.and_self)))))))∧(((((type_of%(@Bool.false_and))∧(type_of%(@Bool.and_false)))∧((type_of%(@Bool.false_eq_true))∧(type_of%(@List.drop_zero.{0}))))∧(((type_of%(@List.drop_succ_cons.{0}))∧(type_of%(@List.take_zero.{0})))∧((type_of%(@List.take_succ_cons.{0}))∧((type_of%(@List.take_nil.{0}))∧(type_of%(@List.drop_nil.{0}))))))∧((((type_of%(@List.length_cons.{0}))∧(type_of%(@List.length_nil.{0})))∧((type_of%(@Nat.zero_add))∧((type_of%(@Nat.le_refl))∧(type_of%(@Nat.zero_le)))))∧(((type_of%(@and_self))∧(type_of%(@true_and)))∧((type_of%(@and_true))∧((type_of%(@if_true.{1}))∧(type_of%(@if_false.{1})))))))):=⟨⟨⟨⟨⟨@Go.Ab.LS.hf.eq_1,@List.lookup_cons.{0,0}⟩,⟨@List.lookup_nil.{0,0},@beq_self_eq_true.{0}⟩⟩,⟨⟨@Option.getD_some.{0},@Option.getD_none.{0}⟩,⟨@List.mapM_cons.{0,0,0},⟨@List.mapM_nil.{0,0,0},@Option.map_some.{0,0}⟩⟩⟩⟩,⟨⟨⟨@Option.map_none.{0,0},@Option.bind_some.{0,0}⟩,⟨@Option.bind_eq_bind.{0},⟨@Option.pure_def.{0},@Go.Ab.w7.eq_1⟩⟩⟩,⟨⟨@List.all_cons.{0},@List.all_nil.{0}⟩,⟨@Bool.and_true,⟨@Bool.true_and,@Bool.and_self⟩⟩⟩⟩⟩,⟨⟨⟨⟨@Bool.false_and,@Bool.and_false⟩,⟨@Bool.false_eq_true,@List.drop_zero.{0}⟩⟩,⟨⟨@List.drop_succ_cons.{0},@List.take_zero.{0}⟩,⟨@List.take_succ_cons.{0},⟨@List.take_nil.{0},@List.drop_nil.{0}⟩⟩⟩⟩,⟨⟨⟨@List.length_cons.{0},@List.length_nil.{0}⟩,⟨@Nat.zero_add,⟨@Nat.le_refl,@Nat.zero_le⟩⟩⟩,⟨⟨@and_self,@true_and⟩,⟨@and_true,⟨@if_true.{1},@if_false.{1}⟩⟩⟩⟩⟩⟩
theorem sN:((((((((type_of%(@b7r))∧((type_of%(@a6i))∧(type_of%(@a9S))))∧(((type_of%(@a1Y))∧(type_of%(@a6j)))∧((type_of%(@b7s))∧(type_of%(@a6n)))))∧((((type_of%(@a9T))∧(type_of%(@a15)))∧((type_of%(@a6o))∧(type_of%(@b7t))))∧(((type_of%(@a6u))∧(type_of%(@a9U)))∧((type_of%(@a2g))∧(type_of%(@a6v))))))∧(((((type_of%(@b7u))∧(type_of%(@a6G)))∧((type_of%(@a9V))∧(type_of%(@a2B))))∧(((type_of%(@a6H))∧(type_of%(@b42)))∧((type_of%(@a1C))∧(type_of%(@a56)))))∧((((type_of%(@xJ))∧(type_of%(@a1D)))∧((type_of%(@b43))∧(type_of%(@a1E))))∧(((type_of%(@a57))∧(type_of%(@xK)))∧((type_of%(@a1F))∧(type_of%(@b44)))))))∧((((((type_of%(@a1G))∧(type_of%(@a58)))∧((type_of%(@xL))∧(type_of%(@a1H))))∧(((type_of%(@b45))∧(type_of%(@a1I)))∧((type_of%(@a6a))∧(type_of%(@xM)))))∧((((type_of%(@a1J))∧(type_of%(@b46)))∧((type_of%(@a1K))∧(type_of%(@a6b))))∧(((type_of%(@xN))∧(type_of%(@a1L)))∧((type_of%(@b47))∧(type_of%(@a1M))))))∧(((((type_of%(@a6c))∧(type_of%(@xO)))∧((type_of%(@a1N))∧(type_of%(@b48))))∧(((type_of%(@a1O))∧(type_of%(@a6d)))∧((type_of%(@xP))∧(type_of%(@a1P)))))∧((((type_of%(@b49))∧(type_of%(@a1Q)))∧((type_of%(@a6e))∧(type_of%(@xQ))))∧(((type_of%(@a1R))∧(type_of%(@b5a)))∧((type_of%(@a1S))∧(type_of%(@a6f))))))))∧(((((((type_of%(@xR))∧(type_of%(@a1T)))∧((type_of%(@b5b))∧(type_of%(@a1U))))∧(((type_of%(@a6g))∧(type_of%(@xS)))∧((type_of%(@a1V))∧(type_of%(@b5c)))))∧((((type_of%(@a1W))∧(type_of%(@a6h)))∧((type_of%(@xT))∧(type_of%(@a1X))))∧(((type_of%(@b5d))∧(type_of%(@a1Z)))∧((type_of%(@a6k))∧(type_of%(@xU))))))∧(((((type_of%(@a10))∧(type_of%(@b5e)))∧((type_of%(@a11))∧(type_of%(@a6l))))∧(((type_of%(@xV))∧(type_of%(@a12)))∧((type_of%(@b5f))∧(type_of%(@a13)))))∧((((type_of%(@a6m))∧(type_of%(@xW)))∧((type_of%(@a14))∧(type_of%(@b5g))))∧(((type_of%(@a16))∧(type_of%(@a6p)))∧((type_of%(@xX))∧(type_of%(@a17)))))))∧((((((type_of%(@b5h))∧(type_of%(@a18)))∧((type_of%(@a6q))∧(type_of%(@xY))))∧(((type_of%(@a19))∧(type_of%(@b5i)))∧((type_of%(@a2a))∧(type_of%(@a6r)))))∧((((type_of%(@xZ))∧(type_of%(@a2b)))∧((type_of%(@b5j))∧(type_of%(@a2c))))∧(((type_of%(@a6s))∧(type_of%(@yA)))∧((type_of%(@a2d))∧(type_of%(@b5k))))))∧(((((type_of%(@a2e))∧(type_of%(@a6t)))∧((type_of%(@yB))∧(type_of%(@a2f))))∧(((type_of%(@b5l))∧(type_of%(@a2h)))∧((type_of%(@a6w))∧(type_of%(@yC)))))∧((((type_of%(@a2i))∧(type_of%(@b5m)))∧((type_of%(@a2j))∧(type_of%(@a6x))))∧(((type_of%(@yD))∧(type_of%(@a2k)))∧((type_of%(@b5n))∧(type_of%(@a2l)))))))))∧(((((((type_of%(@a6y))∧((type_of%(@yE))∧(type_of%(@a2m))))∧(((type_of%(@b5o))∧(type_of%(@a2n)))∧((type_of%(@a6z))∧(type_of%(@yF)))))∧((((type_of%(@a2o))∧(type_of%(@b5p)))∧((type_of%(@a2p))∧(type_of%(@a6A))))∧(((type_of%(@yG))∧(type_of%(@a2q)))∧((type_of%(@b5q))∧(type_of%(@a2r))))))∧(((((type_of%(@a6B))∧(type_of%(@yH)))∧((type_of%(@a2s))∧(type_of%(@b5r))))∧(((type_of%(@a2t))∧(type_of%(@a6C)))∧((type_of%(@yI))∧(type_of%(@a2u)))))∧((((type_of%(@b5s))∧(type_of%(@a2v)))∧((type_of%(@a6D))∧(type_of%(@yJ))))∧(((type_of%(@a2w))∧(type_of%(@b5t)))∧((type_of%(@a2x))∧(type_of%(@a6E)))))))∧((((((type_of%(@yK))∧(type_of%(@a2y)))∧((type_of%(@b5u))∧(type_of%(@a2z))))∧(((type_of%(@a6F))∧(type_of%(@yL)))∧((type_of%(@a2A))∧(type_of%(@b2t)))))∧((((type_of%(@wR))∧(type_of%(@a1t)))∧((type_of%(@rX))∧(type_of%(@wS))))∧(((type_of%(@b2u))∧(type_of%(@wT)))∧((type_of%(@a1u))∧(type_of%(@rY))))))∧(((((type_of%(@wU))∧(type_of%(@b2v)))∧((type_of%(@wV))∧(type_of%(@a1v))))∧(((type_of%(@rZ))∧(type_of%(@wW)))∧((type_of%(@b2w))∧(type_of%(@wX)))))∧((((type_of%(@a1w))∧(type_of%(@sB)))∧((type_of%(@wY))∧(type_of%(@b2x))))∧(((type_of%(@wZ))∧(type_of%(@a1x)))∧((type_of%(@sD))∧(type_of%(@xA))))))))∧(((((((type_of%(@b2y))∧(type_of%(@xB)))∧((type_of%(@a1y))∧(type_of%(@sE))))∧(((type_of%(@xC))∧(type_of%(@b2z)))∧((type_of%(@xD))∧(type_of%(@a1z)))))∧((((type_of%(@sG))∧(type_of%(@xE)))∧((type_of%(@b2A))∧(type_of%(@xF))))∧(((type_of%(@a1A))∧(type_of%(@sH)))∧((type_of%(@xG))∧(type_of%(@b2B))))))∧(((((type_of%(@xH))∧(type_of%(@a1B)))∧((type_of%(@sJ))∧(type_of%(@xI))))∧(((type_of%(@b7n))∧(type_of%(@b7o)))∧((type_of%(@b7p))∧(type_of%(@b7q)))))∧((((type_of%(@b4A))∧(type_of%(@b4B)))∧((type_of%(@b4C))∧(type_of%(@b4D))))∧(((type_of%(@b4E))∧(type_of%(@b4F)))∧((type_of%(@b4G))∧(type_of%(@b4H)))))))∧((((((type_of%(@b4I))∧(type_of%(@b4J)))∧((type_of%(@b4K))∧(type_of%(@b4L))))∧(((type_of%(@b4M))∧(type_of%(@b4N)))∧((type_of%(@b4O))∧(type_of%(@b2s)))))∧((((type_of%(@b4P))∧(type_of%(@b4Q)))∧((type_of%(@b4R))∧(type_of%(@b4S))))∧(((type_of%(@b4T))∧(type_of%(@b4U)))∧((type_of%(@b4V))∧(type_of%(@b4W))))))∧(((((type_of%(@b4X))∧(type_of%(@b4Y)))∧((type_of%(@b4Z))∧(type_of%(@b40))))∧(((type_of%(@b41))∧(type_of%(@b2j)))∧((type_of%(@b2k))∧(type_of%(@b2l)))))∧((((type_of%(@b2m))∧(type_of%(@b2n)))∧((type_of%(@b2o))∧(type_of%(@b2p))))∧(((type_of%(@b2q))∧(type_of%(@b2r)))∧((type_of%(@b2C))∧(type_of%(@b4p)))))))))):=⟨⟨⟨⟨⟨⟨⟨@b7r,⟨@a6i,@a9S⟩⟩,⟨⟨@a1Y,@a6j⟩,⟨@b7s,@a6n⟩⟩⟩,⟨⟨⟨@a9T,@a15⟩,⟨@a6o,@b7t⟩⟩,⟨⟨@a6u,@a9U⟩,⟨@a2g,@a6v⟩⟩⟩⟩,⟨⟨⟨⟨@b7u,@a6G⟩,⟨@a9V,@a2B⟩⟩,⟨⟨@a6H,@b42⟩,⟨@a1C,@a56⟩⟩⟩,⟨⟨⟨@xJ,@a1D⟩,⟨@b43,@a1E⟩⟩,⟨⟨@a57,@xK⟩,⟨@a1F,@b44⟩⟩⟩⟩⟩,⟨⟨⟨⟨⟨@a1G,@a58⟩,⟨@xL,@a1H⟩⟩,⟨⟨@b45,@a1I⟩,⟨@a6a,@xM⟩⟩⟩,⟨⟨⟨@a1J,@b46⟩,⟨@a1K,@a6b⟩⟩,⟨⟨@xN,@a1L⟩,⟨@b47,@a1M⟩⟩⟩⟩,⟨⟨⟨⟨@a6c,@xO⟩,⟨@a1N,@b48⟩⟩,⟨⟨@a1O,@a6d⟩,⟨@xP,@a1P⟩⟩⟩,⟨⟨⟨@b49,@a1Q⟩,⟨@a6e,@xQ⟩⟩,⟨⟨@a1R,@b5a⟩,⟨@a1S,@a6f⟩⟩⟩⟩⟩⟩,⟨⟨⟨⟨⟨⟨@xR,@a1T⟩,⟨@b5b,@a1U⟩⟩,⟨⟨@a6g,@xS⟩,⟨@a1V,@b5c⟩⟩⟩,⟨⟨⟨@a1W,@a6h⟩,⟨@xT,@a1X⟩⟩,⟨⟨@b5d,@a1Z⟩,⟨@a6k,@xU⟩⟩⟩⟩,⟨⟨⟨⟨@a10,@b5e⟩,⟨@a11,@a6l⟩⟩,⟨⟨@xV,@a12⟩,⟨@b5f,@a13⟩⟩⟩,⟨⟨⟨@a6m,@xW⟩,⟨@a14,@b5g⟩⟩,⟨⟨@a16,@a6p⟩,⟨@xX,@a17⟩⟩⟩⟩⟩,⟨⟨⟨⟨⟨@b5h,@a18⟩,⟨@a6q,@xY⟩⟩,⟨⟨@a19,@b5i⟩,⟨@a2a,@a6r⟩⟩⟩,⟨⟨⟨@xZ,@a2b⟩,⟨@b5j,@a2c⟩⟩,⟨⟨@a6s,@yA⟩,⟨@a2d,@b5k⟩⟩⟩⟩,⟨⟨⟨⟨@a2e,@a6t⟩,⟨@yB,@a2f⟩⟩,⟨⟨@b5l,@a2h⟩,⟨@a6w,@yC⟩⟩⟩,⟨⟨⟨@a2i,@b5m⟩,⟨@a2j,@a6x⟩⟩,⟨⟨@yD,@a2k⟩,⟨@b5n,@a2l⟩⟩⟩⟩⟩⟩⟩,⟨⟨⟨⟨⟨⟨@a6y,⟨@yE,@a2m⟩⟩,⟨⟨@b5o,@a2n⟩,⟨@a6z,@yF⟩⟩⟩,⟨⟨⟨@a2o,@b5p⟩,⟨@a2p,@a6A⟩⟩,⟨⟨@yG,@a2q⟩,⟨@b5q,@a2r⟩⟩⟩⟩,⟨⟨⟨⟨@a6B,@yH⟩,⟨@a2s,@b5r⟩⟩,⟨⟨@a2t,@a6C⟩,⟨@yI,@a2u⟩⟩⟩,⟨⟨⟨@b5s,@a2v⟩,⟨@a6D,@yJ⟩⟩,⟨⟨@a2w,@b5t⟩,⟨@a2x,@a6E⟩⟩⟩⟩⟩,⟨⟨⟨⟨⟨@yK,@a2y⟩,⟨@b5u,@a2z⟩⟩,⟨⟨@a6F,@yL⟩,⟨@a2A,@b2t⟩⟩⟩,⟨⟨⟨@wR,@a1t⟩,⟨@rX,@wS⟩⟩,⟨⟨@b2u,@wT⟩,⟨@a1u,@rY⟩⟩⟩⟩,⟨⟨⟨⟨@wU,@b2v⟩,⟨@wV,@a1v⟩⟩,⟨⟨@rZ,@wW⟩,⟨@b2w,@wX⟩⟩⟩,⟨⟨⟨@a1w,@sB⟩,⟨@wY,@b2x⟩⟩,⟨⟨@wZ,@a1x⟩,⟨@sD,@xA⟩⟩⟩⟩⟩⟩,⟨⟨⟨⟨⟨⟨@b2y,@xB⟩,⟨@a1y,@sE⟩⟩,⟨⟨@xC,@b2z⟩,⟨@xD,@a1z⟩⟩⟩,⟨⟨⟨@sG,@xE⟩,⟨@b2A,@xF⟩⟩,⟨⟨@a1A,@sH⟩,⟨@xG,@b2B⟩⟩⟩⟩,⟨⟨⟨⟨@xH,@a1B⟩,⟨@sJ,@xI⟩⟩,⟨⟨@b7n,@b7o⟩,⟨@b7p,@b7q⟩⟩⟩,⟨⟨⟨@b4A,@b4B⟩,⟨@b4C,@b4D⟩⟩,⟨⟨@b4E,@b4F⟩,⟨@b4G,@b4H⟩⟩⟩⟩⟩,⟨⟨⟨⟨⟨@b4I,@b4J⟩,⟨@b4K,@b4L⟩⟩,⟨⟨@b4M,@b4N⟩,⟨@b4O,@b2s⟩⟩⟩,⟨⟨⟨@b4P,@b4Q⟩,⟨@b4R,@b4S⟩⟩,⟨⟨@b4T,@b4U⟩,⟨@b4V,@b4W⟩⟩⟩⟩,⟨⟨⟨⟨@b4X,@b4Y⟩,⟨@b4Z,@b40⟩⟩,⟨⟨@b41,@b2j⟩,⟨@b2k,@b2l⟩⟩⟩,⟨⟨⟨@b2m,@b2n⟩,⟨@b2o,@b2p⟩⟩,⟨⟨@b2q,@b2r⟩,⟨@b2C,@b4p⟩⟩⟩⟩⟩⟩⟩⟩
section
theorem Zq{A B:Prop}(a:A)(b:B):A∧B:=⟨a,b⟩
structure Zz (P:Prop):Prop where mk::(o:P)
structure Zb (P:Prop):Prop where mk::(o:P)
structure Zi (P:Prop):Prop where mk::(o:P)
structure ZZ (P:Prop):Type where mk::(d:P)
def sR:=ZZ.mk (Zq (Zq (Zq (Zq (Zq (Zq Tryd.results21 Tryd.results28) (Zq Tryd.results26 Tryd.results6)) (Zq (Zq Tryd.results4 Tryd.results5) (Zq Tryd.results8 Tryd.results9))) (Zq (Zq (Zq Tryd.results10 Tryd.results7) (Zq Tryd.results39 Tryd.results29)) (Zq (Zq Tryd.results45 Tryd.results22) (Zq Tryd.results23 (Zq Tryd.results24 Tryd.results25))))) (Zq (Zq (Zq (Zq Tryd.results27 Tryd.results31) (Zq Tryd.results32 Tryd.results11)) (Zq (Zq Tryd.results12 Tryd.results13) (Zq Tryd.results14 (Zq Tryd.results15 Tryd.results16)))) (Zq (Zq (Zq Tryd.results17 Tryd.results18) (Zq Tryd.results19 Tryd.results20)) (Zq (Zq Tryd.results33 Tryd.results34) (Zq Tryd.results35 (Zq Tryd.results36 Tryd.results37)))))) (Zq (Zq (Zq (Zq (Zq Tryd.results38 Tryd.results30) (Zq Tryd.results41 Tryd.results43)) (Zq (Zq Tryd.results44 Tryd.results46) (Zq Tryd.results47 Tryd.results48))) (Zq (Zq (Zq Tryd.results50 Tryd.results40) (Zq Tryd.results42 Tryd.results51)) (Zq (Zq Tryd.results53 Tryd.results54) (Zq Tryd.results49 (Zq Tryd.results55 Tryd.results56))))) (Zq (Zq (Zq (Zq Tryd.results57 Tryd.results58) (Zq Tryd.results59 Tryd.results60)) (Zq (Zq Tryd.results61 Tryd.results62) (Zq Tryd.results63 (Zq Tryd.results65 Tryd.results64)))) (Zq (Zq (Zq Tryd.results66 Tryd.results67) (Zq Tryd.results68 Tryd.results69)) (Zq (Zq Tryd.results70 Tryd.results76) (Zq Tryd.results79 (Zq Tryd.results80 Tryd.results86)))))))
theorem Za {P Q:Prop} (k:Q) (h:Q→P:=by
 intro k
 first
 |(guard_target=~ AK Tryd.prog _ _ _ _;first|exact a96 k|exact a2M k|exact a6Q k|exact a6N k|exact a95 k|exact a93 (Zb.o k)|exact a6P (by kernel_rfl) (by kernel_rfl) (Zz.o k)|exact yS rfl k|exact yR rfl k|exact(fun(_:True)=>bI rfl (fun h=>(by exfalso;omega)) (fun h=>(by exfalso;omega))) k|exact bI rfl (fun h=>(by exfalso;omega)) (Zi.o k)|exact bI rfl (Zi.o k) (fun h=>(by exfalso;omega))|exact bI rfl (And.left k) (And.right k)|exact mG rfl (And.left k) (And.right k))
 |with_reducible exact a3G k
 |with_reducible exact hN _ k
 |((with_reducible refine And.intro (?_:dI _ _=true) k);rw[←hmk];first|rfl|kernel_rfl)):P:=h k
theorem Zl {P Q:Prop} (k:Q) (h:Q→P:=by
 intro k
 first
 |(guard_target=~ AK Tryd.prog _ _ _ _;first|exact a96 k|exact a2M k|exact a6Q k|exact a6N k|exact a95 k|exact a93 (Zb.o k)|exact b2N (by kernel_rfl) rfl (by kernel_rfl) (by kernel_rfl) (by kernel_rfl) (Zz.o k)|exact a6P (by kernel_rfl) (by kernel_rfl) (Zz.o k)|exact yS rfl k|exact yR rfl k|exact(fun(_:True)=>bI rfl (fun h=>(by exfalso;omega)) (fun h=>(by exfalso;omega))) k|exact bI rfl (fun h=>(by exfalso;omega)) (Zi.o k)|exact bI rfl (Zi.o k) (fun h=>(by exfalso;omega))|exact bI rfl (And.left k) (And.right k)|exact mG rfl (And.left k) (And.right k))
 |with_reducible exact a3G k
 |with_reducible exact hN _ k
 |((with_reducible refine And.intro (?_:dI _ _=true) k);rw[←hmk];first|rfl|kernel_rfl)):P:=h k
theorem Zc {T P Q:Prop} (C:T) (k:Q) (h:T→Q→P:=by
 intro C k
 first
 |(guard_target=~ eY Tryd.prog _ _ _ _ _ _;first|exact a79 C rfl k|exact qB C rfl rfl k)
 |(guard_target=~ eE Tryd.prog _ _ _ _ _ _ _;exact a4M C rfl k)):P:=h C k
theorem Ze {T P Q:Prop} (C:T) (k:Q) (h:T→Q→P:=by
 intro C k
 first
 |(guard_target=~ eY Tryd.prog _ _ _ _ _ _;exact a4N C rfl rfl rfl rfl rfl rfl rfl k)
 |(guard_target=~ eE Tryd.prog _ _ _ _ _ _ _;exact a2X C rfl rfl rfl rfl rfl rfl rfl k)):P:=h C k
theorem Zs {A P Q:Prop} (e:A) (k:Q) (h:A→Q→P:=by
 intro e k
 first
 |(with_reducible exact And.intro (by omega) k)
 |(refine Eq.mp (?_:_=_) k;simp (maxSteps:=10000000) (disch:=omega) only[e,w9,bL,D7,L4,B6,x7,AV.kept,e9,u1,D8,N5,B9,B2,n4,AV.J6,x4,E6,AV.plain,rd,B7,b8,bK,stepC,AV.o3,AV.cF,AV.J5,AV.Z0,AV.scalar,cX,D0,M6,M9,N0,M8,A9,M4,cY,D3,M7,L1,s8,cV,u7,I9,I6,bS,K8,u4,TD.isRow,D6,u0,u6,s9,T1,Value.oneCell',↓reduceIte,Int.reduceNe,Int.reduceEq,Nat.reduceAdd,Nat.reduceLT,Nat.reduceLeDiff,Nat.reduceSub,Nat.reduceMul,Nat.reduceBEq,Nat.reduceEqDiff,reduceCtorEq,Int.reduceToNat,←decide_not,←Bool.decide_and,sA,sN];rfl)
 |exact a5c (fun h=>Eq.mp (by(try simp only[h]);rfl) ((And.left k:_→_) h)) (fun h=>Eq.mp (by(try simp only[h]);rfl) ((And.right k:_→_) h))
 |exact a5b (fun h=>Eq.mp (by(try simp only[h]);rfl) ((And.left k:_→_) h)) (fun h=>Eq.mp (by(try simp only[h]);rfl) ((And.right k:_→_) h))
 |exact a5e (fun h=>Eq.mp (by(try simp only[h]);rfl) ((And.left k:_→_) h)) (fun h=>Eq.mp (by(try simp only[h]);rfl) ((And.right k:_→_) h))
 |exact a5d (fun h=>Eq.mp (by(try simp only[h]);rfl) ((And.left k:_→_) h)) (fun h=>Eq.mp (by(try simp only[h]);rfl) ((And.right k:_→_) h))):P:=h e k
theorem Zt {A P Q:Prop} (e:A) (k:Q) (h:A→Q→P:=by
 intro e k
 first
 |(with_reducible exact And.intro (by omega) k)
 |refine(show a1f _ _ _ _ _ from⟨trivial,k⟩)
 |refine(show a1h _ _ _ _ _ _ from⟨trivial,k⟩)
 |(refine Eq.mp (?_:_=_) k;simp (maxSteps:=10000000) (disch:=omega) only[e,sR.d,w9,bL,D7,L4,B6,x7,AV.kept,e9,u1,D8,N5,B9,B2,n4,AV.J6,x4,E6,AV.plain,rd,B7,b8,bK,stepC,AV.o3,AV.cF,AV.J5,AV.Z0,AV.scalar,cX,D0,M6,M9,N0,M8,A9,M4,cY,D3,M7,L1,s8,cV,u7,I9,I6,bS,K8,u4,TD.isRow,D6,u0,u6,s9,T1,Value.oneCell',↓reduceIte,Int.reduceNe,Int.reduceEq,Nat.reduceAdd,Nat.reduceLT,Nat.reduceLeDiff,Nat.reduceSub,Nat.reduceMul,Nat.reduceBEq,Nat.reduceEqDiff,reduceCtorEq,Int.reduceToNat,←decide_not,←Bool.decide_and,sA,sN];rfl)
 |exact a5c (fun h=>Eq.mp (by(try simp only[h]);rfl) ((And.left k:_→_) h)) (fun h=>Eq.mp (by(try simp only[h]);rfl) ((And.right k:_→_) h))
 |exact a5b (fun h=>Eq.mp (by(try simp only[h]);rfl) ((And.left k:_→_) h)) (fun h=>Eq.mp (by(try simp only[h]);rfl) ((And.right k:_→_) h))
 |exact a5e (fun h=>Eq.mp (by(try simp only[h]);rfl) ((And.left k:_→_) h)) (fun h=>Eq.mp (by(try simp only[h]);rfl) ((And.right k:_→_) h))
 |exact a5d (fun h=>Eq.mp (by(try simp only[h]);rfl) ((And.left k:_→_) h)) (fun h=>Eq.mp (by(try simp only[h]);rfl) ((And.right k:_→_) h))):P:=h e k
theorem oG {A P Q:Prop} (e:A) (k:Q) (h:A→Q→P:=by
 intro e k
 first
 |(with_reducible exact And.intro (by omega) k)
 |refine(show a1f _ _ _ _ _ from⟨trivial,k⟩)
 |refine(show a1h _ _ _ _ _ _ from⟨trivial,k⟩)
 |(refine Eq.mp (?_:_=_) k;simp (maxSteps:=10000000) (disch:=omega) only[e,Int.reduceSub,Int.reduceLT,Int.reduceAdd,sR.d,w9,bL,D7,L4,B6,x7,AV.kept,e9,u1,D8,N5,B9,B2,n4,AV.J6,x4,E6,AV.plain,rd,B7,b8,bK,stepC,AV.o3,AV.cF,AV.J5,AV.Z0,AV.scalar,cX,D0,M6,M9,N0,M8,A9,M4,cY,D3,M7,L1,s8,cV,u7,I9,I6,bS,K8,u4,TD.isRow,D6,u0,u6,s9,T1,Value.oneCell',↓reduceIte,Int.reduceNe,Int.reduceEq,Nat.reduceAdd,Nat.reduceLT,Nat.reduceLeDiff,Nat.reduceSub,Nat.reduceMul,Nat.reduceBEq,Nat.reduceEqDiff,reduceCtorEq,Int.reduceToNat,←decide_not,←Bool.decide_and,sA,sN];rfl)
 |exact a5c (fun h=>Eq.mp (by(try simp only[h]);rfl) ((And.left k:_→_) h)) (fun h=>Eq.mp (by(try simp only[h]);rfl) ((And.right k:_→_) h))
 |exact a5b (fun h=>Eq.mp (by(try simp only[h]);rfl) ((And.left k:_→_) h)) (fun h=>Eq.mp (by(try simp only[h]);rfl) ((And.right k:_→_) h))
 |exact a5e (fun h=>Eq.mp (by(try simp only[h]);rfl) ((And.left k:_→_) h)) (fun h=>Eq.mp (by(try simp only[h]);rfl) ((And.right k:_→_) h))
 |exact a5d (fun h=>Eq.mp (by(try simp only[h]);rfl) ((And.left k:_→_) h)) (fun h=>Eq.mp (by(try simp only[h]);rfl) ((And.right k:_→_) h))):P:=h e k
theorem Zw {A:Prop} (keep ids:List Nat) {s s' s'':LS} (e:A) (k:s'=s'') (h:A→c8 keep ids s=some s':=by
 intro e
 simp only[e,c8,n7,b6,e7,n6,y5,AV.plain,Nat.reduceBEq,↓reduceIte,Nat.reduceEqDiff,Nat.reduceAdd,sC]
 rfl):O8 s s'':=fD (h e) k
theorem Zr {A:Prop} {P:Go.Program} [j9 P] {fn:Go.Func} {rs:List Row} {m:Nat} {α:Type} {I:α→Prop} {y:α→AV} {rs':α→List Row} {e:Go.Exit} {s:LS} (a:α) (ids:List Nat) (w:A) {x:AV} {gid:Nat} {gcs:List AV}
  (hI:I a) (he:match e with| .normal| .ret=>True|_=>False:=by exact trivial)
  (hx:A→nL P s.n8 fn.results.toList=some x:=by
   intro e
   simp only[e,sR.d,w9,bL,D7,L4,B6,x7,AV.kept,e9,u1,D8,N5,B9,B2,n4,AV.J6,x4,E6,AV.plain,rd,B7,b8,bK,stepC,AV.o3,AV.cF,AV.J5,AV.Z0,AV.scalar,cX,D0,M6,M9,N0,M8,A9,M4,cY,D3,M7,L1,s8,cV,u7,I9,I6,bS,K8,u4,TD.isRow,D6,u0,u6,s9,T1,Value.oneCell',↓reduceIte,Int.reduceNe,Int.reduceEq,Nat.reduceAdd,Nat.reduceLT,Nat.reduceLeDiff,Nat.reduceSub,Nat.reduceMul,Nat.reduceBEq,Nat.reduceEqDiff,reduceCtorEq,Int.reduceToNat,←decide_not,←Bool.decide_and,sA,sN]<;>rfl)
  (hnd:ids.Nodup:=by decide) (hl:(rs' a).length=ids.length:=by exact rfl) (aD:((rs' a).take m).map Row.sz=(rs.take m).map Row.sz:=by exact rfl) (hg:B6 99 s.h=some (gid,gcs):=by exact rfl) (hg2:LS.hf s.h gid= .u3 99 gcs:=by exact rfl) (hg3:gcs=(ids.take m).map fun j=> .ptr j 0 0:=by exact rfl)
  (hy:A→n6 (p8 ids 0) 4 x=some (y a):=by
   intro e
   simp only[e,c8,n7,b6,e7,n6,y5,AV.plain,Nat.reduceBEq,↓reduceIte,Nat.reduceEqDiff,Nat.reduceAdd,sC]<;>rfl)
  (hp:A→b6 (LS.hf s.h) (p8 ids 0) ids=some (rs' a):=by
   intro e
   simp only[e,c8,n7,b6,e7,n6,y5,AV.plain,Nat.reduceBEq,↓reduceIte,Nat.reduceEqDiff,Nat.reduceAdd,sC]<;>rfl):a1g P fn rs m I y rs' e s:=
 b13 he a ids (hx w) hI hnd hl aD hg hg2 hg3 (hy w) (hp w)
section
variable {P:Go.Program} [j9 P] {rest:LS→(LS→Prop)→Prop} {d:Option Tmp} {s:LS} {N:LS→Prop} {f:Go.FuncId}
theorem Zp {A:Prop} {xs ys:List AV} {rs:List Row} {m:Nat} {α:Type} {I:α→Prop} {y:α→AV} {rs':α→List Row} (C:y9 P f ys rs m I y rs') (ids:List Nat) (e:A)
  (h:∀a,aP (I a)→rest (LS.put ⟨s.t,bV ids m s.nx ((rs' a).map (bG (kS ids m s.nx))) s.h,s.nx+8⟩ d (E6 (kS ids m s.nx) 4 (y a))) N)
  (hnd:ids.Nodup:=by decide) (h1:A→b6 (LS.hf s.h) (p8 ids 0) ids=some rs:=by
   intro e
   simp only[e,c8,n7,b6,e7,n6,y5,AV.plain,Nat.reduceBEq,↓reduceIte,Nat.reduceEqDiff,Nat.reduceAdd,sC]<;>first|done|rfl)
  (h2:A→xs.mapM (n6 (p8 ids 0) 4)=some ys:=by
   intro e
   simp only[e,c8,n7,b6,e7,n6,y5,AV.plain,Nat.reduceBEq,↓reduceIte,Nat.reduceEqDiff,Nat.reduceAdd,sC]<;>first|done|rfl)
  (hm:m≤ids.length:=by decide) (h3:∀a,I a→m≤(rs' a).length∧(rs' a).length≤m+8:=by
   intro _ _
   exact⟨by simp only[List.length_cons,List.length_nil];omega,by simp only[List.length_cons,List.length_nil];omega⟩):eY P rest d s N f xs:=
 a4P C ids hnd (h1 e) (h2 e) hm h3 h
end
section
variable {P:Go.Program} {f:Go.FuncId} {fn:Go.Func} {n:Nat}
theorem Zf {R Q:Prop} (hf:P.funcs[f]?=some fn) (hn:fn.ntmps=n) (k:Q) (h:P.funcs[f]?=some fn→fn.ntmps=n→Q→R:=by
 intro hf hn k
 first
 |(refine a4Q hf rfl (by kernel_rfl) ?_;rw[mV hn])
 |(refine a3Z hf rfl (by kernel_rfl) (by simp) (by simp) ?_;rw[b08 hn];simp only[j7,List.range,List.range.loop,List.map_cons,List.map_nil])
 simp only[List.replicate_succ,List.replicate_zero,List.cons_append,List.nil_append,List.length_cons,List.length_nil,Nat.reduceAdd,Nat.reduceSub]
 exact w5 k):R:=h hf hn k
end
end
end Go.Proofs.YtgdoiokalfhjoaaDoor
end
section
namespace Go.Ab
open Go.RowKit Go.ChangeShapes Go.WideShapes Go.ChangeAt Go.Deep
section
inductive Sh where
 |int (k:IntKind)
 |bool
 |str
 |slice (e:Sh)
 |row (l:List Sh)
mutual
def Sh.ok:Sh→List AV→Prop
 | .int k,cs=>∃n:Int,cs=[.v (.int k n)]∧(Lit.int k n).wf=true
 | .bool,cs=>∃b,cs=[.v (.bool b)]
 | .str,cs=>∃s:ByteArray,cs=[.v (.string s)]∧s.size≤maxLen
 | .slice e,cs=>∃es:List (List AV),cs=[.c5 false es]∧es.length≤maxLen∧∀x∈es,Sh.ok e x
 | .row l,cs=>Sh.okL l cs
def Sh.okL:List Sh→List AV→Prop
 |[],cs=>cs=[]
 |s::l,cs=>∃a b,cs=a++b∧Sh.ok s a∧Sh.okL l b
end
def shF(P:Program)(rec:TypeId→Option Sh):List Field→Nat→Option (List Sh×Nat)
 |[],o=>some ([],o)
 |f::fs,o=>if f.offset=o then(rec f.type).bind fun s=>(shF P rec fs (o+P.cellsOf f.type)).map fun p=>(s::p.1,p.2)else none
def nP(P:Program):Nat→TypeId→Option Sh
 |0,_=>none
 |n+1,t=>match P.underlying t with
  |some (.int k)=>some (.int k)
  |some .bool=>some .bool
  |some .string=>some .str
  |some (.slice e)=>if P.cellsOf e≠0 then(nP P n e).map .slice else none
  |some (.struct fs)=>(shF P (nP P n) fs.toList 0).bind fun p=>if p.2=P.cellsOf t then some (.row p.1)else none
  |some (.array m e)=>if m*P.cellsOf e=P.cellsOf t then(nP P n e).map fun s=> .row (List.replicate m s)else none
  |_=>none
section
variable {H:Type} {enc:TypeId×Value→H} {P:Program} {w:World} {base:Nat} {spare:Nat→Bool} {held:Bool}
def kO(w:World)(a00:List AV)(cs:List Value):Prop:=a00.length=cs.length∧∀(i:Nat) (a:AV) (c:Value),a00[i]?=some a→cs[i]?=some c→r7 (fun _ _=>False) (fun _=>none) w a c
theorem kO.nil:kO w [] []:=⟨rfl,by simp⟩
theorem kO.one{a:AV}{c:Value}(h:r7 (fun _ _=>False) (fun _=>none) w a c):kO w [a] [c]:=⟨rfl,fun i x y h1 h2=>by
 match i,h1,h2 with
 |0,h1,h2=>cases h1;cases h2;exact h⟩
theorem kO.cE{a00 bs:List AV}{cs ds:List Value}(h1:kO w a00 cs)(h2:kO w bs ds):kO w (a00++bs) (cs++ds):=by
 refine⟨by simp [h1.1,h2.1],fun i a c g1 g2=>?_⟩
 by_cases hi:i<a00.length
 ·rw[List.getElem?_append_left hi]at g1
  rw[List.getElem?_append_left (by have:=h1.1;omega)]at g2
  exact h1.2 i a c g1 g2
 ·rw[List.getElem?_append_right (by omega)]at g1
  rw[List.getElem?_append_right (by have:=h1.1;omega),←h1.1]at g2
  exact h2.2 _ a c g1 g2
theorem rH{a:Addr}{n:Nat}{cs:List Value}(h:w.cells? base a n=some cs):cs.length=n∧∀j,j<n→w.cell? (a.add j)=cs[j]?:=by
 unfold World.cells? at h
 split at h
 ·have hl:=K6 h
  simp only[List.length_range]at hl
  refine⟨hl,fun j hj=>?_⟩
  obtain⟨y,hy⟩:∃y,cs[j]?=some y:=⟨_,List.getElem?_eq_getElem (by omega)⟩
  obtain⟨x,h2,h3⟩:=F5 h j y hy
  rw[List.getElem?_range hj]at h2
  cases h2
  rw[h3,hy]
 ·cases h
theorem b3Y{a:Addr}{c:Value}(h:w.cell? a=some c):a.spot=none:=by
 unfold World.cell? at h
 split at h
 ·split at h
  ·cases h
  ·rename_i h2;simpa using h2
 ·cases h
theorem a91{a:Addr}(h:a.spot=none)(i:Nat):a.add i=⟨a.block,a.off+i,none⟩:=by
 obtain⟨b,o,sp⟩:=a
 cases h
 unfold Addr.add
 split
 ·rename_i h0;subst h0;rfl
 ·rfl
theorem a3W {rec:TypeId→Option Sh} {fuel:Nat} {cs:List Value}
  (ih:∀t s cs x,rec t=some s→DataW.trod enc P w base spare held fuel t cs=some x→∃a00,s.ok a00∧kO w a00 cs):
  ∀(fl:List Field) (o:Nat) (p:List Sh×Nat),shF P rec fl o=some p→(∀f∈fl,∃y,DataW.trod enc P w base spare held fuel f.type ((cs.drop f.offset).take (P.cellsOf f.type))=some y)→
  o≤p.2∧(p.2≤cs.length→∃a00,Sh.okL p.1 a00∧kO w a00 ((cs.drop o).take (p.2-o))):=by
 intro fl
 induction fl with
 |nil=>intro o p h _;cases h;exact⟨Nat.le_refl _,fun _=>⟨[],rfl,by simp [kO.nil]⟩⟩
 |cons f fl ihl=>
  intro o p h hf
  simp only[shF]at h
  split at h
  ·rename_i ho
   cases hs:rec f.type with
   |none=>rw[hs]at h;cases h
   |some s=>
    cases hr:shF P rec fl (o+P.cellsOf f.type)with
    |none=>rw[hs,hr]at h;cases h
    |some q=>
     rw[hs,hr]at h
     simp only[Option.bind_some,Option.map_some,Option.some.injEq]at h
     subst h
     obtain⟨h1,h2⟩:=ihl _ _ hr fun f' hf'=>hf f' (List.mem_cons_of_mem _ hf')
     refine⟨by simp only;omega,fun hz=>?_⟩
     simp only at hz
     obtain⟨bs,g1,g2⟩:=h2 hz
     obtain⟨y,hy⟩:=hf f (List.mem_cons_self ..)
     obtain⟨a00,g3,g4⟩:=ih _ _ _ _ hs hy
     refine⟨a00++bs,⟨a00,bs,rfl,g3,g1⟩,?_⟩
     have e:(cs.drop o).take (q.2-o)=(cs.drop f.offset).take (P.cellsOf f.type)++(cs.drop (o+P.cellsOf f.type)).take (q.2-(o+P.cellsOf f.type)):=by
      rw[ho,←List.drop_drop,show q.2-o=P.cellsOf f.type+(q.2-(o+P.cellsOf f.type)) by omega,List.take_add]
     simp only
     rw[e]
     exact g4.cE g2
  ·cases h
theorem a8V{s:Sh}{c:Nat}{cs:List Value}:∀(m k:Nat),(∀i,k≤i→i<k+m→∃a00,s.ok a00∧kO w a00 ((cs.drop (i*c)).take c))→∃a00,Sh.okL (List.replicate m s) a00∧kO w a00 ((cs.drop (k*c)).take (m*c)):=by
 intro m
 induction m with
 |zero=>intro k _;exact⟨[],rfl,by simp [kO.nil]⟩
 |succ m ih=>
  intro k h
  obtain⟨a00,g1,g2⟩:=h k (Nat.le_refl _) (by omega)
  obtain⟨bs,g3,g4⟩:=ih (k+1) fun i h1 h2=>h i (by omega) (by omega)
  refine⟨a00++bs,⟨a00,bs,rfl,g1,g3⟩,?_⟩
  have e:(cs.drop (k*c)).take ((m+1)*c)=(cs.drop (k*c)).take c++(cs.drop ((k+1)*c)).take (m*c):=by
   rw[show(m+1)*c=c+m*c by rw[Nat.add_mul];omega,List.take_add,List.drop_drop,show(k+1)*c=k*c+c by rw[Nat.add_mul];omega]
  rw[e]
  exact g2.cE g4
theorem b3H:∀(n:Nat) (t:TypeId) (s:Sh) (fuel:Nat) (cs:List Value) (x:DataW H×List MemPlace),nP P n t=some s→DataW.trod enc P w base spare held fuel t cs=some x→∃a00,s.ok a00∧kO w a00 cs:=by
 intro n
 induction n with
 |zero=>intro t s fuel cs x h;cases h
 |succ n ih=>
  intro t s fuel cs x h hx
  simp only[nP]at h
  split at h
  ·rename_i k hu
   cases h
   obtain⟨a,rfl,_,hw⟩:=DataW.trod_int hu hx
   exact⟨[.v (.int k a)],⟨a,rfl,hw⟩,.one (.v _)⟩
  ·rename_i hu
   cases h
   obtain⟨b,rfl,_⟩:=DataW.trod_bool hu hx
   exact⟨[.v (.bool b)],⟨b,rfl⟩,.one (.v _)⟩
  ·rename_i hu
   cases h
   obtain⟨b,rfl,_,hb⟩:=DataW.trod_string hu hx
   exact⟨[.v (.string b)],⟨b,rfl,hb⟩,.one (.v _)⟩
  ·rename_i e hu
   split at h
   ·rename_i hc
    cases hs:nP P n e with
    |none=>rw[hs]at h;cases h
    |some s'=>
     rw[hs]at h
     cases h
     rcases open_slice hu hx with⟨rfl,_⟩|⟨a,len,cap,m,fu,D,Pl,rfl,_,hlc,hcm,hm,_,hel⟩
     ·exact⟨[.c5 false []],⟨[],rfl,Nat.zero_le _,by simp⟩,.one (.c5 false [] none 0 0 0 0 (fun _ _=>undef) (by simp) (by simp) (by simp) (by simp) (by simp) (by simp))⟩
     ·have hlm:len≤m:=by subst hm;split<;>omega
      have key:∀i,i<len→∃p:List AV×List Value,Sh.ok s' p.1∧kO w p.1 p.2∧w.cells? base (a.add (i*P.cellsOf e)) (P.cellsOf e)=some p.2:=fun i hi=>by
       obtain⟨cs',h1,h2⟩:=hel i (by omega)
       obtain⟨a00,h3,h4⟩:=ih _ _ _ _ _ hs h2
       exact⟨(a00,cs'),h3,h4,h1⟩
      obtain⟨f,hf⟩:=choose_lt key
      have hsp:0<len→a.spot=none:=fun hl=>by
       have h1:=(rH (hf 0 hl).2.2).2 0 (by omega)
       rw[List.getElem?_eq_getElem (by rw[(rH (hf 0 hl).2.2).1];omega)]at h1
       have:=b3Y h1
       simpa[Addr.add]using this
      refine⟨[.c5 false ((List.range len).map fun i=>(f i).1)],⟨_,rfl,by simp;omega,fun x hx=>?_⟩,.one ?_⟩
      ·simp only[List.mem_map,List.mem_range]at hx
       obtain⟨i,hi,rfl⟩:=hx
       exact(hf i hi).1
      ·have hl:((List.range len).map fun i=>(f i).1).length=len:=by simp
       have:= @r7.c5 (fun _ _=>False) (fun _=>none) w false ((List.range len).map fun i=>(f i).1) (some a) cap a.block a.off (P.cellsOf e) (fun i j=>(f i).2.getD j undef) (by omega) (by simp)
        (fun x hx=>by
         simp only[List.mem_map,List.mem_range]at hx
         obtain⟨i,hi,rfl⟩:=hx
         rw[(hf i hi).2.1.1,(rH (hf i hi).2.2).1])
        (fun hne=>by
         have:0<len:=by
          rcases Nat.eq_zero_or_pos len with h0|h0
          ·subst h0;simp at hne
          ·exact h0
         have:=hsp this
         obtain⟨b,o,sp⟩:=a
         cases this;rfl)
        (fun i j hi hj=>by
         rw[hl]at hi
         refine⟨fun h=>h,?_⟩
         obtain⟨h1,h2⟩:=rH (hf i hi).2.2
         have h3:=h2 j hj
         have hs0:=hsp (by omega)
         rw[add_add,a91 hs0]at h3
         rw[show a.off+i*P.cellsOf e+j=a.off+(i*P.cellsOf e+j) by omega,h3,List.getElem?_eq_getElem (by omega),List.getD_eq_getElem?_getD,List.getElem?_eq_getElem (by omega)]
         rfl)
        (fun i j e' x h1 h2=>by
         rw[List.getElem?_map]at h1
         have hi:i<len:=by
          rcases Nat.lt_or_ge i len with h|h
          ·exact h
          ·rw[List.getElem?_eq_none (by simpa using h)]at h1;cases h1
         rw[List.getElem?_range hi]at h1
         cases h1
         obtain⟨g1,g2⟩:=(hf i hi).2.1
         have hj:j<(f i).1.length:=(List.getElem?_eq_some_iff.1 h2).1
         exact g2 j x _ h2 (by rw[List.getD_eq_getElem?_getD,List.getElem?_eq_getElem (by omega)];rfl))
       rw[hl]at this
       exact this
   ·cases h
  ·rename_i fs hu
   cases hp:shF P (nP P n) fs.toList 0 with
   |none=>rw[hp]at h;cases h
   |some p=>
    rw[hp]at h
    simp only[Option.bind_some]at h
    split at h
    ·rename_i hz
     cases h
     obtain⟨xs,fu,rfl,_,hl,hxl,hxs⟩:=DataW.trod_struct hu hx
     have:=a3W (w:=w) (enc:=enc) (base:=base) (spare:=spare) (held:=held) (fuel:=fu) (cs:=cs) (fun t s cs x h1 h2=>ih t s fu cs x h1 h2) fs.toList 0 p hp (fun f hf=>by
      obtain⟨i,hi,rfl⟩:=List.mem_iff_getElem.1 hf
      have hi':i<fs.size:=by simpa using hi
      obtain⟨y,hy⟩:∃y,xs[i]?=some y:=⟨_,List.getElem?_eq_getElem (by omega)⟩
      exact⟨y,by rw[hxs i _ (by rw[Array.getElem?_eq_getElem hi'];rfl),hy]⟩)
     obtain⟨a00,g1,g2⟩:=this.2 (by omega)
     refine⟨a00,g1,?_⟩
     rw[List.drop_zero,Nat.sub_zero,hz,←hl,List.take_length]at g2
     exact g2
    ·cases h
  ·rename_i m e hu
   split at h
   ·rename_i hz
    cases hs:nP P n e with
    |none=>rw[hs]at h;cases h
    |some s'=>
     rw[hs]at h
     cases h
     obtain⟨xs,fu,_,_,hl,hxl,hxs⟩:=DataW.trod_array hu hx
     have:=a8V (w:=w) (s:=s') (c:=P.cellsOf e) (cs:=cs) m 0 (fun i _ hi=>by
      have h1:=hxs i (by omega)
      rw[List.getElem?_eq_getElem (by omega)]at h1
      exact ih _ _ _ _ _ hs h1)
     obtain⟨a00,g1,g2⟩:=this
     refine⟨a00,g1,?_⟩
     rw[Nat.zero_mul,List.drop_zero,hz,←hl,List.take_length]at g2
     exact g2
   ·cases h
  ·cases h
end
end
section
def a7x(s:Sh)(a00:List AV):AV:=match s with| .row _=> .agg a00|_=>a00.headD .Z
section
variable {H:Type} {enc:TypeId×Value→H} {P:Program} {w:World} {base:Nat} {spare:Nat→Bool} {held:Bool}
theorem b17{n:Nat}{t:TypeId}{s:Sh}(h:nP P n t=some s):((∃fs,P.underlying t=some (.struct fs))∨(∃m e,P.underlying t=some (.array m e)))∧(∃l,s= .row l)∨
  ((∃k,P.underlying t=some (.int k))∨P.underlying t=some .bool∨P.underlying t=some .string∨∃e,P.underlying t=some (.slice e))∧∀l,s≠ .row l:=by
 cases n with
 |zero=>cases h
 |succ n=>
  simp only[nP]at h
  split at h
  ·rename_i k hu;cases h;exact .inr ⟨.inl ⟨k,hu⟩,fun l h=>by cases h⟩
  ·rename_i hu;cases h;exact .inr ⟨.inr (.inl hu),fun l h=>by cases h⟩
  ·rename_i hu;cases h;exact .inr ⟨.inr (.inr (.inl hu)),fun l h=>by cases h⟩
  ·rename_i e hu
   split at h
   ·simp only[Option.map_eq_some_iff]at h
    obtain⟨a,_,rfl⟩:=h
    exact .inr ⟨.inr (.inr (.inr ⟨e,hu⟩)),fun l h=>by cases h⟩
   ·cases h
  ·rename_i fs hu
   simp only[Option.bind_eq_some_iff]at h
   obtain⟨p,_,h⟩:=h
   split at h
   ·cases h;exact .inl ⟨.inl ⟨fs,hu⟩,_,rfl⟩
   ·cases h
  ·rename_i m e hu
   split at h
   ·simp only[Option.map_eq_some_iff]at h
    obtain⟨a,_,rfl⟩:=h
    exact .inl ⟨.inr ⟨m,e,hu⟩,_,rfl⟩
   ·cases h
  ·cases h
theorem b1S{r:Reach}{b0 n:Nat}{t:TypeId}{v:Value}{d:DataW H}{p:List MemPlace}{s:Sh}(hs:nP P n t=some s)(hv:Value.okWide P w r b0 t v)(h:DataW.Trod enc P w base spare held t v d p):
  ∃a00,s.ok a00∧r7 (fun _ _=>False) (fun _=>none) w (a7x s a00) v:=by
 obtain⟨fuel,hf⟩:=h
 obtain⟨a00,h1,h2⟩:=b3H n t s fuel _ _ hs hf
 refine⟨a00,h1,?_⟩
 rcases b17 hs with⟨hu,l,rfl⟩|⟨hu,hne⟩
 ·have:∃cs,v= .agg cs:=by
   rcases hu with⟨fs,hu⟩|⟨m,e,hu⟩<;>simp only[Value.okWide,hu]at hv<;>(obtain⟨cs,rfl,_⟩:=hv;exact⟨cs,rfl⟩)
  obtain⟨cs,rfl⟩:=this
  simp only[Value.cells]at h2
  exact .agg a00 cs (by simpa using h2.1.symm) fun i x u g1 g2=>h2.2 i x u g1 (by simpa using g2)
 ·have:v.cells= #[v]:=by
   cases v<;>first|rfl|skip
   exfalso
   rcases hu with⟨k,hu⟩|hu|hu|⟨e,hu⟩<;>simp only[Value.okWide,Cell.okWide,Cell.ok,hu]at hv
  rw[this]at h2
  have h3:a7x s a00=a00.headD .Z:=by cases s<;>first|rfl|(exact absurd rfl (hne _))
  rw[h3]
  have hl:=h2.1
  match a00,hl with
  |[a],_=>exact h2.2 0 a v rfl rfl
def a5B:List Sh→List AV→Prop
 |[],xs=>xs=[]
 |s::ss,xs=>∃a00 ys,xs=a7x s a00::ys∧s.ok a00∧a5B ss ys
theorem a8U{r:Reach}{b0 n:Nat}:∀(ts:List TypeId) (ss:List Sh) (vs:List Value) (ds:List (DataW H)) (ps:List MemPlace),ts.mapM (nP P n)=some ss→(∀(j:Nat) t v,ts[j]?=some t→vs[j]?=some v→Value.okWide P w r b0 t v)→
  DataW.TrodAll enc P w base spare held ts vs ds ps→∃xs,a5B ss xs∧xs.length=vs.length∧∀(i:Nat) x u,xs[i]?=some x→vs[i]?=some u→r7 (fun _ _=>False) (fun _=>none) w x u:=by
 intro ts
 induction ts with
 |nil=>
  intro ss vs ds ps hs _ h
  obtain⟨rfl,_,_⟩:=trodAll_nil h
  cases hs
  exact⟨[],rfl,rfl,by simp⟩
 |cons t ts ih=>
  intro ss vs ds ps hs hv h
  obtain⟨v,vs',d,ds',p,q,rfl,rfl,rfl,h1,h2⟩:=trodAll_cons h
  rw[List.mapM_cons]at hs
  cases ht:nP P n t with
  |none=>rw[ht]at hs;cases hs
  |some s=>
   cases hm:ts.mapM (nP P n)with
   |none=>rw[ht,hm]at hs;cases hs
   |some ss'=>
    rw[ht,hm]at hs
    cases hs
    obtain⟨xs,g1,g2,g3⟩:=ih _ _ _ _ hm (fun j t v e1 e2=>hv (j+1) t v e1 e2) h2
    obtain⟨a00,g4,g5⟩:=b1S ht (hv 0 t v rfl rfl) h1
    refine⟨a7x s a00::xs,⟨a00,xs,rfl,g4,g1⟩,by simp [g2],fun i x u e1 e2=>?_⟩
    cases i with
    |zero=>cases e1;cases e2;exact g5
    |succ i=>exact g3 i x u e1 e2
theorem a4A{W W':World}(hl:laidOutB P=true)(hb:Below W.heap.size W W'):∀(ts:List TypeId) (vs:List Value) (ds:List (DataW H)) (ps:List MemPlace),(ts.all fun t=>P.readableRec t&&decide (t<P.types.size))=true→
  DataW.TrodAll enc P W 0 (fun _=>true) true ts vs ds ps→(∀x∈ps,x.block<W.heap.size)→DataW.TrodAll enc P W' 0 (fun b=>decide (b<W.heap.size)) true ts vs ds ps:=by
 intro ts
 induction ts with
 |nil=>
  intro vs ds ps _ h _
  obtain⟨rfl,rfl,rfl⟩:=trodAll_nil h
  exact trodAll_mk0
 |cons t ts ih=>
  intro vs ds ps ha h hp
  obtain⟨v,vs',d,ds',p,q,rfl,rfl,rfl,h1,h2⟩:=trodAll_cons h
  simp only[List.all_cons,Bool.and_eq_true,decide_eq_true_eq]at ha
  exact trodAll_cons_mk (Below.trod hl ha.1.1 ha.1.2 h1 hb fun x hx=>hp x (List.mem_append_left _ hx)) (ih _ _ _ (by simpa using ha.2) h2 fun x hx=>hp x (List.mem_append_right _ hx))
end
end
end Go.Ab
end
section
namespace Go.Proofs.YtgdoiokalfhjoaaDoor
open Go.Ab
open Go.ChangeShapes Go.WideShapes Go.ChangeAt Go.RowKit
theorem own:ownKnob Tryd.prog.godebug=none:=by kernel_rfl
theorem b3g:laidOutB Tryd.prog=true:=by kernel_rfl
noncomputable def laidL:List (String×DataW Unit):=Rows.spillPressureRow.laid
theorem b6b:Rows.laid_math_bits_deBruijn64tab (H:=Unit)=Lib.tabData .u8 a0n:=by kernel_rfl
theorem b5Z{W:World}(hL:laidMetH Tryd.prog laidL W)(hs:W.ShapedOpen Tryd.prog):okW W:=by
 have h:laidMet Tryd.prog laidL W:=by rw[MakeChecks.laidMetH_plain _ _ _ (by kernel_rfl)]at hL;exact hL
 obtain⟨ps,⟨g1,t1,cs1,f1,p1,q1,hg1,ht1,hv1,hd1,_⟩,_⟩:=h
 obtain rfl:=Option.some.inj ((show(Tryd.prog.globalNamed "math/bits.deBruijn64tab")=some 0 by kernel_rfl).symm.trans hg1)
 obtain rfl:=Option.some.inj ((show(Tryd.prog.globals[0]?).map (·.type)=some 117 by kernel_rfl).symm.trans ht1)
 rw[b6b]at hd1
 have e:=Lib.cells_of_tab (n:=64) (e:=5) (k:= .u8) Tryd.underlying117 Tryd.underlying5 (by kernel_rfl) (by kernel_rfl) hd1
 unfold okW Lib.TabIs
 refine(show W.var? Tryd.prog "math/bits.deBruijn64tab" =some cs1 from hv1).trans ?_
 rw[←e]
theorem b1t(os:Os)(args:Array Value):laidMetH Tryd.prog laidL ((World.laidAll Tryd.prog os laidL).forCall (fun _ _=>0) ⟨#[],args,[]⟩).memory:=by
 rw[MakeChecks.laidMetH_plain _ _ _ (by kernel_rfl)];exact laidMet_laidAll _ (by kernel_rfl) (by kernel_rfl)
theorem b5w{a:Int}(w:(Lit.int .u8 a).wf=true):0≤a∧a<256:=by
 have:0≤a∧a≤255:=by simpa[Lit.wf,IntKind.min,IntKind.max,IntKind.signed,IntKind.bits]using w
 omega
end Go.Proofs.YtgdoiokalfhjoaaDoor
end
section
namespace Go.Proofs.YtgdoiokalfhjoaaDoor
open Go.Ab
open Go.RowKit Go.Shelf
section
attribute [local go_sem] Oper.semAt_some
def l0.vP(i:l0):List Value:=[.int .i64 i.op,.int .i64 i.sub,.int .i64 i.n,.int .i64 i.d.k,.int .i64 i.d.n,.int .i32 i.d.v,.int .i64 i.a.k,.int .i64 i.a.n,.int .i32 i.a.v,.int .i64 i.b.k,.int .i64 i.b.n,.int .i32 i.b.v,.int .i64 i.c.k,.int .i64 i.c.n,.int .i32 i.c.v]
theorem l0.a6T(i:l0):i.av=i.vP.map .v:=rfl
theorem l0.b5L(i:l0){j:Nat}(h:j<15):i.av[j]?=some (.v (i.vP.getD j undef)):=by
 have h:j<i.vP.length:=h
 rw[l0.a6T,List.getElem?_map,List.getElem?_eq_getElem h,List.getD_eq_getElem?_getD,List.getElem?_eq_getElem h];rfl
def l0.val(i:l0):Value:= .agg i.vP.toArray
def bX(n k:Nat):List Nat:=(List.range k).map fun j=>n-1-j
theorem qF(n k:Nat):bX n (k+1)=bX n k++[n-1-k]:=by simp [bX,List.range_succ]
theorem wC(n k:Nat):(bX n k).length=k:=by simp [bX]
theorem a4I (L:List l0) (hL:L.length≤1000) (X:Nat→Nat→Value→Prop) (B BO b o cap:Nat) (a:Option Addr) (ha:L≠[]→a=some ⟨b,o,none⟩) (hcap:L.length≤cap) (hB:X B BO (.slice a L.length cap))
  (hX:∀i j,i<L.length→j<15→X b (o+i*15+j) ((L.getD i I0).vP.getD j undef)) (w:World) (hw:HX X w):
  SeqStopsK Fence.wide 2 Tryd.prog 44 #[.pointer (some ⟨B,BO,none⟩)] (fun i:Nat=> #[.int .i64 i,(L.getD i I0).val]) (fun W W'=>HX X W→HX X W') (fun xs=>xs=bX L.length L.length) (fun _=>True) L.length w:=by
 intro l J Jx W hW hJ hJx hY h0
 have hXW:HX X W:=fun b o c h=>by
  have h1:=hw b o c h
  have hlt:b<w.heap.size:=by
   unfold World.cell? at h1
   simp only at h1
   cases hh:w.heap[b]? with
   |none=>rw[hh]at h1;simp at h1
   |some y=>exact B4 hh
  exact(hW.cell (p:=⟨b,o,none⟩) hlt).trans h1
 refine callsIn_of_wp Tryd.func44 rfl trivial ?_ rfl
 simp only[Tryd.ntmps44,List.size_toArray,List.length_cons,List.length_nil,Nat.reduceAdd,Nat.reduceSub,Array.replicate_succ,Array.replicate_zero,List.push_toArray,List.append_toArray,List.nil_append,List.cons_append]
 have hBW:=hXW _ _ _ hB
 gi_wp2
 gi_loopw [3] (fun i wr=>∃k:Nat,k≤L.length∧i= .int .i64 ((L.length:Int)-1-k)∧J (bX L.length k) wr∧HX X wr)
  (fun i _=>(intOf i+1).toNat)
 case atStart=>exact⟨0,Nat.zero_le _,by simp,h0,hXW⟩
 case round=>
  obtain⟨k,hk,rfl,hJs,hHX⟩:=hrel
  by_cases hlt:k<L.length
  ·obtain⟨i,hi⟩:∃i:Nat,i=L.length-1-k:=⟨_,rfl⟩
   have hie:(L.length:Int)-1-k=i:=by omega
   rw[hie]
   have hiL:i<L.length:=by omega
   obtain⟨fn,tmps,assign,body,hy,hR⟩:=hY _ i wr hJs (by rw[wC];exact hlt)
   have hBw:=hHX _ _ _ hB
   have hc0:=hHX _ _ _ (hX i 0 hiL (by omega))
   have hc1:=hHX _ _ _ (hX i 1 hiL (by omega))
   have hc2:=hHX _ _ _ (hX i 2 hiL (by omega))
   have hc3:=hHX _ _ _ (hX i 3 hiL (by omega))
   have hc4:=hHX _ _ _ (hX i 4 hiL (by omega))
   have hc5:=hHX _ _ _ (hX i 5 hiL (by omega))
   have hc6:=hHX _ _ _ (hX i 6 hiL (by omega))
   have hc7:=hHX _ _ _ (hX i 7 hiL (by omega))
   have hc8:=hHX _ _ _ (hX i 8 hiL (by omega))
   have hc9:=hHX _ _ _ (hX i 9 hiL (by omega))
   have hc10:=hHX _ _ _ (hX i 10 hiL (by omega))
   have hc11:=hHX _ _ _ (hX i 11 hiL (by omega))
   have hc12:=hHX _ _ _ (hX i 12 hiL (by omega))
   have hc13:=hHX _ _ _ (hX i 13 hiL (by omega))
   have hc14:=hHX _ _ _ (hX i 14 hiL (by omega))
   simp only[Nat.add_zero,List.getD_cons_zero,List.getD_cons_succ,l0.vP]at hc0 hc1 hc2 hc3 hc4 hc5 hc6 hc7 hc8 hc9 hc10 hc11 hc12 hc13 hc14
   clear hi
   rw[ha (by intro e;rw[e]at hiL;cases hiL)]at hBw
   have hval:(L.getD i I0).val= .agg (L.getD i I0).vP.toArray:=rfl
   simp only[l0.vP]at hval
   rw[hval]at hy
   clear hval
   obtain⟨x,hx⟩:∃x,x=L.getD i I0:=⟨_,rfl⟩
   simp only[←hx]at hy hc0 hc1 hc2 hc3 hc4 hc5 hc6 hc7 hc8 hc9 hc10 hc11 hc12 hc13 hc14
   clear hx
   gi_wp2
   refine hR.mono ?_
   rintro e W3 (⟨rfl,hJ3,hk3⟩|⟨rfl,hJx3⟩)
   ·gi_wp2
    go_roundw
    case rel=>exact⟨k+1,by omega,by first|(simp;done)|(simp;omega),by rw[qF,show L.length-1-k=i from by omega];exact hJ3,hk3 hHX⟩
    case measure=>(simp [intOf];try omega)
   ·gi_wp2
    refine bodyPost_ret (results_none rfl _ _ _) rfl ?_
    exact⟨⟨_,rfl⟩,.inr ⟨_,trivial,hJx3⟩⟩
  ·obtain rfl:k=L.length:=by omega
   gi_wp2
   go_end0
   exact⟨⟨_,rfl⟩,.inl ⟨_,rfl,hJs⟩⟩
theorem a6M {P:Program} [j9 P] {g p1 p2:Tmp} {assign body:Go.Code} {s:LS} {k:List KF} {K:Exit→LS→Prop} (hP:P=Tryd.prog) (L:List l0) (S:List Nat→LS) (lab:Nat) (keep:List Nat)
  (hL:L.length≤1000) (hg:LS.tf (S []).t g= .fn 44 [.Z9 [[.c5 false (j5 L)]] 0 0]) (hw:O8 s (S [])) (hp:∀pre,p1<(S pre).t.length∧p2<(S pre).t.length) (hmp:∀pre,a7k (S pre).h=true) (hfr:∀pre,e9 lab (S pre).h)
  (hround:∀(pre:List Nat) (x:Nat),pre.length<L.length→AK (md:=true) P assign [] (b14 (S pre).t (S pre).h (S pre).nx keep lab p1 p2 (.v (.int .i64 x)) (.agg (L.getD x I0).av))
   (S4 (fun s1=>a7k s1.h=true∧AK (md:=true) P body [] s1 (S4 (b57 (S pre).t keep lab (S (pre++[x]))) (fun _ _=>False))) (fun _ _=>False)))
  (hK:Y2 (md:=false) P K k .normal (S (bX L.length L.length))):AK (md:=false) P (.rangeFunc (.tmp g) #[p1,p2] assign body) k s K:=by
 subst hP
 refine a7W (gf:=44) (α:=Nat) L.length (fun x=> .int .i64 x) (fun x=>(L.getD x I0).val) (fun x=> .v (.int .i64 x)) (fun x=> .agg (L.getD x I0).av) S (fun xs=>xs=bX L.length L.length) lab keep
  (fun x=>⟨fun M ρ w=> .v _,fun M ρ w=> .agg _ _ (by simp [l0.val,l0.av,l0.vP]) (fun i y u h1 h2=>?_)⟩) ⟨Tryd.f44,rfl,rfl,rfl⟩ hw hp (fun pre=>a1a (hmp pre)) hfr ?_ (fun pre x h=>?_) (fun xs h=>by rw[h];exact hK)
 ·rw[l0.a6T,List.getElem?_map]at h1
  have h2:(L.getD x I0).vP[i]?=some u:=by simpa using h2
  rw[h2]at h1;cases h1;exact .v _
 ·intro G M0 w0 ρ a w R
  have h1:=R.1.tm g
  rw[show(S []).n8.t g=_ from hg]at h1
  obtain⟨y,e1,h2⟩:=b25 h1
  obtain⟨B,BO,c,rfl,hM,hc,h3⟩:=b05 h2
  obtain⟨a',cap,b,o,sz,cell,rfl,hcap,aD,ha,hm,hr⟩:=b3b h3
  rw[show(j5 L).length=L.length from by simp [j5]]at*
  refine⟨#[.pointer (some ⟨B,BO,none⟩)],e1,fun X hX hw=>?_⟩
  refine a4I L hL X B BO b o cap a' (fun h=>ha (by simpa[j5]using h)) hcap (hX _ _ _ hM hc) (fun i j hi hj=>?_) w hw
  have he:(j5 L)[i]?=some (L.getD i I0).av:=by simp [j5,hi,List.getD_eq_getElem?_getD]
  have hs15:sz=15:=by have:=aD _ (List.mem_of_getElem? he);rw[←this];rfl
  subst hs15
  have h4:=hm i j hi hj
  have h5:=hr i j _ (.v ((L.getD i I0).vP.getD j undef)) he (l0.b5L _ hj)
  have h6:=h5.Y8
  rw[←h6]
  exact hX _ _ _ h4.1 h4.2
 ·refine eR.mono (hround pre x h) fun e s' hs=>?_
  cases e with
  |normal=>exact⟨a1a hs.1,hs.2⟩
  |_=>exact hs
end
end Go.Proofs.YtgdoiokalfhjoaaDoor
end
section
namespace Go.Proofs.YtgdoiokalfhjoaaDoor
open Go.Ab
def N1(l:List Int):Prop:=l.Pairwise (· < ·)
theorem N1.nil:N1 []:=List.Pairwise.nil
theorem N1.ext:∀{a b:List Int},N1 a→N1 b→(∀x,x∈a↔x∈b)→a=b
 |[],[],_,_,_=>rfl
 |[],y::b,_,_,h=>by have:=(h y).2 (by simp);simp at this
 |x::a,[],_,_,h=>by have:=(h x).1 (by simp);simp at this
 |x::a,y::b,ha,hb,h=>by
  obtain⟨ha1,ha2⟩:=List.pairwise_cons.1 ha
  obtain⟨hb1,hb2⟩:=List.pairwise_cons.1 hb
  have hxy:x=y:=by
   have h1:=(h x).1 (by simp)
   have h2:=(h y).2 (by simp)
   rcases List.mem_cons.1 h1 with e|e
   ·exact e
   ·rcases List.mem_cons.1 h2 with e2|e2
    ·exact e2.symm
    ·have:=hb1 x e;have:=ha1 y e2;omega
  subst hxy
  rw[N1.ext ha2 hb2 fun z=>?_]
  have hz:=h z
  simp only[List.mem_cons]at hz
  constructor
  ·intro hm
   rcases hz.1 (.inr hm)with e|e
   ·have:=ha1 z hm;omega
   ·exact e
  ·intro hm
   rcases hz.2 (.inr hm)with e|e
   ·have:=hb1 z hm;omega
   ·exact e
def F6(l:List Int)(n:Int):List Int:=if n∈l then l else l.takeWhile (fun x=>decide (x<n))++n::l.dropWhile (fun x=>decide (x<n))
theorem V3{l:List Int}{n x:Int}:x∈F6 l n↔x=n∨x∈l:=by
 unfold F6
 split
 ·rename_i h
  constructor
  ·exact .inr
  ·rintro(rfl|h')
   ·exact h
   ·exact h'
 ·rw[List.mem_append,List.mem_cons]
  conv=>rhs;rw[←List.takeWhile_append_dropWhile (p:=fun x=>decide (x<n)) (l:=l),List.mem_append]
  constructor
  ·rintro(h|h|h)
   ·exact .inr (.inl h)
   ·exact .inl h
   ·exact .inr (.inr h)
  ·rintro(h|h|h)
   ·exact .inr (.inl h)
   ·exact .inl h
   ·exact .inr (.inr h)
theorem b2i{l:List Int}{n:Int}:∀x∈l.takeWhile (fun x=>decide (x<n)),x<n:=by
 induction l with
 |nil=>intro x hx;simp at hx
 |cons a l ih=>
  intro x hx
  rw[List.takeWhile_cons]at hx
  split at hx
  ·rename_i h
   rcases List.mem_cons.1 hx with rfl|hx
   ·simpa using h
   ·exact ih x hx
  ·simp at hx
theorem a3h{l:List Int}(hl:N1 l){n:Int}:∀x∈l.dropWhile (fun x=>decide (x<n)),n≤x:=by
 induction l with
 |nil=>intro x hx;simp at hx
 |cons a l ih=>
  obtain⟨h1,h2⟩:=List.pairwise_cons.1 hl
  intro x hx
  rw[List.dropWhile_cons]at hx
  split at hx
  ·exact ih h2 x hx
  ·rename_i h
   have ha:n≤a:=by simpa using h
   rcases List.mem_cons.1 hx with rfl|hx
   ·exact ha
   ·have:=h1 x hx;omega
theorem kL{l:List Int}(hl:N1 l)(n:Int):N1 (F6 l n):=by
 unfold F6
 split
 ·exact hl
 ·rename_i h
  have hs1:(l.takeWhile (fun x=>decide (x<n))).Sublist l:=List.takeWhile_sublist _
  have hs2:(l.dropWhile (fun x=>decide (x<n))).Sublist l:=List.dropWhile_sublist _
  refine List.pairwise_append.2 ⟨hl.sublist hs1,List.pairwise_cons.2 ⟨fun x hx=>?_,hl.sublist hs2⟩,fun x hx y hy=>?_⟩
  ·have h1:=a3h hl x hx
   have h2:x∈l:=hs2.subset hx
   have:x≠n:=fun e=>h (e ▸ h2)
   omega
  ·have hx1:=b2i x hx
   rcases List.mem_cons.1 hy with rfl|hy
   ·exact hx1
   ·have:=a3h hl y hy;omega
def S6(l:List Int)(n:Int):List Int:=l.filter (fun x=>decide (x≠n))
theorem bO{l:List Int}{n x:Int}:x∈S6 l n↔x∈l∧x≠n:=by simp [S6]
theorem fB{l:List Int}(hl:N1 l)(n:Int):N1 (S6 l n):=hl.sublist List.filter_sublist
def E4(a b:List Int):List Int:=b.foldl F6 a
theorem T6{a b:List Int}{x:Int}:x∈E4 a b↔x∈a∨x∈b:=by
 unfold E4
 induction b generalizing a with
 |nil=>simp
 |cons y b ih=>
  rw[List.foldl_cons,ih,V3,List.mem_cons]
  constructor
  ·rintro((h|h)|h)
   ·exact .inr (.inl h)
   ·exact .inl h
   ·exact .inr (.inr h)
  ·rintro(h|h|h)
   ·exact .inl (.inr h)
   ·exact .inl (.inl h)
   ·exact .inr h
theorem cR{a b:List Int}(ha:N1 a):N1 (E4 a b):=by
 unfold E4
 induction b generalizing a with
 |nil=>exact ha
 |cons y b ih=>exact ih (kL ha y)
def bQ(l:List Int)(n:Int):List Int:=if n<0 then l else F6 l n
theorem a3Q{l:List Int}{n x:Int}:x∈bQ l n↔(0≤n∧x=n)∨x∈l:=by
 unfold bQ
 split
 ·constructor
  ·exact .inr
  ·rintro(⟨h,_⟩|h)
   ·omega
   ·exact h
 ·rw[V3]
  constructor
  ·rintro(h|h)
   ·exact .inl ⟨by omega,h⟩
   ·exact .inr h
  ·rintro(⟨_,h⟩|h)
   ·exact .inl h
   ·exact .inr h
theorem a4l{l:List Int}(hl:N1 l)(n:Int):N1 (bQ l n):=by
 unfold bQ
 split
 ·exact hl
 ·exact kL hl n
def A3(ops:List H8):List Int:=ops.foldl (fun out o=>if o.k=2 then F6 out o.n else out) []
theorem b10{ops:List H8}:∀{l:List Int} {x:Int},x∈ops.foldl (fun out o=>if o.k=2 then F6 out o.n else out) l↔x∈l∨∃o∈ops,o.k=2∧o.n=x:=by
 induction ops with
 |nil=>intro l x;simp
 |cons o ops ih=>
  intro l x
  rw[List.foldl_cons,ih]
  split
  ·rename_i h
   rw[V3]
   constructor
   ·rintro((e|e)|⟨p,h1,h2⟩)
    ·exact .inr ⟨o,by simp,h,e.symm⟩
    ·exact .inl e
    ·exact .inr ⟨p,by simp [h1],h2⟩
   ·rintro(e|⟨p,h1,h2,h3⟩)
    ·exact .inl (.inr e)
    ·rcases List.mem_cons.1 h1 with rfl|h1
     ·exact .inl (.inl h3.symm)
     ·exact .inr ⟨p,h1,h2,h3⟩
  ·rename_i h
   constructor
   ·rintro(e|⟨p,h1,h2⟩)
    ·exact .inl e
    ·exact .inr ⟨p,by simp [h1],h2⟩
   ·rintro(e|⟨p,h1,h2,h3⟩)
    ·exact .inl e
    ·rcases List.mem_cons.1 h1 with rfl|h1
     ·exact absurd h2 h
     ·exact .inr ⟨p,h1,h2,h3⟩
theorem cU{ops:List H8}{x:Int}:x∈A3 ops↔∃o∈ops,o.k=2∧o.n=x:=by
 unfold A3
 rw[b10];simp
theorem a1p{ops:List H8}:∀{l:List Int},N1 l→N1 (ops.foldl (fun out o=>if o.k=2 then F6 out o.n else out) l):=by
 induction ops with
 |nil=>intro l h;exact h
 |cons o ops ih=>
  intro l h
  rw[List.foldl_cons]
  split
  ·exact ih (kL h _)
  ·exact ih h
theorem fJ(ops:List H8):N1 (A3 ops):=a1p N1.nil
def w6(i:l0):List Int:=A3 [i.a,i.b,i.c]
def u9(t:w4):List Int:=A3 [t.a,t.b]
def tJ(o:H8):Int:=if o.k=2 then o.n else -1
def Q7(i:l0):Int:=tJ i.d
def O3(t:w4):Int:=tJ t.d
def o4(t:w4):List Int:=if t.kind=5 then[]else if t.kind=2∧t.t0≠t.t1 then[t.t0,t.t1]else[t.t0]
def U4(x:l0)(after:List Int):List Int:=E4 (S6 after (Q7 x)) (w6 x)
theorem a5y{x:l0}{l:List Int}{r:Int}:r∈U4 x l↔(r∈l∧r≠Q7 x)∨r∈w6 x:=by
 unfold U4;rw[T6,bO]
theorem lV{x:l0}{l:List Int}(h:N1 l):N1 (U4 x l):=cR (fB h _)
def atF(b:e8)(out:List Int)(i:Nat):List Int:=(b.i.drop i).foldr U4 out
theorem a9o{l:List l0}{out:List Int}(h:N1 out):N1 (l.foldr U4 out):=by
 induction l with
 |nil=>exact h
 |cons x l ih=>exact lV ih
theorem a1o{b:e8}{out:List Int}{i:Nat}(h:N1 out):N1 (atF b out i):=a9o h
theorem a49{l:List l0}{o1 o2:List Int}(h:∀r∈o1,r∈o2):∀r∈l.foldr U4 o1,r∈l.foldr U4 o2:=by
 induction l with
 |nil=>exact h
 |cons x l ih=>
  intro r hr
  simp only[List.foldr_cons,a5y]at hr⊢
  rcases hr with⟨h1,h2⟩|h1
  ·exact .inl ⟨ih r h1,h2⟩
  ·exact .inr h1
theorem a6S{b:e8}{o1 o2:List Int}{i:Nat}(h:∀r∈o1,r∈o2):∀r∈atF b o1 i,r∈atF b o2 i:=a49 h
def cB(t:w4)(inn:List (List Int)):List Int:=E4 (S6 ((o4 t).foldl (fun s to=>E4 s (inn.getD to.toNat [])) []) (O3 t)) (u9 t)
theorem a8Q{l:List Int}{inn:List (List Int)}:∀{s:List Int} {r:Int},r∈l.foldl (fun s to=>E4 s (inn.getD to.toNat [])) s↔r∈s∨∃to∈l,r∈inn.getD to.toNat []:=by
 induction l with
 |nil=>intro s r;simp
 |cons a l ih=>
  intro s r
  rw[List.foldl_cons,ih,T6]
  constructor
  ·rintro((h|h)|⟨to,h1,h2⟩)
   ·exact .inl h
   ·exact .inr ⟨a,by simp,h⟩
   ·exact .inr ⟨to,by simp [h1],h2⟩
  ·rintro(h|⟨to,h1,h2⟩)
   ·exact .inl (.inl h)
   ·rcases List.mem_cons.1 h1 with rfl|h1
    ·exact .inl (.inr h2)
    ·exact .inr ⟨to,h1,h2⟩
theorem uO{t:w4}{inn:List (List Int)}{r:Int}:r∈cB t inn↔((∃to∈o4 t,r∈inn.getD to.toNat [])∧r≠O3 t)∨r∈u9 t:=by
 unfold cB;rw[T6,bO,a8Q];simp
theorem a9q{l:List Int}{inn:List (List Int)}:∀{s:List Int},N1 s→N1 (l.foldl (fun s to=>E4 s (inn.getD to.toNat [])) s):=by
 induction l with
 |nil=>intro s h;exact h
 |cons a l ih=>intro s h;exact ih (cR h)
theorem eP{t:w4}{inn:List (List Int)}:N1 (cB t inn):=cR (fB (a9q N1.nil) _)
theorem qI{t:w4}{i1 i2:List (List Int)}(h:∀b,∀r∈i1.getD b [],r∈i2.getD b []):∀r∈cB t i1,r∈cB t i2:=by
 intro r hr
 rw[uO]at hr⊢
 rcases hr with⟨⟨to,h1,h2⟩,h3⟩|h1
 ·exact .inl ⟨⟨to,h1,h _ r h2⟩,h3⟩
 ·exact .inr h1
def aW(l:List Int):Prop:=∀x∈l,0≤x∧x<64
theorem aW.nil:aW []:=by intro x hx;simp at hx
theorem aW.a2J{l:List Int}(h:aW l){n:Int}(hn:0≤n∧n<64):aW (F6 l n):=fun x hx=>by
 rcases V3.1 hx with rfl|hx
 ·exact hn
 ·exact h x hx
theorem aW.with{l:List Int}(h:aW l){n:Int}(hn:n<64):aW (bQ l n):=fun x hx=>by
 rcases a3Q.1 hx with⟨h1,rfl⟩|hx
 ·exact⟨h1,hn⟩
 ·exact h x hx
theorem aW.iF{l:List Int}(h:aW l){n:Int}:aW (S6 l n):=fun x hx=>h x (bO.1 hx).1
theorem aW.union{a b:List Int}(h:aW a)(hb:aW b):aW (E4 a b):=fun x hx=>by
 rcases T6.1 hx with hx|hx
 ·exact h x hx
 ·exact hb x hx
def E1:List Int→Nat
 |[]=>0
 |x::l=>2^x.toNat|||E1 l
theorem Z4(l:List Int)(k:Nat):(E1 l).testBit k=true↔∃x∈l,x.toNat=k:=by
 induction l with
 |nil=>simp [E1]
 |cons x l ih=>
  simp only[E1,Nat.testBit_or,Nat.testBit_two_pow,Bool.or_eq_true,ih,decide_eq_true_eq,List.mem_cons]
  constructor
  ·rintro(h|⟨y,h1,h2⟩)
   ·exact⟨x,.inl rfl,h⟩
   ·exact⟨y,.inr h1,h2⟩
  ·rintro⟨y,rfl|h1,h2⟩
   ·exact .inl h2
   ·exact .inr ⟨y,h1,h2⟩
theorem a3N{l:List Int}(h:aW l){x:Int}(hx:0≤x):x∈l↔(E1 l).testBit x.toNat=true:=by
 rw[Z4]
 constructor
 ·intro hm;exact⟨x,hm,rfl⟩
 ·rintro⟨y,h1,h2⟩
  have:=(h y h1).1
  have:y=x:=by omega
  rw[←this];exact h1
theorem dV{l:List Int}(h:aW l):E1 l<18446744073709551616:=by
 induction l with
 |nil=>simp [E1]
 |cons x l ih=>
  have h1:=h x (by simp)
  have:(2:Nat)^x.toNat<2^64:=Nat.pow_lt_pow_right (by decide) (by omega)
  exact Nat.or_lt_two_pow (n:=64) this (ih fun y hy=>h y (by simp [hy]))
theorem a3O{a b:List Int}(ha:aW a)(hb:aW b)(h:E1 a=E1 b):∀x,x∈a→x∈b:=fun x hx=>by
 have h0:=(ha x hx).1
 rw[a3N hb h0,←h,←a3N ha h0];exact hx
theorem b1E{a b:List Int}(ha:aW a)(hb:aW b)(sa:N1 a)(sb:N1 b)(h:E1 a=E1 b):a=b:=N1.ext sa sb fun x=>⟨a3O ha hb h x,a3O hb ha h.symm x⟩
theorem b3r{a b:List Int}(ha:aW a)(hb:aW b)(sa:N1 a)(sb:N1 b):((E1 a:Int)=(E1 b:Int))=(a=b):=by
 apply propext
 constructor
 ·intro h;exact b1E ha hb sa sb (by omega)
 ·intro h;rw[h]
theorem a5x(a b:List Int):E1 (E4 a b)=E1 a|||E1 b:=by
 apply Nat.eq_of_testBit_eq
 intro k
 apply Bool.eq_iff_iff.2
 rw[Nat.testBit_or,Bool.or_eq_true,Z4,Z4,Z4]
 constructor
 ·rintro⟨x,h1,h2⟩
  rcases T6.1 h1 with h1|h1
  ·exact .inl ⟨x,h1,h2⟩
  ·exact .inr ⟨x,h1,h2⟩
 ·rintro(⟨x,h1,h2⟩|⟨x,h1,h2⟩)
  ·exact⟨x,T6.2 (.inl h1),h2⟩
  ·exact⟨x,T6.2 (.inr h1),h2⟩
theorem a5v(l:List Int)(n:Int):E1 (F6 l n)=E1 l|||2^n.toNat:=by
 apply Nat.eq_of_testBit_eq
 intro k
 apply Bool.eq_iff_iff.2
 rw[Nat.testBit_or,Bool.or_eq_true,Z4,Z4,Nat.testBit_two_pow,decide_eq_true_eq]
 constructor
 ·rintro⟨x,h1,h2⟩
  rcases V3.1 h1 with rfl|h1
  ·exact .inr h2
  ·exact .inl ⟨x,h1,h2⟩
 ·rintro(⟨x,h1,h2⟩|h)
  ·exact⟨x,V3.2 (.inr h1),h2⟩
  ·exact⟨n,V3.2 (.inl rfl),h⟩
theorem a05{l:List Int}(hl:aW l){n:Int}(hn:0≤n)(k:Nat):(E1 (S6 l n)).testBit k=((E1 l).testBit k&& !decide (n.toNat=k)):=by
 apply Bool.eq_iff_iff.2
 rw[Bool.and_eq_true,Z4,Z4,Bool.not_eq_true',decide_eq_false_iff_not]
 constructor
 ·rintro⟨x,h1,h2⟩
  obtain⟨h1,h3⟩:=bO.1 h1
  have:=(hl x h1).1
  exact⟨⟨x,h1,h2⟩,by omega⟩
 ·rintro⟨⟨x,h1,h2⟩,h3⟩
  exact⟨x,bO.2 ⟨h1,fun e=>h3 (by rw[←e];exact h2)⟩,h2⟩
theorem b7x(n:Int):IntKind.u64.wrap n=n%18446744073709551616:=by simp [IntKind.wrap,IntKind.signed,IntKind.bits]
theorem cD{n:Nat}(h:n<18446744073709551616):IntKind.u64.wrap (n:Int)=n:=by rw[b7x];omega
theorem kE(a:Nat):BitVec.ofInt IntKind.u64.bits (a:Int)=BitVec.ofNat 64 a:=BitVec.ofInt_natCast 64 a
theorem a7v{a b:Nat}(ha:a<18446744073709551616)(hb:b<18446744073709551616):orK .u64 a b=((a|||b:Nat):Int):=by
 have h:a|||b<2^64:=Nat.or_lt_two_pow (n:=64) ha hb
 have e:(BitVec.ofNat 64 a|||BitVec.ofNat 64 b).toNat=a|||b:=by
  rw[BitVec.toNat_or,BitVec.toNat_ofNat,BitVec.toNat_ofNat,Nat.mod_eq_of_lt (by simpa using ha),Nat.mod_eq_of_lt (by simpa using hb)]
 unfold orK
 rw[kE,kE]
 refine Eq.trans (congrArg (fun z:Nat=>IntKind.u64.wrap (z:Int)) e) ?_
 exact cD (by simpa using h)
theorem a97{a b:Nat}(ha:a<18446744073709551616)(hb:b<18446744073709551616):a7R .u64 a b=((a&&& b:Nat):Int):=by
 have h:a&&& b≤a:=Nat.and_le_left
 have e:(BitVec.ofNat 64 a&&& BitVec.ofNat 64 b).toNat=a&&& b:=by
  rw[BitVec.toNat_and,BitVec.toNat_ofNat,BitVec.toNat_ofNat,Nat.mod_eq_of_lt (by simpa using ha),Nat.mod_eq_of_lt (by simpa using hb)]
 unfold a7R
 rw[kE,kE]
 refine Eq.trans (congrArg (fun z:Nat=>IntKind.u64.wrap (z:Int)) e) ?_
 exact cD (by omega)
theorem b7i{n:Int}(h:0≤n∧n<64):a9l .u64 1 n=((2^n.toNat:Nat):Int):=by
 unfold a9l
 rw[show min n.toNat IntKind.u64.bits=n.toNat from by simp [IntKind.bits];omega]
 have:(2:Nat)^n.toNat<2^64:=Nat.pow_lt_pow_right (by decide) (by omega)
 rw[Int.one_mul,show((2:Int)^n.toNat)=((2^n.toNat:Nat):Int)from by simp]
 exact cD (by simpa using this)
theorem b56{n:Int}(h:0≤n∧n<64):(2:Nat)^n.toNat<18446744073709551616:=Nat.pow_lt_pow_right (n:=64) (by decide) (by omega)
theorem b3I{l:List Int}(hl:aW l){n:Int}(h:0≤n∧n<64):orK .u64 (E1 l) (a9l .u64 1 n)=(E1 (F6 l n):Int):=by
 rw[b7i h,a7v (dV hl) (b56 h),a5v]
theorem b1T{a b:List Int}(ha:aW a)(hb:aW b):orK .u64 (E1 a) (E1 b)=(E1 (E4 a b):Int):=by
 rw[a7v (dV ha) (dV hb),a5x]
theorem b7e:orK .u64 0 0=0:=by decide
theorem sU{l:List Int}(hl:aW l){n:Int}(h:0≤n∧n<64):rB .u64 (E1 l) (a9l .u64 1 n)=(E1 (S6 l n):Int):=by
 rw[b7i h]
 unfold rB
 rw[kE,kE]
 have e:(BitVec.ofNat 64 (E1 l)&&& ~~~ BitVec.ofNat 64 (2^n.toNat)).toNat=E1 (S6 l n):=by
  apply Nat.eq_of_testBit_eq
  intro k
  rw[a05 hl h.1]
  show(BitVec.ofNat 64 (E1 l)&&& ~~~ BitVec.ofNat 64 (2^n.toNat)).getLsbD k=_
  have hm:=dV hl
  rw[BitVec.getLsbD_and,BitVec.getLsbD_not,BitVec.getLsbD_ofNat,BitVec.getLsbD_ofNat,Nat.testBit_two_pow]
  by_cases hk:k<64
  ·simp [hk]
  ·have:(E1 l).testBit k=false:=Nat.testBit_lt_two_pow (Nat.lt_of_lt_of_le hm (Nat.pow_le_pow_right (n:=2) (i:=64) (by decide) (by omega)))
   simp [hk,this]
 refine Eq.trans (congrArg (fun z:Nat=>IntKind.u64.wrap (z:Int)) e) ?_
 exact cD (dV hl.iF)
theorem a3M{a:Int}{l:List Int}(h:aW (a::l))(s:N1 (a::l)):∃r,E1 (a::l)=2^a.toNat*(2*r+1)∧E1 l=2^a.toNat*(2*r):=by
 have ha:=h a (by simp)
 obtain⟨s1,s2⟩:=List.pairwise_cons.1 s
 have hd:2^(a.toNat+1)∣E1 l:=by
  rw[Nat.dvd_iff_mod_eq_zero]
  apply Nat.eq_of_testBit_eq
  intro k
  rw[Nat.testBit_mod_two_pow,Nat.zero_testBit]
  by_cases hk:k<a.toNat+1
  ·have:(E1 l).testBit k=false:=by
    apply Bool.eq_false_iff.2
    intro hb
    obtain⟨x,h1,h2⟩:=(Z4 l k).1 hb
    have:=s1 x h1
    omega
   simp [this]
  ·simp [hk]
 obtain⟨r,hr⟩:=hd
 refine⟨r,?_,by rw[hr,Nat.pow_succ,Nat.mul_assoc]⟩
 show 2^a.toNat|||E1 l=_
 rw[hr,Nat.pow_succ,Nat.mul_assoc,Nat.or_comm]
 have:=Nat.two_pow_add_eq_or_of_lt (i:=a.toNat+1) (b:=2^a.toNat) (by rw[Nat.pow_succ];have:=Nat.two_pow_pos a.toNat;omega) r
 rw[←Nat.mul_assoc,←Nat.pow_succ,←this,Nat.pow_succ,Nat.mul_assoc,Nat.mul_add,Nat.mul_one]
theorem a5w{a:Int}{l:List Int}(h:aW (a::l))(s:N1 (a::l)):a7R .u64 (E1 (a::l)) (IntKind.u64.wrap ((E1 (a::l):Int)-1))=(E1 l:Int):=by
 obtain⟨r,h1,h2⟩:=a3M h s
 have hp:=Nat.two_pow_pos a.toNat
 have hpos:0<E1 (a::l):=by rw[h1];exact Nat.mul_pos hp (by omega)
 have hlt:=dV h
 rw[show(E1 (a::l):Int)-1=((E1 (a::l)-1:Nat):Int) by omega,cD (by omega),a97 hlt (by omega)]
 congr 1
 rw[h1,h2]
 have e1:2^a.toNat*(2*r+1)=2^a.toNat*(2*r)+2^a.toNat:=by rw[Nat.mul_add,Nat.mul_one]
 have e2:2^a.toNat*(2*r+1)-1=2^a.toNat*(2*r)+(2^a.toNat-1):=by omega
 apply Nat.eq_of_testBit_eq
 intro k
 rw[Nat.testBit_and,e2,Nat.testBit_two_pow_mul_add _ (by omega),Nat.mul_comm _ (2*r+1),Nat.testBit_mul_two_pow,Nat.mul_comm _ (2*r),Nat.testBit_mul_two_pow]
 by_cases hk:k<a.toNat
 ·have hd:decide (a.toNat≤k)=false:=by simp;omega
  rw[hd,Bool.false_and,Bool.false_and,Bool.false_and]
 ·rw[if_neg hk]
  simp only[show a.toNat≤k by omega,decide_true,Bool.true_and]
  cases hj:k-a.toNat with
  |zero=>simp [Nat.testBit_zero]
  |succ j=>rw[Nat.testBit_succ,Nat.testBit_succ,show(2*r+1) / 2=r by omega,show 2*r / 2=r by omega,Bool.and_self]
theorem b1D{a:Int}{l:List Int}(h:aW (a::l))(s:N1 (a::l)):Lib.ctz 64 (E1 (a::l))=a.toNat:=by
 obtain⟨r,h1,_⟩:=a3M h s
 have ha:=h a (by simp)
 have hp:=Nat.two_pow_pos a.toNat
 have hne:E1 (a::l)≠0:=by rw[h1];have:=Nat.mul_pos hp (show 0<2*r+1 by omega);omega
 obtain⟨m,h3,_⟩:=Lib.ctzFrom_spec 64 (E1 (a::l)) (by omega) (by have:=dV h;simpa using this)
 have e:Lib.ctz 64 (E1 (a::l))=Lib.ctzFrom 64 (E1 (a::l)):=by simp [Lib.ctz,hne]
 rw[e]
 generalize Lib.ctzFrom 64 (E1 (a::l))=c at*
 rw[h1]at h3
 generalize a.toNat=b at*
 rcases Nat.lt_trichotomy c b with hlt|heq|hgt
 ·obtain⟨d,rfl⟩:∃d,b=c+(d+1):=⟨b-c-1,by omega⟩
  rw[Nat.pow_add,Nat.mul_assoc]at h3
  have:=Nat.eq_of_mul_eq_mul_left (Nat.two_pow_pos c) h3
  rw[Nat.pow_succ,Nat.mul_comm _ 2,Nat.mul_assoc]at this
  omega
 ·exact heq
 ·obtain⟨d,rfl⟩:∃d,c=b+(d+1):=⟨c-b-1,by omega⟩
  rw[Nat.pow_add,Nat.mul_assoc]at h3
  have:=Nat.eq_of_mul_eq_mul_left (Nat.two_pow_pos b) h3
  rw[Nat.pow_succ,Nat.mul_comm _ 2,Nat.mul_assoc]at this
  omega
theorem b1F{a:Int}{l:List Int}:E1 (a::l)≠0:=by
 intro h
 have:(E1 (a::l)).testBit a.toNat=true:=(Z4 _ _).2 ⟨a,by simp,rfl⟩
 rw[h]at this;simp at this
def N4(l:List Int):AV:= .agg [.v (.int .u64 (E1 l)),.v (.int .u64 0),.v (.int .u64 0),.v (.int .u64 0)]
def L2(r:Int)(o:H8):Prop:=o.k=2→0≤o.n∧o.n<r
structure aK (r:Int) (i:l0):Prop where
 d:L2 r i.d
 a:L2 r i.a
 b:L2 r i.b
 c:L2 r i.c
structure W0 (r n:Int) (t:w4):Prop where
 d:L2 r t.d
 a:L2 r t.a
 b:L2 r t.b
 to:t.kind≠5→0≤t.t0∧t.t0<n
 to1:t.kind=2→0≤t.t1∧t.t1<n
 dk:t.d.k=2→t.kind≠5
structure dQ (r n:Int) (b:e8):Prop where
 i:∀x∈b.i,aK r x
 t:W0 r n b.t
 l:b.i.length≤300
structure C8 (c:Code):Prop where
 n:0<c.b.length∧c.b.length≤18
 r:0≤c.regs∧c.regs≤16
 b:∀x∈c.b,dQ c.regs c.b.length x
theorem W0.succ{r n:Int}{t:w4}(h:W0 r n t):∀to∈o4 t,0≤to∧to<n:=by
 intro to hto
 unfold o4 at hto
 split at hto
 ·simp at hto
 ·rename_i h5
  split at hto
  ·rename_i h2
   rcases List.mem_cons.1 hto with rfl|hto
   ·exact h.to h5
   ·rcases List.mem_cons.1 hto with rfl|hto
    ·exact h.to1 h2.1
    ·simp at hto
  ·rcases List.mem_cons.1 hto with rfl|hto
   ·exact h.to h5
   ·simp at hto
def I8(bs:List e8)(b:Nat):e8:=bs.getD b B0
theorem bW{bs:List e8}{b:Nat}(h:b<bs.length):I8 bs b∈bs:=by
 unfold I8;rw[List.getD_eq_getElem?_getD,List.getElem?_eq_getElem h];exact List.getElem_mem h
inductive gI (bs:List e8):Int→Prop
 |zero:gI bs 0
 |step {b to:Int}:gI bs b→to∈o4 (I8 bs b.toNat).t→gI bs to
noncomputable def reachF (bs:List e8):List Bool:=(List.range bs.length).map fun(b:Nat)=>Decidable.decide (h:=Classical.propDecidable _) (gI bs (b:Int))
theorem cQ(bs:List e8):(reachF bs).length=bs.length:=by simp [reachF]
theorem aF(bs:List e8){b:Nat}(h:b<bs.length):(reachF bs).getD b false=true↔gI bs b:=by
 unfold reachF
 rw[List.getD_eq_getElem?_getD,List.getElem?_map,List.getElem?_range h]
 simp
def gJ(bs:List e8):Prop:=0<bs.length∧∀b∈bs,∀to∈o4 b.t,0≤to∧to<bs.length
theorem C8.succ{c:Code}(h:C8 c):gJ c.b:=⟨h.n.1,fun b hb=>(h.b b hb).t.succ⟩
theorem gI.bd{bs:List e8}(h:gJ bs){b:Int}(hr:gI bs b):0≤b∧b<bs.length:=by
 induction hr with
 |zero=>have:=h.1;omega
 |step _ h2 ih=>exact h.2 _ (bW (by omega)) _ h2
theorem b1Y {bs:List e8} (h:gJ bs) {out:List Bool} (hl:out.length=bs.length) (h1:∀b,out.getD b false=true→gI bs (b:Int)) (h0:out.getD 0 false=true)
  (hc:∀b,out.getD b false=true→∀to∈o4 (I8 bs b).t,out.getD to.toNat false=true):out=reachF bs:=by
 have h2:∀b:Int,gI bs b→out.getD b.toNat false=true:=by
  intro b hb
  induction hb with
  |zero=>exact h0
  |step _ h2 ih=>exact hc _ ih _ h2
 apply List.ext_getElem?
 intro b
 by_cases hb:b<bs.length
 ·have e:out.getD b false=(reachF bs).getD b false:=by
   apply Bool.eq_iff_iff.2
   rw[aF bs hb]
   exact⟨h1 b,fun hr=>by simpa using h2 b hr⟩
  rw[List.getD_eq_getElem?_getD,List.getD_eq_getElem?_getD]at e
  rw[List.getElem?_eq_getElem (by omega),List.getElem?_eq_getElem (by rw[cQ];exact hb)]at e⊢
  exact congrArg some e
 ·rw[List.getElem?_eq_none (by omega),List.getElem?_eq_none (by rw[cQ];omega)]
theorem dA(out:List Bool)(k b:Nat):(out.set k true).getD b false=if k=b∧b<out.length then true else out.getD b false:=by
 rw[List.getD_eq_getElem?_getD,List.getElem?_set,List.getD_eq_getElem?_getD]
 by_cases h:k=b
 ·subst h
  by_cases h2:k<out.length
  ·simp [h2]
  ·simp [h2]
 ·simp [h]
def a1c(n:Nat):List Bool:=(List.replicate n false).set 0 true
structure RI (bs:List e8) (out:List Bool):Prop where
 l:out.length=bs.length
 s:∀b,out.getD b false=true→gI bs (b:Int)
 z:out.getD 0 false=true
theorem RI.zero{bs:List e8}(h:gJ bs):RI bs (a1c bs.length):=by
 refine⟨by simp [a1c],fun b hb=>?_,?_⟩
 ·unfold a1c at hb
  rw[dA]at hb
  split at hb
  ·rename_i h1;rw[←h1.1];exact .zero
  ·rw[List.getD_eq_getElem?_getD,List.getElem?_replicate]at hb
   split at hb<;>simp at hb
 ·unfold a1c
  rw[dA,if_pos ⟨rfl,by simpa using h.1⟩]
def b0t(out:List Bool):Nat:=out.count true
structure DI (bs:List e8) (out:List Bool) (left:List Int):Prop where
 R:RI bs out
 m:∀b∈left,0≤b∧out.getD b.toNat false=true
 c:∀b:Nat,out.getD b false=true→(b:Int)∈left∨∀to∈o4 (I8 bs b).t,out.getD to.toNat false=true
theorem DI.zero{bs:List e8}(h:gJ bs):DI bs (a1c bs.length) [0]:=by
 have R:=RI.zero h
 refine⟨R,fun b hb=>?_,fun b hb=> .inl ?_⟩
 ·rw[List.mem_singleton.1 hb];exact⟨Int.le_refl _,R.z⟩
 ·unfold a1c at hb
  rw[dA]at hb
  split at hb
  ·rename_i h1;rw[←h1.1];simp
  ·rw[List.getD_eq_getElem?_getD,List.getElem?_replicate]at hb
   split at hb<;>simp at hb
theorem DI.done{bs:List e8}(h:gJ bs){out:List Bool}(D:DI bs out []):out=reachF bs:=b1Y h D.R.l D.R.s D.R.z fun b hb=>(D.c b hb).resolve_left (by simp)
def dE(p:List Bool×List Int)(to:Int):List Bool×List Int:=if p.1.getD to.toNat false then p else(p.1.set to.toNat true,p.2++[to])
structure DP (bs:List e8) (b:Int) (l:List Int) (p:List Bool×List Int):Prop where
 R:RI bs p.1
 m:∀x∈p.2,0≤x∧p.1.getD x.toNat false=true
 c:∀x:Nat,p.1.getD x false=true→(x:Int)∈p.2∨(∀to∈o4 (I8 bs x).t,p.1.getD to.toNat false=true)∨((x:Int)=b∧∀to∈o4 (I8 bs x).t,to∈l∨p.1.getD to.toNat false=true)
theorem DI.pop{bs:List e8}{out:List Bool}{left:List Int}{b:Int}(D:DI bs out (left++[b])):DP bs b (o4 (I8 bs b.toNat).t) (out,left):=by
 refine⟨D.R,fun x hx=>D.m x (by simp [hx]),fun x hx=>?_⟩
 rcases D.c x hx with h|h
 ·rcases List.mem_append.1 h with h|h
  ·exact .inl h
  ·have:(x:Int)=b:=by simpa using h
   exact .inr (.inr ⟨this,fun to hto=> .inl (by rw[←this];simpa using hto)⟩)
 ·exact .inr (.inl h)
theorem DP.push{bs:List e8}{b:Int}(hb:gI bs b)(h:gJ bs){a:Int}{l:List Int}(hl:∀x∈a::l,x∈o4 (I8 bs b.toNat).t){p:List Bool×List Int}(D:DP bs b (a::l) p):DP bs b l (dE p a):=by
 obtain⟨out,left⟩:=p
 have hbd:=hb.bd h
 have ha:a∈o4 (I8 bs b.toNat).t:=hl a (by simp)
 have had:=h.2 _ (bW (by omega)) a ha
 unfold dE
 by_cases hin:out.getD a.toNat false=true
 ·rw[if_pos hin]
  refine⟨D.R,D.m,fun x hx=>?_⟩
  rcases D.c x hx with h1|h1|⟨h1,h2⟩
  ·exact .inl h1
  ·exact .inr (.inl h1)
  ·refine .inr (.inr ⟨h1,fun to hto=>?_⟩)
   rcases h2 to hto with h3|h3
   ·rcases List.mem_cons.1 h3 with rfl|h3
    ·exact .inr hin
    ·exact .inl h3
   ·exact .inr h3
 ·rw[if_neg hin]
  have hlen:out.length=bs.length:=D.R.l
  have mono:∀k,out.getD k false=true→(out.set a.toNat true).getD k false=true:=fun k hk=>by rw[dA];split<;>simp_all
  have new:(out.set a.toNat true).getD a.toNat false=true:=by rw[dA,if_pos ⟨rfl,by omega⟩]
  refine⟨⟨by simpa using hlen,fun k hk=>?_,mono _ D.R.z⟩,fun x hx=>?_,fun x hx=>?_⟩
  ·rw[dA]at hk
   split at hk
   ·rename_i h1
    have:(k:Int)=a:=by omega
    rw[this];exact .step hb ha
   ·exact D.R.s k hk
  ·rcases List.mem_append.1 hx with hx|hx
   ·exact⟨(D.m x hx).1,mono _ (D.m x hx).2⟩
   ·have:x=a:=by simpa using hx
    subst this
    exact⟨had.1,new⟩
  ·by_cases hxa:x=a.toNat
   ·left
    show(x:Int)∈left++[a]
    have:(x:Int)=a:=by omega
    simp [this]
   ·have hx':out.getD x false=true:=by
     have hx2:(out.set a.toNat true).getD x false=true:=hx
     rw[dA,if_neg (fun hh=>hxa hh.1.symm)]at hx2
     exact hx2
    rcases D.c x hx' with h1|h1|⟨h1,h2⟩
    ·exact .inl (by show(x:Int)∈left++[a];simp [show(x:Int)∈left from h1])
    ·exact .inr (.inl fun to hto=>mono _ (h1 to hto))
    ·refine .inr (.inr ⟨h1,fun to hto=>?_⟩)
     rcases h2 to hto with h3|h3
     ·rcases List.mem_cons.1 h3 with rfl|h3
      ·exact .inr new
      ·exact .inl h3
     ·exact .inr (mono _ h3)
theorem DP.done{bs:List e8}{b:Int}{p:List Bool×List Int}(D:DP bs b [] p):DI bs p.1 p.2:=⟨D.R,D.m,fun x hx=>by
 rcases D.c x hx with h1|h1|⟨h1,h2⟩
 ·exact .inl h1
 ·exact .inr h1
 ·exact .inr fun to hto=>(h2 to hto).resolve_left (by simp)⟩
def msr(p:List Bool×List Int):Nat:=2*(p.1.length-b0t p.1)+p.2.length
theorem b2V{out:List Bool}{k:Nat}(h:k<out.length)(h2:¬out.getD k false=true):b0t (out.set k true)=b0t out+1:=by
 induction out generalizing k with
 |nil=>simp at h
 |cons x out ih=>
  unfold b0t at*
  cases k with
  |zero=>
   have:x=false:=by simpa using h2
   subst this
   simp
  |succ k=>
   have:=ih (k:=k) (by simpa using h) (by simpa using h2)
   rw[List.set_cons_succ,List.count_cons,List.count_cons,this]
   omega
theorem b1K(p:List Bool×List Int)(a:Int)(h:0≤a∧a<p.1.length):msr (dE p a)≤msr p∧(dE p a).1.length=p.1.length:=by
 obtain⟨out,left⟩:=p
 unfold dE
 by_cases hin:out.getD a.toNat false=true
 ·rw[if_pos hin];exact⟨Nat.le_refl _,rfl⟩
 ·rw[if_neg hin]
  have h':a.toNat<out.length:=by have h1:a<(out.length:Int):=h.2;omega
  refine⟨?_,by simp⟩
  unfold msr
  have:=b2V h' hin
  have hle:b0t (out.set a.toNat true)≤(out.set a.toNat true).length:=List.count_le_length
  simp only[List.length_set,List.length_append,List.length_singleton]at hle⊢
  omega
theorem uR:∀(l:List Int) (p:List Bool×List Int),(∀to∈l,0≤to∧to<p.1.length)→msr (l.foldl dE p)≤msr p∧(l.foldl dE p).1.length=p.1.length
 |[],p,_=>⟨Nat.le_refl _,rfl⟩
 |a::l,p,h=>by
  obtain⟨h1,h2⟩:=b1K p a (h a (by simp))
  obtain⟨h3,h4⟩:=uR l (dE p a) (fun to hto=>by rw[h2];exact h to (by simp [hto]))
  exact⟨by rw[List.foldl_cons];omega,by rw[List.foldl_cons,h4,h2]⟩
theorem a7i(out:List Bool)(left:List Int)(b:Int):msr (out,left)+1=msr (out,left++[b]):=by unfold msr;simp;omega
theorem DP.b1V{bs:List e8}{b:Int}(hb:gI bs b)(h:gJ bs):∀(l:List Int) (p:List Bool×List Int),(∀x∈l,x∈o4 (I8 bs b.toNat).t)→DP bs b l p→DP bs b [] (l.foldl dE p)
 |[],p,_,D=>D
 |a::l,p,hl,D=>DP.b1V hb h l (dE p a) (fun x hx=>hl x (by simp [hx])) (D.push hb h hl)
def b5G:=ZZ.mk (Zq @j0 @j3)
theorem a6X(o:H8):n5 Tryd.prog 45 [.agg o.av] (fun _=> .v (.int .i64 (tJ o))) (fun _=>[]):=by
 refine Zf Tryd.func45 Tryd.ntmps45 ?_;simp only[H8.av]
 repeat' (first|refine Za ?_|(with_reducible constructor<;>first|intro N hN mk hmk|intro N hN|intro h)|refine Zt b5G.d ?_|fail)
 all_goals(unfold tJ;split<;>first|rfl|omega)
theorem rG(i:l0):n5 Tryd.prog 26 [.agg i.av] (fun _=> .v (.int .i64 (Q7 i))) (fun _=>[]):=by
 have C:=a6X i.d
 simp only[H8.av]at C
 refine Zf Tryd.func26 Tryd.ntmps26 ?_;simp only[l0.av]
 repeat' (first|refine Za ?_|(with_reducible constructor<;>first|intro N hN mk hmk|intro N hN|intro h)|refine Zc C ?_|refine Zt b5G.d ?_|fail)
 rfl
theorem tA(t:w4):n5 Tryd.prog 28 [.agg t.av] (fun _=> .v (.int .i64 (O3 t))) (fun _=>[]):=by
 have C:=a6X t.d
 simp only[H8.av]at C
 refine Zf Tryd.func28 Tryd.ntmps28 ?_;simp only[w4.av]
 repeat' (first|refine Za ?_|(with_reducible constructor<;>first|intro N hN mk hmk|intro N hN|intro h)|refine Zc C ?_|refine Zt b5G.d ?_|fail)
 rfl
theorem b1p(a b:List Int):m8 a++m8 b=m8 (a++b):=by simp [m8]
theorem aX(l:List Int):(∀e∈m8 l,∀x∈e,AV.one x=true)=True:=by
 simp only[eq_iff_iff,iff_true]
 intro e he x hx
 simp only[m8,List.mem_map]at he
 obtain⟨j,_,rfl⟩:=he
 simp only[List.mem_cons,List.not_mem_nil,or_false]at hx
 subst hx;rfl
theorem A7(l:List Int):w7 (m8 l)=true:=by rw[w7];exact j4 l
theorem a8L(l:List Int)(n:Int):(F6 l n).length≤l.length+1:=by
 unfold F6
 split
 ·omega
 ·have:=congrArg List.length (List.takeWhile_append_dropWhile (p:=fun x=>decide (x<n)) (l:=l))
  rw[List.length_append]at this;simp only[List.length_append,List.length_cons];omega
theorem G6{α:Type}(l:List α)(i:Nat)(d:α)(h:i<l.length):l.take (i+1)=l.take i++[l.getD i d]:=by
 rw[List.take_add_one,List.getD_eq_getElem?_getD,List.getElem?_eq_getElem h];rfl
theorem a5Y(a b:List Int)(i:Nat)(h:i<b.length):E4 a (b.take (i+1))=F6 (E4 a (b.take i)) (b.getD i 0):=by
 rw[G6 b i 0 h];unfold E4;rw[List.foldl_append];rfl
def iN(l:List H8):List (List AV):=l.map H8.av
theorem b1R(l:List H8):(iN l).length=l.length:=by simp [iN]
theorem a3H(l:List H8):(A3 l).length≤l.length:=by
 unfold A3
 have:∀(l:List H8) (out:List Int),(l.foldl (fun out o=>if o.k=2 then F6 out o.n else out) out).length≤out.length+l.length:=by
  intro l
  induction l with
  |nil=>intro out;simp
  |cons o l ih=>
   intro out
   rw[List.foldl_cons]
   have h1:=ih (if o.k=2 then F6 out o.n else out)
   have h2:(if o.k=2 then F6 out o.n else out).length≤out.length+1:=by
    split
    ·exact a8L _ _
    ·omega
   simp;omega
 simpa using this l []
theorem fZ(i:l0):(w6 i).length≤3:=a3H _
theorem gB(t:w4):(u9 t).length≤2:=a3H _
def iL(p:List Int)(x:Int):List Int:=p.takeWhile (fun y=>decide (y≤x))++x::p.dropWhile (fun y=>decide (y≤x))
def G8(l:List Int):List Int:=l.foldl iL []
def Le(l:List Int):Prop:=l.Pairwise (·≤·)
theorem b3s{p:List Int}{x y:Int}:y∈iL p x↔y=x∨y∈p:=by
 unfold iL
 rw[List.mem_append,List.mem_cons]
 conv=>rhs;rw[←List.takeWhile_append_dropWhile (p:=fun y=>decide (y≤x)) (l:=p),List.mem_append]
 constructor
 ·rintro(h|h|h)
  ·exact .inr (.inl h)
  ·exact .inl h
  ·exact .inr (.inr h)
 ·rintro(h|h|h)
  ·exact .inr (.inl h)
  ·exact .inl h
  ·exact .inr (.inr h)
theorem b3i(p:List Int)(x:Int):(iL p x).length=p.length+1:=by
 have:=congrArg List.length (List.takeWhile_append_dropWhile (p:=fun y=>decide (y≤x)) (l:=p))
 rw[List.length_append]at this
 unfold iL
 simp only[List.length_append,List.length_cons];omega
theorem b7v{l:List Int}{n:Int}:∀x∈l.takeWhile (fun x=>decide (x≤n)),x≤n:=by
 induction l with
 |nil=>intro x hx;simp at hx
 |cons a l ih=>
  intro x hx
  rw[List.takeWhile_cons]at hx
  split at hx
  ·rename_i h
   rcases List.mem_cons.1 hx with rfl|hx
   ·simpa using h
   ·exact ih x hx
  ·simp at hx
theorem b4g{l:List Int}(hl:Le l){n:Int}:∀x∈l.dropWhile (fun x=>decide (x≤n)),n<x:=by
 induction l with
 |nil=>intro x hx;simp at hx
 |cons a l ih=>
  obtain⟨h1,h2⟩:=List.pairwise_cons.1 hl
  intro x hx
  rw[List.dropWhile_cons]at hx
  split at hx
  ·exact ih h2 x hx
  ·rename_i h
   have ha:n<a:=by simpa using h
   rcases List.mem_cons.1 hx with rfl|hx
   ·exact ha
   ·have:=h1 x hx;omega
theorem b5V{p:List Int}(hp:Le p)(x:Int):Le (iL p x):=by
 unfold iL
 have hs1:(p.takeWhile (fun y=>decide (y≤x))).Sublist p:=List.takeWhile_sublist _
 have hs2:(p.dropWhile (fun y=>decide (y≤x))).Sublist p:=List.dropWhile_sublist _
 refine List.pairwise_append.2 ⟨hp.sublist hs1,List.pairwise_cons.2 ⟨fun y hy=>?_,hp.sublist hs2⟩,fun y hy z hz=>?_⟩
 ·have:=b4g hp y hy;omega
 ·have h1:=b7v y hy
  rcases List.mem_cons.1 hz with rfl|hz
  ·exact h1
  ·have:=b4g hp z hz;omega
theorem jW:∀(l p:List Int),Le p→Le (l.foldl iL p)∧(l.foldl iL p).length=p.length+l.length∧∀x,x∈l.foldl iL p↔x∈p∨x∈l
 |[],p,h=>⟨h,rfl,fun x=>by simp⟩
 |a::l,p,h=>by
  obtain⟨h1,h2,h3⟩:=jW l (iL p a) (b5V h a)
  refine⟨h1,by rw[List.foldl_cons,h2,b3i,List.length_cons];omega,fun x=>?_⟩
  rw[List.foldl_cons,h3,b3s,List.mem_cons]
  constructor
  ·rintro((h|h)|h)
   ·exact .inr (.inl h)
   ·exact .inl h
   ·exact .inr (.inr h)
  ·rintro(h|h|h)
   ·exact .inl (.inr h)
   ·exact .inl (.inl h)
   ·exact .inr h
theorem a3C(l:List Int):Le (G8 l):=(jW l [] List.Pairwise.nil).1
theorem pB(l:List Int):(G8 l).length=l.length:=by have:=(jW l [] List.Pairwise.nil).2.1;rw[List.length_nil,Nat.zero_add]at this;exact this
theorem a8H{l:List Int}{x:Int}:x∈G8 l↔x∈l:=by have:=(jW l [] List.Pairwise.nil).2.2 x;simp only[List.not_mem_nil,false_or]at this;exact this
theorem lF(l:List Int)(i:Nat)(h:i<l.length):G8 (l.take (i+1))=iL (G8 (l.take i)) (l.getD i 0):=by
 rw[G6 l i 0 h];unfold G8;rw[List.foldl_append];rfl
theorem a4q{l:List Int}{q:Int→Bool}{i:Nat}(hi:i≤l.length)(h:∀k,k<i→q (l.getD k 0)=true)(he:i=l.length∨q (l.getD i 0)=false):l.takeWhile q=l.take i∧l.dropWhile q=l.drop i:=by
 induction l generalizing i with
 |nil=>
      have:i=0:=by simpa using hi
      subst this;simp
 |cons a l ih=>
  cases i with
  |zero=>
   have:q a=false:=by
                rcases he with he|he
                ·simp at he
                ·simpa using he
   rw[List.takeWhile_cons,List.dropWhile_cons,if_neg (by simp [this]),if_neg (by simp [this])];simp
  |succ i=>
   have h0:q a=true:=by simpa using h 0 (by omega)
   obtain⟨h1,h2⟩:=ih (i:=i) (by simpa using hi) (fun k hk=>by simpa using h (k+1) (by omega)) (by simpa using he)
   rw[List.takeWhile_cons,List.dropWhile_cons,if_pos h0,if_pos h0,h1,h2];simp
def bJ(p:List Int)(x:Int)(j:Nat):List Int:=p.take j++x::p.drop j
theorem nE(p:List Int)(x:Int)(j:Nat)(h:j≤p.length):(bJ p x j).length=p.length+1:=by unfold bJ;simp;omega
theorem b5U{p:List Int}(hp:Le p){k j:Nat}(h:k≤j)(hj:j<p.length):p.getD k 0≤p.getD j 0:=by
 rcases Nat.lt_or_eq_of_le h with h|rfl
 ·have:=(List.pairwise_iff_getElem.1 hp) k j (by omega) hj h
  rw[List.getD_eq_getElem?_getD,List.getD_eq_getElem?_getD,List.getElem?_eq_getElem hj,List.getElem?_eq_getElem (show k<p.length by omega)];exact this
 ·exact Int.le_refl _
theorem a3f{p:List Int}{x:Int}{j:Nat}(hp:Le p)(hj:j≤p.length)(h1:j=0∨p.getD (j-1) 0≤x)(h2:j=p.length∨x<p.getD j 0):iL p x=bJ p x j:=by
 obtain⟨e1,e2⟩:=a4q (q:=fun y=>decide (y≤x)) hj (fun k hk=>by
  have:=b5U hp (k:=k) (j:=j-1) (by omega) (by omega)
  have:p.getD k 0≤x:=by omega
  simpa using this) (by
  rcases h2 with h2|h2
  ·exact .inl h2
  ·exact .inr (by simpa using h2))
 unfold iL bJ;rw[e1,e2]
theorem b0z(p:List Int)(x:Int):bJ p x p.length=p++[x]:=by unfold bJ;simp
theorem b2X(p:List Int)(x:Int)(j:Nat)(r:List Int)(hj:j≤p.length):(bJ p x j++r).getD j 0=x:=by
 unfold bJ
 rw[List.getD_eq_getElem?_getD,List.append_assoc,List.getElem?_append_right (by simp;omega)]
 simp [show j-min j p.length=0 by omega]
theorem b0A(p:List Int)(x:Int)(j k:Nat)(r:List Int)(hk:k<j)(hj:j≤p.length):(bJ p x j++r).getD k 0=p.getD k 0:=by
 unfold bJ
 rw[List.getD_eq_getElem?_getD,List.append_assoc,List.getElem?_append_left (by simp;omega),List.getElem?_take_of_lt hk,List.getD_eq_getElem?_getD]
theorem a3e(p:List Int)(x:Int)(j:Nat)(r:List Int)(hj:j≤p.length)(k:Nat):(bJ p x j++r)[k]?=if k<j then p[k]? else if k=j then some x else if k<p.length+1 then p[k-1]? else r[k-(p.length+1)]?:=by
 have hl:=nE p x j hj
 by_cases h1:k<j
 ·rw[if_pos h1,List.getElem?_append_left (by omega)]
  unfold bJ
  rw[List.getElem?_append_left (by simp;omega),List.getElem?_take_of_lt h1]
 ·rw[if_neg h1]
  by_cases h2:k=j
  ·subst h2
   rw[if_pos rfl,List.getElem?_append_left (by omega)]
   unfold bJ
   rw[List.getElem?_append_right (by simp;omega)]
   simp [show k-min k p.length=0 by omega]
  ·rw[if_neg h2]
   by_cases h3:k<p.length+1
   ·rw[if_pos h3,List.getElem?_append_left (by omega)]
    unfold bJ
    rw[List.getElem?_append_right (by simp;omega),List.length_take,Nat.min_eq_left hj]
    obtain⟨d,rfl⟩:∃d,k=j+(d+1):=⟨k-j-1,by omega⟩
    rw[Nat.add_sub_cancel_left,List.getElem?_cons_succ,List.getElem?_drop];rfl
   ·rw[if_neg h3,List.getElem?_append_right (by omega),hl]
theorem a8l(p:List Int)(x:Int)(j:Nat)(r:List Int)(h0:0<j)(hj:j≤p.length):((bJ p x j++r).set j (p.getD (j-1) 0)).set (j-1) x=bJ p x (j-1)++r:=by
 apply List.ext_getElem?
 intro k
 have hl:(bJ p x j++r).length=p.length+1+r.length:=by rw[List.length_append,nE p x j hj]
 rw[a3e p x (j-1) r (by omega),List.getElem?_set,List.getElem?_set,List.length_set,hl,a3e p x j r hj]
 by_cases h1:j-1=k
 ·rw[if_pos h1,if_pos (by omega),if_neg (by omega),if_pos (by omega)]
 ·rw[if_neg h1]
  by_cases h2:j=k
  ·subst h2
   rw[if_pos rfl,if_pos (by omega),if_neg (by omega),if_neg (by omega),if_pos (by omega),List.getD_eq_getElem?_getD,List.getElem?_eq_getElem (show j-1<p.length by omega)];rfl
  ·rw[if_neg h2]
   by_cases h3:k<j-1
   ·rw[if_pos (by omega),if_pos h3]
   ·simp only[show¬k<j by omega,show¬k=j by omega,h3,show¬k=j-1 by omega,if_false]
def a2G:=ZZ.mk (Zq @j0 @j3)
theorem a3A(a:Int):n5 Tryd.prog 86 [.v (.int .i64 a)] (fun _=> .v (.bool false)) (fun _=>[]):=by
 refine Zf Tryd.func86 Tryd.ntmps86 ?_
 repeat' (first|refine Za ?_|(with_reducible constructor<;>first|intro N hN mk hmk|intro N hN|intro h)|refine Zt a2G.d ?_|fail)
 all_goals simp
theorem b3k(a b:Int):n5 Tryd.prog 76 [.v (.int .i64 a),.v (.int .i64 b)] (fun _=> .v (.bool (decide (a<b)))) (fun _=>[]):=by
 refine Zf Tryd.func76 Tryd.ntmps76 ?_
 repeat' (first|refine Za ?_|(with_reducible constructor<;>first|intro N hN mk hmk|intro N hN|intro h)|refine Zc (a3A a) ?_|refine Zc (a3A b) ?_|refine Zt a2G.d ?_|fail)
theorem tU(l:List Int)(k:Nat)(v:Int):(m8 l).modify k (fun e=>u2 e 0 [.v (.int .i64 v)])=m8 (l.set k v):=by
 apply List.ext_getElem?
 intro j
 rw[List.getElem?_modify]
 simp only[m8,List.getElem?_map,List.getElem?_set]
 by_cases h:k=j
 ·subst h
  by_cases h2:k<l.length
  ·simp [h2,u2]
  ·simp [h2]
 ·simp [h]
def sL:=ZZ.mk (Zq a2G.d (Zq @tU (Zq @F9 (Zq @V1 (Zq @O4 (Zq @bF (Zq @j4 (Zq @A7 (Zq @aX @Q5)))))))))
def a2H:=ZZ.mk (Zq sL.d @List.length_set.{0})
theorem b1r(l:List Int)(hl:l.length≤12):y9 Tryd.prog 70 [.own 0 0 l.length,.v (.int .i64 0),.v (.int .i64 l.length)] [⟨1,m8 l,0⟩] 1 (fun _:Unit=>True) (fun _=> .Q0 []) (fun _=>[⟨1,m8 (G8 l),0⟩]):=by
 refine Zf Tryd.func70 Tryd.ntmps70 ?_
 repeat' (first|refine Za ?_|(with_reducible constructor<;>first|intro N hN mk hmk|intro N hN|intro h)|refine Zt sL.d ?_|fail)
 refine v7 (fun i=>⟨[.own 0 0 l.length,.v (.int .i64 0),.v (.int .i64 l.length),.Z,.Z,.Z,.v (.int .i64 ((i+1:Nat):Int)),.Z,.Z,.Z,.Z,.Z,.Z,.Z,.Z,.Z,.Z,.Z,.Z,.Z,.Z,.Z,.Z,.Z,.Z,.Z,.Z,.Z,.Z,.Z,.Z,.Z,.Z,.Z,.Z,.Z,.Z,.Z,.Z,.Z,.Z,.Z,.Z,.Z,.Z,.Z,.Z,.Z,.Z],[(0,.live ⟨1,m8 (G8 (l.take (i+1))++l.drop (i+1)),0⟩),(1,.u3 99 [.ptr 0 0 0])],2⟩) (l.length-1) (Zw [0,1,2,6] [0] sL.d ?_) ?_
 ·have e:G8 (l.take 1)++l.drop 1=l:=by
   cases l with
   |nil=>rfl
   |cons a l=>rfl
  simp only[Nat.zero_add,e,Int.zero_add,Int.natCast_one]
 ·intro i hi
  obtain⟨p,hp⟩:∃p,p=G8 (l.take (i+1)):=⟨_,rfl⟩
  have hpl:p.length=(l.take (i+1)).length:=by rw[hp,pB]
  have hps:Le p:=by rw[hp];exact a3C _
  rw[List.length_take]at hpl
  rw[←hp]
  by_cases hin:i+1<l.length
  ·obtain⟨x,hx⟩:∃x,x=l.getD (i+1) 0:=⟨_,rfl⟩
   obtain⟨r,hr⟩:∃r,r=l.drop (i+1+1):=⟨_,rfl⟩
   have hrl:r.length=l.length-(i+1+1):=by rw[hr];simp
   have hd:l.drop (i+1)=x::r:=by
    rw[hx,hr,List.drop_eq_getElem_cons hin,List.getD_eq_getElem?_getD,List.getElem?_eq_getElem hin];rfl
   have he:p++x::r=bJ p x p.length++r:=by rw[b0z];simp
   rw[hd,he]
   have hn:G8 (l.take (i+1+1))=iL p x:=by rw[lF l (i+1) hin,hp,hx]
   rw[hn,←hr]
   have hle:=nE p x p.length (Nat.le_refl _)
   have hpi:p.length=i+1:=by omega
   have hrr:p.length+1+r.length=l.length:=by omega
   repeat' (first|refine Za ?_|(with_reducible constructor<;>first|intro N hN mk hmk|intro N hN|intro h)|refine Zt sL.d ?_|fail)
   refine T2 (fun m=>⟨[.own 0 0 l.length,.v (.int .i64 0),.v (.int .i64 l.length),.Z,.Z,.Z,.v (.int .i64 ((i+1:Nat):Int)),.v (.int .i64 ((p.length-m:Nat):Int)),.Z,.Z,.Z,.Z,.Z,.Z,.Z,.Z,.Z,.Z,.Z,.Z,.Z,.Z,.Z,.Z,.Z,.Z,.Z,.Z,.Z,.Z,.Z,.Z,.Z,.Z,.Z,.Z,.Z,.Z,.Z,.Z,.Z,.Z,.Z,.Z,.Z,.Z,.Z,.Z,.Z],[(0,.live ⟨1,m8 (bJ p x (p.length-m)++r),0⟩),(1,.u3 99 [.ptr 0 0 0])],2⟩) (fun ii=>Go.Ab.aP ((fun m=>∀k,p.length-m≤k→k<p.length→x<p.getD k 0) ii)) p.length (Zw [0,1,2,6,7] [0] sL.d ?_) ?_ ?_
   ·rw[Nat.sub_zero,hpi]
   ·exact⟨fun k h1 h2=>by omega⟩
   ·intro m hm hI
    have hI:=hI.out
    obtain⟨j,hj⟩:∃j,j=p.length-m:=⟨_,rfl⟩
    have hj1:p.length-(m+1)=j-1:=by omega
    simp only[←hj]at hI⊢
    rw[hj1]
    have hjl:j≤p.length:=by omega
    have hA:=b2X p x j r hjl
    have hL:(bJ p x j++r).length=l.length:=by rw[List.length_append,nE p x j hjl];exact hrr
    by_cases hj0:0<j
    ·have hB:=b0A p x j (j-1) r (by omega) hjl
     have e1:((j:Int)-1).toNat=j-1:=by omega
     have C:=b3k x (p.getD (j-1) 0)
     have hW:=a8l p x j r hj0 hjl
     repeat' (first|refine Za ?_|(with_reducible constructor<;>first|intro N hN mk hmk|intro N hN|intro h)|refine Zc C ?_|refine Zt (Zq a2H.d (Zq hA (Zq hB (Zq e1 (Zq hL hW))))) ?_|fail)
     ·refine⟨⟨fun k h1 h2=>?_⟩,?_⟩
      ·by_cases hk:k=j-1
       ·rw[hk];assumption
       ·exact hI k (by omega) h2
      ·refine Zw [0,1,2,6,7] [0] (Zq a2H.d (Zq hA (Zq hB (Zq e1 (Zq hL hW))))) ?_
       rw[show(j:Int)-1=((j-1:Nat):Int) by omega]
     ·refine Zw [0,1,2,6] [0] (Zq a2H.d (Zq hA (Zq hB (Zq e1 (Zq hL hW))))) ?_
      rw[a3f hps hjl (.inr (by omega)) (by
       by_cases hjp:j=p.length
       ·exact .inl hjp
       ·exact .inr (hI j (Nat.le_refl _) (by omega)))]
      rfl
     ·exfalso;omega
    ·obtain rfl:j=0:=by omega
     repeat' (first|refine Za ?_|(with_reducible constructor<;>first|intro N hN mk hmk|intro N hN|intro h)|refine Zt (Zq a2H.d (Zq hA hL)) ?_|fail)
     all_goals first
      |(exfalso;omega)
      |(
        refine Zw [0,1,2,6] [0] (Zq a2H.d (Zq hA hL)) ?_
        rw[a3f hps hjl (.inl rfl) (by
         by_cases hjp:0=p.length
         ·exact .inl hjp
         ·exact .inr (hI 0 (Nat.le_refl _) (by omega)))]
        rfl)
  ·
   have e:p++l.drop (i+1)=G8 l:=by
    rw[hp,List.drop_of_length_le (by omega),List.append_nil,List.take_of_length_le (by omega)]
   rw[e]
   repeat' (first|refine Za ?_|(with_reducible constructor<;>first|intro N hN mk hmk|intro N hN|intro h)|refine Zt sL.d ?_|fail)
   refine Zr (()) [0] sL.d ?_
   trivial
def b4a:=ZZ.mk (Zq a2G.d (Zq @cD (Zq @F9 (Zq @j4 (Zq @A7 @X0)))))
def sM:=ZZ.mk (Zq a2G.d (Zq @cD (Zq @F9 (Zq @j4 @A7))))
theorem b54(l:List Int)(d:Int)(hl:l.length≤12):y9 Tryd.prog 66 [.own 0 0 l.length,.v (.int .i64 0),.v (.int .i64 l.length),.v (.int .i64 d)] [⟨1,m8 l,0⟩] 1 (fun _:Unit=>True) (fun _=> .Q0 []) (fun _=>[⟨1,m8 (G8 l),0⟩]):=by
 have C:=b1r l hl
 refine Zf Tryd.func66 Tryd.ntmps66 ?_
 repeat' (first|refine Za ?_|(with_reducible constructor<;>first|intro N hN mk hmk|intro N hN|intro h)|(guard_target=~ AK Tryd.prog _ _ _ _;refine y3 [()] ?_)|(refine Zp C [0] b4a.d ?_;with_reducible intro _ _)|refine Zt b4a.d ?_|fail)
 refine Zr (()) [0] sM.d ?_
 trivial
theorem b5x(n:Int):IntKind.u8.wrap n=n%256:=by simp [IntKind.wrap,IntKind.signed,IntKind.bits]
theorem b1v(n:Nat)(hn:n≤12):∃v:Int,n5 Tryd.prog 80 [.v (.int .u64 n)] (fun _=> .v (.int .i64 v)) (fun _=>[]):=by
 refine Exists.intro ?v ?_
 rotate_left
 refine Zf Tryd.func80 Tryd.ntmps80 ?_
 repeat' (first|refine Za ?_|(with_reducible constructor<;>first|intro N hN mk hmk|intro N hN|intro h)|refine Zt sM.d ?_|fail)
 refine⟨⟨by rw[b5x];omega,Int.lt_of_lt_of_le (show IntKind.u8.wrap (n:Int)<256 by rw[b5x];omega) (by decide)⟩,?_⟩
 repeat' (first|refine Za ?_|(with_reducible constructor<;>first|intro N hN mk hmk|intro N hN|intro h)|refine Zt sM.d ?_|fail)
 rfl
theorem b1w(n:Nat)(hn:n≤12):∃v:Int,n5 Tryd.prog 67 [.v (.int .u64 n)] (fun _=> .v (.int .i64 v)) (fun _=>[]):=by
 obtain⟨v,C⟩:=b1v n hn
 refine⟨v,?_⟩
 refine Zf Tryd.func67 Tryd.ntmps67 ?_
 repeat' (first|refine Za ?_|(with_reducible constructor<;>first|intro N hN mk hmk|intro N hN|intro h)|refine Zc C ?_|refine Zt sM.d ?_|fail)
theorem bA(l:List Int)(hl:l.length≤12):y9 Tryd.prog 53 [.own 0 0 l.length] [⟨1,m8 l,0⟩] 1 (fun _:Unit=>True) (fun _=> .Q0 []) (fun _=>[⟨1,m8 (G8 l),0⟩]):=by
 obtain⟨v,C⟩:=b1w l.length hl
 have C2:=b54 l v hl
 refine Zf Tryd.func53 Tryd.ntmps53 ?_
 repeat' (first|refine Za ?_|(with_reducible constructor<;>first|intro N hN mk hmk|intro N hN|intro h)|refine Zc C ?_|(refine Zp C2 [0] sM.d ?_;with_reducible intro _ _)|refine Zt sM.d ?_|fail)
 refine Zr (()) [0] sM.d ?_
 trivial
def b39:=ZZ.mk (Zq @j0 @j3)
theorem tD(t:w4):n5 Tryd.prog 29 [.agg t.av] (fun _=> .c5 false (m8 (o4 t))) (fun _=>[]):=by
 obtain⟨k,s,⟨dk,dn,dv⟩,⟨ak,an,av⟩,⟨bk,bn,bv⟩,t0,t1⟩:=t
 refine Zf Tryd.func29 Tryd.ntmps29 ?_;simp only[w4.av]
 repeat' (first|(guard_target=~ AK Tryd.prog (Go.Code.region 4 _ _) _ _ _;(refine a94 1 rfl rfl (fun c=>by simp) ?_;intro N N2 hN hN2))|refine Za ?_|(with_reducible constructor<;>first|intro N hN mk hmk|intro N hN|intro h)|refine Zt b39.d ?_|fail)
 rotate_left
 ·refine b3W (n:=2) (E:=T3) rfl b2s rfl (by simp [T8]) rfl rfl rfl (by simp) rfl (by decide) ?_
  refine hN2 _ ?_
  clear hN2
  repeat' (first|refine Za ?_|(with_reducible constructor<;>first|intro N hN mk hmk|intro N hN|intro h)|refine Zt b39.d ?_|fail)
  rw[show o4 ⟨k,s,⟨dk,dn,dv⟩,⟨ak,an,av⟩,⟨bk,bn,bv⟩,t0,t1⟩=[t0,t1]from(if_neg ‹¬k=5›).trans (if_pos ⟨‹k=2›,‹¬t0=t1›⟩)];rfl
 all_goals(unfold o4;(repeat' split)<;>first|rfl|(exfalso;omega)|(exfalso;simp_all;done)|simp_all)
end Go.Proofs.YtgdoiokalfhjoaaDoor
end
