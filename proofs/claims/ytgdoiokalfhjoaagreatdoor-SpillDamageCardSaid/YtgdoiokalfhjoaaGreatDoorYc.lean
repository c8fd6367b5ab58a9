/- Own work (by an AI agent; no person has read it): part of a proof of the seat YtgdoiokalfhjoaaGreatDoor. -/
import Derived.LoopNIn
import Derived.RangeFuncNested
import Derived.RangeFuncBound
import Derived.Shelf.Abstract
import Derived.Deep.Slices
import Derived.ProofKit
import Derived.OpenShut
import Derived.Test.YtgdoiokalfhjoaaGreatDoorTie
import Derived.Test.YtgdoiokalfhjoaaGreatDoorCards
import Derived.LaidMore
import Derived.Lay
import Derived.SevenTiedAt
import Derived.Stop.Joined
import Derived.Shelf.Vars
import Derived.Deep.DeepHandedRow
import Derived.RangeFuncBox
import Derived.RangeFuncLeaves
import Derived.WalkKit
import Derived.OwnWalkIn
import Derived.TacticsInMore
import Derived.LoopIn
import Derived.Test.YtgdoiokalfhjoaaGreatDoorYb
set_option linter.unusedVariables false
set_option linter.unusedSimpArgs false
set_option maxRecDepth 100000
set_option maxHeartbeats 10000000
section
namespace Go.Ab
open Go.RowKit (Below)
section
section
variable {G:Gh} {M0:Nat→Nat→Prop} {w0:World} {ρ:Nat→Option (Nat×Nat×Nat)} {w:World} {P:Program} {K:Exit→LS→Prop} {s:LS}
def nT(ks:List Nat):Nat→List AV→List AV
 |_,[]=>[]
 |i,x::l=>(if ks.contains i then x else .Z)::nT ks (i+1) l
theorem pR(ks:List Nat):∀(l:List AV) (i:Nat),(nT ks i l).length=l.length
 |[],_=>rfl
 |_::l,i=>by simp [nT,pR ks l (i+1)]
theorem xH(ks:List Nat):∀(l:List AV) (i j:Nat),(nT ks i l).getD j .Z=l.getD j .Z∨(nT ks i l).getD j .Z= .Z
 |[],_,_=> .inl rfl
 |x::l,i,0=>by
  simp only[nT,List.getD_cons_zero]
  split
  ·exact .inl rfl
  ·exact .inr rfl
 |_::l,i,j+1=>by
  simp only[nT,List.getD_cons_succ]
  exact xH ks l (i+1) j
theorem b9Z{t t':List AV}{h:List (Nat×RS)}{nx:Nat}(hl:t'.length=t.length)(hk:∀j,t'.getD j .Z=t.getD j .Z∨t'.getD j .Z= .Z):N3 ⟨t,h,nx⟩ ⟨t',h,nx⟩:=by
 intro G M0 w0 ρ a w ⟨R,hok⟩
 refine⟨ρ,⟨by show a.tmps.size=t'.length;rw[hl];exact R.n,fun j=>?_,R.live,R.free,R.inj,R.T1,R.m0,R.defers,R.nL,R.lX,R.jF,R.gT,R.dP,R.nX,R.oS⟩,hok⟩
 show s5 (p8 M0 ρ (LS.hf h)) ρ w (t'.getD j .Z) _
 rcases hk j with e|e
 ·rw[e];exact R.tm j
 ·rw[e];exact .Z _
theorem gI{md:Bool}[j5 P]{c:Code}{k:List KF}{t:List AV}{h:List (Nat×RS)}{nx:Nat}(ks:List Nat)(hn:AK (md:=md) P c k ⟨nT ks 0 t,h,nx⟩ K):AK (md:=md) P c k ⟨t,h,nx⟩ K:=
 u9 (b9Z (pR ks t 0) fun j=>xH ks t 0 j) hn
theorem jN{md:Bool}[j5 P]{x:Code}{k:List KF}{s:LS}{α:Type}(S:α→LS)(I:α→Prop)(h1:AK (md:=md) P x [] s (O9 (fun s'=>∃a,I a∧N3 s' (S a)) (X7 (md:=md) P K k)))(h2:∀a,I a→X7 (md:=md) P K k .normal (S a)):AK (md:=md) P x k s K:=by
 intro m hmm G M0 w0 ρ a w Q hg R hQ
 refine h1 m hmm G M0 w0 ρ a w Q hg R fun Ds e s' ρ' a' w' hD hk R'=>?_
 cases e with
 |normal=>
  obtain⟨x,hI,hw⟩:=hk
  obtain⟨ρ'',R''⟩:=hw _ _ _ _ _ _ R'
  exact hQ Ds .normal _ _ _ _ hD (h2 x hI) R''
 |_=>exact hQ _ _ _ _ _ _ hD hk R'
def pD:Code→List Nat→Code
 |c,[]=>c
 | .seq a _,0::p=>pD a p
 | .seq _ b,1::p=>pD b p
 | .cond _ a _,0::p=>pD a p
 | .cond _ _ b,1::p=>pD b p
 | .block _ c,0::p=>pD c p
 | .loop c,0::p=>pD c p
 |c,_=>c
def cR(f:Func):Code:=f.body.getD .skip
theorem b9W{t:List AV}{h h':List (Nat×RS)}{nx:Nat}(id:Nat)(sz:Nat)(es es':List (List AV))(fro:Nat)(h1:LS.hf h id= .live ⟨sz,es++es',fro⟩)(h2:LS.hf h'=n7 (LS.hf h) id (.live ⟨sz,es,fro⟩))(h3:∀p∈h',p.1<nx):N3 ⟨t,h,nx⟩ ⟨t,h',nx⟩:=by
 intro G M0 w0 ρ a w ⟨R,hok⟩
 have hh:(LS.o4 ⟨t,h',nx⟩).h=n7 (LS.hf h) id (.live ⟨sz,es,fro⟩):=h2
 have live':∀i r,n7 (LS.hf h) id (.live ⟨sz,es,fro⟩) i= .live r→∃r0,LS.hf h i= .live r0∧r0.sz=r.sz∧r0.fro=r.fro∧∃zs,r0.es=r.es++zs:=by
  intro i r hr
  unfold n7 at hr
  split at hr
  ·rename_i e;subst e;cases hr;exact⟨_,h1,rfl,rfl,es',rfl⟩
  ·exact⟨r,hr,rfl,rfl,[],by simp⟩
 have hM:∀b o,p8 M0 ρ (n7 (LS.hf h) id (.live ⟨sz,es,fro⟩)) b o→p8 M0 ρ (LS.hf h) b o:=by
  rintro b o (g|⟨i,r,β,z,g1,g2,g3⟩)
  ·exact .inl g
  ·obtain⟨r0,e1,e2,e3,_⟩:=live' i r g1
   exact .inr ⟨i,r0,β,z,e1,g2,by rw[e3];exact g3⟩
 have other:∀i,(∀r,n7 (LS.hf h) id (.live ⟨sz,es,fro⟩) i≠ .live r)→n7 (LS.hf h) id (.live ⟨sz,es,fro⟩) i=LS.hf h i:=by
  intro i hi
  unfold n7 at hi⊢
  split
  ·rename_i e;rw[if_pos e]at hi;exact absurd rfl (hi _)
  ·rfl
 refine⟨ρ,⟨R.n,fun j=>?_,fun i r hr=>?_,fun i hi=>?_,fun i i' r r' b β β' z z' g1 g2 g3 g4=>?_,R.T1,R.m0,R.defers,fun i k cs hg j x hx=>?_,fun x u hx=>?_,fun i b q f hm=>?_,R.gT,fun i r p hr hp=>?_,fun i b q f hm=>?_,R.oS⟩,h3⟩
 ·rw[hh];exact(R.tm j).pN hM
 ·rw[hh]at hr
  obtain⟨r0,e1,e2,e3,zs,e4⟩:=live' i r hr
  obtain⟨b,β,arr,e,g1,g2,g3,g4,g5,g6⟩:=R.live i r0 e1
  refine⟨b,β,arr,e,by rw[←e2];exact g1,g2,g3,?_,fun x hx=>by rw[←e2];exact g5 x (by rw[e4];simp [hx]),fun i' j e' x u k1 k2 k3=>?_⟩
  ·rw[e4,List.length_append,Nat.add_mul]at g4;rw[←e2];omega
  ·rw[hh]
   have hlt:i'<r.es.length:=(List.getElem?_eq_some_iff.1 k1).1
   exact(g6 i' j e' x u (by rw[e4,List.getElem?_append_left hlt];exact k1) k2 (by rw[e2];exact k3)).pN hM
 ·rw[hh]at hi
  exact R.free i (show LS.hf h i= .free from(other i (fun r hr=>by rw[hr]at hi;cases hi)).symm.trans hi)
 ·rw[hh]at g1 g2
  obtain⟨r0,e1,_⟩:=live' i r g1
  obtain⟨r1,e2,_⟩:=live' i' r' g2
  exact R.inj i i' r0 r1 b β β' z z' e1 e2 g3 g4
 ·rw[hh]at hg
  rw[other i (fun r hr=>by rw[hr]at hg;cases hg)]at hg
  rw[hh];exact(R.nL i k cs hg j x hx).pN hM
 ·rw[hh];exact(R.lX x u hx).pN hM
 ·rw[hh]at hm
  rw[other i (fun r hr=>by rw[hr]at hm;cases hm)]at hm
  exact R.jF i b q f hm
 ·rw[hh]at hr
  obtain⟨r0,e1,_⟩:=live' i r hr
  exact R.dP i r0 p e1 hp
 ·rw[hh]at hm
  rw[other i (fun r hr=>by rw[hr]at hm;cases hm)]at hm
  exact R.nX i b q f hm
end
end
section
section
variable {G:Gh} {M0:Nat→Nat→Prop} {w0:World} {ρ:Nat→Option (Nat×Nat×Nat)} {a:Act} {w:World} {P:Program} {K:Exit→LS→Prop} {s:LS} {Q:Exit→Act→World→Prop}
theorem b4m(ids:List (Nat×Nat))(R0:D7 G M0 w0 s ρ a w):D7 G M0 w0 ⟨s.t,n4 ids s.h,s.nx⟩ ρ a w:=by
 obtain⟨R,hok⟩:=R0
 refine⟨?_,a3W hok⟩
 have hH:LS.hf (n4 ids s.h)=raise ids s.o4.h:=kP ids s.h
 refine{n:=R.n,tm:=fun t=>?_,live:=fun id r hr=>?_,free:=fun id hr=>?_,inj:=fun id id' r r' b β β' z z' h1 h2 h3 h4=>?_,T1:=R.T1,m0:=R.m0,defers:=R.defers,nL:=fun id k cs hg i x hx=>?_,lX:=fun x u hx=>?_,jF:=fun id b q f hm=>?_,gT:=R.gT,dP:=fun id r p hr hp=>?_,nX:=fun id b q f hm=>?_,oS:=R.oS}
 ·show s5 (p8 M0 ρ (LS.hf (n4 ids s.h))) ρ w (LS.tf s.t t) _
  rw[hH];exact(R.tm t).raise
 ·have hr:LS.hf (n4 ids s.h) id= .live r:=hr
  rw[hH]at hr
  obtain⟨r0,h0,rfl⟩:=N5 hr
  obtain⟨b,β,arr,e,l1,l2,l3,l4,l5,l6⟩:=R.live id r0 h0
  refine⟨b,β,arr,e,l1,l2,l3,l4,l5,fun i j e x u g1 g2 g3=>?_⟩
  show s5 (p8 M0 ρ (LS.hf (n4 ids s.h))) ρ w x u
  rw[hH];exact(l6 i j e x u g1 g2 g3).raise
 ·have hr:LS.hf (n4 ids s.h) id= .free:=hr
  rw[hH]at hr
  exact R.free id (N4 hr fun r h=>by cases h)
 ·have h1:LS.hf (n4 ids s.h) id= .live r:=h1
  have h2:LS.hf (n4 ids s.h) id'= .live r':=h2
  rw[hH]at h1 h2
  obtain⟨r0,g0,_⟩:=N5 h1
  obtain⟨r1,g1,_⟩:=N5 h2
  exact R.inj id id' r0 r1 b β β' z z' g0 g1 h3 h4
 ·have hg:LS.hf (n4 ids s.h) id= .u5 k cs:=hg
  rw[hH]at hg
  show s5 (p8 M0 ρ (LS.hf (n4 ids s.h))) ρ w x _
  rw[hH]
  exact(R.nL id k cs (N4 hg fun r h=>by cases h) i x hx).raise
 ·show s5 (p8 M0 ρ (LS.hf (n4 ids s.h))) _ w x u
  rw[hH];exact(R.lX x u hx).mono (fun _ _ h=>h) (fun _ _ _ g1 g2=>⟨fun g=>g1 (F5 g),g2⟩) (fun _ _ h=>h)
 ·have hm:LS.hf (n4 ids s.h) id= .mp b q f:=hm
  rw[hH]at hm
  exact R.jF id b q f (N4 hm fun r h=>by cases h)
 ·have hr:LS.hf (n4 ids s.h) id= .live r:=hr
  rw[hH]at hr
  obtain⟨r0,h0,_⟩:=N5 hr
  exact R.dP id r0 p h0 hp
 ·have hm:LS.hf (n4 ids s.h) id= .mp b q f:=hm
  rw[hH]at hm
  exact R.nX id b q f (N4 hm fun r h=>by cases h)
def SOp(P:Program)[j5 P](o:Oper)(s:LS)(N:LS→Prop):Prop:=
 ∀(G:Gh) (M0:Nat→Nat→Prop) (w0:World) (ρ:Nat→Option (Nat×Nat×Nat)) (a:Act) (w:World),j5.ok P w0→D7 G M0 w0 s ρ a w→
  ∃v s' ρ' w',(execOp a.eval o).run P w= .ok (.value v) w'∧N s'∧D7 G M0 w0 s' ρ' (a.put o.dst v) w'
theorem b0s[j5 P](m:Option Nat)(hgl:j5.ok P w0){ops:List Oper}(l2:List Oper):∀(l:List Oper) {s:LS} {ρ:Nat→Option (Nat×Nat×Nat)} {a:Act} {w:World} {K:LS→Prop},D7 G M0 w0 s ρ a w→aQ P ops l s K→
  (∀s' ρ' a' w',K s'→D7 G M0 w0 s' ρ' a' w'→wpListIn (bP m) 0 P ops.toArray Q l2 a' w')→wpListIn (bP m) 0 P ops.toArray Q (l++l2) a w:=by
 intro l
 induction l with
 |nil=>intro s ρ a w K R h hK;exact hK _ _ _ _ h R
 |cons o rest ih=>
  intro s ρ a w K R h hK
  simp only[aQ]at h
  rw[List.cons_append]
  unfold wpListIn
  rcases a7V R h with⟨hw,hd,hx⟩|⟨hw,hd,hr⟩
  ·rw[if_pos hw]
   rcases hx with⟨fx,hx,hr⟩|hx
   ·refine bJ m (iK hx) (nH hgl R.1 hd (fun k _=>LS.free R.2 (by omega)) hx fun ρ' a' w' R'=>?_)
    obtain⟨h1,h2⟩:=wE R.2 hd hx
    exact ih ⟨by rw[h1];exact R',h2⟩ hr hK
   ·exact bJ m (rB hx) (a2X hgl R hd hx fun s' ρ' a' w' hs R'=>ih R' hs hK)
  ·rw[if_neg (by simp [hw])]
   exact⟨fun f _=>jY m f,ih (R.put hd (.v _)) hr hK⟩
theorem c0c {md:Bool} [j5 P] {id:Nat} {k:List KF} (l1:List Oper) (o:Oper) (l2:List Oper) {l:Array Oper} (hl:l=(l1++o::l2).toArray) (hg:o.guard=none) (hnd:∀c,o.op≠ .defer c)
  (h:∀N:LS→Prop,(∀s,X7 (md:=md) P K k .normal s→N s)→gX P (X5 (l1++o::l2)) l1 s (fun s1=>SOp P o s1 (fun s2=>gX P (X5 (l1++o::l2)) l2 s2 N))):AK (md:=md) P (.region id l false) k s K:=by
 subst hl
 intro m hmm G M0 w0 ρ a w Q hgl R hQ
 refine wpIn_region_lit (b0s m hgl (o::l2) l1 R (iT l1 s _ (h _ fun _ k=>k)) fun s1 ρ1 a1 w1 hS R1=>?_)
 obtain⟨v,s2,ρ2,w2,hrun,h2,R2⟩:=hS G M0 w0 ρ1 a1 w1 hgl R1
 unfold wpListIn
 rw[if_pos (by simp [Region.wanted,hg])]
 refine bJ m hnd ?_
 unfold Oper.wp
 rw[hrun]
 exact iU m hgl l2 R2 (iT l2 s2 _ h2) fun s' ρ' a' w' hk R'=>hQ [] _ _ _ _ _ .nil hk (by rw[aU];exact R')
theorem c1x [j5 P] {o:Oper} {t:TypeId} {x:Operand} {n:Nat} {E:TI} {id i k:Nat} {r:Row} {e:List AV} {N:LS→Prop} (ho:o.op= .slice t x none none none) (hD:td P t=some (.array n E)) (hE9:E.size=1) (hd:S7 s o.dst)
  (hx:LS.ev s.t x= .ptr id i k) (hr:LS.hf s.h id= .live r) (hi:r.es[i]?=some e) (hk:k+n≤r.sz) (hpl:e.all AV.plain=true) (hn:0<n)
  (hN:N ((⟨s.t,n4 [(id,i+1)] s.h,s.nx⟩:LS).put o.dst (.a8 true (((e.drop k).take n).map fun c=>[c])))):SOp P o s N:=by
 intro G M0 w0 ρ a w hgl R
 obtain⟨b,β,arr,ty,l1,l2,l3,l4,l5,l6⟩:=R.1.live id r hr
 obtain⟨e',hund,hti⟩:=oO hD
 have hev:=R.1.ev x
 rw[LS.jR,hx]at hev
 have hlen:i<r.es.length:=(List.getElem?_eq_some_iff.1 hi).1
 have he:e.length=r.sz:=l5 e (List.mem_of_getElem? hi)
 have hmul:(i+1)*r.sz≤r.es.length*r.sz:=Nat.mul_le_mul_right _ hlen
 rw[Nat.add_mul,Nat.one_mul]at hmul
 have hu:a.eval x= .pointer (some ⟨b,β+i*r.sz+k,none⟩):=by
  generalize a.eval x=u at hev
  cases hev with
  |ptr _ _ _ b' β' sz' h'=>rw[l1]at h';cases h';rfl
 have R2:=b4m [(id,i+1)] R
 have hrun:(execOp a.eval o).run P w= .ok (.value (.slice (some ⟨b,β+i*r.sz+k,none⟩) n n)) w:=by
  have h1:(Instr.sliceAt t (.pointer (some ⟨b,β+i*r.sz+k,none⟩)) none none none).run P w= .ok (.slice (some ⟨b,β+i*r.sz+k,none⟩) n n) w:=by
   have aF:=C9 hti w
   simp only[Instr.sliceAt,run_underlying hund,Sem.run_bind,Result.andThen_ok,Instr.sureAddr,Instr.sliceBounds,Sem.run_pure,aF,Nat.sub_zero,Nat.zero_mul]
   rw[if_neg (by omega),W6,Nat.add_zero]
  simp only[execOp,ho,Option.map_none,hu]
  exact F9 h1
 refine⟨_,_,ρ,w,hrun,hN,?_⟩
 refine D7.put R2 (eB (by cases hdd:o.dst with|none=>trivial|some d=>rw[hdd]at hd;exact hd)) ?_
 have hfr:∀j,j<n→¬p8 M0 ρ (LS.hf (n4 [(id,i+1)] s.h)) b (β+i*r.sz+k+j):=by
  rintro j hj (g|⟨id',r',β',z',g1,g2,g3⟩)
  ·rcases R.1.m0 b _ g with g|⟨x,g⟩
   ·omega
   ·have:=R.1.dP id r _ hr l1
    rw[this]at g;cases g
  ·rw[kP]at g1
   obtain⟨r0,h0,e0⟩:=N5 g1
   have:id'=id:=R.1.inj id' id r0 r b β' β z' r.sz h0 hr g2 l1
   subst this
   rw[l1]at g2;cases g2
   have h0':LS.hf s.h id'= .live r0:=h0
   rw[hr]at h0';cases h0'
   rw[e0]at g3
   simp only[y0,List.foldl_cons,List.foldl_nil,if_true]at g3
   have:(i+1)*r.sz≤max r.fro (i+1)*r.sz:=Nat.mul_le_mul_right _ (Nat.le_max_right _ _)
   rw[Nat.add_mul,Nat.one_mul]at this
   omega
 have hcell:∀j,j<n→∃c u,e[k+j]?=some c∧arr[β+i*r.sz+(k+j)]?=some u∧s5 (p8 M0 ρ s.o4.h) ρ w c u:=by
  intro j hj
  have h1:k+j<e.length:=by omega
  have h2:β+i*r.sz+(k+j)<arr.size:=by omega
  exact⟨e[k+j],arr[β+i*r.sz+(k+j)],List.getElem?_eq_getElem h1,Array.getElem?_eq_getElem h2,l6 i (k+j) e _ _ hi (List.getElem?_eq_getElem h1) (Array.getElem?_eq_getElem h2)⟩
 have hln:(((e.drop k).take n).map fun c=>[c]).length=n:=by simp;omega
 have hrep:=s5.a8 (M:=p8 M0 ρ (LS.hf (n4 [(id,i+1)] s.h))) (ρ:=ρ) (w:=w) true (((e.drop k).take n).map fun c=>[c]) (some ⟨b,β+i*r.sz+k,none⟩) n b (β+i*r.sz+k) 1 (fun i' j'=>arr.getD (β+i*r.sz+k+i'+j') undef) (by rw[hln];exact Nat.le_refl _) (fun _=>hln.symm)
  (fun z hz=>by
   simp only[List.mem_map]at hz
   obtain⟨c,_,rfl⟩:=hz
   rfl)
  (fun _=>rfl)
  (fun i' j' hi' hj'=>by
   rw[hln]at hi'
   obtain rfl:j'=0:=by omega
   refine⟨by rw[Nat.mul_one,Nat.add_zero];exact hfr i' hi',?_⟩
   obtain⟨c,u,_,h2,_⟩:=hcell i' hi'
   rw[eA l3,Nat.mul_one,Nat.add_zero,show β+i*r.sz+k+i'=β+i*r.sz+(k+i') by omega,h2]
   rw[Array.getD_eq_getD_getElem?];first|(rw[h2];rfl)|(rw[show β+i*r.sz+(k+i')+0=β+i*r.sz+(k+i') by omega,h2];rfl))
  (fun i' j' e2 x2 h1 h2=>by
   have hi':i'<n:=by have:=(List.getElem?_eq_some_iff.1 h1).1;rw[hln]at this;exact this
   obtain⟨c,u,g1,g2,g3⟩:=hcell i' hi'
   rw[List.getElem?_map,List.getElem?_take_of_lt hi',List.getElem?_drop,g1]at h1
   cases h1
   cases j' with
   |succ j'=>simp at h2
   |zero=>
    simp only[List.getElem?_cons_zero,Option.some.injEq]at h2
    subst h2
    rw[Array.getD_eq_getD_getElem?,show β+i*r.sz+k+i'+0=β+i*r.sz+(k+i') by omega,g2]
    have hc:c.plain=true:=List.all_eq_true.1 hpl c (List.mem_of_getElem? g1)
    have g4:s5 (p8 M0 ρ (raise [(id,i+1)] s.o4.h)) (fun _=>none) w c u:=g3.raise.Z4 hc
    rw[kP];exact g4)
 rw[hln]at hrep
 exact hrep
end
end
end Go.Ab
end
section
namespace Go.Ab
section
section
variable {P:Program} {K:Exit→LS→Prop} {s:LS}
def oI{md:Bool}(P:Program)[j5 P](c:Code)(K:Exit→LS→Prop):List Unit→LS→Prop
 |[],_=>False
 |_::l,s=>AK (md:=md) P c [] s (O9 (oI (md:=md) P c K l) K)
theorem aG{md:Bool}[j5 P]{c:Code}{u:Unit}{l:List Unit}:oI (md:=md) P c K (u::l) s=AK (md:=md) P c [] s (O9 (oI (md:=md) P c K l) K):=rfl
theorem x9{md:Bool}[j5 P]{c:Code}{k:List KF}(l:List Unit)(h:oI (md:=md) P c (X7 (md:=md) P K k) l s):AK (md:=md) P (.loop c) k s K:=by
 intro m hmm G M0 w0 ρ a w Q hgl R hQ
 refine wpIn_loop_rounds l.length ?_
 suffices H:∀(l:List Unit) (s:LS) (Ds:List Nat) (ρ:Nat→Option (Nat×Nat×Nat)) (a:Act) (w:World),jK w0 G Ds→D7 (Y7 G Ds) M0 w0 s ρ a w→oI (md:=md) P c (X7 (md:=md) P K k) l s→Code.roundsIn (bP m) 0 P c Q l.length a w from H l s [] ρ a w .nil (by rw[aU];exact R) h
 intro l
 induction l with
 |nil=>intro s Ds ρ a w _ _ h;exact h.elim
 |cons u l ih=>
  intro s Ds ρ a w hD R h
  rw[List.length_cons,roundsIn_succ]
  refine h m hmm (Y7 G Ds) M0 w0 ρ a w _ hgl R fun D2 e s' ρ' a' w' hD2 hk R'=>?_
  have hD3:=hD.cI hD2
  rw[wU]at R'
  cases e with
  |normal=>exact ih s' _ ρ' a' w' hD3 R' hk
  |_=>exact hQ _ _ _ _ _ _ hD3 hk R'
theorem b2b:∀(rs:List Row) (nid:Nat),∀p∈e9 nid rs,p.1<nid+rs.length
 |[],_,_,h=>by simp [e9]at h
 |r::rs,nid,p,h=>by
  simp only[e9,List.mem_cons]at h
  rcases h with rfl|h
  ·simp
  ·have:=b2b rs (nid+1) p h;simp;omega
theorem b0N(ks:List Nat){t:List AV}{h:List (Nat×RS)}{nx nx':Nat}{s'':LS}(hlt:∀p∈h,p.1<nx')(e:(⟨nT ks 0 t,h,nx'⟩:LS)=s''):N3 ⟨t,h,nx⟩ s'':=by
 subst e
 intro G M0 w0 ρ a w R
 obtain⟨ρ',R',_⟩:=b9Z (pR ks t 0) (fun j=>xH ks t 0 j) G M0 w0 ρ a w R
 exact⟨ρ',R',hlt⟩
theorem b5I {md:Bool} [j5 P] {id:Nat} {k:List KF} (n:Nat) {L:List Oper} {o:Oper} (ho:L[n]?=some o) (hg:o.guard=none) (hnd:∀c,o.op≠ .defer c)
  (h:∀N N2:LS→Prop,(∀s,X7 (md:=md) P K k .normal s→N s)→(∀s2,gX P (X5 L) (L.drop (n+1)) s2 N→N2 s2)→gX P (X5 L) (L.take n) s (fun s1=>SOp P o s1 N2)):AK (md:=md) P (.region id L.toArray false) k s K:=by
 have hl:L=L.take n++o::L.drop (n+1):=by
  obtain⟨hlt,e⟩:=List.getElem?_eq_some_iff.1 ho
  rw[←e,←List.drop_eq_getElem_cons hlt,List.take_append_drop]
 refine c0c (L.take n) o (L.drop (n+1)) (congrArg List.toArray hl) hg hnd fun N hN=>?_
 rw[←hl]
 exact h N _ hN fun s2 h2=>h2
end
end
end Go.Ab
end
section
namespace Go.Ab
open Go.RowKit (Below)
section
theorem zG{F:Fence}(hd:F.depth=none){n n':Nat}{P:Program}{c:Code}{Q:Exit→Act→World→Prop}{a:Act}{w:World}(h:c.wpIn F n P Q a w):c.wpIn F n' P Q a w:=
 fun b k cs hro hb _=>h b k cs hro hb (fun _ hh=>by rw[hd]at hh;cases hh)
section
variable {M0:Nat→Nat→Prop} {w0:World} {ρ:Nat→Option (Nat×Nat×Nat)} {a:Act} {w:World} {G:Gh} {P:Program} {s:LS}
def ghG(G:Gh)(a:Act)(t:List AV)(keep:List Nat)(k:Nat):Gh:=
 {g:=fun l i=>if l=k then a.tmps.getD (keep.getD i 0) undef else G.g l i,fr:=fun x u=>G.fr x u∨∃j,x=LS.tf (Y2 t) j∧u=a.tmps.getD j undef,kp:=G.kp,sh:=G.sh,df:=[]}
theorem b6N{t:List AV}{a1:Act}{keep:List Nat}{k:Nat}(R:D7 G M0 w0 s ρ a w)(hn1:a1.tmps.size=t.length)(ht1:∀j,s5 (p8 M0 ρ s.o4.h) ρ w (LS.tf t j) (a1.tmps.getD j undef))(hfresh:b7 k s.h)(hd:a1.defers=[]):
  D7 (ghG G a s.t keep k) M0 w0 ⟨t,s.h++[(s.nx,.u5 k (keep.map (LS.tf s.t)))],s.nx+8⟩ ρ a1 w:=by
 have hh:∀id,LS.hf (s.h++[(s.nx,.u5 k (keep.map (LS.tf s.t)))]) id=if id=s.nx then .u5 k (keep.map (LS.tf s.t))else s.o4.h id:=fun id=>a32 R.2 id
 have hfree:s.o4.h s.nx= .free:=LS.free R.2 (Nat.le_refl _)
 have hM:p8 M0 ρ (LS.hf (s.h++[(s.nx,.u5 k (keep.map (LS.tf s.t)))]))=p8 M0 ρ s.o4.h:=bT fun id r=>by
  rw[hh]
  by_cases hid:id=s.nx
  ·subst hid;rw[if_pos rfl,hfree];simp
  ·rw[if_neg hid]
 refine⟨⟨hn1,?_,?_,?_,?_,R.1.T1,R.1.m0,hd,?_,?_,?_,R.1.gT,?_,?_,R.1.oS⟩,?_⟩
 ·intro j
  show s5 (p8 M0 ρ (LS.hf (s.h++[(s.nx,.u5 k (keep.map (LS.tf s.t)))]))) ρ w _ _
  rw[hM];exact ht1 j
 ·intro id r h
  have h:LS.hf (s.h++[(s.nx,.u5 k (keep.map (LS.tf s.t)))]) id= .live r:=h
  rw[hh]at h
  by_cases hid:id=s.nx
  ·rw[if_pos hid]at h;cases h
  ·rw[if_neg hid]at h
   show∃b β arr e,ρ id=some (b,β,r.sz)∧_∧_∧_∧_∧∀(i j:Nat) e x u,_→_→_→s5 (p8 M0 ρ (LS.hf (s.h++[(s.nx,.u5 k (keep.map (LS.tf s.t)))]))) ρ w x u
   rw[hM];exact R.1.live id r h
 ·intro id h
  have h:LS.hf (s.h++[(s.nx,.u5 k (keep.map (LS.tf s.t)))]) id= .free:=h
  rw[hh]at h
  by_cases hid:id=s.nx
  ·rw[if_pos hid]at h;cases h
  ·rw[if_neg hid]at h;exact R.1.free id h
 ·intro id id' r r' b β β' z z' h h'
  have h:LS.hf (s.h++[(s.nx,.u5 k (keep.map (LS.tf s.t)))]) id= .live r:=h
  have h':LS.hf (s.h++[(s.nx,.u5 k (keep.map (LS.tf s.t)))]) id'= .live r':=h'
  rw[hh]at h h'
  by_cases hid:id=s.nx
  ·rw[if_pos hid]at h;cases h
  ·by_cases hid':id'=s.nx
   ·rw[if_pos hid']at h';cases h'
   ·rw[if_neg hid]at h;rw[if_neg hid']at h';exact R.1.inj id id' r r' b β β' z z' h h'
 ·intro id l cs h i x hx
  show s5 (p8 M0 ρ (LS.hf (s.h++[(s.nx,.u5 k (keep.map (LS.tf s.t)))]))) ρ w x _
  rw[hM]
  have h:LS.hf (s.h++[(s.nx,.u5 k (keep.map (LS.tf s.t)))]) id= .u5 l cs:=h
  rw[hh]at h
  by_cases hid:id=s.nx
  ·rw[if_pos hid]at h
   cases h
   simp only[ghG,if_true]
   rw[List.getElem?_map]at hx
   cases hk:keep[i]? with
   |none=>rw[hk]at hx;cases hx
   |some j=>
    rw[hk]at hx
    cases hx
    rw[List.getD_eq_getElem?_getD,hk,Option.getD_some]
    exact R.1.tm j
  ·rw[if_neg hid]at h
   have:=kM hfresh h
   simp only[ghG,if_neg this]
   exact R.1.nL id l cs h i x hx
 ·intro x u hx
  show s5 (p8 M0 ρ (LS.hf (s.h++[(s.nx,.u5 k (keep.map (LS.tf s.t)))]))) _ w x u
  rw[hM]
  rcases hx with hx|⟨t,rfl,rfl⟩
  ·exact R.1.lX x u hx
  ·exact a8b R t
 ·intro id b q f h
  have h:LS.hf (s.h++[(s.nx,.u5 k (keep.map (LS.tf s.t)))]) id= .mp b q f:=h
  rw[hh]at h
  by_cases hid:id=s.nx
  ·rw[if_pos hid]at h;cases h
  ·rw[if_neg hid]at h;exact R.1.jF id b q f h
 ·intro id r p h hp
  have h:LS.hf (s.h++[(s.nx,.u5 k (keep.map (LS.tf s.t)))]) id= .live r:=h
  rw[hh]at h
  by_cases hid:id=s.nx
  ·rw[if_pos hid]at h;cases h
  ·rw[if_neg hid]at h;exact R.1.dP id r p h hp
 ·intro id b q f h
  have h:LS.hf (s.h++[(s.nx,.u5 k (keep.map (LS.tf s.t)))]) id= .mp b q f:=h
  rw[hh]at h
  by_cases hid:id=s.nx
  ·rw[if_pos hid]at h;cases h
  ·rw[if_neg hid]at h;exact R.1.nX id b q f h
 ·intro p hp
  simp only[List.mem_append,List.mem_singleton]at hp⊢
  rcases hp with hp|rfl
  ·have:=R.2 p hp;omega
  ·simp
theorem b3C{id:Nat}{p:Nat×RS}:∀{l:List (Nat×RS)},p∈B7 id l→∃q∈l,q.1=p.1:=by
 intro l
 induction l with
 |nil=>intro h;cases h
 |cons q l ih=>
  intro h
  simp only[B7,List.mem_cons]at h
  rcases h with h|h
  ·refine⟨q,by simp,?_⟩
   split at h
   ·rw[h]
   ·rw[h]
  ·obtain⟨q',h1,h2⟩:=ih h
   exact⟨q',List.mem_cons_of_mem _ h1,h2⟩
theorem a9U {t:List AV} {keep:List Nat} {k:Nat} {s':LS} {ρ':Nat→Option (Nat×Nat×Nat)} {a':Act} {w':World} {id:Nat} {cs:List AV} (R':D7 (ghG G a t keep k) M0 w0 s' ρ' a' w')
  (q1:LS.hf s'.h id= .u5 k cs) (q2:b7 k (B7 id s'.h)) (hn:a.tmps.size=t.length) (hd:a.defers=G.df):D7 G M0 w0 ⟨o3 (Y2 t) keep cs,B7 id s'.h,s'.nx⟩ ρ' a w':=by
 have hg:∀id',LS.hf (B7 id s'.h) id'=if id'=id then .gone else LS.hf s'.h id':=fun id'=>a7X id s'.h id' (by rw[q1];intro h;cases h)
 have hM2:p8 M0 ρ' (LS.hf (B7 id s'.h))=p8 M0 ρ' s'.o4.h:=bT fun id' r=>by
  rw[hg]
  by_cases hid:id'=id
  ·subst hid
   rw[if_pos rfl]
   show RS.gone=RS.live r↔LS.hf s'.h id'= .live r
   rw[q1];simp
  ·rw[if_neg hid];rfl
 have hkt:∀i,s5 (p8 M0 ρ' s'.o4.h) ρ' w' (LS.tf (Y2 t) i) (a.tmps.getD i undef):=fun i=>(R'.1.lX _ _ (.inr ⟨i,rfl,rfl⟩)).up
 obtain⟨l1,l2⟩:=a7m (ρ:=ρ') (w:=w') keep (Y2 t) cs hkt (fun i y hy hi=>by
  have:=R'.1.nL id k cs q1 i y hy
  simpa[ghG]using this)
 refine⟨⟨?_,?_,?_,?_,?_,R'.1.T1,R'.1.m0,hd,?_,?_,?_,R'.1.gT,?_,?_,R'.1.oS⟩,?_⟩
 ·show a.tmps.size=(o3 (Y2 t) keep cs).length
  rw[l1];simp [Y2];exact hn
 ·intro i
  show s5 (p8 M0 ρ' (LS.hf (B7 id s'.h))) ρ' w' _ _
  rw[hM2];exact l2 i
 ·intro id' r h
  have h:LS.hf (B7 id s'.h) id'= .live r:=h
  rw[hg]at h
  by_cases hid:id'=id
  ·rw[if_pos hid]at h;cases h
  ·rw[if_neg hid]at h
   show∃b β arr e,ρ' id'=some (b,β,r.sz)∧_∧_∧_∧_∧∀(i j:Nat) e x u,_→_→_→s5 (p8 M0 ρ' (LS.hf (B7 id s'.h))) ρ' w' x u
   rw[hM2];exact R'.1.live id' r h
 ·intro id' h
  have h:LS.hf (B7 id s'.h) id'= .free:=h
  rw[hg]at h
  by_cases hid:id'=id
  ·rw[if_pos hid]at h;cases h
  ·rw[if_neg hid]at h;exact R'.1.free id' h
 ·intro i1 i2 r r' b β β' z z' h h'
  have h:LS.hf (B7 id s'.h) i1= .live r:=h
  have h':LS.hf (B7 id s'.h) i2= .live r':=h'
  rw[hg]at h h'
  by_cases hid:i1=id
  ·rw[if_pos hid]at h;cases h
  ·by_cases hid':i2=id
   ·rw[if_pos hid']at h';cases h'
   ·rw[if_neg hid]at h;rw[if_neg hid']at h';exact R'.1.inj i1 i2 r r' b β β' z z' h h'
 ·intro id' l cs' h i y hy
  show s5 (p8 M0 ρ' (LS.hf (B7 id s'.h))) ρ' w' _ _
  rw[hM2]
  have h:LS.hf (B7 id s'.h) id'= .u5 l cs':=h
  have hlk:=kM q2 h
  rw[hg]at h
  by_cases hid:id'=id
  ·rw[if_pos hid]at h;cases h
  ·rw[if_neg hid]at h
   have:=R'.1.nL id' l cs' h i y hy
   simpa only[ghG,if_neg hlk]using this
 ·intro y u hy
  show s5 (p8 M0 ρ' (LS.hf (B7 id s'.h))) (fun _=>none) w' _ _
  rw[hM2];exact R'.1.lX y u (.inl hy)
 ·intro id' b q f h
  have h:LS.hf (B7 id s'.h) id'= .mp b q f:=h
  rw[hg]at h
  by_cases hid:id'=id
  ·rw[if_pos hid]at h;cases h
  ·rw[if_neg hid]at h;exact R'.1.jF id' b q f h
 ·intro id' r p h hp
  have h:LS.hf (B7 id s'.h) id'= .live r:=h
  rw[hg]at h
  by_cases hid:id'=id
  ·rw[if_pos hid]at h;cases h
  ·rw[if_neg hid]at h;exact R'.1.dP id' r p h hp
 ·intro id' b q f h
  have h:LS.hf (B7 id s'.h) id'= .mp b q f:=h
  rw[hg]at h
  by_cases hid:id'=id
  ·rw[if_pos hid]at h;cases h
  ·rw[if_neg hid]at h;exact R'.1.nX id' b q f h
 ·intro p hp
  obtain⟨q,h1,h2⟩:=b3C hp
  rw[←h2];exact R'.2 q h1
end
end
section
section
variable {M0:Nat→Nat→Prop} {w0:World} {ρ:Nat→Option (Nat×Nat×Nat)} {a a2:Act} {w w2:World} {G G2:Gh} {P:Program} {s:LS}
def b0j(h:List (Nat×RS)):Prop:=∀id b q f,LS.hf h id≠ .mp b q f
theorem D7.a86 (R:D7 G M0 w0 s ρ a w) (hmp:b0j s.h) (ht:a2.tmps=a.tmps) (hg:G2.g=G.g) (hf:∀x u,G2.fr x u→G.fr x u) (hsh:G2.sh=G.sh)
  (h1:∀(b:Nat) (arr:Array Value) (e:TypeId) (fr:Nat×Nat),w.heap[b]?=some (.cells arr e fr)→w2.heap[b]?=some (.cells arr e fr))
  (hb:Below w0.heap.size w0 w2) (hk:∀b o,G2.kp b=some o→w2.heap[b]?=some o) (hkc:∀b arr e fr,w.heap[b]?=some (.cells arr e fr)→G.kp b=none→G2.kp b=none)
  (hm:∀b o,M0 b o→b<w0.heap.size∨∃x,G2.kp b=some x) (hd:a2.defers=G2.df):D7 G2 M0 w0 s ρ a2 w2:=by
 obtain⟨R,hok⟩:=R
 have mono:∀{M:Nat→Nat→Prop} {ρ':Nat→Option (Nat×Nat×Nat)} {x:AV} {u:Value},s5 M ρ' w x u→s5 M ρ' w2 x u:=fun hr=>hr.mono (fun _ _ h=>h) (fun _ _ _ g1 g2=>⟨g1,pI h1 g2⟩) (fun _ _ h=>fE h1 h)
 refine⟨⟨by rw[ht];exact R.n,fun t=>by rw[ht];exact mono (R.tm t),fun id r hr=>?_,R.free,R.inj,hb,hm,hd,fun id k cs hc i x hx=>by rw[hg];exact mono (R.nL id k cs hc i x hx),fun x u hx=>mono (R.lX x u (hf x u hx)),fun id b q f h=>absurd h (hmp id b q f),hk,fun id r p hr hp=>?_,fun id b q f h=>absurd h (hmp id b q f),fun b x hx=>fE h1 (R.oS b x (by rw[←hsh];exact hx))⟩,hok⟩
 ·obtain⟨b,β,arr,e,l1,l2,l3,l4,l5,l6⟩:=R.live id r hr
  exact⟨b,β,arr,e,l1,l2,h1 _ _ _ _ l3,l4,l5,fun i j e' x u g1 g2 g3=>mono (l6 i j e' x u g1 g2 g3)⟩
 ·obtain⟨b,β,arr,e,l1,l2,l3,_⟩:=R.live id r hr
  rw[l1]at hp;cases hp
  exact hkc _ _ _ _ l3 (R.dP id r _ hr l1)
def cQ(G:Gh)(w:World):Gh:={G with kp:=fun b=>match w.heap[b]? with|some o=>if o.isCells then G.kp b else some o|none=>G.kp b}
theorem pA(R:D7 G M0 w0 s ρ a w){b:Nat}{o:Obj}(h:G.kp b=some o):(cQ G w).kp b=some o:=by
 have hw:=R.1.gT b o h
 simp only[cQ,hw]
 split
 ·exact h
 ·rfl
theorem D7.big(R:D7 G M0 w0 s ρ a w)(hmp:b0j s.h):D7 (cQ G w) M0 w0 s ρ a w:=by
 refine R.a86 hmp rfl rfl (fun _ _ h=>h) rfl (fun _ _ _ _ h=>h) R.1.T1 (fun b o h=>?_) (fun b arr e fr h hn=>?_) (fun b o h=>?_) R.1.defers
 ·simp only[cQ]at h
  cases hw:w.heap[b]? with
  |none=>rw[hw]at h;have:=R.1.gT b o h;rw[hw]at this;cases this
  |some x=>
   rw[hw]at h
   simp only at h
   split at h
   ·have:=R.1.gT b o h;rw[hw]at this;exact this
   ·exact h
 ·simp only[cQ,h,Obj.isCells,if_true];exact hn
 ·rcases R.1.m0 b o h with h|⟨x,h⟩
  ·exact .inl h
  ·exact .inr ⟨x,pA R h⟩
def HX(X:Nat→Nat→Value→Prop)(W:World):Prop:=∀b o c,X b o c→W.cell? ⟨b,o,none⟩=some c
def a9b(G:Gh)(X:Nat→Nat→Value→Prop):Gh:={G with fr:=fun x u=>G.fr x u∨∃b o c,X b o c∧x= .aA [[.v c]] 0 0∧u= .pointer (some ⟨b,o,none⟩)}
theorem HX.of{X:Nat→Nat→Value→Prop}(R:D7 (a9b G X) M0 w0 s ρ a w):HX X w:=by
 intro b o c h
 have:=R.1.lX (.aA [[.v c]] 0 0) (.pointer (some ⟨b,o,none⟩)) (.inr ⟨b,o,c,h,rfl,rfl⟩)
 generalize hu:Value.pointer (some ⟨b,o,none⟩)=u at this
 cases this with
 |aA es i k b' o' sz cell hi hk aF hm hr=>
  simp only[Value.pointer.injEq,Option.some.injEq,Addr.mk.injEq,Nat.zero_mul,Nat.add_zero,and_true]at hu
  obtain⟨rfl,rfl⟩:=hu
  have h1:=(hm 0 0 (by simp) (by omega)).2
  have h2:=(hr 0 0 [.v c] (.v c) rfl rfl).Y4
  rw[h2]at h1
  simpa using h1
theorem D7.a9b{X:Nat→Nat→Value→Prop}(R:D7 G M0 w0 s ρ a w)(hX:∀b o c,X b o c→¬p8 M0 ρ s.o4.h b o∧w.cell? ⟨b,o,none⟩=some c):D7 (a9b G X) M0 w0 s ρ a w:=by
 refine⟨⟨R.1.n,R.1.tm,R.1.live,R.1.free,R.1.inj,R.1.T1,R.1.m0,R.1.defers,R.1.nL,fun x u hx=>?_,R.1.jF,R.1.gT,R.1.dP,R.1.nX,R.1.oS⟩,R.2⟩
 rcases hx with hx|⟨b,o,c,hx,rfl,rfl⟩
 ·exact R.1.lX x u hx
 ·obtain⟨h1,h2⟩:=hX b o c hx
  have:=s5.aA (M:=p8 M0 ρ s.o4.h) (ρ:=fun _=>none) (w:=w) [[.v c]] 0 0 b o 1 (fun _ _=>c) (by simp) (by omega) (by simp) (fun i j hi hj=>by
   have:i=0:=by simpa using hi
   have:j=0:=by omega
   subst this;subst i
   exact⟨h1,h2⟩) (fun i j e x h1 h2=>by
   cases i with
   |zero=>
    cases h1
    cases j with
    |zero=>cases h2;exact .v _
    |succ j=>simp at h2
   |succ i=>simp at h1)
  simpa using this
end
def c4c(t:List AV)(keep:List Nat)(lab:Nat)(Nx:LS):LS→Prop:=fun s2=>∃id cs,LS.hf s2.h id= .u5 lab cs∧b7 lab (B7 id s2.h)∧b0j s2.h∧N3 ⟨o3 (Y2 t) keep cs,B7 id s2.h,s2.nx⟩ Nx
def b7V(t:List AV)(h:List (Nat×RS))(nx:Nat)(keep:List Nat)(lab:Nat)(p1 p2:Tmp)(x1 x2:AV):LS:=
 ⟨(t.set p1 x1).set p2 x2,h++[(nx,.u5 lab (keep.map (LS.tf t)))],nx+8⟩
theorem b23 {P:Program} [j5 P] {g:Operand} {p1 p2:Tmp} {assign body:Code} {s:LS} {K:Exit→LS→Prop} {gf:FuncId} {α:Type} (N:Nat) (v1 v2:α→Value) (x1 x2:α→AV) (S:List α→LS) (Sq:List α→Prop) (lab:Nat) (keep:List Nat)
  (hv:∀x,(∀M ρ w,s5 M ρ w (x1 x) (v1 x))∧∀M ρ w,s5 M ρ w (x2 x) (v2 x))
  (hcal:eU P gf) (hw:N3 s (S [])) (hp:∀pre,p1<(S pre).t.length∧p2<(S pre).t.length) (hmp:∀pre,b0j (S pre).h) (hfr:∀pre,b7 lab (S pre).h)
  (hit:∀(G:Gh) (M0:Nat→Nat→Prop) (w0:World) (ρ:Nat→Option (Nat×Nat×Nat)) (a:Act) (w:World),D7 G M0 w0 (S []) ρ a w→∃lb,a.eval g= .func (.func gf) #[] lb∧
   ∀X:Nat→Nat→Value→Prop,(∀b o c,¬p8 M0 ρ (S []).o4.h b o→w.cell? ⟨b,o,none⟩=some c→X b o c)→HX X w→
    SeqStopsK Fence.wide 2 P gf lb (fun x=> #[v1 x,v2 x]) (fun W W'=>HX X W→HX X W') Sq (fun _=>True) N w)
  (hround:∀pre x,pre.length<N→fI (md:=true) P assign (b7V (S pre).t (S pre).h (S pre).nx keep lab p1 p2 (x1 x) (x2 x))
   (O9 (fun s1=>b0j s1.h∧fI (md:=true) P body s1 (O9 (c4c (S pre).t keep lab (S (pre++[x]))) (fun _ _=>False))) (fun _ _=>False)))
  (hK:∀xs,Sq xs→K .normal (S xs)):fI (md:=false) P (.rangeFunc g #[p1,p2] assign body) s K:=by
 intro m hm G M0 w0 ρ a w Q hgl R hQ
 obtain rfl:=hm rfl
 obtain⟨ρ1,R1⟩:=hw G M0 w0 ρ a w R
 obtain⟨lb,hev,hseq⟩:=hit G M0 w0 ρ1 a w R1
 obtain⟨X,hX⟩:∃X:Nat→Nat→Value→Prop,X=fun b o c=>¬p8 M0 ρ1 (S []).o4.h b o∧w.cell? ⟨b,o,none⟩=some c:=⟨_,rfl⟩
 have hXw:HX X w:=fun b o c h=>by rw[hX]at h;exact h.2
 have hseq:=hseq X (fun b o c h1 h2=>by rw[hX];exact⟨h1,h2⟩) hXw
 obtain⟨G1,hG1⟩:∃G1,G1=a9b G X:=⟨_,rfl⟩
 have R2:D7 G1 M0 w0 (S []) ρ1 a w:=by rw[hG1];exact R1.a9b (fun b o c h=>by rw[hX]at h;exact h)
 have hkB:∀b o,G1.kp b=some o→b<w.heap.size:=fun b o h=>A4 (R2.1.gT b o h)
 have aF:=R2.1.T1.size
 have hdf:a.defers=G1.df:=R2.1.defers
 have hm0:=R2.1.m0
 have hX1:∀{sx:LS} {ρx:Nat→Option (Nat×Nat×Nat)} {ax:Act} {W:World},D7 G1 M0 w0 sx ρx ax W→HX X W:=fun Rx=>by rw[hG1]at Rx;exact HX.of Rx
 obtain⟨fnr,hfn,hbody,hname⟩:=hcal
 have heg:∀args w,(callFunc gf args).run P w= .ok (.enter gf args) w:=fun args w=>by
  have hb:fnr.body.isNone=false:=by cases hb:fnr.body with|none=>rw[hb]at hbody;cases hbody|some _=>rfl
  simp only[callFunc,Sem.run_bind,run_program,Result.andThen_ok,hfn,hname,hb,Bool.false_eq_true,if_false,Sem.run_pure]
 have grown:∀{Gx:Gh} {sx:LS} {ρx:Nat→Option (Nat×Nat×Nat)} {ax:Act} {A B:World} {row:Option Nat},(∀b o,Gx.kp b=some o→b<w.heap.size)→b0j sx.h→D7 Gx M0 w0 sx ρx ax A→A.grownBy B row→
   (∀r,row=some r→w.heap.size≤r∧∃o:Obj,A.heap[r]?=some o∧o.isCells=false)→D7 Gx M0 w0 sx ρx ax B:=by
  intro Gx sx ρx ax A B row hkx hmx Rx hg hr
  have blk:∀(b:Nat) (o:Obj),A.heap[b]?=some o→(∀r,row=some r→r≠b)→B.heap[b]?=some o:=fun b o h hne=>(hg.block b (A4 h) (fun e=>hne b e.symm rfl)).trans h
  refine Rx.a86 hmx rfl rfl (fun _ _ h=>h) rfl (fun b arr e fr h=>blk b _ h fun r hr2 e2=>?_) ?_ (fun b o h=>blk b _ (Rx.1.gT b o h) fun r hr2 e2=>?_) (fun _ _ _ _ _ h=>h) Rx.1.m0 Rx.1.defers
  ·subst e2
   obtain⟨_,o,ho,hc⟩:=hr r hr2
   rw[h]at ho;cases ho;cases hc
  ·have hb:=Rx.1.T1
   refine⟨hg.os.trans hb.os,hg.tape.trans hb.tape,hg.output.trans hb.output,Nat.le_trans hb.size hg.size,fun k hk=>?_⟩
   have hlt:k<A.heap.size:=Nat.lt_of_lt_of_le hk hb.size
   refine(hg.block k hlt (fun e=>?_)).trans (hb.block k hk)
   have:=(hr k e.symm).1
   omega
  ·subst e2
   have:=(hr r hr2).1
   have:=hkx r o h
   omega
 refine zG (dJ none) (n:=3) ?_
 have key:(Code.rangeFunc g #[p1,p2] assign body).wpIn Fence.wide 3 P Q a w:=by
  refine wpIn_rangeFunc ?_
  intro fn hfnn
  obtain⟨rec,hrec⟩:∃rec:LoopState→Loop,rec=fun st=>{state:=st,pending:=none,fn,tmps:=a.tmps,params:= #[p1,p2],assign,body,defers:=w.heap.size}:=⟨_,rfl⟩
  obtain⟨l,hl⟩:∃l,l=w.heap.size+1:=⟨_,rfl⟩
  obtain⟨W1,hW1⟩:∃W1,W1=(w.alloc (.deferred (some []))).alloc (.loop (rec .ready)):=⟨_,rfl⟩
  have hL1:W1.heap[l]?=some (.loop (rec .ready)):=by
   rw[hW1,hl];have:=World.alloc_heap_new (w.alloc (.deferred (some []))) (.loop (rec .ready));rwa [World.size_alloc]at this
  have hD1:W1.heap[w.heap.size]?=some (.deferred (some [])):=by
   rw[hW1];exact(Below.heap_alloc _ _ _ (by simp)).trans (World.alloc_heap_new w _)
  have hs1:W1.heap.size=w.heap.size+2:=by rw[hW1];simp
  have R3:D7 G1 M0 w0 (S []) ρ1 a W1:=by
   rw[hW1]
   refine grown hkB (hmp _) (grown hkB (hmp _) R2 (World.grownBy_alloc _ _ none) (fun r e=>by cases e)) (World.grownBy_alloc _ _ none) (fun r e=>by cases e)
  have hb1:Below w.heap.size w W1:=by
   rw[hW1];exact(((Below.refl _ w).alloc (Nat.le_refl _) _).alloc (by simp) _)
  refine⟨l,[a4j w.heap.size],W1,{target:= .fn (.func gf) lb,args:= #[.func (.yield l) #[] #[]]},W1,gf, #[.func (.yield l) #[] #[]]++lb,W1,?_,?_,fun _ _=>trivial,?_,fun _=>by omega,?_⟩
  ·rw[hW1,hrec,hl];exact run_enterLoop_outer _ _ _ _ _
  ·simp only[resolve,hev]
   simp [go_sem]
  ·simp [invoke,go_sem,heg]
  obtain⟨J,hJ⟩:∃J:List α→World→Prop,J=fun pre W=>(∃ρx,D7 G1 M0 w0 (S pre) ρx a W)∧W.heap[l]?=some (.loop (rec .ready))∧W.heap[w.heap.size]?=some (.deferred (some [])):=⟨_,rfl⟩
  refine(hseq l J (fun _ _=>False) W1 hb1 ?_ (fun _ _ _ _ h=>h.elim) ?_ (by rw[hJ];exact⟨⟨ρ1,R3⟩,hL1,hD1⟩)).mono ?_
  ·intro pre A B row hs hg hr
   rw[hJ]at hs⊢
   obtain⟨⟨ρx,Rx⟩,q1,q2⟩:=hs
   refine⟨⟨ρx,grown hkB (hmp _) Rx hg fun r e=>?_⟩,(grownBy_keeps hg (fun r e=>(hr r e).2) q1 rfl).trans q1,(grownBy_keeps hg (fun r e=>(hr r e).2) q2 rfl).trans q2⟩
   obtain⟨hB,o,ho,hw⟩:=hr r e
   exact⟨by omega,o,ho,Obj.not_cells_of_walk hw⟩
  ·
   intro pre x W hj hlen
   rw[hJ]at hj
   obtain⟨⟨ρx,Rx⟩,q1,q2⟩:=hj
   have hy:=run_yield (P:=P) (args:= #[v1 x,v2 x]) q1 (by rw[hrec];rfl)
   rw[hrec]at hy
   refine⟨fn,_,assign,body,hy,roundIn_of_wpIn hfnn ?_⟩
   refine zG (dJ (some l)) (n:=0) ?_
   obtain⟨a1,ha1⟩:∃a1:Act,a1={tmps:=(#[p1,p2].zip #[v1 x,v2 x]).foldl (fun t (p,v)=>t.setIfInBounds p v) a.tmps,defers:=[]}:=⟨_,rfl⟩
   rw[←ha1]
   have Rb:=Rx.big (hmp _)
   have Rp:D7 (cQ G1 W) M0 w0 (((S pre).put (some p1) (x1 x)).put (some p2) (x2 x)) ρx ((a.put (some p1) (v1 x)).put (some p2) (v2 x)) W:=
    D7.put (d:=some p2) (D7.put (d:=some p1) Rb (hp pre).1 ((hv x).1 _ _ _)) (by show p2<((S pre).t.set p1 (x1 x)).length;rw[List.length_set];exact(hp pre).2) ((hv x).2 _ _ _)
   have hat:a1.tmps=((a.put (some p1) (v1 x)).put (some p2) (v2 x)).tmps:=by rw[ha1];simp [Act.put]
   have Ri:D7 (ghG (cQ G1 W) a (S pre).t keep lab) M0 w0 (b7V (S pre).t (S pre).h (S pre).nx keep lab p1 p2 (x1 x) (x2 x)) ρx a1 W:=
    b6N (t:=((S pre).t.set p1 (x1 x)).set p2 (x2 x)) Rb (by rw[hat];exact Rp.1.n) (fun j=>by rw[hat];exact Rp.1.tm j) (hfr _) (by rw[ha1])
   have hkl:(cQ G1 W).kp l=some (.loop (rec .ready)):=by simp only[cQ,q1,Obj.isCells];rfl
   have hkD:(cQ G1 W).kp w.heap.size=some (.deferred (some [])):=by simp only[cQ,q2,Obj.isCells];rfl
   refine hround pre x hlen (some l) (fun h=>by cases h) _ M0 w0 ρx a1 W _ hgl Ri ?_
   intro Ds e s1 ρ2 a2 W2 hDs hs1 R4
   cases e with
   |normal=>
    obtain⟨hm1,hbd⟩:=hs1
    have ne1:∀b o,(cQ G1 W).kp b=some o→b∉Ds:=fun b o h hb=>by have:=(hDs.2 b hb).2;simp only[ghG]at this;rw[h]at this;cases this
    have kp1:∀b o,(cQ G1 W).kp b=some o→W2.heap[b]?=some o:=fun b o h=>R4.1.gT b o (by simp only[Y7,ne1 b o h,if_false];exact h)
    have q3:=kp1 _ _ hkl
    have q4:=kp1 _ _ hkD
    refine⟨_,run_beginRound q3 (by rw[hrec]),?_⟩
    obtain⟨W3,hW3⟩:∃W3,W3=W2.putObj l (.loop {rec .ready with state:= .busy}):=⟨_,rfl⟩
    rw[←hW3]
    have hlt:l<W2.heap.size:=A4 q3
    have q5:W3.heap[l]?=some (.loop (rec .busy)):=by rw[hW3,World.putObj_heap_same hlt,hrec]
    have oth:∀b,b≠l→W3.heap[b]?=W2.heap[b]?:=fun b hb=>by rw[hW3];exact World.putObj_heap_other hb
    have q6:W3.heap[w.heap.size]?=some (.deferred (some [])):=(oth _ (by omega)).trans q4
    have celO:∀(b:Nat) (arr:Array Value) (e:TypeId) (fr:Nat×Nat),W2.heap[b]?=some (.cells arr e fr)→W3.heap[b]?=some (.cells arr e fr):=fun b arr e fr h=>by
     rw[oth b (fun e=>by rw[e,q3]at h;cases h)];exact h
    have blO:Below w0.heap.size w0 W3:=by
     have hb:=R4.1.T1
     rw[hW3]
     exact hb.grown (grownBy_putObj' W2 l _) hb.size (fun k e=>by cases e;omega)
    have kB2:∀b o,(cQ G1 W3).kp b=some o→W3.heap[b]?=some o:=fun b o h=>by
     have base:G1.kp b=some o→W3.heap[b]?=some o:=fun hh=>(oth b (by have:=hkB b o hh;omega)).trans (kp1 b o (pA Rx hh))
     simp only[cQ]at h
     cases hw:W3.heap[b]? with
     |none=>rw[hw]at h;simp only at h;exact hw ▸ base h
     |some y=>
      rw[hw]at h
      simp only at h
      split at h
      ·exact hw ▸ base h
      ·exact h
    obtain⟨G3,hG3⟩:∃G3:Gh,G3={ghG (cQ G1 W3) a (S pre).t keep lab with df:=a2.defers}:=⟨_,rfl⟩
    have R5:D7 G3 M0 w0 s1 ρ2 a2 W3:=by
     refine R4.a86 hm1 rfl (by rw[hG3];rfl) (fun y u h=>by rw[hG3]at h;exact h) (by rw[hG3];rfl) celO blO (fun b o h=>by rw[hG3]at h;exact kB2 b o h) (fun b arr e fr h hn=>?_) (fun b o h=>?_) (by rw[hG3])
     ·rw[hG3]
      show(cQ G1 W3).kp b=none
      simp only[cQ,celO _ _ _ _ h,Obj.isCells,if_true]
      simp only[Y7]at hn
      split at hn
      ·cases hn
      ·have hn:(cQ G1 W).kp b=none:=hn
       cases hh:G1.kp b with
       |none=>rfl
       |some y=>rw[pA Rx hh]at hn;cases hn
     ·rcases Rx.1.m0 b o h with h|⟨y,h⟩
      ·exact .inl h
      ·refine .inr ⟨y,?_⟩
       rw[hG3]
       show(cQ G1 W3).kp b=some y
       have:=kp1 b y (pA Rx h)
       simp only[cQ,(oth b (by have:=hkB b y h;omega)).trans this]
       split
       ·exact h
       ·rfl
    refine zG (dJ (some l)) (n:=0) ?_
    refine hbd (some l) (fun h=>by cases h) G3 M0 w0 ρ2 a2 W3 _ hgl R5 ?_
    intro Ds2 e s2 ρ3 a3 W4 hD2 hs2 R6
    cases e with
    |normal=>
     obtain⟨id,cs,k1,k2,k3,k4⟩:=hs2
     have hkl3:G3.kp l=some (.loop (rec .busy)):=by rw[hG3];simp only[ghG,cQ,q5,Obj.isCells];rfl
     have hkD3:G3.kp w.heap.size=some (.deferred (some [])):=by rw[hG3];simp only[ghG,cQ,q6,Obj.isCells];rfl
     have kp3:∀b o,G3.kp b=some o→W4.heap[b]?=some o:=fun b o h=>R6.1.gT b o (by
      have:b∉Ds2:=fun hb=>by have:=(hD2.2 b hb).2;rw[h]at this;cases this
      simp only[Y7,this,if_false];exact h)
     have q7:=kp3 _ _ hkl3
     have q8:=kp3 _ _ hkD3
     have hre:=run_endRound (P:=P) none q7
     obtain⟨W5,hW5⟩:∃W5,W5=W4.putObj l (.loop (rec .ready)):=⟨_,rfl⟩
     have hlt4:l<W4.heap.size:=A4 q7
     have hre5:(Instr.endRound l none).run P W4= .ok (.bool true) W5:=by rw[hre,hW5,hrec];rfl
     have oth5:∀b,b≠l→W5.heap[b]?=W4.heap[b]?:=fun b hb=>by rw[hW5];exact World.putObj_heap_other hb
     obtain⟨a4,ha4⟩:∃a4:Act,a4={tmps:=a3.tmps,defers:=[]}:=⟨_,rfl⟩
     have R7:D7 (ghG G1 a (S pre).t keep lab) M0 w0 s2 ρ3 a4 W5:=by
      refine R6.a86 k3 (by rw[ha4]) (by rw[hG3];rfl) (fun y u h=>by rw[hG3];exact h) (by rw[hG3];rfl) (fun b arr e fr h=>?_) ?_ (fun b o h=>?_) (fun b arr e fr h hn=>?_) (fun b o h=>Rx.1.m0 b o h) (by rw[ha4];rfl)
      ·rw[oth5 b (fun e=>by rw[e,q7]at h;cases h)];exact h
      ·rw[hW5];exact R6.1.T1.grown (grownBy_putObj' W4 l _) R6.1.T1.size (fun k e=>by cases e;omega)
      ·have h:G1.kp b=some o:=h
       refine(oth5 b (by have:=hkB b o h;omega)).trans (kp3 b o ?_)
       rw[hG3]
       show(cQ G1 W3).kp b=some o
       have:=kp1 b o (pA Rx h)
       simp only[cQ,(oth b (by have:=hkB b o h;omega)).trans this]
       split
       ·exact h
       ·rfl
      ·show G1.kp b=none
       cases hh:G1.kp b with
       |none=>rfl
       |some y=>
        simp only[Y7]at hn
        split at hn
        ·cases hn
        ·rw[hG3]at hn
         have hn:(cQ G1 W3).kp b=none:=hn
         have:=kp1 b y (pA Rx hh)
         simp only[cQ,(oth b (by have:=hkB b y hh;omega)).trans this]at hn
         split at hn
         ·rw[hh]at hn;cases hn
         ·cases hn
     have R8:=a9U R7 k1 k2 Rx.1.n Rx.1.defers
     obtain⟨ρ4,R9⟩:=k4 _ _ _ _ _ _ R8
     refine⟨_,W5,hre5,.inl ⟨rfl,?_,fun _=>hX1 R9⟩⟩
     rw[hJ]
     refine⟨⟨ρ4,R9⟩,by rw[hW5];exact World.putObj_heap_same hlt4,(oth5 _ (by omega)).trans q8⟩
    |_=>exact hs2.elim
   |_=>exact hs1.elim
  ·
   rintro e W2 ⟨⟨v,rfl⟩,(⟨xs,hS,hj⟩|⟨pre,_,hj⟩)⟩
   ·rw[hJ]at hj
    obtain⟨⟨ρx,Rx⟩,q1,q2⟩:=hj
    refine⟨none,_,by have:=run_endLoop (P:=P) q1 (by rw[hrec];simp);rw[hrec]at this;exact this,?_⟩
    have hDn:G.kp w.heap.size=none:=by
     cases hh:G.kp w.heap.size with
     |none=>rfl
     |some o=>have:=R1.1.gT _ o hh;have:=A4 this;omega
    have Ry:=grown hkB (hmp _) Rx (grownBy_putObj' W2 l (.loop {rec .ready with state:= .exhausted})) (fun r e=>by cases e;exact⟨by omega,_,q1,rfl⟩)
    have q3:(W2.putObj l (.loop {rec .ready with state:= .exhausted})).heap[w.heap.size]?=some (.deferred (some [])):=(World.putObj_heap_other (by omega)).trans q2
    rw[hrec]at Ry q3
    refine hQ [w.heap.size] .normal (S xs) ρx _ _ ⟨by simp,fun D' h'=>?_⟩ (hK xs hS) ?_
    ·obtain rfl:=List.mem_singleton.1 h'
     exact⟨by omega,hDn⟩
    ·refine Ry.a86 (hmp _) rfl (by rw[hG1];rfl) (fun y u h=>by rw[hG1];exact .inl h) (by rw[hG1];rfl) (fun _ _ _ _ h=>h) Ry.1.T1 (fun b o h=>?_) (fun b arr e fr h hn=>?_) (fun b o h=>?_) ?_
     ·simp only[Y7,List.mem_singleton]at h
      split at h
      ·rename_i e;subst e;cases h;exact q3
      ·exact Ry.1.gT b o (by rw[hG1];exact h)
     ·simp only[Y7,List.mem_singleton]
      split
      ·rename_i e;subst e;rw[q3]at h;cases h
      ·rw[hG1]at hn;exact hn
     ·rcases hm0 b o h with h|⟨y,h⟩
      ·exact .inl h
      ·right
       simp only[Y7,List.mem_singleton]
       split
       ·exact⟨_,rfl⟩
       ·rw[hG1]at h;exact⟨y,h⟩
     ·show a4j w.heap.size::a.defers=_
      rw[R1.1.defers];rfl
   ·exact hj.elim
 exact key
end
def b2c(h:List (Nat×RS)):Bool:=h.all fun p=>match p.2 with| .mp _ _ _=>false|_=>true
theorem a4p{h:List (Nat×RS)}(hb:b2c h=true):b0j h:=by
 intro id b q f he
 unfold LS.hf at he
 cases hl:h.lookup id with
 |none=>rw[hl]at he;cases he
 |some x=>
  rw[hl]at he
  simp only[Option.getD_some]at he
  subst he
  have hm:(id,RS.mp b q f)∈h:=by
   clear hb
   induction h with
   |nil=>cases hl
   |cons p h ih=>
    obtain⟨i,y⟩:=p
    rw[List.lookup_cons]at hl
    by_cases e:id=i
    ·subst e;simp at hl;subst hl;simp
    ·have hb':(id==i)=false:=by simp [e]
     rw[hb']at hl
     exact List.mem_cons_of_mem _ (ih hl)
  have:=List.all_eq_true.1 hb _ hm
  exact absurd this (by simp)
theorem b2u{t:List AV}{keep:List Nat}{lab:Nat}{Nx s2:LS}(id:Nat){cs:List AV}(h1:LS.hf s2.h id= .u5 lab cs)(h2:b7 lab (B7 id s2.h))(h3:b2c s2.h=true)(h4:N3 ⟨o3 (Y2 t) keep cs,B7 id s2.h,s2.nx⟩ Nx):c4c t keep lab Nx s2:=
 ⟨id,cs,h1,h2,a4p h3,h4⟩
theorem c0E{M:Nat→Nat→Prop}{ρ:Nat→Option (Nat×Nat×Nat)}{w:World}{c:Bool}{es:List (List AV)}{u:Value}(h:s5 M ρ w (.a8 c es) u):
  ∃(a:Option Addr) (cap b o sz:Nat) (cell:Nat→Nat→Value),u= .slice a es.length cap∧es.length≤cap∧(∀e∈es,e.length=sz)∧(es≠[]→a=some ⟨b,o,none⟩)∧
   (∀i j,i<es.length→j<sz→¬M b (o+i*sz+j)∧w.cell? ⟨b,o+i*sz+j,none⟩=some (cell i j))∧∀(i j:Nat) e x,es[i]?=some e→e[j]?=some x→s5 M (fun _=>none) w x (cell i j):=by
 cases h with
 |a8 c es a cap b o sz cell hc oR aF ha hm hr=>exact⟨a,cap,b,o,sz,cell,rfl,hc,aF,ha,hm,hr⟩
theorem b6R{M:Nat→Nat→Prop}{ρ:Nat→Option (Nat×Nat×Nat)}{w:World}{x:AV}{u:Value}(h:s5 M ρ w (.aA [[x]] 0 0) u):
  ∃(b o:Nat) (c:Value),u= .pointer (some ⟨b,o,none⟩)∧¬M b o∧w.cell? ⟨b,o,none⟩=some c∧s5 M (fun _=>none) w x c:=by
 cases h with
 |aA es i k b o sz cell hi hk aF hm hr=>
  have h1:=hm 0 0 (by simp) (by omega)
  refine⟨b,o,cell 0 0,by simp,?_,?_,hr 0 0 [x] x rfl rfl⟩
  ·simpa using h1.1
  ·simpa using h1.2
theorem c0x{M:Nat→Nat→Prop}{ρ:Nat→Option (Nat×Nat×Nat)}{w:World}{f:FuncId}{x:AV}{u:Value}(h:s5 M ρ w (.fn f [x]) u):
  ∃y,u= .func (.func f) #[] #[y]∧s5 M ρ w x y:=by
 cases h with
 |fn f cs vs hn h=>
  obtain⟨vs⟩:=vs
  match vs,hn with
  |[y],_=>exact⟨y,rfl,h 0 x y rfl rfl⟩
end Go.Ab
end
section
namespace Go.Ab
section
section
variable {md:Bool} {P:Program} {k:List KF} {s:LS} {K:Exit→LS→Prop}
theorem wA [j5 P] {c:Code} (S:Nat→LS) (n:Nat) (first:AK (md:=md) P c [] s (O9 (fun s'=>N3 s' (S 0)) (X7 (md:=md) P K k)))
  (round:∀i,i≤n→AK (md:=md) P c [] (S i) (O9 (fun s'=>i<n∧N3 s' (S (i+1))) (X7 (md:=md) P K k))):AK (md:=md) P (.loop c) k s K:=by
 refine mZ (fun m s'=>(m=n+1∧s'=s)∨∃i,i≤n∧m=n-i∧s'=S i) (n+1) (.inl ⟨rfl,rfl⟩) ?_
 rintro m s' (⟨rfl,rfl⟩|⟨i,hi,rfl,rfl⟩)
 ·refine fI.mono first fun e s1 h=>?_
  cases e with
  |normal=>exact⟨n,S 0,by omega,h,.inr ⟨0,by omega,by omega,rfl⟩⟩
  |_=>exact h
 ·refine fI.mono (round i hi) fun e s1 h=>?_
  cases e with
  |normal=>exact⟨n-(i+1),S (i+1),by have:=h.1;omega,h.2,.inr ⟨i+1,by have:=h.1;omega,rfl,rfl⟩⟩
  |_=>exact h
end
end
def zQ(id:Nat)(r:RS):List (Nat×RS)→List (Nat×RS)
 |[]=>[]
 |(i,x)::l=>(if i=id then(i,r)else(i,x))::zQ id r l
theorem a3Z(id:Nat)(r:RS):∀(h:List (Nat×RS)),LS.hf h id≠ .free→LS.hf (zQ id r h)=n7 (LS.hf h) id r
 |[],hn=>absurd rfl hn
 |(i,x)::l,hn=>by
  funext j
  unfold n7
  by_cases hi:i=id
  ·subst hi
   simp only[zQ,if_true,LS.hf,List.lookup_cons]
   by_cases hj:j=i
   ·subst hj;simp
   ·have:(j==i)=false:=by simp [hj]
    rw[this,if_neg hj]
    clear hn
    induction l with
    |nil=>rfl
    |cons p l ih=>
     obtain⟨q,y⟩:=p
     simp only[zQ]
     split
     ·rename_i e
      subst e
      rw[List.lookup_cons,List.lookup_cons,this]
      exact ih
     ·rw[List.lookup_cons,List.lookup_cons]
      cases j==q with
      |true=>rfl
      |false=>exact ih
  ·simp only[zQ,if_neg hi,LS.hf,List.lookup_cons]
   by_cases hj:j=id
   ·subst hj
    have e:(j==i)=false:=by simp;exact fun h=>hi h.symm
    have hn':LS.hf l j≠ .free:=by
     intro h;apply hn
     simp only[LS.hf,List.lookup_cons,e];exact h
    have:=congrFun (a3Z j r l hn') j
    simp only[n7,if_true]at this
    rw[if_pos rfl,e]
    exact this
   ·rw[if_neg hj]
    cases hji:j==i with
    |true=>rfl
    |false=>
     have e:(id==i)=false:=by simp;exact fun h=>hi h.symm
     have hn':LS.hf l id≠ .free:=by
      intro h;apply hn
      simp only[LS.hf,List.lookup_cons,e];exact h
     have:=congrFun (a3Z id r l hn') j
     simp only[n7,if_neg hj]at this
     exact this
theorem b2e{id:Nat}{r:RS}{n:Nat}:∀{h:List (Nat×RS)},(∀p∈h,p.1<n)→∀p∈zQ id r h,p.1<n
 |[],_,p,hp=>by cases hp
 |(i,x)::l,hh,p,hp=>by
  simp only[zQ,List.mem_cons]at hp
  rcases hp with rfl|hp
  ·have:=hh (i,x) (by simp)
   split<;>exact this
  ·exact b2e (fun q hq=>hh q (by simp [hq])) p hp
theorem b5G {md:Bool} {P:Program} [j5 P] {c:Code} {k:List KF} {K:Exit→LS→Prop} {t:List AV} {h:List (Nat×RS)} {nx:Nat} (id n:Nat) {sz fro:Nat} {es:List (List AV)} (h1:LS.hf h id= .live ⟨sz,es,fro⟩)
  (h2:AK (md:=md) P c k ⟨t,zQ id (.live ⟨sz,es.take n,fro⟩) h,nx⟩ K):AK (md:=md) P c k ⟨t,h,nx⟩ K:=by
 refine u9 ?_ h2
 intro G M0 w0 ρ a w R
 exact b9W id sz (es.take n) (es.drop n) fro (by rw[List.take_append_drop];exact h1) (a3Z id _ h (by rw[h1];intro e;cases e)) (b2e R.2) G M0 w0 ρ a w R
end Go.Ab
end
section
namespace Go.Ab
open Go.RowKit (Below)
section
section
variable {G:Gh} {M0:Nat→Nat→Prop} {w0:World} {ρ ρ':Nat→Option (Nat×Nat×Nat)} {w:World} {P:Program} {h:Nat→RS}
theorem a8F{M:Nat→Nat→Prop}{r:Nat→Option Nat}(hrr:∀id j,r id=some j→ρ' j=ρ id):∀(n:Nat) (x y:AV) (u:Value),n5 r n x=some y→s5 M ρ w x u→s5 M ρ' w y u:=by
 intro n
 induction n with
 |zero=>
  intro x y u hr hx
  cases hx with
  |Z=>cases hr;exact .Z _
  |L6 t=>cases hr;exact .L6 t
  |v=>cases hr;exact .v _
  |a8 c es a cap b o sz cell h1 h2 h3 h4 h5 h6=>cases hr;exact .a8 c es a cap b o sz cell h1 h2 h3 h4 h5 h6
  |aA es i k b o sz cell h1 h2 h3 h4 h5=>cases hr;exact .aA es i k b o sz cell h1 h2 h3 h4 h5
  |own id off n cap b β sz N e h1 h2 h3 h4=>simp only[n5,Option.map_eq_some_iff]at hr;obtain⟨j,hj,rfl⟩:=hr;exact .own j off n cap b β sz N e (by rw[hrr _ _ hj];exact h1) h2 h3 h4
  |ptr id i k b β sz h1=>simp only[n5,Option.map_eq_some_iff]at hr;obtain⟨j,hj,rfl⟩:=hr;exact .ptr j i k b β sz (by rw[hrr _ _ hj];exact h1)
  |dX id i k b β sz h1=>simp only[n5,Option.map_eq_some_iff]at hr;obtain⟨j,hj,rfl⟩:=hr;exact .dX j i k b β sz (by rw[hrr _ _ hj];exact h1)
  |_=>simp [n5]at hr
 |succ n ih=>
  intro x y u hr hx
  have many:∀(cs cs':List AV) (vs:Array Value),cs.mapM (n5 r n)=some cs'→vs.size=cs.length→(∀(i:Nat) x u,cs[i]?=some x→vs[i]?=some u→s5 M ρ w x u)→
    vs.size=cs'.length∧∀(i:Nat) x u,cs'[i]?=some x→vs[i]?=some u→s5 M ρ' w x u:=by
   intro cs cs' vs hm hn hr
   refine⟨by rw[H3 hm];exact hn,fun i x u h1 h2=>?_⟩
   obtain⟨x0,e1,e2⟩:=D9 hm i x h1
   exact ih x0 x u e2 (hr i x0 u e1 h2)
  cases hx with
  |Z=>cases hr;exact .Z _
  |L6 t=>cases hr;exact .L6 t
  |v=>cases hr;exact .v _
  |a8 c es a cap b o sz cell h1 h2 h3 h4 h5 h6=>cases hr;exact .a8 c es a cap b o sz cell h1 h2 h3 h4 h5 h6
  |aA es i k b o sz cell h1 h2 h3 h4 h5=>cases hr;exact .aA es i k b o sz cell h1 h2 h3 h4 h5
  |own id off n cap b β sz N e h1 h2 h3 h4=>simp only[n5,Option.map_eq_some_iff]at hr;obtain⟨j,hj,rfl⟩:=hr;exact .own j off n cap b β sz N e (by rw[hrr _ _ hj];exact h1) h2 h3 h4
  |ptr id i k b β sz h1=>simp only[n5,Option.map_eq_some_iff]at hr;obtain⟨j,hj,rfl⟩:=hr;exact .ptr j i k b β sz (by rw[hrr _ _ hj];exact h1)
  |dX id i k b β sz h1=>simp only[n5,Option.map_eq_some_iff]at hr;obtain⟨j,hj,rfl⟩:=hr;exact .dX j i k b β sz (by rw[hrr _ _ hj];exact h1)
  |agg cs vs hn hh=>
   simp only[n5,Option.map_eq_some_iff]at hr
   obtain⟨cs',hm,rfl⟩:=hr
   obtain⟨g1,g2⟩:=many cs cs' vs hm hn hh
   exact .agg cs' vs g1 g2
  |O2 cs vs hn hh=>
   simp only[n5,Option.map_eq_some_iff]at hr
   obtain⟨cs',hm,rfl⟩:=hr
   obtain⟨g1,g2⟩:=many cs cs' vs hm hn hh
   exact .O2 cs' vs g1 g2
  |fn f cs vs hn hh=>
   simp only[n5,Option.map_eq_some_iff]at hr
   obtain⟨cs',hm,rfl⟩:=hr
   obtain⟨g1,g2⟩:=many cs cs' vs hm hn hh
   exact .fn f cs' vs g1 g2
  |nD f cs vs hn hh=>
   simp only[n5,Option.map_eq_some_iff]at hr
   obtain⟨cs',hm,rfl⟩:=hr
   obtain⟨g1,g2⟩:=many cs cs' vs hm hn hh
   exact .nD f cs' vs g1 g2
theorem yN{r:Nat→Option Nat}{row row':Row}(hr:c8 r row=some row'):row'.sz=row.sz∧row'.fro=row.fro∧row'.es.length=row.es.length:=by
 unfold c8 at hr
 split at hr
 ·cases hr;exact⟨rfl,rfl,rfl⟩
 ·simp only[Option.map_eq_some_iff]at hr
  obtain⟨es,hm,rfl⟩:=hr
  exact⟨rfl,rfl,H3 hm⟩
end
def RS.a91:RS→Bool
 | .live _=>true
 |_=>false
theorem b9Y {s:LS} {t':List AV} {h':List (Nat×RS)} {nx':Nat} (keep:List Nat) (r:Nat→Option Nat) (src:Nat→Nat)
  (ht:n9 keep r 0 s.t=some t')
  (hr:∀id j,r id=some j→(∃row,LS.hf h' j= .live row)∧src j=id)
  (hrow:∀j row',LS.hf h' j= .live row'→∃row,LS.hf s.h (src j)= .live row∧c8 r row=some row')
  (hel:∀j,(∃row',LS.hf h' j= .live row')∨LS.hf h' j= .gone∨LS.hf h' j= .free)
  (inj:∀i j r1 r2,LS.hf h' i= .live r1→LS.hf h' j= .live r2→src i=src j→i=j)
  (ok:∀p∈h',p.1<nx'):N3 s ⟨t',h',nx'⟩:=by
 intro G M0 w0 ρ a w ⟨R,hok⟩
 obtain⟨ρ',hρ⟩:∃ρ':Nat→Option (Nat×Nat×Nat),ρ'=fun j=>if(LS.hf h' j).a91 then ρ (src j)else none:=⟨_,rfl⟩
 have hl:∀j row,LS.hf h' j= .live row→ρ' j=ρ (src j):=fun j row hj=>by rw[hρ];simp only[hj,RS.a91,if_true]
 have hrr:∀id j,r id=some j→ρ' j=ρ id:=fun id j hj=>by
  obtain⟨⟨row,h1⟩,h2⟩:=hr id j hj
  rw[hl j row h1,h2]
 obtain⟨g1,g2⟩:=a3l ht
 have hM:∀b o,p8 M0 ρ' (LS.hf h') b o→p8 M0 ρ (LS.hf s.h) b o:=by
  rintro b o (g|⟨j,row',β,z,q1,q2,q3⟩)
  ·exact .inl g
  ·obtain⟨row,e1,e2⟩:=hrow j row' q1
   rw[hl j row' q1]at q2
   exact .inr ⟨src j,row,β,z,e1,q2,by rw[←(yN e2).2.1];exact q3⟩
 have up:∀n x y u,n5 r n x=some y→s5 (p8 M0 ρ (LS.hf s.h)) ρ w x u→s5 (p8 M0 ρ' (LS.hf h')) ρ' w y u:=fun n x y u h1 h2=>(a8F hrr n x y u h1 h2).pN hM
 refine⟨ρ',⟨?_,?_,?_,?_,?_,R.T1,R.m0,R.defers,?_,?_,?_,R.gT,?_,?_,R.oS⟩,ok⟩
 ·rw[R.n];exact g1.symm
 ·intro i
  show s5 (p8 M0 ρ' (LS.hf h')) ρ' w (LS.tf t' i) _
  simp only[LS.tf,List.getD_eq_getElem?_getD]
  cases hy:t'[i]? with
  |none=>exact .Z _
  |some y=>
   obtain⟨x,e1,e2⟩:=g2 i y hy
   rcases e2 with e2|rfl
   ·have hx:=R.tm i
    simp only[LS.o4,LS.tf,List.getD_eq_getElem?_getD,e1,Option.getD_some]at hx
    exact up 3 x y _ e2 hx
   ·exact .Z _
 ·intro j row' hj
  have hj:LS.hf h' j= .live row':=hj
  obtain⟨row,e1,e2⟩:=hrow j row' hj
  obtain⟨b,β,arr,e,p1,p2,p3,p4,p5,p6⟩:=R.live (src j) row e1
  obtain⟨q1,q2,q3⟩:=yN e2
  have hρj:ρ' j=some (b,β,row'.sz):=by rw[hl j row' hj,p1,q1]
  unfold c8 at e2
  split at e2
  ·rename_i hpl
   cases e2
   refine⟨b,β,arr,e,hρj,p2,p3,p4,p5,fun m k e' x u g1 g2 g3=>?_⟩
   have hp:x.plain=true:=by
    have:=List.all_eq_true.1 hpl e' (List.mem_of_getElem? g1)
    exact List.all_eq_true.1 this x (List.mem_of_getElem? g2)
   exact(((p6 m k e' x u g1 g2 g3).Z4 hp).up).pN hM
  ·simp only[Option.map_eq_some_iff]at e2
   obtain⟨es,hm,rfl⟩:=e2
   simp only at q3 hρj⊢
   refine⟨b,β,arr,e,hρj,p2,p3,by rw[q3];exact p4,fun x hx=>?_,fun m k e' x u g1 g2 g3=>?_⟩
   ·obtain⟨m,hm1,hm2⟩:=List.mem_iff_getElem.1 hx
    obtain⟨e0,t1,t2⟩:=D9 hm m x (by simp [hm1,hm2])
    rw[H3 t2]
    exact p5 e0 (List.mem_of_getElem? t1)
   ·obtain⟨e0,t1,t2⟩:=D9 hm m e' g1
    obtain⟨x0,t3,t4⟩:=D9 t2 k x g2
    exact up 3 x0 x u t4 (p6 m k e0 x0 u t1 t3 g3)
 ·intro j hj
  have hj:LS.hf h' j= .free:=hj
  rw[hρ];simp only[hj,RS.a91,Bool.false_eq_true,if_false]
 ·intro i j r1 r2 b β β' z z' h1 h2 h3 h4
  have h1:LS.hf h' i= .live r1:=h1
  have h2:LS.hf h' j= .live r2:=h2
  obtain⟨row1,e1,_⟩:=hrow i r1 h1
  obtain⟨row2,e2,_⟩:=hrow j r2 h2
  rw[hl i r1 h1]at h3
  rw[hl j r2 h2]at h4
  exact inj i j r1 r2 h1 h2 (R.inj _ _ row1 row2 b β β' z z' e1 e2 h3 h4)
 ·intro j k cs hj
  have hj:LS.hf h' j= .u5 k cs:=hj
  rcases hel j with⟨_,e⟩|e|e<;>rw[e]at hj<;>cases hj
 ·intro x u hx
  exact(R.lX x u hx).pN hM
 ·intro j b q f hj
  have hj:LS.hf h' j= .mp b q f:=hj
  rcases hel j with⟨_,e⟩|e|e<;>rw[e]at hj<;>cases hj
 ·intro j row' p hj hp
  have hj:LS.hf h' j= .live row':=hj
  obtain⟨row,e1,_⟩:=hrow j row' hj
  rw[hl j row' hj]at hp
  exact R.dP (src j) row p e1 hp
 ·intro j b q f hj
  have hj:LS.hf h' j= .mp b q f:=hj
  rcases hel j with⟨_,e⟩|e|e<;>rw[e]at hj<;>cases hj
end
def iL(b n:Nat)(f:Nat→RS):List (Nat×RS):=(List.range n).map fun z=>(b+z,f z)
theorem gM(b n:Nat)(f:Nat→RS):iL b (n+1) f=iL b n f++[(b+n,f n)]:=by simp [iL,List.range_succ]
theorem jT(b n:Nat)(f:Nat→RS)(id:Nat):(iL b n f).lookup id=if b≤id∧id<b+n then some (f (id-b))else none:=by
 induction n with
 |zero=>rw[if_neg (by omega)];rfl
 |succ n ih=>
  rw[gM,lookup_append,ih]
  by_cases h:b≤id∧id<b+n
  ·rw[if_pos h,if_pos (by omega)]
  ·rw[if_neg h]
   simp only[List.lookup_cons,List.lookup_nil]
   by_cases h2:id=b+n
   ·subst h2;simp
   ·have:(id==b+n)=false:=by simpa using h2
    rw[this,if_neg (by omega)]
theorem nJ(b n:Nat)(f:Nat→RS)(z:Nat)(h:z<n):(iL b n f).lookup (b+z)=some (f z):=by
 rw[jT,if_pos (by omega),Nat.add_sub_cancel_left]
theorem B8(b n:Nat)(f:Nat→RS)(id:Nat)(h:id<b∨b+n≤id):(iL b n f).lookup id=none:=by
 rw[jT,if_neg (by omega)]
theorem b6w{b n:Nat}{f:Nat→RS}{p:Nat×RS}(h:p∈iL b n f):p.1<b+n:=by
 simp only[iL,List.mem_map,List.mem_range]at h
 obtain⟨z,hz,rfl⟩:=h
 simp only;omega
theorem b2G(id i k:Nat)(cs:List AV)(l1 l2:List (Nat×RS)):F4 id i k cs (l1++l2)=F4 id i k cs l1++F4 id i k cs l2:=by
 induction l1 with
 |nil=>rfl
 |cons p l ih=>
  obtain⟨j,x⟩:=p
  simp only[List.cons_append,F4]
  split<;>rw[ih]<;>rfl
theorem pS(id:Nat)(l1 l2:List (Nat×RS)):cM id (l1++l2)=cM id l1++cM id l2:=by
 induction l1 with
 |nil=>rfl
 |cons p l ih=>
  obtain⟨j,x⟩:=p
  simp only[List.cons_append,cM]
  split<;>rw[ih]<;>rfl
theorem b2H(id i k:Nat)(cs:List AV)(b n:Nat)(f:Nat→RS)(h:id<b∨b+n≤id):F4 id i k cs (iL b n f)=iL b n f:=by
 induction n with
 |zero=>rfl
 |succ n ih=>
  rw[gM,b2G,ih (by omega)]
  simp only[F4]
  rw[if_neg (by omega)]
theorem a4b(id b n:Nat)(f:Nat→RS)(h:id<b∨b+n≤id):cM id (iL b n f)=iL b n f:=by
 induction n with
 |zero=>rfl
 |succ n ih=>
  rw[gM,pS,ih (by omega)]
  simp only[cM]
  rw[if_neg (by omega)]
theorem b3R(z b n:Nat)(f:Nat→RS):cM (b+z) (iL b n f)=iL b n (fun y=>if y=z then .gone else f y):=by
 induction n with
 |zero=>rfl
 |succ n ih=>
  rw[gM,gM,pS,ih]
  simp only[cM]
  by_cases h:n=z
  ·subst h;simp
  ·rw[if_neg (by omega),if_neg h]
theorem B2(k b z:Nat)(h:k<b∨b+z<k):(b+z==k)=false:=by simp;omega
theorem z7(k b z:Nat)(h:k<b∨b+z<k):(k==b+z)=false:=by simp;omega
theorem E5(k b z:Nat)(h:k<b∨b+z<k):(k=b+z)=False:=by simp;omega
theorem mA{β γ:Type}{g:γ→Option β}{n:Nat}{a:Nat→γ}{c:Nat→β}(h:∀z,z<n→g (a z)=some (c z)):((List.range n).map a).mapM g=some ((List.range n).map c):=by
 induction n with
 |zero=>rfl
 |succ n ih=>
  rw[List.range_succ,List.map_append,a8i,ih fun z hz=>h z (by omega),List.map_append]
  simp [h n (by omega)]
theorem a4l{γ:Type}(n z:Nat)(a:Nat→γ)(g:γ→γ):((List.range n).map a).modify z g=(List.range n).map fun y=>if y=z then g (a y)else a y:=by
 apply List.ext_getElem?
 intro j
 rw[List.getElem?_modify]
 simp only[List.getElem?_map]
 by_cases h:j<n
 ·rw[List.getElem?_range h]
  by_cases h2:z=j
  ·subst h2;simp
  ·have:¬j=z:=fun e=>h2 e.symm
   simp [h2,this]
 ·rw[List.getElem?_eq_none (by simp;omega)];rfl
theorem zF {s:LS} {t':List AV} {rows:List Row} (keep ids:List Nat) (n:Nat) (f:Nat→RS) (b:Nat) (r:Nat→Option Nat) (src:Nat→Nat)
  (hnd:ids.Nodup)
  (hr0:∀id j,r7 ids 0 id=some j→r id=some j)
  (hrf:∀id j,r7 ids 0 id=none→r id=some j→∃z,z<n∧j=b+z∧src z=id∧∃row,f z= .live row)
  (ht:n9 keep r 0 s.t=some t')
  (hp:b5 (LS.hf s.h) r ids=some rows)
  (hb:ids.length≤b)
  (hf:∀z,z<n→f z= .gone∨∃row,f z= .live row∧src z∉ids∧∃row0,LS.hf s.h (src z)= .live row0∧c8 r row0=some row)
  (inj:∀y z r1 r2,y<n→z<n→f y= .live r1→f z= .live r2→src y=src z→y=z) (nx':Nat) (hnx:b+n≤nx'):
  N3 s ⟨t',e9 0 rows++iL b n f,nx'⟩:=by
 obtain⟨hlen,hget⟩:=cF hp
 have hl:∀j,LS.hf (e9 0 rows++iL b n f) j=if j<rows.length then .live (rows.getD j ⟨0,[],0⟩)else if b≤j∧j<b+n then f (j-b)else .free:=by
  intro j
  simp only[LS.hf,lookup_append,dK,jT]
  by_cases h1:j<rows.length
  ·rw[if_pos (by omega),if_pos h1];simp
  ·rw[if_neg (by omega),if_neg h1]
   simp only
   split<;>rfl
 have rid:∀j,j<rows.length→∃id,ids[j]?=some id∧r7 ids 0 id=some j:=by
  intro j hj
  have hj':j<ids.length:=by omega
  refine⟨ids[j],List.getElem?_eq_getElem hj',?_⟩
  unfold r7
  have:ids.idxOf? ids[j]=some j:=by
   rw[List.idxOf?_eq_some_iff]
   refine⟨hj',by simp,fun k hk=>?_⟩
   have:=List.pairwise_iff_getElem.1 hnd k j (by omega) hj' hk
   simpa using this
  rw[this];simp
 refine b9Y keep r (fun j=>if j<rows.length then ids.getD j 0 else src (j-b)) ht (fun id j hj=>?_) (fun j row' hj=>?_) (fun j=>?_) (fun i j r1 r2 h1 h2 e=>?_) (fun p hp=>?_)
 ·cases h:r7 ids 0 id with
  |some j'=>
   have:=hr0 id j' h
   rw[this]at hj;cases hj
   have hi:ids[j]?=some id:=by
    simp only[r7,Option.map_eq_some_iff]at h
    obtain⟨k,h1,h2⟩:=h
    have:=a37 h1
    rw[show j=k by omega];exact this
   have hj2:j<ids.length:=(List.getElem?_eq_some_iff.1 hi).1
   refine⟨⟨rows.getD j ⟨0,[],0⟩,by rw[hl,if_pos (by omega)]⟩,?_⟩
   rw[if_pos (by omega),List.getD_eq_getElem?_getD,hi];rfl
  |none=>
   obtain⟨z,hz,rfl,e,row,hrow⟩:=hrf id j h hj
   refine⟨⟨row,by rw[hl,if_neg (by omega),if_pos (by omega),Nat.add_sub_cancel_left];exact hrow⟩,?_⟩
   rw[if_neg (by omega),Nat.add_sub_cancel_left];exact e
 ·rw[hl]at hj
  by_cases h1:j<rows.length
  ·rw[if_pos h1]at hj
   cases hj
   obtain⟨id,row,e1,e2,e3⟩:=hget j (rows.getD j ⟨0,[],0⟩) (by rw[List.getD_eq_getElem?_getD,List.getElem?_eq_getElem h1,Option.getD_some])
   rw[if_pos h1,List.getD_eq_getElem?_getD,e1]
   exact⟨row,e2,e3⟩
  ·rw[if_neg h1]at hj
   rw[if_neg h1]
   split at hj
   ·rename_i h2
    rcases hf (j-b) (by omega)with h3|⟨row,h3,_,row0,h4,h5⟩
    ·rw[h3]at hj;cases hj
    ·rw[h3]at hj;cases hj;exact⟨row0,h4,h5⟩
   ·cases hj
 ·rw[hl]
  split
  ·exact .inl ⟨_,rfl⟩
  ·split
   ·rename_i h2
    rcases hf (j-b) (by omega)with h3|⟨row,h3,_⟩
    ·exact .inr (.inl h3)
    ·exact .inl ⟨row,h3⟩
   ·exact .inr (.inr rfl)
 ·rw[hl]at h1 h2
  by_cases c1:i<rows.length
  ·by_cases c2:j<rows.length
   ·rw[if_pos c1,if_pos c2]at e
    obtain⟨id,e1,e2⟩:=rid i c1
    obtain⟨id',f1,f2⟩:=rid j c2
    rw[List.getD_eq_getElem?_getD,e1,List.getD_eq_getElem?_getD,f1]at e
    have e:id=id':=e
    subst e
    rw[e2]at f2;cases f2;rfl
   ·exfalso
    rw[if_neg c2]at h2
    split at h2
    ·rcases hf (j-b) (by omega)with h3|⟨row,h3,h4,_⟩
     ·rw[h3]at h2;cases h2
     ·rw[if_pos c1,if_neg c2]at e
      obtain⟨id,e1,_⟩:=rid i c1
      rw[List.getD_eq_getElem?_getD,e1]at e
      have e:id=src (j-b):=e
      exact h4 (by rw[←e];exact List.mem_of_getElem? e1)
    ·cases h2
  ·rw[if_neg c1]at h1
   split at h1
   ·rename_i d1
    rcases hf (i-b) (by omega)with h3|⟨row,h3,h4,_⟩
    ·rw[h3]at h1;cases h1
    ·by_cases c2:j<rows.length
     ·exfalso
      rw[if_neg c1,if_pos c2]at e
      obtain⟨id,e1,_⟩:=rid j c2
      rw[List.getD_eq_getElem?_getD,e1]at e
      have e:src (i-b)=id:=e
      exact h4 (by rw[e];exact List.mem_of_getElem? e1)
     ·rw[if_neg c1,if_neg c2]at e
      rw[if_neg c2]at h2
      split at h2
      ·have:=inj (i-b) (j-b) _ _ (by omega) (by omega) h1 h2 e
       omega
      ·cases h2
   ·cases h1
 ·rcases List.mem_append.1 hp with hp|hp
  ·have:=tD rows 0 p hp;omega
  ·have:=b6w hp;omega
theorem b6C{ids:List (Nat×Nat)}{id:Nat}(h:∀p∈ids,p.1≠id)(m:Nat):y0 ids id m=m:=by
 unfold y0
 induction ids generalizing m with
 |nil=>rfl
 |cons p l ih=>
  rw[List.foldl_cons,if_neg (h p (by simp))]
  exact ih (fun q hq=>h q (by simp [hq])) m
end Go.Ab
end
section
namespace Go.Proofs.YtgdoiokalfhjoaaGreatDoor
open Go.Ab
theorem sA:((((((((type_of%(@a8J))∧((type_of%(@a3r))∧(type_of%(@Go.Ab.a9K.eq_1))))∧((type_of%(@Go.Ab.a9K.eq_2))∧((type_of%(@c1Y))∧(type_of%(@b1X)))))∧(((type_of%(@b6L))∧((type_of%(@b6I))∧(type_of%(@b6K))))∧((type_of%(@b6J))∧((type_of%(@c12))∧(type_of%(@c11))))))∧((((type_of%(@a8d))∧((type_of%(@xK))∧(type_of%(@xL))))∧((type_of%(@xJ))∧((type_of%(@nV))∧(type_of%(@nW)))))∧(((type_of%(@nU))∧((type_of%(@b2D))∧(type_of%(@b2E))))∧((type_of%(@b2C))∧((type_of%(@Bool.false_and))∧(type_of%(@Bool.and_false)))))))∧(((((type_of%(@Go.Ab.B7.eq_1))∧((type_of%(@Go.Ab.B7.eq_2))∧(type_of%(@Go.Ab.Y2.eq_1))))∧((type_of%(@ne_eq.{1}))∧((type_of%(@not_false_eq_true))∧(type_of%(@Go.Ab.y0.eq_1)))))∧(((type_of%(@List.foldl_cons.{0,0}))∧((type_of%(@List.foldl_nil.{0,0}))∧(type_of%(@Nat.zero_max))))∧((type_of%(@Nat.max_self))∧((type_of%(@Go.Ab.b17.eq_1))∧(type_of%(@Go.Ab.pT.eq_1))))))∧((((type_of%(@Go.Ab.jH.eq_1))∧((type_of%(@Go.Ab.jH.eq_2))∧(type_of%(@zB))))∧((type_of%(@sZ))∧((type_of%(@Go.Ab.Z6.eq_1))∧(type_of%(@Go.Ab.Z6.eq_2)))))∧(((type_of%(@Go.Ab.bV.eq_1))∧((type_of%(@Go.Ab.yJ.eq_1))∧(type_of%(@Go.Ab.lH.eq_1))))∧((type_of%(@Go.Ab.bH.eq_1))∧((type_of%(@I5))∧(type_of%(@G9))))))))∧((((((type_of%(@Go.Ab.v7.eq_1))∧((type_of%(@fX))∧(type_of%(@pV))))∧((type_of%(@List.all_append.{0}))∧((type_of%(@List.dropLast_cons_cons.{0}))∧(type_of%(@List.dropLast_singleton.{0})))))∧(((type_of%(@List.getLastD_cons.{0}))∧((type_of%(@List.getLastD_nil.{0}))∧(type_of%(@Go.Ab.LS.o4.eq_1))))∧((type_of%(@Go.Ab.oH.eq_1))∧((type_of%(@Go.Ab.qB.eq_1))∧(type_of%(@Go.Ab.qB.eq_2))))))∧((((type_of%(@exists_eq_left'.{1}))∧((type_of%(@AV.v.injEq))∧(type_of%(@Value.bool.injEq))))∧((type_of%(@Value.int.injEq))∧((type_of%(@List.flatMap_cons.{0,0}))∧(type_of%(@List.flatMap_nil.{0,0})))))∧(((type_of%(@a3y))∧((type_of%(@zA))∧(type_of%(@a8I))))∧((type_of%(@a3q))∧((type_of%(@Go.Ab.a9J.eq_1))∧(type_of%(@Go.Ab.a9J.eq_2)))))))∧(((((type_of%(@c1X))∧((type_of%(@b1W))∧(type_of%(@b6H))))∧((type_of%(@b6E))∧((type_of%(@b6G))∧(type_of%(@b6F)))))∧(((type_of%(@c10))∧((type_of%(@c1Z))∧(type_of%(@Go.Ab.S7.eq_1))))∧((type_of%(@Go.Ab.S7.eq_2))∧((type_of%(@Go.Ab.LS.ev.eq_1))∧(type_of%(@Go.Ab.LS.ev.eq_2))))))∧((((type_of%(@Go.Ab.LS.ev.eq_3))∧((type_of%(@Go.Ab.LS.ev.eq_4))∧(type_of%(@Go.Ab.LS.tf.eq_1))))∧((type_of%(@Go.Ab.LS.hf.eq_1))∧((type_of%(@c2b))∧(type_of%(@a8r)))))∧(((type_of%(@b2f))∧((type_of%(@b2l))∧(type_of%(@a8q))))∧((type_of%(@b2h))∧((type_of%(@b2g))∧(type_of%(@b2i)))))))))∧(((((((type_of%(@b2j))∧((type_of%(@b2k))∧(type_of%(@b7B))))∧((type_of%(@Go.Ab.a3k.eq_1))∧((type_of%(@Go.Ab.nR.eq_1))∧(type_of%(@Go.Ab.nR.eq_2)))))∧(((type_of%(@Go.Ab.c0d.eq_1))∧((type_of%(@Go.Ab.lJ.eq_1))∧(type_of%(@Go.Ab.lJ.eq_2))))∧((type_of%(@Go.Ab.rU.eq_1))∧((type_of%(@Go.Ab.rU.eq_2))∧(type_of%(@Go.Ab.o6.eq_1))))))∧((((type_of%(@Go.Ab.o6.eq_2))∧((type_of%(@Go.Ab.o6.eq_3))∧(type_of%(@Go.Ab.o6.eq_4))))∧((type_of%(@Go.Ab.cM.eq_1))∧((type_of%(@Go.Ab.cM.eq_2))∧(type_of%(@a7O)))))∧(((type_of%(@Go.Ab.e9.eq_1))∧((type_of%(@Go.Ab.e9.eq_2))∧(type_of%(@a2W))))∧((type_of%(@xA))∧((type_of%(@a7W))∧(type_of%(@wZ)))))))∧(((((type_of%(@wY))∧((type_of%(@a7j))∧(type_of%(@a7i))))∧((type_of%(@a8y))∧((type_of%(@a8x))∧(type_of%(@List.lookup_cons.{0,0})))))∧(((type_of%(@List.lookup_nil.{0,0}))∧((type_of%(@List.length_cons.{0}))∧(type_of%(@List.length_nil.{0}))))∧((type_of%(@List.getD_cons_zero.{0}))∧((type_of%(@List.getD_cons_succ.{0}))∧(type_of%(@List.set_cons_zero.{0}))))))∧((((type_of%(@List.set_cons_succ.{0}))∧((type_of%(@List.map_cons.{0,0}))∧(type_of%(@List.map_nil.{0,0}))))∧((type_of%(@List.mapM_cons.{0,0,0}))∧((type_of%(@List.mapM_nil.{0,0,0}))∧(type_of%(@List.take_succ_cons.{0})))))∧(((type_of%(@List.take_zero.{0}))∧((type_of%(@List.take_nil.{0}))∧(type_of%(@List.drop_succ_cons.{0}))))∧((type_of%(@List.drop_zero.{0}))∧((type_of%(@List.drop_nil.{0}))∧(type_of%(@List.nil_append.{0}))))))))∧((((((type_of%(@List.cons_append.{0}))∧((type_of%(@List.append_nil.{0}))∧(type_of%(@List.all_cons.{0}))))∧((type_of%(@List.all_nil.{0}))∧((type_of%(@List.modify_zero_cons.{0}))∧(type_of%(@List.modify_succ_cons.{0})))))∧(((type_of%(@List.getElem?_cons_zero.{0}))∧((type_of%(@List.getElem?_cons_succ.{0}))∧(type_of%(@List.getElem?_nil.{0}))))∧((type_of%(@List.replicate_succ.{0}))∧((type_of%(@List.replicate_zero.{0}))∧(type_of%(@List.forall_mem_cons.{0}))))))∧((((type_of%(@List.not_mem_nil.{0}))∧((type_of%(@Option.map_some.{0,0}))∧(type_of%(@Option.map_none.{0,0}))))∧((type_of%(@Option.bind_some.{0,0}))∧((type_of%(@Option.bind_none.{0,0}))∧(type_of%(@Option.bind_eq_bind.{0})))))∧(((type_of%(@Option.pure_def.{0}))∧((type_of%(@Option.getD_some.{0}))∧(type_of%(@Option.getD_none.{0}))))∧((type_of%(@Bool.and_true))∧((type_of%(@Bool.true_and))∧(type_of%(@Bool.not_true)))))))∧(((((type_of%(@Bool.not_false))∧((type_of%(@true_and))∧(type_of%(@and_true))))∧((type_of%(@if_true.{1}))∧((type_of%(@if_false.{1}))∧(type_of%(@Nat.add_zero)))))∧(((type_of%(@Nat.zero_add))∧((type_of%(@Int.toNat_natCast))∧(type_of%(@Nat.le_refl))))∧((type_of%(@Nat.zero_le))∧((type_of%(@Option.some.injEq.{0}))∧(type_of%(@forall_const.{1}))))))∧((((type_of%(@false_implies))∧((type_of%(@implies_true.{1}))∧(type_of%(@and_self))))∧((type_of%(@beq_self_eq_true.{0}))∧((type_of%(@Bool.false_eq_true))∧(type_of%(@forall_eq.{1})))))∧(((type_of%(@decide_true))∧((type_of%(@decide_false))∧(type_of%(@List.size_toArray.{0}))))∧((type_of%(@Nat.not_lt_zero))∧((type_of%(@Nat.lt_irrefl))∧(type_of%(@List.length_append.{0})))))))))):=⟨⟨⟨⟨⟨⟨⟨@a8J,⟨@a3r,@Go.Ab.a9K.eq_1⟩⟩,⟨@Go.Ab.a9K.eq_2,⟨@c1Y,@b1X⟩⟩⟩,⟨⟨@b6L,⟨@b6I,@b6K⟩⟩,⟨@b6J,⟨@c12,@c11⟩⟩⟩⟩,⟨⟨⟨@a8d,⟨@xK,@xL⟩⟩,⟨@xJ,⟨@nV,@nW⟩⟩⟩,⟨⟨@nU,⟨@b2D,@b2E⟩⟩,⟨@b2C,⟨@Bool.false_and,@Bool.and_false⟩⟩⟩⟩⟩,⟨⟨⟨⟨@Go.Ab.B7.eq_1,⟨@Go.Ab.B7.eq_2,@Go.Ab.Y2.eq_1⟩⟩,⟨@ne_eq.{1},⟨@not_false_eq_true,@Go.Ab.y0.eq_1⟩⟩⟩,⟨⟨@List.foldl_cons.{0,0},⟨@List.foldl_nil.{0,0},@Nat.zero_max⟩⟩,⟨@Nat.max_self,⟨@Go.Ab.b17.eq_1,@Go.Ab.pT.eq_1⟩⟩⟩⟩,⟨⟨⟨@Go.Ab.jH.eq_1,⟨@Go.Ab.jH.eq_2,@zB⟩⟩,⟨@sZ,⟨@Go.Ab.Z6.eq_1,@Go.Ab.Z6.eq_2⟩⟩⟩,⟨⟨@Go.Ab.bV.eq_1,⟨@Go.Ab.yJ.eq_1,@Go.Ab.lH.eq_1⟩⟩,⟨@Go.Ab.bH.eq_1,⟨@I5,@G9⟩⟩⟩⟩⟩⟩,⟨⟨⟨⟨⟨@Go.Ab.v7.eq_1,⟨@fX,@pV⟩⟩,⟨@List.all_append.{0},⟨@List.dropLast_cons_cons.{0},@List.dropLast_singleton.{0}⟩⟩⟩,⟨⟨@List.getLastD_cons.{0},⟨@List.getLastD_nil.{0},@Go.Ab.LS.o4.eq_1⟩⟩,⟨@Go.Ab.oH.eq_1,⟨@Go.Ab.qB.eq_1,@Go.Ab.qB.eq_2⟩⟩⟩⟩,⟨⟨⟨@exists_eq_left'.{1},⟨@AV.v.injEq,@Value.bool.injEq⟩⟩,⟨@Value.int.injEq,⟨@List.flatMap_cons.{0,0},@List.flatMap_nil.{0,0}⟩⟩⟩,⟨⟨@a3y,⟨@zA,@a8I⟩⟩,⟨@a3q,⟨@Go.Ab.a9J.eq_1,@Go.Ab.a9J.eq_2⟩⟩⟩⟩⟩,⟨⟨⟨⟨@c1X,⟨@b1W,@b6H⟩⟩,⟨@b6E,⟨@b6G,@b6F⟩⟩⟩,⟨⟨@c10,⟨@c1Z,@Go.Ab.S7.eq_1⟩⟩,⟨@Go.Ab.S7.eq_2,⟨@Go.Ab.LS.ev.eq_1,@Go.Ab.LS.ev.eq_2⟩⟩⟩⟩,⟨⟨⟨@Go.Ab.LS.ev.eq_3,⟨@Go.Ab.LS.ev.eq_4,@Go.Ab.LS.tf.eq_1⟩⟩,⟨@Go.Ab.LS.hf.eq_1,⟨@c2b,@a8r⟩⟩⟩,⟨⟨@b2f,⟨@b2l,@a8q⟩⟩,⟨@b2h,⟨@b2g,@b2i⟩⟩⟩⟩⟩⟩⟩,⟨⟨⟨⟨⟨⟨@b2j,⟨@b2k,@b7B⟩⟩,⟨@Go.Ab.a3k.eq_1,⟨@Go.Ab.nR.eq_1,@Go.Ab.nR.eq_2⟩⟩⟩,⟨⟨@Go.Ab.c0d.eq_1,⟨@Go.Ab.lJ.eq_1,@Go.Ab.lJ.eq_2⟩⟩,⟨@Go.Ab.rU.eq_1,⟨@Go.Ab.rU.eq_2,@Go.Ab.o6.eq_1⟩⟩⟩⟩,⟨⟨⟨@Go.Ab.o6.eq_2,⟨@Go.Ab.o6.eq_3,@Go.Ab.o6.eq_4⟩⟩,⟨@Go.Ab.cM.eq_1,⟨@Go.Ab.cM.eq_2,@a7O⟩⟩⟩,⟨⟨@Go.Ab.e9.eq_1,⟨@Go.Ab.e9.eq_2,@a2W⟩⟩,⟨@xA,⟨@a7W,@wZ⟩⟩⟩⟩⟩,⟨⟨⟨⟨@wY,⟨@a7j,@a7i⟩⟩,⟨@a8y,⟨@a8x,@List.lookup_cons.{0,0}⟩⟩⟩,⟨⟨@List.lookup_nil.{0,0},⟨@List.length_cons.{0},@List.length_nil.{0}⟩⟩,⟨@List.getD_cons_zero.{0},⟨@List.getD_cons_succ.{0},@List.set_cons_zero.{0}⟩⟩⟩⟩,⟨⟨⟨@List.set_cons_succ.{0},⟨@List.map_cons.{0,0},@List.map_nil.{0,0}⟩⟩,⟨@List.mapM_cons.{0,0,0},⟨@List.mapM_nil.{0,0,0},@List.take_succ_cons.{0}⟩⟩⟩,⟨⟨@List.take_zero.{0},⟨@List.take_nil.{0},@List.drop_succ_cons.{0}⟩⟩,⟨@List.drop_zero.{0},⟨@List.drop_nil.{0},@List.nil_append.{0}⟩⟩⟩⟩⟩⟩,⟨⟨⟨⟨⟨@List.cons_append.{0},⟨@List.append_nil.{0},@List.all_cons.{0}⟩⟩,⟨@List.all_nil.{0},⟨@List.modify_zero_cons.{0},@List.modify_succ_cons.{0}⟩⟩⟩,⟨⟨@List.getElem?_cons_zero.{0},⟨@List.getElem?_cons_succ.{0},@List.getElem?_nil.{0}⟩⟩,⟨@List.replicate_succ.{0},⟨@List.replicate_zero.{0},@List.forall_mem_cons.{0}⟩⟩⟩⟩,⟨⟨⟨@List.not_mem_nil.{0},⟨@Option.map_some.{0,0},@Option.map_none.{0,0}⟩⟩,⟨@Option.bind_some.{0,0},⟨@Option.bind_none.{0,0},@Option.bind_eq_bind.{0}⟩⟩⟩,⟨⟨@Option.pure_def.{0},⟨@Option.getD_some.{0},@Option.getD_none.{0}⟩⟩,⟨@Bool.and_true,⟨@Bool.true_and,@Bool.not_true⟩⟩⟩⟩⟩,⟨⟨⟨⟨@Bool.not_false,⟨@true_and,@and_true⟩⟩,⟨@if_true.{1},⟨@if_false.{1},@Nat.add_zero⟩⟩⟩,⟨⟨@Nat.zero_add,⟨@Int.toNat_natCast,@Nat.le_refl⟩⟩,⟨@Nat.zero_le,⟨@Option.some.injEq.{0},@forall_const.{1}⟩⟩⟩⟩,⟨⟨⟨@false_implies,⟨@implies_true.{1},@and_self⟩⟩,⟨@beq_self_eq_true.{0},⟨@Bool.false_eq_true,@forall_eq.{1}⟩⟩⟩,⟨⟨@decide_true,⟨@decide_false,@List.size_toArray.{0}⟩⟩,⟨@Nat.not_lt_zero,⟨@Nat.lt_irrefl,@List.length_append.{0}⟩⟩⟩⟩⟩⟩⟩⟩
theorem sC:((((((type_of%(@I5))∧((type_of%(@G9))∧(type_of%(@Go.Ab.v7.eq_1))))∧(((type_of%(@Go.Ab.LS.hf.eq_1))∧(type_of%(@Go.Ab.e9.eq_1)))∧((type_of%(@Go.Ab.e9.eq_2))∧(type_of%(@List.lookup_cons.{0,0})))))∧(((type_of%(@List.lookup_nil.{0,0}))∧((type_of%(@List.map_cons.{0,0}))∧(type_of%(@List.map_nil.{0,0}))))∧(((type_of%(@List.all_cons.{0}))∧(type_of%(@List.all_nil.{0})))∧((type_of%(@List.contains_cons.{0}))∧(type_of%(@List.contains_nil.{0}))))))∧((((type_of%(@Bool.or_false))∧((type_of%(@Bool.or_true))∧(type_of%(@Bool.false_or))))∧(((type_of%(@Bool.true_or))∧(type_of%(@if_true.{1})))∧((type_of%(@if_false.{1}))∧(type_of%(@Nat.add_zero)))))∧(((type_of%(@Bool.not_true))∧((type_of%(@Bool.not_false))∧(type_of%(@Option.map_some.{0,0}))))∧(((type_of%(@Option.bind_some.{0,0}))∧(type_of%(@Option.getD_some.{0})))∧((type_of%(@Option.getD_none.{0}))∧(type_of%(@List.length_cons.{0})))))))∧(((((type_of%(@List.length_nil.{0}))∧((type_of%(@Bool.and_true))∧(type_of%(@Bool.and_false))))∧(((type_of%(@Bool.and_self))∧(type_of%(@Bool.true_and)))∧((type_of%(@List.nodup_cons.{0}))∧(type_of%(@List.not_mem_nil.{0})))))∧(((type_of%(@List.mem_cons.{0}))∧((type_of%(@not_false_eq_true))∧(type_of%(@and_self))))∧(((type_of%(@List.nodup_nil.{0}))∧(type_of%(@or_false)))∧((type_of%(@false_or))∧(type_of%(@Bool.false_eq_true))))))∧((((type_of%(@beq_self_eq_true.{0}))∧((type_of%(@List.nil_append.{0}))∧(type_of%(@List.cons_append.{0}))))∧(((type_of%(@List.append_nil.{0}))∧(type_of%(@List.mapM_cons.{0,0,0})))∧((type_of%(@List.mapM_nil.{0,0,0}))∧(type_of%(@Option.bind_eq_bind.{0})))))∧(((type_of%(@Option.pure_def.{0}))∧((type_of%(@Option.bind_none.{0,0}))∧(type_of%(@Option.map_none.{0,0}))))∧(((type_of%(@Nat.zero_add))∧(type_of%(@eH)))∧((type_of%(@oG))∧(type_of%(@List.all_append.{0})))))))):=⟨⟨⟨⟨⟨@I5,⟨@G9,@Go.Ab.v7.eq_1⟩⟩,⟨⟨@Go.Ab.LS.hf.eq_1,@Go.Ab.e9.eq_1⟩,⟨@Go.Ab.e9.eq_2,@List.lookup_cons.{0,0}⟩⟩⟩,⟨⟨@List.lookup_nil.{0,0},⟨@List.map_cons.{0,0},@List.map_nil.{0,0}⟩⟩,⟨⟨@List.all_cons.{0},@List.all_nil.{0}⟩,⟨@List.contains_cons.{0},@List.contains_nil.{0}⟩⟩⟩⟩,⟨⟨⟨@Bool.or_false,⟨@Bool.or_true,@Bool.false_or⟩⟩,⟨⟨@Bool.true_or,@if_true.{1}⟩,⟨@if_false.{1},@Nat.add_zero⟩⟩⟩,⟨⟨@Bool.not_true,⟨@Bool.not_false,@Option.map_some.{0,0}⟩⟩,⟨⟨@Option.bind_some.{0,0},@Option.getD_some.{0}⟩,⟨@Option.getD_none.{0},@List.length_cons.{0}⟩⟩⟩⟩⟩,⟨⟨⟨⟨@List.length_nil.{0},⟨@Bool.and_true,@Bool.and_false⟩⟩,⟨⟨@Bool.and_self,@Bool.true_and⟩,⟨@List.nodup_cons.{0},@List.not_mem_nil.{0}⟩⟩⟩,⟨⟨@List.mem_cons.{0},⟨@not_false_eq_true,@and_self⟩⟩,⟨⟨@List.nodup_nil.{0},@or_false⟩,⟨@false_or,@Bool.false_eq_true⟩⟩⟩⟩,⟨⟨⟨@beq_self_eq_true.{0},⟨@List.nil_append.{0},@List.cons_append.{0}⟩⟩,⟨⟨@List.append_nil.{0},@List.mapM_cons.{0,0,0}⟩,⟨@List.mapM_nil.{0,0,0},@Option.bind_eq_bind.{0}⟩⟩⟩,⟨⟨@Option.pure_def.{0},⟨@Option.bind_none.{0,0},@Option.map_none.{0,0}⟩⟩,⟨⟨@Nat.zero_add,@eH⟩,⟨@oG,@List.all_append.{0}⟩⟩⟩⟩⟩⟩
theorem sF:((((((type_of%(@Go.Ab.LS.hf.eq_1))∧(type_of%(@List.lookup_cons.{0,0})))∧((type_of%(@List.lookup_nil.{0,0}))∧(type_of%(@beq_self_eq_true.{0}))))∧(((type_of%(@Option.getD_some.{0}))∧(type_of%(@Option.getD_none.{0})))∧((type_of%(@List.mapM_cons.{0,0,0}))∧((type_of%(@List.mapM_nil.{0,0,0}))∧(type_of%(@Option.map_some.{0,0}))))))∧((((type_of%(@Option.map_none.{0,0}))∧(type_of%(@Option.bind_some.{0,0})))∧((type_of%(@Option.bind_eq_bind.{0}))∧((type_of%(@Option.pure_def.{0}))∧(type_of%(@Go.Ab.v7.eq_1)))))∧(((type_of%(@List.all_cons.{0}))∧(type_of%(@List.all_nil.{0})))∧((type_of%(@Bool.and_true))∧((type_of%(@Bool.true_and))∧(type_of%(@Bool.and_self)))))))∧(((((type_of%(@Bool.false_and))∧(type_of%(@Bool.and_false)))∧((type_of%(@Bool.false_eq_true))∧(type_of%(@List.drop_zero.{0}))))∧(((type_of%(@List.drop_succ_cons.{0}))∧(type_of%(@List.take_zero.{0})))∧((type_of%(@List.take_succ_cons.{0}))∧((type_of%(@List.take_nil.{0}))∧(type_of%(@List.drop_nil.{0}))))))∧((((type_of%(@List.length_cons.{0}))∧(type_of%(@List.length_nil.{0})))∧((type_of%(@Nat.zero_add))∧((type_of%(@Nat.le_refl))∧(type_of%(@Nat.zero_le)))))∧(((type_of%(@and_self))∧(type_of%(@true_and)))∧((type_of%(@and_true))∧((type_of%(@if_true.{1}))∧(type_of%(@if_false.{1})))))))):=⟨⟨⟨⟨⟨@Go.Ab.LS.hf.eq_1,@List.lookup_cons.{0,0}⟩,⟨@List.lookup_nil.{0,0},@beq_self_eq_true.{0}⟩⟩,⟨⟨@Option.getD_some.{0},@Option.getD_none.{0}⟩,⟨@List.mapM_cons.{0,0,0},⟨@List.mapM_nil.{0,0,0},@Option.map_some.{0,0}⟩⟩⟩⟩,⟨⟨⟨@Option.map_none.{0,0},@Option.bind_some.{0,0}⟩,⟨@Option.bind_eq_bind.{0},⟨@Option.pure_def.{0},@Go.Ab.v7.eq_1⟩⟩⟩,⟨⟨@List.all_cons.{0},@List.all_nil.{0}⟩,⟨@Bool.and_true,⟨@Bool.true_and,@Bool.and_self⟩⟩⟩⟩⟩,⟨⟨⟨⟨@Bool.false_and,@Bool.and_false⟩,⟨@Bool.false_eq_true,@List.drop_zero.{0}⟩⟩,⟨⟨@List.drop_succ_cons.{0},@List.take_zero.{0}⟩,⟨@List.take_succ_cons.{0},⟨@List.take_nil.{0},@List.drop_nil.{0}⟩⟩⟩⟩,⟨⟨⟨@List.length_cons.{0},@List.length_nil.{0}⟩,⟨@Nat.zero_add,⟨@Nat.le_refl,@Nat.zero_le⟩⟩⟩,⟨⟨@and_self,@true_and⟩,⟨@and_true,⟨@if_true.{1},@if_false.{1}⟩⟩⟩⟩⟩⟩
theorem sN:((((((((((type_of%(@c5B))∧(type_of%(@b0X)))∧((type_of%(@b5o))∧(type_of%(@a5I))))∧(((type_of%(@b0Y))∧(type_of%(@c5C)))∧((type_of%(@b07))∧(type_of%(@b5w)))))∧((((type_of%(@a57))∧(type_of%(@b08)))∧((type_of%(@c5D))∧(type_of%(@b1f))))∧(((type_of%(@b5x))∧(type_of%(@a6l)))∧((type_of%(@b1g))∧((type_of%(@c5E))∧(type_of%(@b1m)))))))∧(((((type_of%(@b5y))∧(type_of%(@a6w)))∧((type_of%(@b1n))∧(type_of%(@c5F))))∧(((type_of%(@b1B))∧(type_of%(@b5A)))∧((type_of%(@a6X))∧((type_of%(@b1C))∧(type_of%(@c2Q))))))∧((((type_of%(@a5f))∧(type_of%(@b0R)))∧((type_of%(@a09))∧(type_of%(@a5g))))∧(((type_of%(@c2R))∧(type_of%(@a5j)))∧((type_of%(@b0S))∧((type_of%(@a1e))∧(type_of%(@a5k))))))))∧((((((type_of%(@c2S))∧(type_of%(@a5o)))∧((type_of%(@b0T))∧(type_of%(@a1l))))∧(((type_of%(@a5p))∧(type_of%(@c2T)))∧((type_of%(@a5t))∧(type_of%(@b0U)))))∧((((type_of%(@a1s))∧(type_of%(@a5u)))∧((type_of%(@c2U))∧(type_of%(@a5z))))∧(((type_of%(@b0V))∧(type_of%(@a1B)))∧((type_of%(@a5A))∧((type_of%(@c2V))∧(type_of%(@a5F)))))))∧(((((type_of%(@b0W))∧(type_of%(@a1K)))∧((type_of%(@a5G))∧(type_of%(@c2W))))∧(((type_of%(@a5L))∧(type_of%(@b00)))∧((type_of%(@a1R))∧((type_of%(@a5M))∧(type_of%(@c2X))))))∧((((type_of%(@a5N))∧(type_of%(@b01)))∧((type_of%(@a1S))∧(type_of%(@a5O))))∧(((type_of%(@c2Y))∧(type_of%(@a5Q)))∧((type_of%(@b02))∧((type_of%(@a1V))∧(type_of%(@a5R)))))))))∧(((((((type_of%(@c2Z))∧(type_of%(@a5W)))∧((type_of%(@b03))∧(type_of%(@a14))))∧(((type_of%(@a5X))∧(type_of%(@c20)))∧((type_of%(@a5Y))∧(type_of%(@b04)))))∧((((type_of%(@a15))∧(type_of%(@a5Z)))∧((type_of%(@c21))∧(type_of%(@a50))))∧(((type_of%(@b05))∧(type_of%(@a16)))∧((type_of%(@a52))∧((type_of%(@c22))∧(type_of%(@a55)))))))∧(((((type_of%(@b06))∧(type_of%(@a17)))∧((type_of%(@a56))∧(type_of%(@c23))))∧(((type_of%(@a58))∧(type_of%(@b09)))∧((type_of%(@a18))∧((type_of%(@a6a))∧(type_of%(@c24))))))∧((((type_of%(@a6b))∧(type_of%(@b1a)))∧((type_of%(@a19))∧(type_of%(@a6c))))∧(((type_of%(@c25))∧(type_of%(@a6d)))∧((type_of%(@b1b))∧((type_of%(@a2a))∧(type_of%(@a6e))))))))∧((((((type_of%(@c26))∧(type_of%(@a6f)))∧((type_of%(@b1c))∧(type_of%(@a2b))))∧(((type_of%(@a6g))∧(type_of%(@c27)))∧((type_of%(@a6h))∧(type_of%(@b1d)))))∧((((type_of%(@a2c))∧(type_of%(@a6i)))∧((type_of%(@c28))∧(type_of%(@a6j))))∧(((type_of%(@b1e))∧(type_of%(@a2d)))∧((type_of%(@a6k))∧((type_of%(@c29))∧(type_of%(@a6m)))))))∧(((((type_of%(@b1h))∧(type_of%(@a2e)))∧((type_of%(@a6n))∧(type_of%(@c3a))))∧(((type_of%(@a6o))∧(type_of%(@b1i)))∧((type_of%(@a2f))∧((type_of%(@a6p))∧(type_of%(@c3b))))))∧((((type_of%(@a6q))∧(type_of%(@b1j)))∧((type_of%(@a2g))∧(type_of%(@a6r))))∧(((type_of%(@c3c))∧(type_of%(@a6s)))∧((type_of%(@b1k))∧((type_of%(@a2h))∧(type_of%(@a6t))))))))))∧((((((((type_of%(@c3d))∧(type_of%(@a6u)))∧((type_of%(@b1l))∧(type_of%(@a2i))))∧(((type_of%(@a6v))∧(type_of%(@c3e)))∧((type_of%(@a6x))∧(type_of%(@b1o)))))∧((((type_of%(@a2j))∧(type_of%(@a6y)))∧((type_of%(@c3f))∧(type_of%(@a6z))))∧(((type_of%(@b1p))∧(type_of%(@a2k)))∧((type_of%(@a6A))∧((type_of%(@c3g))∧(type_of%(@a6B)))))))∧(((((type_of%(@b1q))∧(type_of%(@a2l)))∧((type_of%(@a6C))∧(type_of%(@c3h))))∧(((type_of%(@a6D))∧(type_of%(@b1r)))∧((type_of%(@a2m))∧((type_of%(@a6E))∧(type_of%(@c3i))))))∧((((type_of%(@a6F))∧(type_of%(@b1s)))∧((type_of%(@a2n))∧(type_of%(@a6G))))∧(((type_of%(@c3j))∧(type_of%(@a6H)))∧((type_of%(@b1t))∧((type_of%(@a2o))∧(type_of%(@a6I))))))))∧((((((type_of%(@c3k))∧(type_of%(@a6J)))∧((type_of%(@b1u))∧(type_of%(@a2p))))∧(((type_of%(@a6K))∧(type_of%(@c3l)))∧((type_of%(@a6L))∧(type_of%(@b1v)))))∧((((type_of%(@a2q))∧(type_of%(@a6M)))∧((type_of%(@c3m))∧(type_of%(@a6N))))∧(((type_of%(@b1w))∧(type_of%(@a2r)))∧((type_of%(@a6O))∧((type_of%(@c3n))∧(type_of%(@a6P)))))))∧(((((type_of%(@b1x))∧(type_of%(@a2s)))∧((type_of%(@a6Q))∧(type_of%(@c3o))))∧(((type_of%(@a6R))∧(type_of%(@b1y)))∧((type_of%(@a2t))∧((type_of%(@a6S))∧(type_of%(@c3p))))))∧((((type_of%(@a6T))∧(type_of%(@b1z)))∧((type_of%(@a2u))∧(type_of%(@a6U))))∧(((type_of%(@c3q))∧(type_of%(@a6V)))∧((type_of%(@b1A))∧((type_of%(@a2v))∧(type_of%(@a6W)))))))))∧(((((((type_of%(@b84))∧(type_of%(@a0g)))∧((type_of%(@a4L))∧(type_of%(@tQ))))∧(((type_of%(@a0h))∧(type_of%(@b85)))∧((type_of%(@a0i))∧(type_of%(@a4M)))))∧((((type_of%(@tR))∧(type_of%(@a0j)))∧((type_of%(@b86))∧(type_of%(@a0k))))∧(((type_of%(@a4N))∧(type_of%(@tS)))∧((type_of%(@a0l))∧((type_of%(@b87))∧(type_of%(@a0m)))))))∧(((((type_of%(@a4O))∧(type_of%(@tT)))∧((type_of%(@a0n))∧(type_of%(@b88))))∧(((type_of%(@a0o))∧(type_of%(@a4P)))∧((type_of%(@tU))∧((type_of%(@a0p))∧(type_of%(@b89))))))∧((((type_of%(@a0q))∧(type_of%(@a4Q)))∧((type_of%(@tV))∧(type_of%(@a0r))))∧(((type_of%(@b9a))∧(type_of%(@a0s)))∧((type_of%(@a4R))∧((type_of%(@tW))∧(type_of%(@a0t))))))))∧((((((type_of%(@b9b))∧(type_of%(@a0u)))∧((type_of%(@a4S))∧(type_of%(@tX))))∧(((type_of%(@a0v))∧(type_of%(@b9c)))∧((type_of%(@a0w))∧(type_of%(@a4T)))))∧((((type_of%(@tY))∧(type_of%(@a0x)))∧((type_of%(@b9d))∧(type_of%(@a0y))))∧(((type_of%(@a4U))∧(type_of%(@tZ)))∧((type_of%(@a0z))∧((type_of%(@b9e))∧(type_of%(@a0A)))))))∧(((((type_of%(@a4V))∧(type_of%(@uA)))∧((type_of%(@a0B))∧(type_of%(@b9f))))∧(((type_of%(@a0C))∧(type_of%(@a4W)))∧((type_of%(@uB))∧((type_of%(@a0D))∧(type_of%(@b9g))))))∧((((type_of%(@a0E))∧(type_of%(@a4X)))∧((type_of%(@uC))∧(type_of%(@a0F))))∧(((type_of%(@b9h))∧(type_of%(@a0G)))∧((type_of%(@a4Y))∧((type_of%(@uD))∧(type_of%(@a0H)))))))))))∧(((((((((type_of%(@b9i))∧(type_of%(@a0I)))∧((type_of%(@a4Z))∧(type_of%(@uE))))∧(((type_of%(@a0J))∧(type_of%(@b9j)))∧((type_of%(@a0K))∧(type_of%(@a40)))))∧((((type_of%(@uF))∧(type_of%(@a0L)))∧((type_of%(@b9k))∧(type_of%(@a0M))))∧(((type_of%(@a41))∧(type_of%(@uG)))∧((type_of%(@a0N))∧((type_of%(@b9l))∧(type_of%(@a0O)))))))∧(((((type_of%(@a43))∧(type_of%(@uH)))∧((type_of%(@a0P))∧(type_of%(@b9m))))∧(((type_of%(@a0Q))∧(type_of%(@a45)))∧((type_of%(@uI))∧((type_of%(@a0R))∧(type_of%(@b9n))))))∧((((type_of%(@a0S))∧(type_of%(@a46)))∧((type_of%(@uJ))∧(type_of%(@a0T))))∧(((type_of%(@b9o))∧(type_of%(@a0U)))∧((type_of%(@a47))∧((type_of%(@uK))∧(type_of%(@a0V))))))))∧((((((type_of%(@b9p))∧(type_of%(@a0W)))∧((type_of%(@a49))∧(type_of%(@uL))))∧(((type_of%(@a0X))∧(type_of%(@b9q)))∧((type_of%(@a0Y))∧(type_of%(@a5a)))))∧((((type_of%(@uM))∧(type_of%(@a0Z)))∧((type_of%(@b9r))∧(type_of%(@a01))))∧(((type_of%(@a5b))∧(type_of%(@uN)))∧((type_of%(@a02))∧((type_of%(@b9s))∧(type_of%(@a03)))))))∧(((((type_of%(@a5c))∧(type_of%(@uO)))∧((type_of%(@a04))∧(type_of%(@b9t))))∧(((type_of%(@a05))∧(type_of%(@a5d)))∧((type_of%(@uP))∧((type_of%(@a06))∧(type_of%(@b9u))))))∧((((type_of%(@a07))∧(type_of%(@a5e)))∧((type_of%(@uQ))∧(type_of%(@a08))))∧(((type_of%(@b9v))∧(type_of%(@a1a)))∧((type_of%(@a5h))∧((type_of%(@uR))∧(type_of%(@a1b)))))))))∧(((((((type_of%(@b9w))∧(type_of%(@a1c)))∧((type_of%(@a5i))∧(type_of%(@uS))))∧(((type_of%(@a1d))∧(type_of%(@b9x)))∧((type_of%(@a1f))∧(type_of%(@a5l)))))∧((((type_of%(@uT))∧(type_of%(@a1g)))∧((type_of%(@b9y))∧(type_of%(@a1h))))∧(((type_of%(@a5m))∧(type_of%(@uU)))∧((type_of%(@a1i))∧((type_of%(@b9z))∧(type_of%(@a1j)))))))∧(((((type_of%(@a5n))∧(type_of%(@uV)))∧((type_of%(@a1k))∧(type_of%(@b9A))))∧(((type_of%(@a1m))∧(type_of%(@a5q)))∧((type_of%(@uW))∧((type_of%(@a1n))∧(type_of%(@b9B))))))∧((((type_of%(@a1o))∧(type_of%(@a5r)))∧((type_of%(@uX))∧(type_of%(@a1p))))∧(((type_of%(@b9C))∧(type_of%(@a1q)))∧((type_of%(@a5s))∧((type_of%(@uY))∧(type_of%(@a1r))))))))∧((((((type_of%(@b9D))∧(type_of%(@a1t)))∧((type_of%(@a5v))∧(type_of%(@uZ))))∧(((type_of%(@a1u))∧(type_of%(@b9E)))∧((type_of%(@a1v))∧(type_of%(@a5w)))))∧((((type_of%(@vA))∧(type_of%(@a1w)))∧((type_of%(@b9F))∧(type_of%(@a1x))))∧(((type_of%(@a5x))∧(type_of%(@vB)))∧((type_of%(@a1y))∧((type_of%(@b9G))∧(type_of%(@a1z)))))))∧(((((type_of%(@a5y))∧(type_of%(@vC)))∧((type_of%(@a1A))∧(type_of%(@b9H))))∧(((type_of%(@a1C))∧(type_of%(@a5B)))∧((type_of%(@vD))∧((type_of%(@a1D))∧(type_of%(@b9I))))))∧((((type_of%(@a1E))∧(type_of%(@a5C)))∧((type_of%(@vE))∧(type_of%(@a1F))))∧(((type_of%(@b9J))∧(type_of%(@a1G)))∧((type_of%(@a5D))∧((type_of%(@vF))∧(type_of%(@a1H))))))))))∧((((((((type_of%(@b9K))∧(type_of%(@a1I)))∧((type_of%(@a5E))∧(type_of%(@vG))))∧(((type_of%(@a1J))∧(type_of%(@b9L)))∧((type_of%(@a1L))∧(type_of%(@a5H)))))∧((((type_of%(@vH))∧(type_of%(@a1M)))∧((type_of%(@b9M))∧(type_of%(@a1N))))∧(((type_of%(@a5J))∧(type_of%(@vI)))∧((type_of%(@a1O))∧((type_of%(@b9N))∧(type_of%(@a1P)))))))∧(((((type_of%(@a5K))∧(type_of%(@vJ)))∧((type_of%(@a1Q))∧(type_of%(@b9O))))∧(((type_of%(@a1T))∧(type_of%(@a5P)))∧((type_of%(@vK))∧((type_of%(@a1U))∧(type_of%(@b9P))))))∧((((type_of%(@a1W))∧(type_of%(@a5S)))∧((type_of%(@vL))∧(type_of%(@a1X))))∧(((type_of%(@b9Q))∧(type_of%(@a1Y)))∧((type_of%(@a5T))∧((type_of%(@vM))∧(type_of%(@a1Z))))))))∧((((((type_of%(@b9R))∧(type_of%(@a10)))∧((type_of%(@a5U))∧(type_of%(@vN))))∧(((type_of%(@a11))∧(type_of%(@b9S)))∧((type_of%(@a12))∧(type_of%(@a5V)))))∧((((type_of%(@vO))∧(type_of%(@a13)))∧((type_of%(@c5w))∧(type_of%(@c5x))))∧(((type_of%(@c5y))∧(type_of%(@c5z)))∧((type_of%(@c5A))∧((type_of%(@c2g))∧(type_of%(@c2h)))))))∧(((((type_of%(@c2i))∧(type_of%(@c2j)))∧((type_of%(@c2k))∧(type_of%(@c2l))))∧(((type_of%(@c2m))∧(type_of%(@c2n)))∧((type_of%(@c2o))∧((type_of%(@b8X))∧(type_of%(@c2p))))))∧((((type_of%(@c2q))∧(type_of%(@c2r)))∧((type_of%(@c2s))∧(type_of%(@c2t))))∧(((type_of%(@c2u))∧(type_of%(@c2v)))∧((type_of%(@c2w))∧((type_of%(@c2x))∧(type_of%(@c2y)))))))))∧(((((((type_of%(@c2z))∧(type_of%(@c2A)))∧((type_of%(@c2B))∧(type_of%(@c2C))))∧(((type_of%(@c2D))∧(type_of%(@c2E)))∧((type_of%(@c2F))∧(type_of%(@c2G)))))∧((((type_of%(@c2H))∧(type_of%(@c2I)))∧((type_of%(@c2J))∧(type_of%(@c2K))))∧(((type_of%(@c2L))∧(type_of%(@c2M)))∧((type_of%(@c2N))∧((type_of%(@c2O))∧(type_of%(@c2P)))))))∧(((((type_of%(@b8b))∧(type_of%(@b8c)))∧((type_of%(@b8d))∧(type_of%(@b8e))))∧(((type_of%(@b8f))∧(type_of%(@b8g)))∧((type_of%(@b8h))∧((type_of%(@b8i))∧(type_of%(@b8j))))))∧((((type_of%(@b8k))∧(type_of%(@b8l)))∧((type_of%(@b8m))∧(type_of%(@b8n))))∧(((type_of%(@b8o))∧(type_of%(@b8p)))∧((type_of%(@b8q))∧((type_of%(@b8r))∧(type_of%(@b8s))))))))∧((((((type_of%(@b8t))∧(type_of%(@b8u)))∧((type_of%(@b8v))∧(type_of%(@b8w))))∧(((type_of%(@b8x))∧(type_of%(@b8y)))∧((type_of%(@b8z))∧((type_of%(@b8A))∧(type_of%(@b8B))))))∧((((type_of%(@b8C))∧(type_of%(@b8D)))∧((type_of%(@b8E))∧(type_of%(@b8F))))∧(((type_of%(@b8G))∧(type_of%(@b8H)))∧((type_of%(@b8I))∧((type_of%(@b8J))∧(type_of%(@b8K)))))))∧(((((type_of%(@b8L))∧(type_of%(@b8M)))∧((type_of%(@b8N))∧(type_of%(@b8O))))∧(((type_of%(@b8P))∧(type_of%(@b8Q)))∧((type_of%(@b8R))∧((type_of%(@b8S))∧(type_of%(@b8T))))))∧((((type_of%(@b8U))∧(type_of%(@b8V)))∧((type_of%(@b8W))∧(type_of%(@b8Y))))∧(((type_of%(@b8Z))∧(type_of%(@b80)))∧((type_of%(@b81))∧((type_of%(@b9T))∧(type_of%(@c15)))))))))))):=⟨⟨⟨⟨⟨⟨⟨⟨⟨@c5B,@b0X⟩,⟨@b5o,@a5I⟩⟩,⟨⟨@b0Y,@c5C⟩,⟨@b07,@b5w⟩⟩⟩,⟨⟨⟨@a57,@b08⟩,⟨@c5D,@b1f⟩⟩,⟨⟨@b5x,@a6l⟩,⟨@b1g,⟨@c5E,@b1m⟩⟩⟩⟩⟩,⟨⟨⟨⟨@b5y,@a6w⟩,⟨@b1n,@c5F⟩⟩,⟨⟨@b1B,@b5A⟩,⟨@a6X,⟨@b1C,@c2Q⟩⟩⟩⟩,⟨⟨⟨@a5f,@b0R⟩,⟨@a09,@a5g⟩⟩,⟨⟨@c2R,@a5j⟩,⟨@b0S,⟨@a1e,@a5k⟩⟩⟩⟩⟩⟩,⟨⟨⟨⟨⟨@c2S,@a5o⟩,⟨@b0T,@a1l⟩⟩,⟨⟨@a5p,@c2T⟩,⟨@a5t,@b0U⟩⟩⟩,⟨⟨⟨@a1s,@a5u⟩,⟨@c2U,@a5z⟩⟩,⟨⟨@b0V,@a1B⟩,⟨@a5A,⟨@c2V,@a5F⟩⟩⟩⟩⟩,⟨⟨⟨⟨@b0W,@a1K⟩,⟨@a5G,@c2W⟩⟩,⟨⟨@a5L,@b00⟩,⟨@a1R,⟨@a5M,@c2X⟩⟩⟩⟩,⟨⟨⟨@a5N,@b01⟩,⟨@a1S,@a5O⟩⟩,⟨⟨@c2Y,@a5Q⟩,⟨@b02,⟨@a1V,@a5R⟩⟩⟩⟩⟩⟩⟩,⟨⟨⟨⟨⟨⟨@c2Z,@a5W⟩,⟨@b03,@a14⟩⟩,⟨⟨@a5X,@c20⟩,⟨@a5Y,@b04⟩⟩⟩,⟨⟨⟨@a15,@a5Z⟩,⟨@c21,@a50⟩⟩,⟨⟨@b05,@a16⟩,⟨@a52,⟨@c22,@a55⟩⟩⟩⟩⟩,⟨⟨⟨⟨@b06,@a17⟩,⟨@a56,@c23⟩⟩,⟨⟨@a58,@b09⟩,⟨@a18,⟨@a6a,@c24⟩⟩⟩⟩,⟨⟨⟨@a6b,@b1a⟩,⟨@a19,@a6c⟩⟩,⟨⟨@c25,@a6d⟩,⟨@b1b,⟨@a2a,@a6e⟩⟩⟩⟩⟩⟩,⟨⟨⟨⟨⟨@c26,@a6f⟩,⟨@b1c,@a2b⟩⟩,⟨⟨@a6g,@c27⟩,⟨@a6h,@b1d⟩⟩⟩,⟨⟨⟨@a2c,@a6i⟩,⟨@c28,@a6j⟩⟩,⟨⟨@b1e,@a2d⟩,⟨@a6k,⟨@c29,@a6m⟩⟩⟩⟩⟩,⟨⟨⟨⟨@b1h,@a2e⟩,⟨@a6n,@c3a⟩⟩,⟨⟨@a6o,@b1i⟩,⟨@a2f,⟨@a6p,@c3b⟩⟩⟩⟩,⟨⟨⟨@a6q,@b1j⟩,⟨@a2g,@a6r⟩⟩,⟨⟨@c3c,@a6s⟩,⟨@b1k,⟨@a2h,@a6t⟩⟩⟩⟩⟩⟩⟩⟩,⟨⟨⟨⟨⟨⟨⟨@c3d,@a6u⟩,⟨@b1l,@a2i⟩⟩,⟨⟨@a6v,@c3e⟩,⟨@a6x,@b1o⟩⟩⟩,⟨⟨⟨@a2j,@a6y⟩,⟨@c3f,@a6z⟩⟩,⟨⟨@b1p,@a2k⟩,⟨@a6A,⟨@c3g,@a6B⟩⟩⟩⟩⟩,⟨⟨⟨⟨@b1q,@a2l⟩,⟨@a6C,@c3h⟩⟩,⟨⟨@a6D,@b1r⟩,⟨@a2m,⟨@a6E,@c3i⟩⟩⟩⟩,⟨⟨⟨@a6F,@b1s⟩,⟨@a2n,@a6G⟩⟩,⟨⟨@c3j,@a6H⟩,⟨@b1t,⟨@a2o,@a6I⟩⟩⟩⟩⟩⟩,⟨⟨⟨⟨⟨@c3k,@a6J⟩,⟨@b1u,@a2p⟩⟩,⟨⟨@a6K,@c3l⟩,⟨@a6L,@b1v⟩⟩⟩,⟨⟨⟨@a2q,@a6M⟩,⟨@c3m,@a6N⟩⟩,⟨⟨@b1w,@a2r⟩,⟨@a6O,⟨@c3n,@a6P⟩⟩⟩⟩⟩,⟨⟨⟨⟨@b1x,@a2s⟩,⟨@a6Q,@c3o⟩⟩,⟨⟨@a6R,@b1y⟩,⟨@a2t,⟨@a6S,@c3p⟩⟩⟩⟩,⟨⟨⟨@a6T,@b1z⟩,⟨@a2u,@a6U⟩⟩,⟨⟨@c3q,@a6V⟩,⟨@b1A,⟨@a2v,@a6W⟩⟩⟩⟩⟩⟩⟩,⟨⟨⟨⟨⟨⟨@b84,@a0g⟩,⟨@a4L,@tQ⟩⟩,⟨⟨@a0h,@b85⟩,⟨@a0i,@a4M⟩⟩⟩,⟨⟨⟨@tR,@a0j⟩,⟨@b86,@a0k⟩⟩,⟨⟨@a4N,@tS⟩,⟨@a0l,⟨@b87,@a0m⟩⟩⟩⟩⟩,⟨⟨⟨⟨@a4O,@tT⟩,⟨@a0n,@b88⟩⟩,⟨⟨@a0o,@a4P⟩,⟨@tU,⟨@a0p,@b89⟩⟩⟩⟩,⟨⟨⟨@a0q,@a4Q⟩,⟨@tV,@a0r⟩⟩,⟨⟨@b9a,@a0s⟩,⟨@a4R,⟨@tW,@a0t⟩⟩⟩⟩⟩⟩,⟨⟨⟨⟨⟨@b9b,@a0u⟩,⟨@a4S,@tX⟩⟩,⟨⟨@a0v,@b9c⟩,⟨@a0w,@a4T⟩⟩⟩,⟨⟨⟨@tY,@a0x⟩,⟨@b9d,@a0y⟩⟩,⟨⟨@a4U,@tZ⟩,⟨@a0z,⟨@b9e,@a0A⟩⟩⟩⟩⟩,⟨⟨⟨⟨@a4V,@uA⟩,⟨@a0B,@b9f⟩⟩,⟨⟨@a0C,@a4W⟩,⟨@uB,⟨@a0D,@b9g⟩⟩⟩⟩,⟨⟨⟨@a0E,@a4X⟩,⟨@uC,@a0F⟩⟩,⟨⟨@b9h,@a0G⟩,⟨@a4Y,⟨@uD,@a0H⟩⟩⟩⟩⟩⟩⟩⟩⟩,⟨⟨⟨⟨⟨⟨⟨⟨@b9i,@a0I⟩,⟨@a4Z,@uE⟩⟩,⟨⟨@a0J,@b9j⟩,⟨@a0K,@a40⟩⟩⟩,⟨⟨⟨@uF,@a0L⟩,⟨@b9k,@a0M⟩⟩,⟨⟨@a41,@uG⟩,⟨@a0N,⟨@b9l,@a0O⟩⟩⟩⟩⟩,⟨⟨⟨⟨@a43,@uH⟩,⟨@a0P,@b9m⟩⟩,⟨⟨@a0Q,@a45⟩,⟨@uI,⟨@a0R,@b9n⟩⟩⟩⟩,⟨⟨⟨@a0S,@a46⟩,⟨@uJ,@a0T⟩⟩,⟨⟨@b9o,@a0U⟩,⟨@a47,⟨@uK,@a0V⟩⟩⟩⟩⟩⟩,⟨⟨⟨⟨⟨@b9p,@a0W⟩,⟨@a49,@uL⟩⟩,⟨⟨@a0X,@b9q⟩,⟨@a0Y,@a5a⟩⟩⟩,⟨⟨⟨@uM,@a0Z⟩,⟨@b9r,@a01⟩⟩,⟨⟨@a5b,@uN⟩,⟨@a02,⟨@b9s,@a03⟩⟩⟩⟩⟩,⟨⟨⟨⟨@a5c,@uO⟩,⟨@a04,@b9t⟩⟩,⟨⟨@a05,@a5d⟩,⟨@uP,⟨@a06,@b9u⟩⟩⟩⟩,⟨⟨⟨@a07,@a5e⟩,⟨@uQ,@a08⟩⟩,⟨⟨@b9v,@a1a⟩,⟨@a5h,⟨@uR,@a1b⟩⟩⟩⟩⟩⟩⟩,⟨⟨⟨⟨⟨⟨@b9w,@a1c⟩,⟨@a5i,@uS⟩⟩,⟨⟨@a1d,@b9x⟩,⟨@a1f,@a5l⟩⟩⟩,⟨⟨⟨@uT,@a1g⟩,⟨@b9y,@a1h⟩⟩,⟨⟨@a5m,@uU⟩,⟨@a1i,⟨@b9z,@a1j⟩⟩⟩⟩⟩,⟨⟨⟨⟨@a5n,@uV⟩,⟨@a1k,@b9A⟩⟩,⟨⟨@a1m,@a5q⟩,⟨@uW,⟨@a1n,@b9B⟩⟩⟩⟩,⟨⟨⟨@a1o,@a5r⟩,⟨@uX,@a1p⟩⟩,⟨⟨@b9C,@a1q⟩,⟨@a5s,⟨@uY,@a1r⟩⟩⟩⟩⟩⟩,⟨⟨⟨⟨⟨@b9D,@a1t⟩,⟨@a5v,@uZ⟩⟩,⟨⟨@a1u,@b9E⟩,⟨@a1v,@a5w⟩⟩⟩,⟨⟨⟨@vA,@a1w⟩,⟨@b9F,@a1x⟩⟩,⟨⟨@a5x,@vB⟩,⟨@a1y,⟨@b9G,@a1z⟩⟩⟩⟩⟩,⟨⟨⟨⟨@a5y,@vC⟩,⟨@a1A,@b9H⟩⟩,⟨⟨@a1C,@a5B⟩,⟨@vD,⟨@a1D,@b9I⟩⟩⟩⟩,⟨⟨⟨@a1E,@a5C⟩,⟨@vE,@a1F⟩⟩,⟨⟨@b9J,@a1G⟩,⟨@a5D,⟨@vF,@a1H⟩⟩⟩⟩⟩⟩⟩⟩,⟨⟨⟨⟨⟨⟨⟨@b9K,@a1I⟩,⟨@a5E,@vG⟩⟩,⟨⟨@a1J,@b9L⟩,⟨@a1L,@a5H⟩⟩⟩,⟨⟨⟨@vH,@a1M⟩,⟨@b9M,@a1N⟩⟩,⟨⟨@a5J,@vI⟩,⟨@a1O,⟨@b9N,@a1P⟩⟩⟩⟩⟩,⟨⟨⟨⟨@a5K,@vJ⟩,⟨@a1Q,@b9O⟩⟩,⟨⟨@a1T,@a5P⟩,⟨@vK,⟨@a1U,@b9P⟩⟩⟩⟩,⟨⟨⟨@a1W,@a5S⟩,⟨@vL,@a1X⟩⟩,⟨⟨@b9Q,@a1Y⟩,⟨@a5T,⟨@vM,@a1Z⟩⟩⟩⟩⟩⟩,⟨⟨⟨⟨⟨@b9R,@a10⟩,⟨@a5U,@vN⟩⟩,⟨⟨@a11,@b9S⟩,⟨@a12,@a5V⟩⟩⟩,⟨⟨⟨@vO,@a13⟩,⟨@c5w,@c5x⟩⟩,⟨⟨@c5y,@c5z⟩,⟨@c5A,⟨@c2g,@c2h⟩⟩⟩⟩⟩,⟨⟨⟨⟨@c2i,@c2j⟩,⟨@c2k,@c2l⟩⟩,⟨⟨@c2m,@c2n⟩,⟨@c2o,⟨@b8X,@c2p⟩⟩⟩⟩,⟨⟨⟨@c2q,@c2r⟩,⟨@c2s,@c2t⟩⟩,⟨⟨@c2u,@c2v⟩,⟨@c2w,⟨@c2x,@c2y⟩⟩⟩⟩⟩⟩⟩,⟨⟨⟨⟨⟨⟨@c2z,@c2A⟩,⟨@c2B,@c2C⟩⟩,⟨⟨@c2D,@c2E⟩,⟨@c2F,@c2G⟩⟩⟩,⟨⟨⟨@c2H,@c2I⟩,⟨@c2J,@c2K⟩⟩,⟨⟨@c2L,@c2M⟩,⟨@c2N,⟨@c2O,@c2P⟩⟩⟩⟩⟩,⟨⟨⟨⟨@b8b,@b8c⟩,⟨@b8d,@b8e⟩⟩,⟨⟨@b8f,@b8g⟩,⟨@b8h,⟨@b8i,@b8j⟩⟩⟩⟩,⟨⟨⟨@b8k,@b8l⟩,⟨@b8m,@b8n⟩⟩,⟨⟨@b8o,@b8p⟩,⟨@b8q,⟨@b8r,@b8s⟩⟩⟩⟩⟩⟩,⟨⟨⟨⟨⟨@b8t,@b8u⟩,⟨@b8v,@b8w⟩⟩,⟨⟨@b8x,@b8y⟩,⟨@b8z,⟨@b8A,@b8B⟩⟩⟩⟩,⟨⟨⟨@b8C,@b8D⟩,⟨@b8E,@b8F⟩⟩,⟨⟨@b8G,@b8H⟩,⟨@b8I,⟨@b8J,@b8K⟩⟩⟩⟩⟩,⟨⟨⟨⟨@b8L,@b8M⟩,⟨@b8N,@b8O⟩⟩,⟨⟨@b8P,@b8Q⟩,⟨@b8R,⟨@b8S,@b8T⟩⟩⟩⟩,⟨⟨⟨@b8U,@b8V⟩,⟨@b8W,@b8Y⟩⟩,⟨⟨@b8Z,@b80⟩,⟨@b81,⟨@b9T,@c15⟩⟩⟩⟩⟩⟩⟩⟩⟩⟩
section
theorem Zq{A B:Prop}(a:A)(b:B):A∧B:=⟨a,b⟩
structure Zz (P:Prop):Prop where mk::(o:P)
structure Zb (P:Prop):Prop where mk::(o:P)
structure Zi (P:Prop):Prop where mk::(o:P)
structure ZZ (P:Prop):Type where mk::(d:P)
def sR:=ZZ.mk (Zq (Zq (Zq (Zq (Zq (Zq (Zq Tryz.results3 Tryz.results4) (Zq Tryz.results5 (Zq Tryz.results6 Tryz.results7))) (Zq (Zq Tryz.results8 (Zq Tryz.results9 Tryz.results10)) (Zq Tryz.results11 (Zq Tryz.results12 Tryz.results13)))) (Zq (Zq (Zq Tryz.results14 (Zq Tryz.results15 Tryz.results16)) (Zq Tryz.results17 (Zq Tryz.results18 Tryz.results19))) (Zq (Zq Tryz.results20 (Zq Tryz.results21 Tryz.results22)) (Zq Tryz.results23 (Zq Tryz.results24 Tryz.results25))))) (Zq (Zq (Zq (Zq Tryz.results26 (Zq Tryz.results27 Tryz.results28)) (Zq Tryz.results29 (Zq Tryz.results30 Tryz.results31))) (Zq (Zq Tryz.results41 (Zq Tryz.results42 Tryz.results43)) (Zq Tryz.results44 (Zq Tryz.results45 Tryz.results46)))) (Zq (Zq (Zq Tryz.results47 (Zq Tryz.results48 Tryz.results49)) (Zq Tryz.results50 (Zq Tryz.results51 Tryz.results52))) (Zq (Zq Tryz.results53 (Zq Tryz.results54 Tryz.results55)) (Zq Tryz.results59 (Zq Tryz.results60 Tryz.results61)))))) (Zq (Zq (Zq (Zq (Zq Tryz.results62 (Zq Tryz.results63 Tryz.results64)) (Zq Tryz.results65 (Zq Tryz.results66 Tryz.results67))) (Zq (Zq Tryz.results68 (Zq Tryz.results69 Tryz.results70)) (Zq Tryz.results71 (Zq Tryz.results72 Tryz.results73)))) (Zq (Zq (Zq Tryz.results74 (Zq Tryz.results75 Tryz.results76)) (Zq Tryz.results77 (Zq Tryz.results78 Tryz.results79))) (Zq (Zq Tryz.results80 (Zq Tryz.results81 Tryz.results82)) (Zq Tryz.results83 (Zq Tryz.results84 Tryz.results85))))) (Zq (Zq (Zq (Zq Tryz.results86 (Zq Tryz.results87 Tryz.results88)) (Zq Tryz.results92 (Zq Tryz.results99 Tryz.results104))) (Zq (Zq Tryz.results105 (Zq Tryz.results106 Tryz.results107)) (Zq Tryz.results108 (Zq Tryz.results109 Tryz.results110)))) (Zq (Zq (Zq Tryz.results111 (Zq Tryz.results112 Tryz.results113)) (Zq Tryz.results114 (Zq Tryz.results115 Tryz.results116))) (Zq (Zq Tryz.results117 (Zq Tryz.results118 Tryz.results119)) (Zq Tryz.results120 (Zq Tryz.results121 Tryz.results122))))))) (Zq (Zq (Zq (Zq (Zq (Zq Tryz.results123 (Zq Tryz.results124 Tryz.results125)) (Zq Tryz.results126 (Zq Tryz.results127 Tryz.results128))) (Zq (Zq Tryz.results129 (Zq Tryz.results130 Tryz.results135)) (Zq Tryz.results136 (Zq Tryz.results137 Tryz.results138)))) (Zq (Zq (Zq Tryz.results139 (Zq Tryz.results140 Tryz.results141)) (Zq Tryz.results142 (Zq Tryz.results143 Tryz.results144))) (Zq (Zq Tryz.results145 (Zq Tryz.results146 Tryz.results147)) (Zq Tryz.results148 (Zq Tryz.results149 Tryz.results150))))) (Zq (Zq (Zq (Zq Tryz.results151 (Zq Tryz.results152 Tryz.results153)) (Zq Tryz.results154 (Zq Tryz.results155 Tryz.results156))) (Zq (Zq Tryz.results157 (Zq Tryz.results158 Tryz.results159)) (Zq Tryz.results160 (Zq Tryz.results161 Tryz.results162)))) (Zq (Zq (Zq Tryz.results163 (Zq Tryz.results164 Tryz.results165)) (Zq Tryz.results170 (Zq Tryz.results172 Tryz.results184))) (Zq (Zq Tryz.results185 (Zq Tryz.results186 Tryz.results187)) (Zq Tryz.results188 (Zq Tryz.results189 Tryz.results190)))))) (Zq (Zq (Zq (Zq (Zq Tryz.results191 (Zq Tryz.results192 Tryz.results193)) (Zq Tryz.results194 (Zq Tryz.results195 Tryz.results196))) (Zq (Zq Tryz.results197 (Zq Tryz.results198 Tryz.results199)) (Zq Tryz.results200 (Zq Tryz.results201 Tryz.results202)))) (Zq (Zq (Zq Tryz.results203 (Zq Tryz.results204 Tryz.results205)) (Zq Tryz.results208 (Zq Tryz.results209 Tryz.results210))) (Zq (Zq Tryz.results211 (Zq Tryz.results212 Tryz.results213)) (Zq Tryz.results214 (Zq Tryz.results215 Tryz.results216))))) (Zq (Zq (Zq (Zq Tryz.results217 (Zq Tryz.results218 Tryz.results219)) (Zq Tryz.results220 (Zq Tryz.results221 Tryz.results222))) (Zq (Zq Tryz.results223 (Zq Tryz.results224 Tryz.results226)) (Zq Tryz.results234 (Zq Tryz.results235 Tryz.results236)))) (Zq (Zq (Zq Tryz.results237 (Zq Tryz.results241 Tryz.results242)) (Zq Tryz.results243 (Zq Tryz.results244 Tryz.results246))) (Zq (Zq Tryz.results249 (Zq Tryz.results255 Tryz.results258)) (Zq Tryz.results259 (Zq Tryz.results265 Tryz.results271))))))))
theorem Za {P Q:Prop} (k:Q) (h:Q→P:=by
 intro k
 first
 |(guard_target=~ AK Tryz.prog _ _ _ _;first|exact b5K k|exact a7f k|exact b1J k|exact b1H k|exact b5J k|exact b5H (Zb.o k)|exact b1I (by kernel_rfl) (by kernel_rfl) (Zz.o k)|exact a2C rfl k|exact a2B rfl k|exact(fun(_:True)=>bK rfl (fun h=>(by exfalso;omega)) (fun h=>(by exfalso;omega))) k|exact bK rfl (fun h=>(by exfalso;omega)) (Zi.o k)|exact bK rfl (Zi.o k) (fun h=>(by exfalso;omega))|exact bK rfl (And.left k) (And.right k)|exact mX rfl (And.left k) (And.right k))
 |with_reducible exact a8e k
 |with_reducible exact hN _ k
 |((with_reducible refine And.intro (?_:dQ _ _=true) k);rw[←hmk];first|rfl|kernel_rfl)):P:=h k
theorem Zl {P Q:Prop} (k:Q) (h:Q→P:=by
 intro k
 first
 |(guard_target=~ AK Tryz.prog _ _ _ _;first|exact b5K k|exact a7f k|exact b1J k|exact b1H k|exact b5J k|exact b5H (Zb.o k)|exact c0b (by kernel_rfl) rfl (by kernel_rfl) (by kernel_rfl) (by kernel_rfl) (Zz.o k)|exact b1I (by kernel_rfl) (by kernel_rfl) (Zz.o k)|exact a2C rfl k|exact a2B rfl k|exact(fun(_:True)=>bK rfl (fun h=>(by exfalso;omega)) (fun h=>(by exfalso;omega))) k|exact bK rfl (fun h=>(by exfalso;omega)) (Zi.o k)|exact bK rfl (Zi.o k) (fun h=>(by exfalso;omega))|exact bK rfl (And.left k) (And.right k)|exact mX rfl (And.left k) (And.right k))
 |with_reducible exact a8e k
 |with_reducible exact hN _ k
 |((with_reducible refine And.intro (?_:dQ _ _=true) k);rw[←hmk];first|rfl|kernel_rfl)):P:=h k
theorem Zc {T P Q:Prop} (C:T) (k:Q) (h:T→Q→P:=by
 intro C k
 first
 |(guard_target=~ fO Tryz.prog _ _ _ _ _ _;first|exact a2I C rfl k|exact jQ C rfl rfl k)
 |(guard_target=~ eT Tryz.prog _ _ _ _ _ _ _;exact wQ C rfl k)):P:=h C k
theorem Ze {T P Q:Prop} (C:T) (k:Q) (h:T→Q→P:=by
 intro C k
 first
 |(guard_target=~ fO Tryz.prog _ _ _ _ _ _;exact a9t C rfl rfl rfl rfl rfl rfl rfl k)
 |(guard_target=~ eT Tryz.prog _ _ _ _ _ _ _;exact a7u C rfl rfl rfl rfl rfl rfl rfl k)):P:=h C k
theorem Zs {A P Q:Prop} (e:A) (k:Q) (h:A→Q→P:=by
 intro e k
 first
 |(with_reducible exact And.intro (by omega) k)
 |(refine Eq.mp (?_:_=_) k;simp (maxSteps:=10000000) (disch:=omega) only[e,l9,P7,s9,A2,p7,o3,AV.kept,b7,n4,u0,B3,p9,o9,b8,AV.y8,m8,v8,AV.plain,rd,u6,a6,P6,stepC,AV.e6,AV.S9,AV.w6,AV.L8,AV.scalar,T8,s6,A6,A9,B1,A8,o8,A5,U0,s7,A7,z8,j3,T7,l0,y7,y5,Q0,z6,j8,TD.isRow,s8,j7,j9,j6,F4,Value.oneCell',↓reduceIte,Int.reduceNe,Int.reduceEq,Nat.reduceAdd,Nat.reduceLT,Nat.reduceLeDiff,Nat.reduceSub,Nat.reduceMul,Nat.reduceBEq,Nat.reduceEqDiff,reduceCtorEq,Int.reduceToNat,←decide_not,←Bool.decide_and,sA,sN];rfl)
 |exact a9R (fun h=>Eq.mp (by(try simp only[h]);rfl) ((And.left k:_→_) h)) (fun h=>Eq.mp (by(try simp only[h]);rfl) ((And.right k:_→_) h))
 |exact a9Q (fun h=>Eq.mp (by(try simp only[h]);rfl) ((And.left k:_→_) h)) (fun h=>Eq.mp (by(try simp only[h]);rfl) ((And.right k:_→_) h))
 |exact a9T (fun h=>Eq.mp (by(try simp only[h]);rfl) ((And.left k:_→_) h)) (fun h=>Eq.mp (by(try simp only[h]);rfl) ((And.right k:_→_) h))
 |exact a9S (fun h=>Eq.mp (by(try simp only[h]);rfl) ((And.left k:_→_) h)) (fun h=>Eq.mp (by(try simp only[h]);rfl) ((And.right k:_→_) h))):P:=h e k
theorem Zt {A P Q:Prop} (e:A) (k:Q) (h:A→Q→P:=by
 intro e k
 first
 |(with_reducible exact And.intro (by omega) k)
 |refine(show a4u _ _ _ _ _ from⟨trivial,k⟩)
 |refine(show a4w _ _ _ _ _ _ from⟨trivial,k⟩)
 |(refine Eq.mp (?_:_=_) k;simp (maxSteps:=10000000) (disch:=omega) only[e,sR.d,l9,P7,s9,A2,p7,o3,AV.kept,b7,n4,u0,B3,p9,o9,b8,AV.y8,m8,v8,AV.plain,rd,u6,a6,P6,stepC,AV.e6,AV.S9,AV.w6,AV.L8,AV.scalar,T8,s6,A6,A9,B1,A8,o8,A5,U0,s7,A7,z8,j3,T7,l0,y7,y5,Q0,z6,j8,TD.isRow,s8,j7,j9,j6,F4,Value.oneCell',↓reduceIte,Int.reduceNe,Int.reduceEq,Nat.reduceAdd,Nat.reduceLT,Nat.reduceLeDiff,Nat.reduceSub,Nat.reduceMul,Nat.reduceBEq,Nat.reduceEqDiff,reduceCtorEq,Int.reduceToNat,←decide_not,←Bool.decide_and,sA,sN];rfl)
 |exact a9R (fun h=>Eq.mp (by(try simp only[h]);rfl) ((And.left k:_→_) h)) (fun h=>Eq.mp (by(try simp only[h]);rfl) ((And.right k:_→_) h))
 |exact a9Q (fun h=>Eq.mp (by(try simp only[h]);rfl) ((And.left k:_→_) h)) (fun h=>Eq.mp (by(try simp only[h]);rfl) ((And.right k:_→_) h))
 |exact a9T (fun h=>Eq.mp (by(try simp only[h]);rfl) ((And.left k:_→_) h)) (fun h=>Eq.mp (by(try simp only[h]);rfl) ((And.right k:_→_) h))
 |exact a9S (fun h=>Eq.mp (by(try simp only[h]);rfl) ((And.left k:_→_) h)) (fun h=>Eq.mp (by(try simp only[h]);rfl) ((And.right k:_→_) h))):P:=h e k
theorem oQ {A P Q:Prop} (e:A) (k:Q) (h:A→Q→P:=by
 intro e k
 first
 |(with_reducible exact And.intro (by omega) k)
 |refine(show a4u _ _ _ _ _ from⟨trivial,k⟩)
 |refine(show a4w _ _ _ _ _ _ from⟨trivial,k⟩)
 |(refine Eq.mp (?_:_=_) k;simp (maxSteps:=10000000) (disch:=omega) only[e,Int.reduceSub,Int.reduceLT,Int.reduceAdd,sR.d,l9,P7,s9,A2,p7,o3,AV.kept,b7,n4,u0,B3,p9,o9,b8,AV.y8,m8,v8,AV.plain,rd,u6,a6,P6,stepC,AV.e6,AV.S9,AV.w6,AV.L8,AV.scalar,T8,s6,A6,A9,B1,A8,o8,A5,U0,s7,A7,z8,j3,T7,l0,y7,y5,Q0,z6,j8,TD.isRow,s8,j7,j9,j6,F4,Value.oneCell',↓reduceIte,Int.reduceNe,Int.reduceEq,Nat.reduceAdd,Nat.reduceLT,Nat.reduceLeDiff,Nat.reduceSub,Nat.reduceMul,Nat.reduceBEq,Nat.reduceEqDiff,reduceCtorEq,Int.reduceToNat,←decide_not,←Bool.decide_and,sA,sN];rfl)
 |exact a9R (fun h=>Eq.mp (by(try simp only[h]);rfl) ((And.left k:_→_) h)) (fun h=>Eq.mp (by(try simp only[h]);rfl) ((And.right k:_→_) h))
 |exact a9Q (fun h=>Eq.mp (by(try simp only[h]);rfl) ((And.left k:_→_) h)) (fun h=>Eq.mp (by(try simp only[h]);rfl) ((And.right k:_→_) h))
 |exact a9T (fun h=>Eq.mp (by(try simp only[h]);rfl) ((And.left k:_→_) h)) (fun h=>Eq.mp (by(try simp only[h]);rfl) ((And.right k:_→_) h))
 |exact a9S (fun h=>Eq.mp (by(try simp only[h]);rfl) ((And.left k:_→_) h)) (fun h=>Eq.mp (by(try simp only[h]);rfl) ((And.right k:_→_) h))):P:=h e k
theorem Zw {A:Prop} (keep ids:List Nat) {s s' s'':LS} (e:A) (k:s'=s'') (h:A→c5 keep ids s=some s':=by
 intro e
 simp only[e,c5,n9,b5,c8,n5,w8,AV.plain,Nat.reduceBEq,↓reduceIte,Nat.reduceEqDiff,Nat.reduceAdd,sC]
 rfl):N3 s s'':=fV (h e) k
theorem Zr {A:Prop} {P:Go.Program} [j5 P] {fn:Go.Func} {rs:List Row} {m:Nat} {α:Type} {I:α→Prop} {y:α→AV} {rs':α→List Row} {e:Go.Exit} {s:LS} (a:α) (ids:List Nat) (w:A) {x:AV} {gid:Nat} {gcs:List AV}
  (hI:I a) (he:match e with| .normal| .ret=>True|_=>False:=by exact trivial)
  (hx:A→oH P s.o4 fn.results.toList=some x:=by
   intro e
   simp only[e,sR.d,l9,P7,s9,A2,p7,o3,AV.kept,b7,n4,u0,B3,p9,o9,b8,AV.y8,m8,v8,AV.plain,rd,u6,a6,P6,stepC,AV.e6,AV.S9,AV.w6,AV.L8,AV.scalar,T8,s6,A6,A9,B1,A8,o8,A5,U0,s7,A7,z8,j3,T7,l0,y7,y5,Q0,z6,j8,TD.isRow,s8,j7,j9,j6,F4,Value.oneCell',↓reduceIte,Int.reduceNe,Int.reduceEq,Nat.reduceAdd,Nat.reduceLT,Nat.reduceLeDiff,Nat.reduceSub,Nat.reduceMul,Nat.reduceBEq,Nat.reduceEqDiff,reduceCtorEq,Int.reduceToNat,←decide_not,←Bool.decide_and,sA,sN]<;>rfl)
  (hnd:ids.Nodup:=by decide) (hl:(rs' a).length=ids.length:=by exact rfl) (aF:((rs' a).take m).map Row.sz=(rs.take m).map Row.sz:=by exact rfl) (hg:p7 99 s.h=some (gid,gcs):=by exact rfl) (hg2:LS.hf s.h gid= .u5 99 gcs:=by exact rfl) (hg3:gcs=(ids.take m).map fun j=> .ptr j 0 0:=by exact rfl)
  (hy:A→n5 (r7 ids 0) 4 x=some (y a):=by
   intro e
   simp only[e,c5,n9,b5,c8,n5,w8,AV.plain,Nat.reduceBEq,↓reduceIte,Nat.reduceEqDiff,Nat.reduceAdd,sC]<;>rfl)
  (hp:A→b5 (LS.hf s.h) (r7 ids 0) ids=some (rs' a):=by
   intro e
   simp only[e,c5,n9,b5,c8,n5,w8,AV.plain,Nat.reduceBEq,↓reduceIte,Nat.reduceEqDiff,Nat.reduceAdd,sC]<;>rfl):a4v P fn rs m I y rs' e s:=
 b7U he a ids (hx w) hI hnd hl aF hg hg2 hg3 (hy w) (hp w)
section
variable {P:Go.Program} [j5 P] {rest:LS→(LS→Prop)→Prop} {d:Option Tmp} {s:LS} {N:LS→Prop} {f:Go.FuncId}
theorem Zp {A:Prop} {xs ys:List AV} {rs:List Row} {m:Nat} {α:Type} {I:α→Prop} {y:α→AV} {rs':α→List Row} (C:y6 P f ys rs m I y rs') (ids:List Nat) (e:A)
  (h:∀a,W0 (I a)→rest (LS.put ⟨s.t,bV ids m s.nx ((rs' a).map (bH (lH ids m s.nx))) s.h,s.nx+8⟩ d (v8 (lH ids m s.nx) 4 (y a))) N)
  (hnd:ids.Nodup:=by decide) (h1:A→b5 (LS.hf s.h) (r7 ids 0) ids=some rs:=by
   intro e
   simp only[e,c5,n9,b5,c8,n5,w8,AV.plain,Nat.reduceBEq,↓reduceIte,Nat.reduceEqDiff,Nat.reduceAdd,sC]<;>first|done|rfl)
  (h2:A→xs.mapM (n5 (r7 ids 0) 4)=some ys:=by
   intro e
   simp only[e,c5,n9,b5,c8,n5,w8,AV.plain,Nat.reduceBEq,↓reduceIte,Nat.reduceEqDiff,Nat.reduceAdd,sC]<;>first|done|rfl)
  (hm:m≤ids.length:=by decide) (h3:∀a,I a→m≤(rs' a).length∧(rs' a).length≤m+8:=by
   intro _ _
   exact⟨by simp only[List.length_cons,List.length_nil];omega,by simp only[List.length_cons,List.length_nil];omega⟩):fO P rest d s N f xs:=
 a9u C ids hnd (h1 e) (h2 e) hm h3 h
end
section
variable {P:Go.Program} {f:Go.FuncId} {fn:Go.Func} {n:Nat}
theorem Zf {R Q:Prop} (hf:P.funcs[f]?=some fn) (hn:fn.ntmps=n) (k:Q) (h:P.funcs[f]?=some fn→fn.ntmps=n→Q→R:=by
 intro hf hn k
 first
 |(refine a9v hf rfl (by kernel_rfl) ?_;rw[gO hn])
 |(refine a8w hf rfl (by kernel_rfl) (by simp) (by simp) ?_;rw[b6U hn];simp only[e9,List.range,List.range.loop,List.map_cons,List.map_nil])
 simp only[List.replicate_succ,List.replicate_zero,List.cons_append,List.nil_append,List.length_cons,List.length_nil,Nat.reduceAdd,Nat.reduceSub]
 exact u4 k):R:=h hf hn k
end
end
end Go.Proofs.YtgdoiokalfhjoaaGreatDoor
end
section
namespace Go.Ab
open Go.RowKit Go.ChangeShapes Go.WideShapes Go.ChangeAt Go.Deep
section
inductive Sh where
 |int (k:IntKind)
 |bool
 |str
 |slice (e:Sh)
 |row (l:List Sh)
mutual
def Sh.ok:Sh→List AV→Prop
 | .int k,cs=>∃n:Int,cs=[.v (.int k n)]∧(Lit.int k n).wf=true
 | .bool,cs=>∃b,cs=[.v (.bool b)]
 | .str,cs=>∃s:ByteArray,cs=[.v (.string s)]∧s.size≤maxLen
 | .slice e,cs=>∃es:List (List AV),cs=[.a8 false es]∧es.length≤maxLen∧∀x∈es,Sh.ok e x
 | .row l,cs=>Sh.okL l cs
def Sh.okL:List Sh→List AV→Prop
 |[],cs=>cs=[]
 |s::l,cs=>∃a b,cs=a++b∧Sh.ok s a∧Sh.okL l b
end
def shF(P:Program)(rec:TypeId→Option Sh):List Field→Nat→Option (List Sh×Nat)
 |[],o=>some ([],o)
 |f::fs,o=>if f.offset=o then(rec f.type).bind fun s=>(shF P rec fs (o+P.cellsOf f.type)).map fun p=>(s::p.1,p.2)else none
def oJ(P:Program):Nat→TypeId→Option Sh
 |0,_=>none
 |n+1,t=>match P.underlying t with
  |some (.int k)=>some (.int k)
  |some .bool=>some .bool
  |some .string=>some .str
  |some (.slice e)=>if P.cellsOf e≠0 then(oJ P n e).map .slice else none
  |some (.struct fs)=>(shF P (oJ P n) fs.toList 0).bind fun p=>if p.2=P.cellsOf t then some (.row p.1)else none
  |some (.array m e)=>if m*P.cellsOf e=P.cellsOf t then(oJ P n e).map fun s=> .row (List.replicate m s)else none
  |_=>none
section
variable {H:Type} {enc:TypeId×Value→H} {P:Program} {w:World} {base:Nat} {spare:Nat→Bool} {held:Bool}
def lF(w:World)(a00:List AV)(cs:List Value):Prop:=a00.length=cs.length∧∀(i:Nat) (a:AV) (c:Value),a00[i]?=some a→cs[i]?=some c→s5 (fun _ _=>False) (fun _=>none) w a c
theorem lF.nil:lF w [] []:=⟨rfl,by simp⟩
theorem lF.one{a:AV}{c:Value}(h:s5 (fun _ _=>False) (fun _=>none) w a c):lF w [a] [c]:=⟨rfl,fun i x y h1 h2=>by
 match i,h1,h2 with
 |0,h1,h2=>cases h1;cases h2;exact h⟩
theorem lF.cI{a00 bs:List AV}{cs ds:List Value}(h1:lF w a00 cs)(h2:lF w bs ds):lF w (a00++bs) (cs++ds):=by
 refine⟨by simp [h1.1,h2.1],fun i a c g1 g2=>?_⟩
 by_cases hi:i<a00.length
 ·rw[List.getElem?_append_left hi]at g1
  rw[List.getElem?_append_left (by have:=h1.1;omega)]at g2
  exact h1.2 i a c g1 g2
 ·rw[List.getElem?_append_right (by omega)]at g1
  rw[List.getElem?_append_right (by have:=h1.1;omega),←h1.1]at g2
  exact h2.2 _ a c g1 g2
theorem sV{a:Addr}{n:Nat}{cs:List Value}(h:w.cells? base a n=some cs):cs.length=n∧∀j,j<n→w.cell? (a.add j)=cs[j]?:=by
 unfold World.cells? at h
 split at h
 ·have hl:=H3 h
  simp only[List.length_range]at hl
  refine⟨hl,fun j hj=>?_⟩
  obtain⟨y,hy⟩:∃y,cs[j]?=some y:=⟨_,List.getElem?_eq_getElem (by omega)⟩
  obtain⟨x,h2,h3⟩:=D9 h j y hy
  rw[List.getElem?_range hj]at h2
  cases h2
  rw[h3,hy]
 ·cases h
theorem c1z{a:Addr}{c:Value}(h:w.cell? a=some c):a.spot=none:=by
 unfold World.cell? at h
 split at h
 ·split at h
  ·cases h
  ·rename_i h2;simpa using h2
 ·cases h
theorem b5F{a:Addr}(h:a.spot=none)(i:Nat):a.add i=⟨a.block,a.off+i,none⟩:=by
 obtain⟨b,o,sp⟩:=a
 cases h
 unfold Addr.add
 split
 ·rename_i h0;subst h0;rfl
 ·rfl
theorem a8u {rec:TypeId→Option Sh} {fuel:Nat} {cs:List Value}
  (ih:∀t s cs x,rec t=some s→DataW.trod enc P w base spare held fuel t cs=some x→∃a00,s.ok a00∧lF w a00 cs):
  ∀(fl:List Field) (o:Nat) (p:List Sh×Nat),shF P rec fl o=some p→(∀f∈fl,∃y,DataW.trod enc P w base spare held fuel f.type ((cs.drop f.offset).take (P.cellsOf f.type))=some y)→
  o≤p.2∧(p.2≤cs.length→∃a00,Sh.okL p.1 a00∧lF w a00 ((cs.drop o).take (p.2-o))):=by
 intro fl
 induction fl with
 |nil=>intro o p h _;cases h;exact⟨Nat.le_refl _,fun _=>⟨[],rfl,by simp [lF.nil]⟩⟩
 |cons f fl ihl=>
  intro o p h hf
  simp only[shF]at h
  split at h
  ·rename_i ho
   cases hs:rec f.type with
   |none=>rw[hs]at h;cases h
   |some s=>
    cases hr:shF P rec fl (o+P.cellsOf f.type)with
    |none=>rw[hs,hr]at h;cases h
    |some q=>
     rw[hs,hr]at h
     simp only[Option.bind_some,Option.map_some,Option.some.injEq]at h
     subst h
     obtain⟨h1,h2⟩:=ihl _ _ hr fun f' hf'=>hf f' (List.mem_cons_of_mem _ hf')
     refine⟨by simp only;omega,fun hz=>?_⟩
     simp only at hz
     obtain⟨bs,g1,g2⟩:=h2 hz
     obtain⟨y,hy⟩:=hf f (List.mem_cons_self ..)
     obtain⟨a00,g3,g4⟩:=ih _ _ _ _ hs hy
     refine⟨a00++bs,⟨a00,bs,rfl,g3,g1⟩,?_⟩
     have e:(cs.drop o).take (q.2-o)=(cs.drop f.offset).take (P.cellsOf f.type)++(cs.drop (o+P.cellsOf f.type)).take (q.2-(o+P.cellsOf f.type)):=by
      rw[ho,←List.drop_drop,show q.2-o=P.cellsOf f.type+(q.2-(o+P.cellsOf f.type)) by omega,List.take_add]
     simp only
     rw[e]
     exact g4.cI g2
  ·cases h
theorem b36{s:Sh}{c:Nat}{cs:List Value}:∀(m k:Nat),(∀i,k≤i→i<k+m→∃a00,s.ok a00∧lF w a00 ((cs.drop (i*c)).take c))→∃a00,Sh.okL (List.replicate m s) a00∧lF w a00 ((cs.drop (k*c)).take (m*c)):=by
 intro m
 induction m with
 |zero=>intro k _;exact⟨[],rfl,by simp [lF.nil]⟩
 |succ m ih=>
  intro k h
  obtain⟨a00,g1,g2⟩:=h k (Nat.le_refl _) (by omega)
  obtain⟨bs,g3,g4⟩:=ih (k+1) fun i h1 h2=>h i (by omega) (by omega)
  refine⟨a00++bs,⟨a00,bs,rfl,g1,g3⟩,?_⟩
  have e:(cs.drop (k*c)).take ((m+1)*c)=(cs.drop (k*c)).take c++(cs.drop ((k+1)*c)).take (m*c):=by
   rw[show(m+1)*c=c+m*c by rw[Nat.add_mul];omega,List.take_add,List.drop_drop,show(k+1)*c=k*c+c by rw[Nat.add_mul];omega]
  rw[e]
  exact g2.cI g4
theorem c1g:∀(n:Nat) (t:TypeId) (s:Sh) (fuel:Nat) (cs:List Value) (x:DataW H×List MemPlace),oJ P n t=some s→DataW.trod enc P w base spare held fuel t cs=some x→∃a00,s.ok a00∧lF w a00 cs:=by
 intro n
 induction n with
 |zero=>intro t s fuel cs x h;cases h
 |succ n ih=>
  intro t s fuel cs x h hx
  simp only[oJ]at h
  split at h
  ·rename_i k hu
   cases h
   obtain⟨a,rfl,_,hw⟩:=DataW.trod_int hu hx
   exact⟨[.v (.int k a)],⟨a,rfl,hw⟩,.one (.v _)⟩
  ·rename_i hu
   cases h
   obtain⟨b,rfl,_⟩:=DataW.trod_bool hu hx
   exact⟨[.v (.bool b)],⟨b,rfl⟩,.one (.v _)⟩
  ·rename_i hu
   cases h
   obtain⟨b,rfl,_,hb⟩:=DataW.trod_string hu hx
   exact⟨[.v (.string b)],⟨b,rfl,hb⟩,.one (.v _)⟩
  ·rename_i e hu
   split at h
   ·rename_i hc
    cases hs:oJ P n e with
    |none=>rw[hs]at h;cases h
    |some s'=>
     rw[hs]at h
     cases h
     rcases open_slice hu hx with⟨rfl,_⟩|⟨a,len,cap,m,fu,D,Pl,rfl,_,hlc,hcm,hm,_,hel⟩
     ·exact⟨[.a8 false []],⟨[],rfl,Nat.zero_le _,by simp⟩,.one (.a8 false [] none 0 0 0 0 (fun _ _=>undef) (by simp) (by simp) (by simp) (by simp) (by simp) (by simp))⟩
     ·have hlm:len≤m:=by subst hm;split<;>omega
      have key:∀i,i<len→∃p:List AV×List Value,Sh.ok s' p.1∧lF w p.1 p.2∧w.cells? base (a.add (i*P.cellsOf e)) (P.cellsOf e)=some p.2:=fun i hi=>by
       obtain⟨cs',h1,h2⟩:=hel i (by omega)
       obtain⟨a00,h3,h4⟩:=ih _ _ _ _ _ hs h2
       exact⟨(a00,cs'),h3,h4,h1⟩
      obtain⟨f,hf⟩:=choose_lt key
      have hsp:0<len→a.spot=none:=fun hl=>by
       have h1:=(sV (hf 0 hl).2.2).2 0 (by omega)
       rw[List.getElem?_eq_getElem (by rw[(sV (hf 0 hl).2.2).1];omega)]at h1
       have:=c1z h1
       simpa[Addr.add]using this
      refine⟨[.a8 false ((List.range len).map fun i=>(f i).1)],⟨_,rfl,by simp;omega,fun x hx=>?_⟩,.one ?_⟩
      ·simp only[List.mem_map,List.mem_range]at hx
       obtain⟨i,hi,rfl⟩:=hx
       exact(hf i hi).1
      ·have hl:((List.range len).map fun i=>(f i).1).length=len:=by simp
       have:= @s5.a8 (fun _ _=>False) (fun _=>none) w false ((List.range len).map fun i=>(f i).1) (some a) cap a.block a.off (P.cellsOf e) (fun i j=>(f i).2.getD j undef) (by omega) (by simp)
        (fun x hx=>by
         simp only[List.mem_map,List.mem_range]at hx
         obtain⟨i,hi,rfl⟩:=hx
         rw[(hf i hi).2.1.1,(sV (hf i hi).2.2).1])
        (fun hne=>by
         have:0<len:=by
          rcases Nat.eq_zero_or_pos len with h0|h0
          ·subst h0;simp at hne
          ·exact h0
         have:=hsp this
         obtain⟨b,o,sp⟩:=a
         cases this;rfl)
        (fun i j hi hj=>by
         rw[hl]at hi
         refine⟨fun h=>h,?_⟩
         obtain⟨h1,h2⟩:=sV (hf i hi).2.2
         have h3:=h2 j hj
         have hs0:=hsp (by omega)
         rw[add_add,b5F hs0]at h3
         rw[show a.off+i*P.cellsOf e+j=a.off+(i*P.cellsOf e+j) by omega,h3,List.getElem?_eq_getElem (by omega),List.getD_eq_getElem?_getD,List.getElem?_eq_getElem (by omega)]
         rfl)
        (fun i j e' x h1 h2=>by
         rw[List.getElem?_map]at h1
         have hi:i<len:=by
          rcases Nat.lt_or_ge i len with h|h
          ·exact h
          ·rw[List.getElem?_eq_none (by simpa using h)]at h1;cases h1
         rw[List.getElem?_range hi]at h1
         cases h1
         obtain⟨g1,g2⟩:=(hf i hi).2.1
         have hj:j<(f i).1.length:=(List.getElem?_eq_some_iff.1 h2).1
         exact g2 j x _ h2 (by rw[List.getD_eq_getElem?_getD,List.getElem?_eq_getElem (by omega)];rfl))
       rw[hl]at this
       exact this
   ·cases h
  ·rename_i fs hu
   cases hp:shF P (oJ P n) fs.toList 0 with
   |none=>rw[hp]at h;cases h
   |some p=>
    rw[hp]at h
    simp only[Option.bind_some]at h
    split at h
    ·rename_i hz
     cases h
     obtain⟨xs,fu,rfl,_,hl,hxl,hxs⟩:=DataW.trod_struct hu hx
     have:=a8u (w:=w) (enc:=enc) (base:=base) (spare:=spare) (held:=held) (fuel:=fu) (cs:=cs) (fun t s cs x h1 h2=>ih t s fu cs x h1 h2) fs.toList 0 p hp (fun f hf=>by
      obtain⟨i,hi,rfl⟩:=List.mem_iff_getElem.1 hf
      have hi':i<fs.size:=by simpa using hi
      obtain⟨y,hy⟩:∃y,xs[i]?=some y:=⟨_,List.getElem?_eq_getElem (by omega)⟩
      exact⟨y,by rw[hxs i _ (by rw[Array.getElem?_eq_getElem hi'];rfl),hy]⟩)
     obtain⟨a00,g1,g2⟩:=this.2 (by omega)
     refine⟨a00,g1,?_⟩
     rw[List.drop_zero,Nat.sub_zero,hz,←hl,List.take_length]at g2
     exact g2
    ·cases h
  ·rename_i m e hu
   split at h
   ·rename_i hz
    cases hs:oJ P n e with
    |none=>rw[hs]at h;cases h
    |some s'=>
     rw[hs]at h
     cases h
     obtain⟨xs,fu,_,_,hl,hxl,hxs⟩:=DataW.trod_array hu hx
     have:=b36 (w:=w) (s:=s') (c:=P.cellsOf e) (cs:=cs) m 0 (fun i _ hi=>by
      have h1:=hxs i (by omega)
      rw[List.getElem?_eq_getElem (by omega)]at h1
      exact ih _ _ _ _ _ hs h1)
     obtain⟨a00,g1,g2⟩:=this
     refine⟨a00,g1,?_⟩
     rw[Nat.zero_mul,List.drop_zero,hz,←hl,List.take_length]at g2
     exact g2
   ·cases h
  ·cases h
end
end
section
def b2p(s:Sh)(a00:List AV):AV:=match s with| .row _=> .agg a00|_=>a00.headD .Z
section
variable {H:Type} {enc:TypeId×Value→H} {P:Program} {w:World} {base:Nat} {spare:Nat→Bool} {held:Bool}
theorem b7Y{n:Nat}{t:TypeId}{s:Sh}(h:oJ P n t=some s):((∃fs,P.underlying t=some (.struct fs))∨(∃m e,P.underlying t=some (.array m e)))∧(∃l,s= .row l)∨
  ((∃k,P.underlying t=some (.int k))∨P.underlying t=some .bool∨P.underlying t=some .string∨∃e,P.underlying t=some (.slice e))∧∀l,s≠ .row l:=by
 cases n with
 |zero=>cases h
 |succ n=>
  simp only[oJ]at h
  split at h
  ·rename_i k hu;cases h;exact .inr ⟨.inl ⟨k,hu⟩,fun l h=>by cases h⟩
  ·rename_i hu;cases h;exact .inr ⟨.inr (.inl hu),fun l h=>by cases h⟩
  ·rename_i hu;cases h;exact .inr ⟨.inr (.inr (.inl hu)),fun l h=>by cases h⟩
  ·rename_i e hu
   split at h
   ·simp only[Option.map_eq_some_iff]at h
    obtain⟨a,_,rfl⟩:=h
    exact .inr ⟨.inr (.inr (.inr ⟨e,hu⟩)),fun l h=>by cases h⟩
   ·cases h
  ·rename_i fs hu
   simp only[Option.bind_eq_some_iff]at h
   obtain⟨p,_,h⟩:=h
   split at h
   ·cases h;exact .inl ⟨.inl ⟨fs,hu⟩,_,rfl⟩
   ·cases h
  ·rename_i m e hu
   split at h
   ·simp only[Option.map_eq_some_iff]at h
    obtain⟨a,_,rfl⟩:=h
    exact .inl ⟨.inr ⟨m,e,hu⟩,_,rfl⟩
   ·cases h
  ·cases h
theorem b7E{r:Reach}{b0 n:Nat}{t:TypeId}{v:Value}{d:DataW H}{p:List MemPlace}{s:Sh}(hs:oJ P n t=some s)(hv:Value.okWide P w r b0 t v)(h:DataW.Trod enc P w base spare held t v d p):
  ∃a00,s.ok a00∧s5 (fun _ _=>False) (fun _=>none) w (b2p s a00) v:=by
 obtain⟨fuel,hf⟩:=h
 obtain⟨a00,h1,h2⟩:=c1g n t s fuel _ _ hs hf
 refine⟨a00,h1,?_⟩
 rcases b7Y hs with⟨hu,l,rfl⟩|⟨hu,hne⟩
 ·have:∃cs,v= .agg cs:=by
   rcases hu with⟨fs,hu⟩|⟨m,e,hu⟩<;>simp only[Value.okWide,hu]at hv<;>(obtain⟨cs,rfl,_⟩:=hv;exact⟨cs,rfl⟩)
  obtain⟨cs,rfl⟩:=this
  simp only[Value.cells]at h2
  exact .agg a00 cs (by simpa using h2.1.symm) fun i x u g1 g2=>h2.2 i x u g1 (by simpa using g2)
 ·have:v.cells= #[v]:=by
   cases v<;>first|rfl|skip
   exfalso
   rcases hu with⟨k,hu⟩|hu|hu|⟨e,hu⟩<;>simp only[Value.okWide,Cell.okWide,Cell.ok,hu]at hv
  rw[this]at h2
  have h3:b2p s a00=a00.headD .Z:=by cases s<;>first|rfl|(exact absurd rfl (hne _))
  rw[h3]
  have hl:=h2.1
  match a00,hl with
  |[a],_=>exact h2.2 0 a v rfl rfl
def b0k:List Sh→List AV→Prop
 |[],xs=>xs=[]
 |s::ss,xs=>∃a00 ys,xs=b2p s a00::ys∧s.ok a00∧b0k ss ys
theorem b35{r:Reach}{b0 n:Nat}:∀(ts:List TypeId) (ss:List Sh) (vs:List Value) (ds:List (DataW H)) (ps:List MemPlace),ts.mapM (oJ P n)=some ss→(∀(j:Nat) t v,ts[j]?=some t→vs[j]?=some v→Value.okWide P w r b0 t v)→
  DataW.TrodAll enc P w base spare held ts vs ds ps→∃xs,b0k ss xs∧xs.length=vs.length∧∀(i:Nat) x u,xs[i]?=some x→vs[i]?=some u→s5 (fun _ _=>False) (fun _=>none) w x u:=by
 intro ts
 induction ts with
 |nil=>
  intro ss vs ds ps hs _ h
  obtain⟨rfl,_,_⟩:=trodAll_nil h
  cases hs
  exact⟨[],rfl,rfl,by simp⟩
 |cons t ts ih=>
  intro ss vs ds ps hs hv h
  obtain⟨v,vs',d,ds',p,q,rfl,rfl,rfl,h1,h2⟩:=trodAll_cons h
  rw[List.mapM_cons]at hs
  cases ht:oJ P n t with
  |none=>rw[ht]at hs;cases hs
  |some s=>
   cases hm:ts.mapM (oJ P n)with
   |none=>rw[ht,hm]at hs;cases hs
   |some ss'=>
    rw[ht,hm]at hs
    cases hs
    obtain⟨xs,g1,g2,g3⟩:=ih _ _ _ _ hm (fun j t v e1 e2=>hv (j+1) t v e1 e2) h2
    obtain⟨a00,g4,g5⟩:=b7E ht (hv 0 t v rfl rfl) h1
    refine⟨b2p s a00::xs,⟨a00,xs,rfl,g4,g1⟩,by simp [g2],fun i x u e1 e2=>?_⟩
    cases i with
    |zero=>cases e1;cases e2;exact g5
    |succ i=>exact g3 i x u e1 e2
theorem a9i{W W':World}(hl:laidOutB P=true)(hb:Below W.heap.size W W'):∀(ts:List TypeId) (vs:List Value) (ds:List (DataW H)) (ps:List MemPlace),(ts.all fun t=>P.readableRec t&&decide (t<P.types.size))=true→
  DataW.TrodAll enc P W 0 (fun _=>true) true ts vs ds ps→(∀x∈ps,x.block<W.heap.size)→DataW.TrodAll enc P W' 0 (fun b=>decide (b<W.heap.size)) true ts vs ds ps:=by
 intro ts
 induction ts with
 |nil=>
  intro vs ds ps _ h _
  obtain⟨rfl,rfl,rfl⟩:=trodAll_nil h
  exact trodAll_mk0
 |cons t ts ih=>
  intro vs ds ps ha h hp
  obtain⟨v,vs',d,ds',p,q,rfl,rfl,rfl,h1,h2⟩:=trodAll_cons h
  simp only[List.all_cons,Bool.and_eq_true,decide_eq_true_eq]at ha
  exact trodAll_cons_mk (Below.trod hl ha.1.1 ha.1.2 h1 hb fun x hx=>hp x (List.mem_append_left _ hx)) (ih _ _ _ (by simpa using ha.2) h2 fun x hx=>hp x (List.mem_append_right _ hx))
end
end
end Go.Ab
end
section
namespace Go.Proofs.YtgdoiokalfhjoaaGreatDoor
open Go.Ab
open Go.ChangeShapes Go.WideShapes Go.ChangeAt Go.RowKit
theorem own:ownKnob Tryz.prog.godebug=none:=by kernel_rfl
theorem c0K:laidOutB Tryz.prog=true:=by kernel_rfl
noncomputable def laidL:List (String×DataW Unit):=Rows.spillMatchesReferenceRow.laid
theorem c4g:Rows.laid_math_bits_deBruijn64tab (H:=Unit)=Lib.tabData .u8 a3w:=by kernel_rfl
theorem c3X{W:World}(hL:laidMetH Tryz.prog laidL W)(hs:W.ShapedOpen Tryz.prog):okW W:=by
 have h:laidMet Tryz.prog laidL W:=by rw[MakeChecks.laidMetH_plain _ _ _ (by kernel_rfl)]at hL;exact hL
 obtain⟨ps,⟨g1,t1,cs1,f1,p1,q1,hg1,ht1,hv1,hd1,_⟩,_⟩:=h
 obtain rfl:=Option.some.inj ((show(Tryz.prog.globalNamed "math/bits.deBruijn64tab")=some 0 by kernel_rfl).symm.trans hg1)
 obtain rfl:=Option.some.inj ((show(Tryz.prog.globals[0]?).map (·.type)=some 306 by kernel_rfl).symm.trans ht1)
 rw[c4g]at hd1
 have e:=Lib.cells_of_tab (n:=64) (e:=5) (k:= .u8) Tryz.underlying306 Tryz.underlying5 (by kernel_rfl) (by kernel_rfl) hd1
 unfold okW Lib.TabIs
 refine(show W.var? Tryz.prog "math/bits.deBruijn64tab" =some cs1 from hv1).trans ?_
 rw[←e]
theorem b7d(os:Os)(args:Array Value):laidMetH Tryz.prog laidL ((World.laidAll Tryz.prog os laidL).forCall (fun _ _=>0) ⟨#[],args,[]⟩).memory:=by
 rw[MakeChecks.laidMetH_plain _ _ _ (by kernel_rfl)];exact laidMet_laidAll _ (by kernel_rfl) (by kernel_rfl)
theorem b2F{a:Int}(w:(Lit.int .u8 a).wf=true):0≤a∧a<256:=by
 have:0≤a∧a≤255:=by simpa[Lit.wf,IntKind.min,IntKind.max,IntKind.signed,IntKind.bits]using w
 omega
theorem c4h{a:Int}(w:(Lit.int .u16 a).wf=true):0≤a∧a<65536:=by
 have:0≤a∧a≤65535:=by simpa[Lit.wf,IntKind.min,IntKind.max,IntKind.signed,IntKind.bits]using w
 omega
end Go.Proofs.YtgdoiokalfhjoaaGreatDoor
end
section
namespace Go.Proofs.YtgdoiokalfhjoaaGreatDoor
open Go.Ab
open Go.RowKit Go.Shelf
section
attribute [local go_sem] Oper.semAt_some
def e7.zD(i:e7):List Value:=[.int .i64 i.op,.int .i64 i.sub,.int .i64 i.n,.int .i64 i.d.k,.int .i64 i.d.n,.int .i32 i.d.v,.int .i64 i.a.k,.int .i64 i.a.n,.int .i32 i.a.v,.int .i64 i.b.k,.int .i64 i.b.n,.int .i32 i.b.v,.int .i64 i.c.k,.int .i64 i.c.n,.int .i32 i.c.v]
theorem e7.b1M(i:e7):i.av=i.zD.map .v:=rfl
theorem e7.c3J(i:e7){j:Nat}(h:j<15):i.av[j]?=some (.v (i.zD.getD j undef)):=by
 have h:j<i.zD.length:=h
 rw[e7.b1M,List.getElem?_map,List.getElem?_eq_getElem h,List.getD_eq_getElem?_getD,List.getElem?_eq_getElem h];rfl
def e7.val(i:e7):Value:= .agg i.zD.toArray
def bY(n k:Nat):List Nat:=(List.range k).map fun j=>n-1-j
theorem qZ(n k:Nat):bY n (k+1)=bY n k++[n-1-k]:=by simp [bY,List.range_succ]
theorem zR(n k:Nat):(bY n k).length=k:=by simp [bY]
theorem a9p (L:List e7) (hL:L.length≤1000) (X:Nat→Nat→Value→Prop) (B BO b o cap:Nat) (a:Option Addr) (ha:L≠[]→a=some ⟨b,o,none⟩) (hcap:L.length≤cap) (hB:X B BO (.slice a L.length cap))
  (hX:∀i j,i<L.length→j<15→X b (o+i*15+j) ((L.getD i I0).zD.getD j undef)) (w:World) (hw:HX X w):
  SeqStopsK Fence.wide 2 Tryz.prog 159 #[.pointer (some ⟨B,BO,none⟩)] (fun i:Nat=> #[.int .i64 i,(L.getD i I0).val]) (fun W W'=>HX X W→HX X W') (fun xs=>xs=bY L.length L.length) (fun _=>True) L.length w:=by
 intro l J Jx W hW hJ hJx hY h0
 have hXW:HX X W:=fun b o c h=>by
  have h1:=hw b o c h
  have hlt:b<w.heap.size:=by
   unfold World.cell? at h1
   simp only at h1
   cases hh:w.heap[b]? with
   |none=>rw[hh]at h1;simp at h1
   |some y=>exact A4 hh
  exact(hW.cell (p:=⟨b,o,none⟩) hlt).trans h1
 refine callsIn_of_wp Tryz.func159 rfl trivial ?_ rfl
 simp only[Tryz.ntmps159,List.size_toArray,List.length_cons,List.length_nil,Nat.reduceAdd,Nat.reduceSub,Array.replicate_succ,Array.replicate_zero,List.push_toArray,List.append_toArray,List.nil_append,List.cons_append]
 have hBW:=hXW _ _ _ hB
 gi_wp2
 gi_loopw [3] (fun i wr=>∃k:Nat,k≤L.length∧i= .int .i64 ((L.length:Int)-1-k)∧J (bY L.length k) wr∧HX X wr)
  (fun i _=>(intOf i+1).toNat)
 case atStart=>exact⟨0,Nat.zero_le _,by simp,h0,hXW⟩
 case round=>
  obtain⟨k,hk,rfl,hJs,hHX⟩:=hrel
  by_cases hlt:k<L.length
  ·obtain⟨i,hi⟩:∃i:Nat,i=L.length-1-k:=⟨_,rfl⟩
   have hie:(L.length:Int)-1-k=i:=by omega
   rw[hie]
   have hiL:i<L.length:=by omega
   obtain⟨fn,tmps,assign,body,hy,hR⟩:=hY _ i wr hJs (by rw[zR];exact hlt)
   have hBw:=hHX _ _ _ hB
   have hc0:=hHX _ _ _ (hX i 0 hiL (by omega))
   have hc1:=hHX _ _ _ (hX i 1 hiL (by omega))
   have hc2:=hHX _ _ _ (hX i 2 hiL (by omega))
   have hc3:=hHX _ _ _ (hX i 3 hiL (by omega))
   have hc4:=hHX _ _ _ (hX i 4 hiL (by omega))
   have hc5:=hHX _ _ _ (hX i 5 hiL (by omega))
   have hc6:=hHX _ _ _ (hX i 6 hiL (by omega))
   have hc7:=hHX _ _ _ (hX i 7 hiL (by omega))
   have hc8:=hHX _ _ _ (hX i 8 hiL (by omega))
   have hc9:=hHX _ _ _ (hX i 9 hiL (by omega))
   have hc10:=hHX _ _ _ (hX i 10 hiL (by omega))
   have hc11:=hHX _ _ _ (hX i 11 hiL (by omega))
   have hc12:=hHX _ _ _ (hX i 12 hiL (by omega))
   have hc13:=hHX _ _ _ (hX i 13 hiL (by omega))
   have hc14:=hHX _ _ _ (hX i 14 hiL (by omega))
   simp only[Nat.add_zero,List.getD_cons_zero,List.getD_cons_succ,e7.zD]at hc0 hc1 hc2 hc3 hc4 hc5 hc6 hc7 hc8 hc9 hc10 hc11 hc12 hc13 hc14
   clear hi
   rw[ha (by intro e;rw[e]at hiL;cases hiL)]at hBw
   have hval:(L.getD i I0).val= .agg (L.getD i I0).zD.toArray:=rfl
   simp only[e7.zD]at hval
   rw[hval]at hy
   clear hval
   obtain⟨x,hx⟩:∃x,x=L.getD i I0:=⟨_,rfl⟩
   simp only[←hx]at hy hc0 hc1 hc2 hc3 hc4 hc5 hc6 hc7 hc8 hc9 hc10 hc11 hc12 hc13 hc14
   clear hx
   gi_wp2
   refine hR.mono ?_
   rintro e W3 (⟨rfl,hJ3,hk3⟩|⟨rfl,hJx3⟩)
   ·gi_wp2
    go_roundw
    case rel=>exact⟨k+1,by omega,by first|(simp;done)|(simp;omega),by rw[qZ,show L.length-1-k=i from by omega];exact hJ3,hk3 hHX⟩
    case measure=>(simp [intOf];try omega)
   ·gi_wp2
    refine bodyPost_ret (results_none rfl _ _ _) rfl ?_
    exact⟨⟨_,rfl⟩,.inr ⟨_,trivial,hJx3⟩⟩
  ·obtain rfl:k=L.length:=by omega
   gi_wp2
   go_end0
   exact⟨⟨_,rfl⟩,.inl ⟨_,rfl,hJs⟩⟩
theorem b1G {P:Program} [j5 P] {g p1 p2:Tmp} {assign body:Go.Code} {s:LS} {k:List KF} {K:Exit→LS→Prop} (hP:P=Tryz.prog) (L:List e7) (S:List Nat→LS) (lab:Nat) (keep:List Nat)
  (hL:L.length≤1000) (hg:LS.tf (S []).t g= .fn 159 [.aA [[.a8 false (c6 L)]] 0 0]) (hw:N3 s (S [])) (hp:∀pre,p1<(S pre).t.length∧p2<(S pre).t.length) (hmp:∀pre,b2c (S pre).h=true) (hfr:∀pre,b7 lab (S pre).h)
  (hround:∀(pre:List Nat) (x:Nat),pre.length<L.length→AK (md:=true) P assign [] (b7V (S pre).t (S pre).h (S pre).nx keep lab p1 p2 (.v (.int .i64 x)) (.agg (L.getD x I0).av))
   (O9 (fun s1=>b2c s1.h=true∧AK (md:=true) P body [] s1 (O9 (c4c (S pre).t keep lab (S (pre++[x]))) (fun _ _=>False))) (fun _ _=>False)))
  (hK:X7 (md:=false) P K k .normal (S (bY L.length L.length))):AK (md:=false) P (.rangeFunc (.tmp g) #[p1,p2] assign body) k s K:=by
 subst hP
 refine b23 (gf:=159) (α:=Nat) L.length (fun x=> .int .i64 x) (fun x=>(L.getD x I0).val) (fun x=> .v (.int .i64 x)) (fun x=> .agg (L.getD x I0).av) S (fun xs=>xs=bY L.length L.length) lab keep
  (fun x=>⟨fun M ρ w=> .v _,fun M ρ w=> .agg _ _ (by simp [e7.val,e7.av,e7.zD]) (fun i y u h1 h2=>?_)⟩) ⟨Tryz.f159,rfl,rfl,rfl⟩ hw hp (fun pre=>a4p (hmp pre)) hfr ?_ (fun pre x h=>?_) (fun xs h=>by rw[h];exact hK)
 ·rw[e7.b1M,List.getElem?_map]at h1
  have h2:(L.getD x I0).zD[i]?=some u:=by simpa using h2
  rw[h2]at h1;cases h1;exact .v _
 ·intro G M0 w0 ρ a w R
  have h1:=R.1.tm g
  rw[show(S []).o4.t g=_ from hg]at h1
  obtain⟨y,e1,h2⟩:=c0x h1
  obtain⟨B,BO,c,rfl,hM,hc,h3⟩:=b6R h2
  obtain⟨a',cap,b,o,sz,cell,rfl,hcap,aF,ha,hm,hr⟩:=c0E h3
  rw[show(c6 L).length=L.length from by simp [c6]]at*
  refine⟨#[.pointer (some ⟨B,BO,none⟩)],e1,fun X hX hw=>?_⟩
  refine a9p L hL X B BO b o cap a' (fun h=>ha (by simpa[c6]using h)) hcap (hX _ _ _ hM hc) (fun i j hi hj=>?_) w hw
  have he:(c6 L)[i]?=some (L.getD i I0).av:=by simp [c6,hi,List.getD_eq_getElem?_getD]
  have hs15:sz=15:=by have:=aF _ (List.mem_of_getElem? he);rw[←this];rfl
  subst hs15
  have h4:=hm i j hi hj
  have h5:=hr i j _ (.v ((L.getD i I0).zD.getD j undef)) he (e7.c3J _ hj)
  have h6:=h5.Y4
  rw[←h6]
  exact hX _ _ _ h4.1 h4.2
 ·refine fI.mono (hround pre x h) fun e s' hs=>?_
  cases e with
  |normal=>exact⟨a4p hs.1,hs.2⟩
  |_=>exact hs
end
end Go.Proofs.YtgdoiokalfhjoaaGreatDoor
end
section
namespace Go.Proofs.YtgdoiokalfhjoaaGreatDoor
open Go.Ab
def I9(l:List Int):Prop:=l.Pairwise (· < ·)
theorem I9.nil:I9 []:=List.Pairwise.nil
theorem I9.ext:∀{a b:List Int},I9 a→I9 b→(∀x,x∈a↔x∈b)→a=b
 |[],[],_,_,_=>rfl
 |[],y::b,_,_,h=>by have:=(h y).2 (by simp);simp at this
 |x::a,[],_,_,h=>by have:=(h x).1 (by simp);simp at this
 |x::a,y::b,ha,hb,h=>by
  obtain⟨ha1,ha2⟩:=List.pairwise_cons.1 ha
  obtain⟨hb1,hb2⟩:=List.pairwise_cons.1 hb
  have hxy:x=y:=by
   have h1:=(h x).1 (by simp)
   have h2:=(h y).2 (by simp)
   rcases List.mem_cons.1 h1 with e|e
   ·exact e
   ·rcases List.mem_cons.1 h2 with e2|e2
    ·exact e2.symm
    ·have:=hb1 x e;have:=ha1 y e2;omega
  subst hxy
  rw[I9.ext ha2 hb2 fun z=>?_]
  have hz:=h z
  simp only[List.mem_cons]at hz
  constructor
  ·intro hm
   rcases hz.1 (.inr hm)with e|e
   ·have:=ha1 z hm;omega
   ·exact e
  ·intro hm
   rcases hz.2 (.inr hm)with e|e
   ·have:=hb1 z hm;omega
   ·exact e
def B5(l:List Int)(n:Int):List Int:=if n∈l then l else l.takeWhile (fun x=>decide (x<n))++n::l.dropWhile (fun x=>decide (x<n))
theorem U9{l:List Int}{n x:Int}:x∈B5 l n↔x=n∨x∈l:=by
 unfold B5
 split
 ·rename_i h
  constructor
  ·exact .inr
  ·rintro(rfl|h')
   ·exact h
   ·exact h'
 ·rw[List.mem_append,List.mem_cons]
  conv=>rhs;rw[←List.takeWhile_append_dropWhile (p:=fun x=>decide (x<n)) (l:=l),List.mem_append]
  constructor
  ·rintro(h|h|h)
   ·exact .inr (.inl h)
   ·exact .inl h
   ·exact .inr (.inr h)
  ·rintro(h|h|h)
   ·exact .inr (.inl h)
   ·exact .inl h
   ·exact .inr (.inr h)
theorem b8a{l:List Int}{n:Int}:∀x∈l.takeWhile (fun x=>decide (x<n)),x<n:=by
 induction l with
 |nil=>intro x hx;simp at hx
 |cons a l ih=>
  intro x hx
  rw[List.takeWhile_cons]at hx
  split at hx
  ·rename_i h
   rcases List.mem_cons.1 hx with rfl|hx
   ·simpa using h
   ·exact ih x hx
  ·simp at hx
theorem a7I{l:List Int}(hl:I9 l){n:Int}:∀x∈l.dropWhile (fun x=>decide (x<n)),n≤x:=by
 induction l with
 |nil=>intro x hx;simp at hx
 |cons a l ih=>
  obtain⟨h1,h2⟩:=List.pairwise_cons.1 hl
  intro x hx
  rw[List.dropWhile_cons]at hx
  split at hx
  ·exact ih h2 x hx
  ·rename_i h
   have ha:n≤a:=by simpa using h
   rcases List.mem_cons.1 hx with rfl|hx
   ·exact ha
   ·have:=h1 x hx;omega
theorem lD{l:List Int}(hl:I9 l)(n:Int):I9 (B5 l n):=by
 unfold B5
 split
 ·exact hl
 ·rename_i h
  have hs1:(l.takeWhile (fun x=>decide (x<n))).Sublist l:=List.takeWhile_sublist _
  have hs2:(l.dropWhile (fun x=>decide (x<n))).Sublist l:=List.dropWhile_sublist _
  refine List.pairwise_append.2 ⟨hl.sublist hs1,List.pairwise_cons.2 ⟨fun x hx=>?_,hl.sublist hs2⟩,fun x hx y hy=>?_⟩
  ·have h1:=a7I hl x hx
   have h2:x∈l:=hs2.subset hx
   have:x≠n:=fun e=>h (e ▸ h2)
   omega
  ·have hx1:=b8a x hx
   rcases List.mem_cons.1 hy with rfl|hy
   ·exact hx1
   ·have:=a7I hl y hy;omega
def P5(l:List Int)(n:Int):List Int:=l.filter (fun x=>decide (x≠n))
theorem bO{l:List Int}{n x:Int}:x∈P5 l n↔x∈l∧x≠n:=by simp [P5]
theorem fT{l:List Int}(hl:I9 l)(n:Int):I9 (P5 l n):=hl.sublist List.filter_sublist
def D5(a b:List Int):List Int:=b.foldl B5 a
theorem Q9{a b:List Int}{x:Int}:x∈D5 a b↔x∈a∨x∈b:=by
 unfold D5
 induction b generalizing a with
 |nil=>simp
 |cons y b ih=>
  rw[List.foldl_cons,ih,U9,List.mem_cons]
  constructor
  ·rintro((h|h)|h)
   ·exact .inr (.inl h)
   ·exact .inl h
   ·exact .inr (.inr h)
  ·rintro(h|h|h)
   ·exact .inl (.inr h)
   ·exact .inl (.inl h)
   ·exact .inr h
theorem cW{a b:List Int}(ha:I9 a):I9 (D5 a b):=by
 unfold D5
 induction b generalizing a with
 |nil=>exact ha
 |cons y b ih=>exact ih (lD ha y)
def bQ(l:List Int)(n:Int):List Int:=if n<0 then l else B5 l n
theorem a8n{l:List Int}{n x:Int}:x∈bQ l n↔(0≤n∧x=n)∨x∈l:=by
 unfold bQ
 split
 ·constructor
  ·exact .inr
  ·rintro(⟨h,_⟩|h)
   ·omega
   ·exact h
 ·rw[U9]
  constructor
  ·rintro(h|h)
   ·exact .inl ⟨by omega,h⟩
   ·exact .inr h
  ·rintro(⟨_,h⟩|h)
   ·exact .inl h
   ·exact .inr h
theorem a8U{l:List Int}(hl:I9 l)(n:Int):I9 (bQ l n):=by
 unfold bQ
 split
 ·exact hl
 ·exact lD hl n
def u1(ops:List E3):List Int:=ops.foldl (fun out o=>if o.k=2 then B5 out o.n else out) []
theorem b7R{ops:List E3}:∀{l:List Int} {x:Int},x∈ops.foldl (fun out o=>if o.k=2 then B5 out o.n else out) l↔x∈l∨∃o∈ops,o.k=2∧o.n=x:=by
 induction ops with
 |nil=>intro l x;simp
 |cons o ops ih=>
  intro l x
  rw[List.foldl_cons,ih]
  split
  ·rename_i h
   rw[U9]
   constructor
   ·rintro((e|e)|⟨p,h1,h2⟩)
    ·exact .inr ⟨o,by simp,h,e.symm⟩
    ·exact .inl e
    ·exact .inr ⟨p,by simp [h1],h2⟩
   ·rintro(e|⟨p,h1,h2,h3⟩)
    ·exact .inl (.inr e)
    ·rcases List.mem_cons.1 h1 with rfl|h1
     ·exact .inl (.inl h3.symm)
     ·exact .inr ⟨p,h1,h2,h3⟩
  ·rename_i h
   constructor
   ·rintro(e|⟨p,h1,h2⟩)
    ·exact .inl e
    ·exact .inr ⟨p,by simp [h1],h2⟩
   ·rintro(e|⟨p,h1,h2,h3⟩)
    ·exact .inl e
    ·rcases List.mem_cons.1 h1 with rfl|h1
     ·exact absurd h2 h
     ·exact .inr ⟨p,h1,h2,h3⟩
theorem dB{ops:List E3}{x:Int}:x∈u1 ops↔∃o∈ops,o.k=2∧o.n=x:=by
 unfold u1
 rw[b7R];simp
theorem a4G{ops:List E3}:∀{l:List Int},I9 l→I9 (ops.foldl (fun out o=>if o.k=2 then B5 out o.n else out) l):=by
 induction ops with
 |nil=>intro l h;exact h
 |cons o ops ih=>
  intro l h
  rw[List.foldl_cons]
  split
  ·exact ih (lD h _)
  ·exact ih h
theorem gB(ops:List E3):I9 (u1 ops):=a4G I9.nil
def o5(i:e7):List Int:=u1 [i.a,i.b,i.c]
def n6(t:q9):List Int:=u1 [t.a,t.b]
def pK(o:E3):Int:=if o.k=2 then o.n else -1
def E9(i:e7):Int:=pK i.d
def F3(t:q9):Int:=pK t.d
def m7(t:q9):List Int:=if t.kind=5 then[]else if t.kind=2∧t.t0≠t.t1 then[t.t0,t.t1]else[t.t0]
def U1(x:e7)(after:List Int):List Int:=D5 (P5 after (E9 x)) (o5 x)
theorem b0f{x:e7}{l:List Int}{r:Int}:r∈U1 x l↔(r∈l∧r≠E9 x)∨r∈o5 x:=by
 unfold U1;rw[Q9,bO]
theorem mM{x:e7}{l:List Int}(h:I9 l):I9 (U1 x l):=cW (fT h _)
def atF(b:b6)(out:List Int)(i:Nat):List Int:=(b.i.drop i).foldr U1 out
theorem b4x{l:List e7}{out:List Int}(h:I9 out):I9 (l.foldr U1 out):=by
 induction l with
 |nil=>exact h
 |cons x l ih=>exact mM ih
theorem a4F{b:b6}{out:List Int}{i:Nat}(h:I9 out):I9 (atF b out i):=b4x h
theorem a9O{l:List e7}{o1 o2:List Int}(h:∀r∈o1,r∈o2):∀r∈l.foldr U1 o1,r∈l.foldr U1 o2:=by
 induction l with
 |nil=>exact h
 |cons x l ih=>
  intro r hr
  simp only[List.foldr_cons,b0f]at hr⊢
  rcases hr with⟨h1,h2⟩|h1
  ·exact .inl ⟨ih r h1,h2⟩
  ·exact .inr h1
theorem b1L{b:b6}{o1 o2:List Int}{i:Nat}(h:∀r∈o1,r∈o2):∀r∈atF b o1 i,r∈atF b o2 i:=a9O h
def cE(t:q9)(inn:List (List Int)):List Int:=D5 (P5 ((m7 t).foldl (fun s to=>D5 s (inn.getD to.toNat [])) []) (F3 t)) (n6 t)
theorem b30{l:List Int}{inn:List (List Int)}:∀{s:List Int} {r:Int},r∈l.foldl (fun s to=>D5 s (inn.getD to.toNat [])) s↔r∈s∨∃to∈l,r∈inn.getD to.toNat []:=by
 induction l with
 |nil=>intro s r;simp
 |cons a l ih=>
  intro s r
  rw[List.foldl_cons,ih,Q9]
  constructor
  ·rintro((h|h)|⟨to,h1,h2⟩)
   ·exact .inl h
   ·exact .inr ⟨a,by simp,h⟩
   ·exact .inr ⟨to,by simp [h1],h2⟩
  ·rintro(h|⟨to,h1,h2⟩)
   ·exact .inl (.inl h)
   ·rcases List.mem_cons.1 h1 with rfl|h1
    ·exact .inl (.inr h2)
    ·exact .inr ⟨to,h1,h2⟩
theorem xZ{t:q9}{inn:List (List Int)}{r:Int}:r∈cE t inn↔((∃to∈m7 t,r∈inn.getD to.toNat [])∧r≠F3 t)∨r∈n6 t:=by
 unfold cE;rw[Q9,bO,b30];simp
theorem b4z{l:List Int}{inn:List (List Int)}:∀{s:List Int},I9 s→I9 (l.foldl (fun s to=>D5 s (inn.getD to.toNat [])) s):=by
 induction l with
 |nil=>intro s h;exact h
 |cons a l ih=>intro s h;exact ih (cW h)
theorem fG{t:q9}{inn:List (List Int)}:I9 (cE t inn):=cW (fT (b4z I9.nil) _)
theorem rE{t:q9}{i1 i2:List (List Int)}(h:∀b,∀r∈i1.getD b [],r∈i2.getD b []):∀r∈cE t i1,r∈cE t i2:=by
 intro r hr
 rw[xZ]at hr⊢
 rcases hr with⟨⟨to,h1,h2⟩,h3⟩|h1
 ·exact .inl ⟨⟨to,h1,h _ r h2⟩,h3⟩
 ·exact .inr h1
def aY(l:List Int):Prop:=∀x∈l,0≤x∧x<64
theorem aY.nil:aY []:=by intro x hx;simp at hx
theorem aY.c1Q{l:List Int}(h:aY l){n:Int}(hn:0≤n∧n<64):aY (B5 l n):=fun x hx=>by
 rcases U9.1 hx with rfl|hx
 ·exact hn
 ·exact h x hx
theorem aY.with{l:List Int}(h:aY l){n:Int}(hn:n<64):aY (bQ l n):=fun x hx=>by
 rcases a8n.1 hx with⟨h1,rfl⟩|hx
 ·exact⟨h1,hn⟩
 ·exact h x hx
theorem aY.iX{l:List Int}(h:aY l){n:Int}:aY (P5 l n):=fun x hx=>h x (bO.1 hx).1
theorem aY.union{a b:List Int}(h:aY a)(hb:aY b):aY (D5 a b):=fun x hx=>by
 rcases Q9.1 hx with hx|hx
 ·exact h x hx
 ·exact hb x hx
def D3:List Int→Nat
 |[]=>0
 |x::l=>2^x.toNat|||D3 l
theorem Z2(l:List Int)(k:Nat):(D3 l).testBit k=true↔∃x∈l,x.toNat=k:=by
 induction l with
 |nil=>simp [D3]
 |cons x l ih=>
  simp only[D3,Nat.testBit_or,Nat.testBit_two_pow,Bool.or_eq_true,ih,decide_eq_true_eq,List.mem_cons]
  constructor
  ·rintro(h|⟨y,h1,h2⟩)
   ·exact⟨x,.inl rfl,h⟩
   ·exact⟨y,.inr h1,h2⟩
  ·rintro⟨y,rfl|h1,h2⟩
   ·exact .inl h2
   ·exact .inr ⟨y,h1,h2⟩
theorem a8k{l:List Int}(h:aY l){x:Int}(hx:0≤x):x∈l↔(D3 l).testBit x.toNat=true:=by
 rw[Z2]
 constructor
 ·intro hm;exact⟨x,hm,rfl⟩
 ·rintro⟨y,h1,h2⟩
  have:=(h y h1).1
  have:y=x:=by omega
  rw[←this];exact h1
theorem eE{l:List Int}(h:aY l):D3 l<18446744073709551616:=by
 induction l with
 |nil=>simp [D3]
 |cons x l ih=>
  have h1:=h x (by simp)
  have:(2:Nat)^x.toNat<2^64:=Nat.pow_lt_pow_right (by decide) (by omega)
  exact Nat.or_lt_two_pow (n:=64) this (ih fun y hy=>h y (by simp [hy]))
theorem a8l{a b:List Int}(ha:aY a)(hb:aY b)(h:D3 a=D3 b):∀x,x∈a→x∈b:=fun x hx=>by
 have h0:=(ha x hx).1
 rw[a8k hb h0,←h,←a8k ha h0];exact hx
theorem b7o{a b:List Int}(ha:aY a)(hb:aY b)(sa:I9 a)(sb:I9 b)(h:D3 a=D3 b):a=b:=I9.ext sa sb fun x=>⟨a8l ha hb h x,a8l hb ha h.symm x⟩
theorem c0W{a b:List Int}(ha:aY a)(hb:aY b)(sa:I9 a)(sb:I9 b):((D3 a:Int)=(D3 b:Int))=(a=b):=by
 apply propext
 constructor
 ·intro h;exact b7o ha hb sa sb (by omega)
 ·intro h;rw[h]
theorem b0e(a b:List Int):D3 (D5 a b)=D3 a|||D3 b:=by
 apply Nat.eq_of_testBit_eq
 intro k
 apply Bool.eq_iff_iff.2
 rw[Nat.testBit_or,Bool.or_eq_true,Z2,Z2,Z2]
 constructor
 ·rintro⟨x,h1,h2⟩
  rcases Q9.1 h1 with h1|h1
  ·exact .inl ⟨x,h1,h2⟩
  ·exact .inr ⟨x,h1,h2⟩
 ·rintro(⟨x,h1,h2⟩|⟨x,h1,h2⟩)
  ·exact⟨x,Q9.2 (.inl h1),h2⟩
  ·exact⟨x,Q9.2 (.inr h1),h2⟩
theorem b0c(l:List Int)(n:Int):D3 (B5 l n)=D3 l|||2^n.toNat:=by
 apply Nat.eq_of_testBit_eq
 intro k
 apply Bool.eq_iff_iff.2
 rw[Nat.testBit_or,Bool.or_eq_true,Z2,Z2,Nat.testBit_two_pow,decide_eq_true_eq]
 constructor
 ·rintro⟨x,h1,h2⟩
  rcases U9.1 h1 with rfl|h1
  ·exact .inr h2
  ·exact .inl ⟨x,h1,h2⟩
 ·rintro(⟨x,h1,h2⟩|h)
  ·exact⟨x,U9.2 (.inr h1),h2⟩
  ·exact⟨n,U9.2 (.inl rfl),h⟩
theorem a4k{l:List Int}(hl:aY l){n:Int}(hn:0≤n)(k:Nat):(D3 (P5 l n)).testBit k=((D3 l).testBit k&& !decide (n.toNat=k)):=by
 apply Bool.eq_iff_iff.2
 rw[Bool.and_eq_true,Z2,Z2,Bool.not_eq_true',decide_eq_false_iff_not]
 constructor
 ·rintro⟨x,h1,h2⟩
  obtain⟨h1,h3⟩:=bO.1 h1
  have:=(hl x h1).1
  exact⟨⟨x,h1,h2⟩,by omega⟩
 ·rintro⟨⟨x,h1,h2⟩,h3⟩
  exact⟨x,bO.2 ⟨h1,fun e=>h3 (by rw[←e];exact h2)⟩,h2⟩
theorem c5I(n:Int):IntKind.u64.wrap n=n%18446744073709551616:=by simp [IntKind.wrap,IntKind.signed,IntKind.bits]
theorem Z9{n:Nat}(h:n<18446744073709551616):IntKind.u64.wrap (n:Int)=n:=by rw[c5I];omega
theorem kU(a:Nat):BitVec.ofInt IntKind.u64.bits (a:Int)=BitVec.ofNat 64 a:=BitVec.ofInt_natCast 64 a
theorem b2n{a b:Nat}(ha:a<18446744073709551616)(hb:b<18446744073709551616):orK .u64 a b=((a|||b:Nat):Int):=by
 have h:a|||b<2^64:=Nat.or_lt_two_pow (n:=64) ha hb
 have e:(BitVec.ofNat 64 a|||BitVec.ofNat 64 b).toNat=a|||b:=by
  rw[BitVec.toNat_or,BitVec.toNat_ofNat,BitVec.toNat_ofNat,Nat.mod_eq_of_lt (by simpa using ha),Nat.mod_eq_of_lt (by simpa using hb)]
 unfold orK
 rw[kU,kU]
 refine Eq.trans (congrArg (fun z:Nat=>IntKind.u64.wrap (z:Int)) e) ?_
 exact Z9 (by simpa using h)
theorem b5L{a b:Nat}(ha:a<18446744073709551616)(hb:b<18446744073709551616):wB .u64 a b=((a&&& b:Nat):Int):=by
 have h:a&&& b≤a:=Nat.and_le_left
 have e:(BitVec.ofNat 64 a&&& BitVec.ofNat 64 b).toNat=a&&& b:=by
  rw[BitVec.toNat_and,BitVec.toNat_ofNat,BitVec.toNat_ofNat,Nat.mod_eq_of_lt (by simpa using ha),Nat.mod_eq_of_lt (by simpa using hb)]
 unfold wB
 rw[kU,kU]
 refine Eq.trans (congrArg (fun z:Nat=>IntKind.u64.wrap (z:Int)) e) ?_
 exact Z9 (by omega)
theorem c5r{n:Int}(h:0≤n∧n<64):kE .u64 1 n=((2^n.toNat:Nat):Int):=by
 unfold kE
 rw[show min n.toNat IntKind.u64.bits=n.toNat from by simp [IntKind.bits];omega]
 have:(2:Nat)^n.toNat<2^64:=Nat.pow_lt_pow_right (by decide) (by omega)
 rw[Int.one_mul,show((2:Int)^n.toNat)=((2^n.toNat:Nat):Int)from by simp]
 exact Z9 (by simpa using this)
theorem c37{n:Int}(h:0≤n∧n<64):(2:Nat)^n.toNat<18446744073709551616:=Nat.pow_lt_pow_right (n:=64) (by decide) (by omega)
theorem c1h{l:List Int}(hl:aY l){n:Int}(h:0≤n∧n<64):orK .u64 (D3 l) (kE .u64 1 n)=(D3 (B5 l n):Int):=by
 rw[c5r h,b2n (eE hl) (c37 h),b0c]
theorem b7F{a b:List Int}(ha:aY a)(hb:aY b):orK .u64 (D3 a) (D3 b)=(D3 (D5 a b):Int):=by
 rw[b2n (eE ha) (eE hb),b0e]
theorem c5m:orK .u64 0 0=0:=by decide
theorem wC{l:List Int}(hl:aY l){n:Int}(h:0≤n∧n<64):sM .u64 (D3 l) (kE .u64 1 n)=(D3 (P5 l n):Int):=by
 rw[c5r h]
 unfold sM
 rw[kU,kU]
 have e:(BitVec.ofNat 64 (D3 l)&&& ~~~ BitVec.ofNat 64 (2^n.toNat)).toNat=D3 (P5 l n):=by
  apply Nat.eq_of_testBit_eq
  intro k
  rw[a4k hl h.1]
  show(BitVec.ofNat 64 (D3 l)&&& ~~~ BitVec.ofNat 64 (2^n.toNat)).getLsbD k=_
  have hm:=eE hl
  rw[BitVec.getLsbD_and,BitVec.getLsbD_not,BitVec.getLsbD_ofNat,BitVec.getLsbD_ofNat,Nat.testBit_two_pow]
  by_cases hk:k<64
  ·simp [hk]
  ·have:(D3 l).testBit k=false:=Nat.testBit_lt_two_pow (Nat.lt_of_lt_of_le hm (Nat.pow_le_pow_right (n:=2) (i:=64) (by decide) (by omega)))
   simp [hk,this]
 refine Eq.trans (congrArg (fun z:Nat=>IntKind.u64.wrap (z:Int)) e) ?_
 exact Z9 (eE hl.iX)
theorem a8j{a:Int}{l:List Int}(h:aY (a::l))(s:I9 (a::l)):∃r,D3 (a::l)=2^a.toNat*(2*r+1)∧D3 l=2^a.toNat*(2*r):=by
 have ha:=h a (by simp)
 obtain⟨s1,s2⟩:=List.pairwise_cons.1 s
 have hd:2^(a.toNat+1)∣D3 l:=by
  rw[Nat.dvd_iff_mod_eq_zero]
  apply Nat.eq_of_testBit_eq
  intro k
  rw[Nat.testBit_mod_two_pow,Nat.zero_testBit]
  by_cases hk:k<a.toNat+1
  ·have:(D3 l).testBit k=false:=by
    apply Bool.eq_false_iff.2
    intro hb
    obtain⟨x,h1,h2⟩:=(Z2 l k).1 hb
    have:=s1 x h1
    omega
   simp [this]
  ·simp [hk]
 obtain⟨r,hr⟩:=hd
 refine⟨r,?_,by rw[hr,Nat.pow_succ,Nat.mul_assoc]⟩
 show 2^a.toNat|||D3 l=_
 rw[hr,Nat.pow_succ,Nat.mul_assoc,Nat.or_comm]
 have:=Nat.two_pow_add_eq_or_of_lt (i:=a.toNat+1) (b:=2^a.toNat) (by rw[Nat.pow_succ];have:=Nat.two_pow_pos a.toNat;omega) r
 rw[←Nat.mul_assoc,←Nat.pow_succ,←this,Nat.pow_succ,Nat.mul_assoc,Nat.mul_add,Nat.mul_one]
theorem b0d{a:Int}{l:List Int}(h:aY (a::l))(s:I9 (a::l)):wB .u64 (D3 (a::l)) (IntKind.u64.wrap ((D3 (a::l):Int)-1))=(D3 l:Int):=by
 obtain⟨r,h1,h2⟩:=a8j h s
 have hp:=Nat.two_pow_pos a.toNat
 have hpos:0<D3 (a::l):=by rw[h1];exact Nat.mul_pos hp (by omega)
 have hlt:=eE h
 rw[show(D3 (a::l):Int)-1=((D3 (a::l)-1:Nat):Int) by omega,Z9 (by omega),b5L hlt (by omega)]
 congr 1
 rw[h1,h2]
 have e1:2^a.toNat*(2*r+1)=2^a.toNat*(2*r)+2^a.toNat:=by rw[Nat.mul_add,Nat.mul_one]
 have e2:2^a.toNat*(2*r+1)-1=2^a.toNat*(2*r)+(2^a.toNat-1):=by omega
 apply Nat.eq_of_testBit_eq
 intro k
 rw[Nat.testBit_and,e2,Nat.testBit_two_pow_mul_add _ (by omega),Nat.mul_comm _ (2*r+1),Nat.testBit_mul_two_pow,Nat.mul_comm _ (2*r),Nat.testBit_mul_two_pow]
 by_cases hk:k<a.toNat
 ·have hd:decide (a.toNat≤k)=false:=by simp;omega
  rw[hd,Bool.false_and,Bool.false_and,Bool.false_and]
 ·rw[if_neg hk]
  simp only[show a.toNat≤k by omega,decide_true,Bool.true_and]
  cases hj:k-a.toNat with
  |zero=>simp [Nat.testBit_zero]
  |succ j=>rw[Nat.testBit_succ,Nat.testBit_succ,show(2*r+1) / 2=r by omega,show 2*r / 2=r by omega,Bool.and_self]
theorem b7n{a:Int}{l:List Int}(h:aY (a::l))(s:I9 (a::l)):Lib.ctz 64 (D3 (a::l))=a.toNat:=by
 obtain⟨r,h1,_⟩:=a8j h s
 have ha:=h a (by simp)
 have hp:=Nat.two_pow_pos a.toNat
 have hne:D3 (a::l)≠0:=by rw[h1];have:=Nat.mul_pos hp (show 0<2*r+1 by omega);omega
 obtain⟨m,h3,_⟩:=Lib.ctzFrom_spec 64 (D3 (a::l)) (by omega) (by have:=eE h;simpa using this)
 have e:Lib.ctz 64 (D3 (a::l))=Lib.ctzFrom 64 (D3 (a::l)):=by simp [Lib.ctz,hne]
 rw[e]
 generalize Lib.ctzFrom 64 (D3 (a::l))=c at*
 rw[h1]at h3
 generalize a.toNat=b at*
 rcases Nat.lt_trichotomy c b with hlt|heq|hgt
 ·obtain⟨d,rfl⟩:∃d,b=c+(d+1):=⟨b-c-1,by omega⟩
  rw[Nat.pow_add,Nat.mul_assoc]at h3
  have:=Nat.eq_of_mul_eq_mul_left (Nat.two_pow_pos c) h3
  rw[Nat.pow_succ,Nat.mul_comm _ 2,Nat.mul_assoc]at this
  omega
 ·exact heq
 ·obtain⟨d,rfl⟩:∃d,c=b+(d+1):=⟨c-b-1,by omega⟩
  rw[Nat.pow_add,Nat.mul_assoc]at h3
  have:=Nat.eq_of_mul_eq_mul_left (Nat.two_pow_pos b) h3
  rw[Nat.pow_succ,Nat.mul_comm _ 2,Nat.mul_assoc]at this
  omega
theorem b7p{a:Int}{l:List Int}:D3 (a::l)≠0:=by
 intro h
 have:(D3 (a::l)).testBit a.toNat=true:=(Z2 _ _).2 ⟨a,by simp,rfl⟩
 rw[h]at this;simp at this
def L4(l:List Int):AV:= .agg [.v (.int .u64 (D3 l)),.v (.int .u64 0),.v (.int .u64 0),.v (.int .u64 0)]
def H7(r:Int)(o:E3):Prop:=o.k=2→0≤o.n∧o.n<r
structure aM (r:Int) (i:e7):Prop where
 d:H7 r i.d
 a:H7 r i.a
 b:H7 r i.b
 c:H7 r i.c
structure V8 (r n:Int) (t:q9):Prop where
 d:H7 r t.d
 a:H7 r t.a
 b:H7 r t.b
 to:t.kind≠5→0≤t.t0∧t.t0<n
 to1:t.kind=2→0≤t.t1∧t.t1<n
 dk:t.d.k=2→t.kind≠5
structure bS (r n:Int) (b:b6):Prop where
 i:∀x∈b.i,aM r x
 t:V8 r n b.t
 l:b.i.length≤300
structure y3 (c:Code):Prop where
 n:0<c.b.length∧c.b.length≤18
 r:0≤c.regs∧c.regs≤16
 b:∀x∈c.b,bS c.regs c.b.length x
theorem V8.succ{r n:Int}{t:q9}(h:V8 r n t):∀to∈m7 t,0≤to∧to<n:=by
 intro to hto
 unfold m7 at hto
 split at hto
 ·simp at hto
 ·rename_i h5
  split at hto
  ·rename_i h2
   rcases List.mem_cons.1 hto with rfl|hto
   ·exact h.to h5
   ·rcases List.mem_cons.1 hto with rfl|hto
    ·exact h.to1 h2.1
    ·simp at hto
  ·rcases List.mem_cons.1 hto with rfl|hto
   ·exact h.to h5
   ·simp at hto
def B6(bs:List b6)(b:Nat):b6:=bs.getD b B0
theorem S5{bs:List b6}{b:Nat}(h:b<bs.length):B6 bs b∈bs:=by
 unfold B6;rw[List.getD_eq_getElem?_getD,List.getElem?_eq_getElem h];exact List.getElem_mem h
inductive fJ (bs:List b6):Int→Prop
 |zero:fJ bs 0
 |step {b to:Int}:fJ bs b→to∈m7 (B6 bs b.toNat).t→fJ bs to
noncomputable def reachF (bs:List b6):List Bool:=(List.range bs.length).map fun(b:Nat)=>Decidable.decide (h:=Classical.propDecidable _) (fJ bs (b:Int))
theorem bI(bs:List b6):(reachF bs).length=bs.length:=by simp [reachF]
theorem V2(bs:List b6){b:Nat}(h:b<bs.length):(reachF bs).getD b false=true↔fJ bs b:=by
 unfold reachF
 rw[List.getD_eq_getElem?_getD,List.getElem?_map,List.getElem?_range h]
 simp
def bU(bs:List b6):Prop:=0<bs.length∧∀b∈bs,∀to∈m7 b.t,0≤to∧to<bs.length
theorem y3.succ{c:Code}(h:y3 c):bU c.b:=⟨h.n.1,fun b hb=>(h.b b hb).t.succ⟩
theorem fJ.bd{bs:List b6}(h:bU bs){b:Int}(hr:fJ bs b):0≤b∧b<bs.length:=by
 induction hr with
 |zero=>have:=h.1;omega
 |step _ h2 ih=>exact h.2 _ (S5 (by omega)) _ h2
theorem a8E {bs:List b6} (h:bU bs) {out:List Bool} (hl:out.length=bs.length) (h1:∀b,out.getD b false=true→fJ bs (b:Int)) (h0:out.getD 0 false=true)
  (hc:∀b,out.getD b false=true→∀to∈m7 (B6 bs b).t,out.getD to.toNat false=true):out=reachF bs:=by
 have h2:∀b:Int,fJ bs b→out.getD b.toNat false=true:=by
  intro b hb
  induction hb with
  |zero=>exact h0
  |step _ h2 ih=>exact hc _ ih _ h2
 apply List.ext_getElem?
 intro b
 by_cases hb:b<bs.length
 ·have e:out.getD b false=(reachF bs).getD b false:=by
   apply Bool.eq_iff_iff.2
   rw[V2 bs hb]
   exact⟨h1 b,fun hr=>by simpa using h2 b hr⟩
  rw[List.getD_eq_getElem?_getD,List.getD_eq_getElem?_getD]at e
  rw[List.getElem?_eq_getElem (by omega),List.getElem?_eq_getElem (by rw[bI];exact hb)]at e⊢
  exact congrArg some e
 ·rw[List.getElem?_eq_none (by omega),List.getElem?_eq_none (by rw[bI];omega)]
theorem Y8(out:List Bool)(k b:Nat):(out.set k true).getD b false=if k=b∧b<out.length then true else out.getD b false:=by
 rw[List.getD_eq_getElem?_getD,List.getElem?_set,List.getD_eq_getElem?_getD]
 by_cases h:k=b
 ·subst h
  by_cases h2:k<out.length
  ·simp [h2]
  ·simp [h2]
 ·simp [h]
theorem c0y{out:List Bool}{b:Nat}(h:out.getD b false=true):b<out.length:=by
 apply Nat.lt_of_not_le
 intro hh
 rw[List.getD_eq_getElem?_getD,List.getElem?_eq_none hh]at h
 simp at h
def Z1(out:List Bool)(l:List Int):List Bool:=l.foldl (fun o to=>o.set to.toNat true) out
theorem U8:∀(l:List Int) (out:List Bool),(Z1 out l).length=out.length
 |[],out=>rfl
 |a::l,out=>by show(Z1 (out.set a.toNat true) l).length=_;rw[U8 l];simp
theorem dH:∀(l:List Int) (out:List Bool) (b:Nat),(∀to∈l,0≤to∧to<out.length)→((Z1 out l).getD b false=true↔out.getD b false=true∨(b:Int)∈l)
 |[],out,b,_=>by simp [Z1]
 |a::l,out,b,h=>by
  show(Z1 (out.set a.toNat true) l).getD b false=true↔_
  rw[dH l (out.set a.toNat true) b (by simpa using fun to hto=>h to (by simp [hto])),Y8]
  have ha:=h a (by simp)
  by_cases e:a.toNat=b
  ·rw[if_pos ⟨e,by omega⟩]
   simp only[List.mem_cons,true_or,true_iff]
   exact .inr (.inl (by omega))
  ·rw[if_neg (fun hh=>e hh.1),List.mem_cons]
   constructor
   ·rintro(h1|h1)
    ·exact .inl h1
    ·exact .inr (.inr h1)
   ·rintro(h1|h1|h1)
    ·exact .inl h1
    ·omega
    ·exact .inr h1
def dM(bs:List b6)(out:List Bool)(b:Nat):List Bool:=if out.getD b false then Z1 out (m7 (B6 bs b).t)else out
def Y3(bs:List b6)(out:List Bool):Nat→List Bool
 |0=>out
 |b+1=>dM bs (Y3 bs out b) b
def F8(bs:List b6)(out:List Bool):Nat→List Bool
 |0=>out
 |k+1=>Y3 bs (F8 bs out k) bs.length
def Z3(n:Nat):List Bool:=(List.replicate n false).set 0 true
structure RI (bs:List b6) (out:List Bool):Prop where
 l:out.length=bs.length
 s:∀b,out.getD b false=true→fJ bs (b:Int)
 z:out.getD 0 false=true
theorem RI.zero{bs:List b6}(h:bU bs):RI bs (Z3 bs.length):=by
 refine⟨by simp [Z3],fun b hb=>?_,?_⟩
 ·unfold Z3 at hb
  rw[Y8]at hb
  split at hb
  ·rename_i h1;rw[←h1.1];exact .zero
  ·rw[List.getD_eq_getElem?_getD,List.getElem?_replicate]at hb
   split at hb<;>simp at hb
 ·unfold Z3
  rw[Y8,if_pos ⟨rfl,by simpa using h.1⟩]
theorem RI.dM{bs:List b6}(h:bU bs){out:List Bool}(R:RI bs out){b:Nat}(hb:b<bs.length):RI bs (dM bs out b)∧(∀k,out.getD k false=true→(Proofs.YtgdoiokalfhjoaaGreatDoor.dM bs out b).getD k false=true)∧(out.getD b false=true→∀to∈m7 (B6 bs b).t,(Proofs.YtgdoiokalfhjoaaGreatDoor.dM bs out b).getD to.toNat false=true):=by
 have hs:∀to∈m7 (B6 bs b).t,0≤to∧to<out.length:=fun to hto=>by rw[R.l];exact h.2 _ (S5 hb) to hto
 unfold Proofs.YtgdoiokalfhjoaaGreatDoor.dM
 split
 ·rename_i h1
  have h1':out.getD b false=true:=h1
  refine⟨⟨by rw[U8];exact R.l,fun k hk=>?_,?_⟩,fun k hk=>?_,fun _ to hto=>?_⟩
  ·rcases(dH _ _ _ hs).1 hk with hk|hk
   ·exact R.s k hk
   ·exact .step (R.s b h1') (by simpa using hk)
  ·exact(dH _ _ _ hs).2 (.inl R.z)
  ·exact(dH _ _ _ hs).2 (.inl hk)
  ·refine(dH _ _ _ hs).2 (.inr ?_)
   have:=hs to hto
   rw[Int.toNat_of_nonneg this.1];exact hto
 ·rename_i h1
  exact⟨R,fun k hk=>hk,fun h2=>absurd h2 h1⟩
theorem RI.Y3{bs:List b6}(h:bU bs){out:List Bool}(R:RI bs out):∀n,n≤bs.length→RI bs (Y3 bs out n)∧(∀k,out.getD k false=true→(Proofs.YtgdoiokalfhjoaaGreatDoor.Y3 bs out n).getD k false=true)∧(∀b,b<n→out.getD b false=true→∀to∈m7 (B6 bs b).t,(Proofs.YtgdoiokalfhjoaaGreatDoor.Y3 bs out n).getD to.toNat false=true):=by
 intro n
 induction n with
 |zero=>intro _;exact⟨R,fun k hk=>hk,fun b hb=>by omega⟩
 |succ n ih=>
  intro hn
  obtain⟨R1,m1,c1⟩:=ih (by omega)
  obtain⟨R2,m2,c2⟩:=R1.dM h (b:=n) (by omega)
  refine⟨R2,fun k hk=>m2 k (m1 k hk),fun b hb hk to hto=>?_⟩
  by_cases e:b=n
  ·subst e;exact c2 (m1 _ hk) to hto
  ·exact m2 _ (c1 b (by omega) hk to hto)
theorem RI.rounds{bs:List b6}(h:bU bs){out:List Bool}(R:RI bs out):∀k,RI bs (F8 bs out k)
 |0=>R
 |k+1=>((RI.rounds h R k).Y3 h bs.length (Nat.le_refl _)).1
def lG(out:List Bool):Nat:=out.count true
theorem a3P{a b:List Bool}(hl:a.length=b.length)(h:∀k,a.getD k false=true→b.getD k false=true):lG a≤lG b∧(lG a=lG b→a=b):=by
 induction a generalizing b with
 |nil=>cases b with
  |nil=>exact⟨Nat.le_refl _,fun _=>rfl⟩
  |cons y b=>simp at hl
 |cons x a ih=>cases b with
  |nil=>simp at hl
  |cons y b=>
   obtain⟨h1,h2⟩:=ih (b:=b) (by simpa using hl) (fun k hk=>by simpa using h (k+1) (by simpa using hk))
   have h0:x=true→y=true:=by simpa using h 0
   unfold lG at*
   cases x<;>cases y<;>simp at h0⊢
   ·exact⟨h1,h2⟩
   ·exact⟨by omega,by omega⟩
   ·exact⟨h1,h2⟩
theorem b0r{bs:List b6}(h:bU bs):F8 bs (Z3 bs.length) bs.length=reachF bs:=by
 have R0:=RI.zero h
 have key:∀k,k≤bs.length→(∀b,(F8 bs (Z3 bs.length) k).getD b false=true→∀to∈m7 (B6 bs b).t,(F8 bs (Z3 bs.length) k).getD to.toNat false=true)∨k+1≤lG (F8 bs (Z3 bs.length) k):=by
  intro k
  induction k with
  |zero=>
   intro _
   right
   show 1≤lG (Z3 bs.length)
   unfold lG
   have hz:=R0.z
   have:true∈Z3 bs.length:=by
    rw[List.getD_eq_getElem?_getD]at hz
    cases he:(Z3 bs.length)[0]? with
    |none=>rw[he]at hz;simp at hz
    |some v=>rw[he]at hz;simp at hz;subst hz;exact List.mem_of_getElem? he
   exact List.count_pos_iff.2 this
  |succ k ih=>
   intro hk
   obtain⟨R1,m1,c1⟩:=(R0.rounds h k).Y3 h bs.length (Nat.le_refl _)
   have e:F8 bs (Z3 bs.length) (k+1)=Proofs.YtgdoiokalfhjoaaGreatDoor.Y3 bs (F8 bs (Z3 bs.length) k) bs.length:=rfl
   have hl:(F8 bs (Z3 bs.length) k).length=(Proofs.YtgdoiokalfhjoaaGreatDoor.Y3 bs (F8 bs (Z3 bs.length) k) bs.length).length:=by rw[(R0.rounds h k).l,R1.l]
   obtain⟨l1,l2⟩:=a3P hl m1
   rw[e]
   rcases Nat.lt_or_ge (lG (F8 bs (Z3 bs.length) k)) (lG (Proofs.YtgdoiokalfhjoaaGreatDoor.Y3 bs (F8 bs (Z3 bs.length) k) bs.length))with hlt|hge
   ·rcases ih (by omega)with hc|hc
    ·left
     exfalso
     have same:Proofs.YtgdoiokalfhjoaaGreatDoor.Y3 bs (F8 bs (Z3 bs.length) k) bs.length=F8 bs (Z3 bs.length) k:=by
      have:∀n,n≤bs.length→Proofs.YtgdoiokalfhjoaaGreatDoor.Y3 bs (F8 bs (Z3 bs.length) k) n=F8 bs (Z3 bs.length) k:=by
       intro n
       induction n with
       |zero=>intro _;rfl
       |succ n ih2=>
        intro hn
        show Proofs.YtgdoiokalfhjoaaGreatDoor.dM bs (Proofs.YtgdoiokalfhjoaaGreatDoor.Y3 bs (F8 bs (Z3 bs.length) k) n) n=_
        rw[ih2 (by omega)]
        obtain⟨R3,m3,c3⟩:=(R0.rounds h k).dM h (b:=n) (by omega)
        refine(a3P (by rw[(R0.rounds h k).l,R3.l]) m3).2 ?_|>.symm
        refine Nat.le_antisymm (a3P (by rw[(R0.rounds h k).l,R3.l]) m3).1 ?_
        refine(a3P (by rw[(R0.rounds h k).l,R3.l]) fun j hj=>?_).1
        unfold Proofs.YtgdoiokalfhjoaaGreatDoor.dM at hj
        split at hj
        ·rename_i hb
         have hs:∀to∈m7 (B6 bs n).t,0≤to∧to<(F8 bs (Z3 bs.length) k).length:=fun to hto=>by rw[(R0.rounds h k).l];exact h.2 _ (S5 (by omega)) to hto
         rcases(dH _ _ _ hs).1 hj with hj|hj
         ·exact hj
         ·simpa using hc n hb _ hj
        ·exact hj
      exact this _ (Nat.le_refl _)
     rw[same]at hlt
     omega
    ·right;omega
   ·left
    have e2:=l2 (by omega)
    intro b hb to hto
    rw[←e2]at hb
    exact c1 b (by have:=c0y hb;rw[(R0.rounds h k).l]at this;exact this) hb to hto
 have hR:=R0.rounds h bs.length
 rcases key bs.length (Nat.le_refl _)with hc|hc
 ·exact a8E h hR.l hR.s hR.z hc
 ·have:lG (F8 bs (Z3 bs.length) bs.length)≤(F8 bs (Z3 bs.length) bs.length).length:=List.count_le_length
  rw[hR.l]at this
  omega
structure DI (bs:List b6) (out:List Bool) (left:List Int):Prop where
 R:RI bs out
 m:∀b∈left,0≤b∧out.getD b.toNat false=true
 c:∀b:Nat,out.getD b false=true→(b:Int)∈left∨∀to∈m7 (B6 bs b).t,out.getD to.toNat false=true
theorem DI.zero{bs:List b6}(h:bU bs):DI bs (Z3 bs.length) [0]:=by
 have R:=RI.zero h
 refine⟨R,fun b hb=>?_,fun b hb=> .inl ?_⟩
 ·rw[List.mem_singleton.1 hb];exact⟨Int.le_refl _,R.z⟩
 ·unfold Z3 at hb
  rw[Y8]at hb
  split at hb
  ·rename_i h1;rw[←h1.1];simp
  ·rw[List.getD_eq_getElem?_getD,List.getElem?_replicate]at hb
   split at hb<;>simp at hb
theorem DI.done{bs:List b6}(h:bU bs){out:List Bool}(D:DI bs out []):out=reachF bs:=a8E h D.R.l D.R.s D.R.z fun b hb=>(D.c b hb).resolve_left (by simp)
def dN(p:List Bool×List Int)(to:Int):List Bool×List Int:=if p.1.getD to.toNat false then p else(p.1.set to.toNat true,p.2++[to])
structure DP (bs:List b6) (b:Int) (l:List Int) (p:List Bool×List Int):Prop where
 R:RI bs p.1
 m:∀x∈p.2,0≤x∧p.1.getD x.toNat false=true
 c:∀x:Nat,p.1.getD x false=true→(x:Int)∈p.2∨(∀to∈m7 (B6 bs x).t,p.1.getD to.toNat false=true)∨((x:Int)=b∧∀to∈m7 (B6 bs x).t,to∈l∨p.1.getD to.toNat false=true)
theorem DI.pop{bs:List b6}{out:List Bool}{left:List Int}{b:Int}(D:DI bs out (left++[b])):DP bs b (m7 (B6 bs b.toNat).t) (out,left):=by
 refine⟨D.R,fun x hx=>D.m x (by simp [hx]),fun x hx=>?_⟩
 rcases D.c x hx with h|h
 ·rcases List.mem_append.1 h with h|h
  ·exact .inl h
  ·have:(x:Int)=b:=by simpa using h
   exact .inr (.inr ⟨this,fun to hto=> .inl (by rw[←this];simpa using hto)⟩)
 ·exact .inr (.inl h)
theorem DP.push{bs:List b6}{b:Int}(hb:fJ bs b)(h:bU bs){a:Int}{l:List Int}(hl:∀x∈a::l,x∈m7 (B6 bs b.toNat).t){p:List Bool×List Int}(D:DP bs b (a::l) p):DP bs b l (dN p a):=by
 obtain⟨out,left⟩:=p
 have hbd:=hb.bd h
 have ha:a∈m7 (B6 bs b.toNat).t:=hl a (by simp)
 have had:=h.2 _ (S5 (by omega)) a ha
 unfold dN
 by_cases hin:out.getD a.toNat false=true
 ·rw[if_pos hin]
  refine⟨D.R,D.m,fun x hx=>?_⟩
  rcases D.c x hx with h1|h1|⟨h1,h2⟩
  ·exact .inl h1
  ·exact .inr (.inl h1)
  ·refine .inr (.inr ⟨h1,fun to hto=>?_⟩)
   rcases h2 to hto with h3|h3
   ·rcases List.mem_cons.1 h3 with rfl|h3
    ·exact .inr hin
    ·exact .inl h3
   ·exact .inr h3
 ·rw[if_neg hin]
  have hlen:out.length=bs.length:=D.R.l
  have mono:∀k,out.getD k false=true→(out.set a.toNat true).getD k false=true:=fun k hk=>by rw[Y8];split<;>simp_all
  have new:(out.set a.toNat true).getD a.toNat false=true:=by rw[Y8,if_pos ⟨rfl,by omega⟩]
  refine⟨⟨by simpa using hlen,fun k hk=>?_,mono _ D.R.z⟩,fun x hx=>?_,fun x hx=>?_⟩
  ·rw[Y8]at hk
   split at hk
   ·rename_i h1
    have:(k:Int)=a:=by omega
    rw[this];exact .step hb ha
   ·exact D.R.s k hk
  ·rcases List.mem_append.1 hx with hx|hx
   ·exact⟨(D.m x hx).1,mono _ (D.m x hx).2⟩
   ·have:x=a:=by simpa using hx
    subst this
    exact⟨had.1,new⟩
  ·by_cases hxa:x=a.toNat
   ·left
    show(x:Int)∈left++[a]
    have:(x:Int)=a:=by omega
    simp [this]
   ·have hx':out.getD x false=true:=by
     have hx2:(out.set a.toNat true).getD x false=true:=hx
     rw[Y8,if_neg (fun hh=>hxa hh.1.symm)]at hx2
     exact hx2
    rcases D.c x hx' with h1|h1|⟨h1,h2⟩
    ·exact .inl (by show(x:Int)∈left++[a];simp [show(x:Int)∈left from h1])
    ·exact .inr (.inl fun to hto=>mono _ (h1 to hto))
    ·refine .inr (.inr ⟨h1,fun to hto=>?_⟩)
     rcases h2 to hto with h3|h3
     ·rcases List.mem_cons.1 h3 with rfl|h3
      ·exact .inr new
      ·exact .inl h3
     ·exact .inr (mono _ h3)
theorem DP.done{bs:List b6}{b:Int}{p:List Bool×List Int}(D:DP bs b [] p):DI bs p.1 p.2:=⟨D.R,D.m,fun x hx=>by
 rcases D.c x hx with h1|h1|⟨h1,h2⟩
 ·exact .inl h1
 ·exact .inr h1
 ·exact .inr fun to hto=>(h2 to hto).resolve_left (by simp)⟩
def msr(p:List Bool×List Int):Nat:=2*(p.1.length-lG p.1)+p.2.length
theorem c0n{out:List Bool}{k:Nat}(h:k<out.length)(h2:¬out.getD k false=true):lG (out.set k true)=lG out+1:=by
 induction out generalizing k with
 |nil=>simp at h
 |cons x out ih=>
  unfold lG at*
  cases k with
  |zero=>
   have:x=false:=by simpa using h2
   subst this
   simp
  |succ k=>
   have:=ih (k:=k) (by simpa using h) (by simpa using h2)
   rw[List.set_cons_succ,List.count_cons,List.count_cons,this]
   omega
theorem b7x(p:List Bool×List Int)(a:Int)(h:0≤a∧a<p.1.length):msr (dN p a)≤msr p∧(dN p a).1.length=p.1.length:=by
 obtain⟨out,left⟩:=p
 unfold dN
 by_cases hin:out.getD a.toNat false=true
 ·rw[if_pos hin];exact⟨Nat.le_refl _,rfl⟩
 ·rw[if_neg hin]
  have h':a.toNat<out.length:=by have h1:a<(out.length:Int):=h.2;omega
  refine⟨?_,by simp⟩
  unfold msr
  have:=c0n h' hin
  have hle:lG (out.set a.toNat true)≤(out.set a.toNat true).length:=List.count_le_length
  simp only[List.length_set,List.length_append,List.length_singleton]at hle⊢
  omega
theorem yC:∀(l:List Int) (p:List Bool×List Int),(∀to∈l,0≤to∧to<p.1.length)→msr (l.foldl dN p)≤msr p∧(l.foldl dN p).1.length=p.1.length
 |[],p,_=>⟨Nat.le_refl _,rfl⟩
 |a::l,p,h=>by
  obtain⟨h1,h2⟩:=b7x p a (h a (by simp))
  obtain⟨h3,h4⟩:=yC l (dN p a) (fun to hto=>by rw[h2];exact h to (by simp [hto]))
  exact⟨by rw[List.foldl_cons];omega,by rw[List.foldl_cons,h4,h2]⟩
theorem b2a(out:List Bool)(left:List Int)(b:Int):msr (out,left)+1=msr (out,left++[b]):=by unfold msr;simp;omega
theorem DP.b7K{bs:List b6}{b:Int}(hb:fJ bs b)(h:bU bs):∀(l:List Int) (p:List Bool×List Int),(∀x∈l,x∈m7 (B6 bs b.toNat).t)→DP bs b l p→DP bs b [] (l.foldl dN p)
 |[],p,_,D=>D
 |a::l,p,hl,D=>DP.b7K hb h l (dN p a) (fun x hx=>hl x (by simp [hx])) (D.push hb h hl)
def L5:=ZZ.mk (Zq @tL @tM)
theorem b1R(o:E3):e8 Tryz.prog 80 [.agg o.av] (fun _=> .v (.int .i64 (pK o))) (fun _=>[]):=by
 refine Zf Tryz.func80 Tryz.ntmps80 ?_;simp only[E3.av]
 repeat' (first|refine Za ?_|(with_reducible constructor<;>first|intro N hN mk hmk|intro N hN|intro h)|refine Zt L5.d ?_|fail)
 all_goals(unfold pK;split<;>first|rfl|omega)
theorem sU(i:e7):e8 Tryz.prog 28 [.agg i.av] (fun _=> .v (.int .i64 (E9 i))) (fun _=>[]):=by
 have C:=b1R i.d
 simp only[E3.av]at C
 refine Zf Tryz.func28 Tryz.ntmps28 ?_;simp only[e7.av]
 repeat' (first|refine Za ?_|(with_reducible constructor<;>first|intro N hN mk hmk|intro N hN|intro h)|refine Zc C ?_|refine Zt L5.d ?_|fail)
 rfl
theorem wK(t:q9):e8 Tryz.prog 27 [.agg t.av] (fun _=> .v (.int .i64 (F3 t))) (fun _=>[]):=by
 have C:=b1R t.d
 simp only[E3.av]at C
 refine Zf Tryz.func27 Tryz.ntmps27 ?_;simp only[q9.av]
 repeat' (first|refine Za ?_|(with_reducible constructor<;>first|intro N hN mk hmk|intro N hN|intro h)|refine Zc C ?_|refine Zt L5.d ?_|fail)
 rfl
theorem b2q(i:e7):e8 Tryz.prog 150 [.agg i.av] (fun _=> .v (.int .i64 (E9 i))) (fun _=>[]):=by
 refine Zf Tryz.func150 Tryz.ntmps150 ?_;simp only[e7.av]
 repeat' (first|refine Za ?_|(with_reducible constructor<;>first|intro N hN mk hmk|intro N hN|intro h)|refine Zt L5.d ?_|fail)
 all_goals(unfold E9 pK;split<;>first|rfl|omega)
theorem b7M(t:q9):e8 Tryz.prog 148 [.agg t.av] (fun _=> .v (.int .i64 (F3 t))) (fun _=>[]):=by
 refine Zf Tryz.func148 Tryz.ntmps148 ?_;simp only[q9.av]
 repeat' (first|refine Za ?_|(with_reducible constructor<;>first|intro N hN mk hmk|intro N hN|intro h)|refine Zt L5.d ?_|fail)
 all_goals(unfold F3 pK;split<;>first|rfl|omega)
theorem b7O(t:q9):e8 Tryz.prog 127 [.agg t.av] (fun _=> .a8 false (c7 (m7 t))) (fun _=>[]):=by
 obtain⟨k,s,⟨dk,dn,dv⟩,⟨ak,an,av⟩,⟨bk,bn,bv⟩,t0,t1⟩:=t
 refine Zf Tryz.func127 Tryz.ntmps127 ?_;simp only[q9.av]
 repeat' (first|refine Za ?_|(with_reducible constructor<;>first|intro N hN mk hmk|intro N hN|intro h)|refine Zt L5.d ?_|fail)
 all_goals(unfold m7;(repeat' split)<;>first|rfl|(exfalso;omega)|(exfalso;simp_all;done)|simp_all)
def a8L(a b:List Int):Bool:=decide (a=b)
def gF:=ZZ.mk (Zq L5.d (Zq @I2 (Zq @a23 (Zq @eP (Zq @iM @m9)))))
theorem c1o(l:List Int)(n:Int)(hl:l.length≤1000000):e8 Tryz.prog 53 [.a8 false (c7 l),.v (.int .i64 n)] (fun _=> .v (.bool (decide (n∈l)))) (fun _=>[]):=by
 refine Zf Tryz.func53 Tryz.ntmps53 ?_
 repeat' (first|refine Za ?_|(with_reducible constructor<;>first|intro N hN mk hmk|intro N hN|intro h)|refine Zt gF.d ?_|fail)
 refine H4 (fun i=>⟨[.a8 false (c7 l),.v (.int .i64 n),.Z,.Z,.Z,.v (.int .i64 i),.Z,.Z,.Z,.Z,.Z,.Z,.Z,.Z,.Z,.Z,.Z,.Z],[],0⟩) (fun ii=>Go.Ab.W0 ((fun i=>∀k,k<i→l.getD k 0≠n) ii)) l.length (Zw [0,1,5] [] gF.d ?_) ?_ ?_
 ·simp
 ·exact⟨fun k hk=>by omega⟩
 ·intro i hi hI
  have hI:=hI.out
  repeat' (first|refine Za ?_|(with_reducible constructor<;>first|intro N hN mk hmk|intro N hN|intro h)|refine Zt gF.d ?_|fail)
  ·refine(decide_eq_true ?_).symm
   have:i<l.length:=by omega
   rw[←‹l.getD i 0=n›]
   rw[List.getD_eq_getElem?_getD,List.getElem?_eq_getElem this]
   exact List.getElem_mem this
  ·refine⟨⟨fun k hk=>?_⟩,?_⟩
   ·rcases Nat.lt_succ_iff_lt_or_eq.1 hk with h1|rfl
    ·exact hI k h1
    ·assumption
   ·refine Zw [0,1,5] [] gF.d ?_
    rfl
  ·refine(decide_eq_false ?_).symm
   intro hm
   obtain⟨k,hk,e⟩:=List.getElem_of_mem hm
   refine hI k (by omega) ?_
   rw[List.getD_eq_getElem?_getD,List.getElem?_eq_getElem hk]
   exact e
theorem b7N(a b:List Int)(hl:a.length≤1000000):e8 Tryz.prog 45 [.a8 false (c7 a),.a8 false (c7 b)] (fun _=> .v (.bool (a8L a b))) (fun _=>[]):=by
 refine Zf Tryz.func45 Tryz.ntmps45 ?_
 repeat' (first|refine Za ?_|(with_reducible constructor<;>first|intro N hN mk hmk|intro N hN|intro h)|refine Zt gF.d ?_|fail)
 ·refine(decide_eq_false ?_).symm
  rintro rfl
  omega
 ·refine H4 (fun i=>⟨[.a8 false (c7 a),.a8 false (c7 b),.Z,.Z,.Z,.v (.int .i64 i),.Z,.Z,.Z,.Z,.Z,.Z,.Z,.Z,.Z,.Z,.Z,.Z,.Z,.Z,.Z,.Z,.Z,.Z,.Z,.Z],[],0⟩) (fun ii=>Go.Ab.W0 ((fun i=>∀k,k<i→a.getD k 0=b.getD k 0) ii)) a.length (Zw [0,1,5] [] gF.d ?_) ?_ ?_
  ·simp
  ·exact⟨fun k hk=>by omega⟩
  ·intro i hi hI
   have hI:=hI.out
   repeat' (first|refine Za ?_|(with_reducible constructor<;>first|intro N hN mk hmk|intro N hN|intro h)|refine Zt gF.d ?_|fail)
   ·refine(decide_eq_false ?_).symm
    rintro rfl
    exact absurd rfl ‹¬a.getD i 0=a.getD i 0›
   ·refine⟨⟨fun k hk=>?_⟩,?_⟩
    ·rcases Nat.lt_succ_iff_lt_or_eq.1 hk with h1|rfl
     ·exact hI k h1
     ·exact Decidable.not_not.1 ‹¬¬_›
    ·refine Zw [0,1,5] [] gF.d ?_
     rfl
   ·refine(decide_eq_true ?_).symm
    refine List.ext_getElem (by omega) fun k h1 h2=>?_
    have:=hI k (by omega)
    rwa [List.getD_eq_getElem?_getD,List.getD_eq_getElem?_getD,List.getElem?_eq_getElem h1,List.getElem?_eq_getElem h2]at this
theorem c58(i:Nat):((i:Int)-0).toNat=i:=by omega
theorem c57(a b:Nat):((a:Int)-(b:Int)).toNat=a-b:=by omega
theorem b0I{l:List Int}{n:Int}{i:Nat}(hi:i≤l.length)(h:∀k,k<i→l.getD k 0<n)(he:i=l.length∨n≤l.getD i 0):l.takeWhile (fun x=>decide (x<n))=l.take i∧l.dropWhile (fun x=>decide (x<n))=l.drop i:=by
 induction l generalizing i with
 |nil=>
      have:i=0:=by simpa using hi
      subst this;simp
 |cons a l ih=>
  cases i with
  |zero=>
   have:n≤a:=by
             rcases he with he|he
             ·simp at he
             ·simpa using he
   rw[List.takeWhile_cons,List.dropWhile_cons,if_neg (by simp;omega),if_neg (by simp;omega)];simp
  |succ i=>
   have h0:a<n:=by simpa using h 0 (by omega)
   obtain⟨h1,h2⟩:=ih (i:=i) (by simpa using hi) (fun k hk=>by simpa using h (k+1) (by omega)) (by simpa using he)
   rw[List.takeWhile_cons,List.dropWhile_cons,if_pos (by simpa using h0),if_pos (by simpa using h0),h1,h2];simp
theorem xC(a b:List Int):c7 a++c7 b=c7 (a++b):=by simp [c7]
theorem b3M(l:List Int)(n:Nat):(c7 l).take n=c7 (l.take n):=by simp [c7]
theorem a2Z(l:List Int)(n:Nat):(c7 l).drop n=c7 (l.drop n):=by simp [c7]
theorem dA(l:List Int):(∀e∈c7 l,∀x∈e,AV.one x=true)=True:=by
 simp only[eq_iff_iff,iff_true]
 intro e he x hx
 simp only[c7,List.mem_map]at he
 obtain⟨j,_,rfl⟩:=he
 simp only[List.mem_cons,List.not_mem_nil,or_false]at hx
 subst hx;rfl
theorem B4(l:List Int):v7 (c7 l)=true:=by rw[v7];exact m9 l
theorem a7c{l:List Int}{n:Int}{i:Nat}(hm:¬n∈l)(hi:i≤l.length)(h:∀k,k<i→l.getD k 0<n)(he:i=l.length∨n≤l.getD i 0):B5 l n=l.take i++n::l.drop i:=by
 obtain⟨h1,h2⟩:=b0I hi h he
 unfold B5
 rw[if_neg hm,h1,h2]
def c4V:=ZZ.mk (Zq gF.d (Zq @c58 (Zq @c57 (Zq @b3M (Zq @a2Z (Zq @xC (Zq @cV (Zq @dA (Zq @B4 (Zq @N1 @List.length_drop.{0}))))))))))
theorem pY(l:List Int)(n:Int)(hl:l.length≤1000000):e8 Tryz.prog 118 [.a8 false (c7 l),.v (.int .i64 n)] (fun _=> .a8 false (c7 (B5 l n))) (fun _=>[]):=by
 refine Zf Tryz.func118 Tryz.ntmps118 ?_
 repeat' (first|refine Za ?_|(with_reducible constructor<;>first|intro N hN mk hmk|intro N hN|intro h)|refine Zc (c1o l n hl) ?_|refine Zt gF.d ?_|fail)
 ·unfold B5;rw[if_pos ‹n∈l›]
 ·have hm:¬n∈l:=‹¬n∈l›
  refine H4 (fun i=>⟨[.a8 false (c7 l),.v (.int .i64 n),.Z,.Z,.Z,.v (.int .i64 i),.Z,.Z,.Z,.Z,.Z,.Z,.Z,.Z,.Z,.Z,.Z,.Z,.Z,.Z,.Z,.Z,.Z,.Z,.Z,.Z,.Z,.Z,.Z,.Z,.Z,.Z,.Z,.Z,.Z,.Z],[],0⟩) (fun ii=>Go.Ab.W0 ((fun i=>∀k,k<i→l.getD k 0<n) ii)) l.length (Zw [0,1,5] [] gF.d ?_) ?_ ?_
  ·simp
  ·exact⟨fun k hk=>by omega⟩
  ·intro i hi hI
   have hI:=hI.out
   have hd:(l.drop i).take (l.length-i)=l.drop i:=List.take_of_length_le (by simp)
   have ht:(l.take i).length=i:=by simp;omega
   have ht2:(l.take i).take i=l.take i:=List.take_of_length_le (by omega)
   have ht3:(l.take i++[n]).take (i+1)=l.take i++[n]:=List.take_of_length_le (by simp;omega)
   have hln:i+1+(l.length-i)=(l.take i++[n]++l.drop i).length:=by simp;omega
   repeat' (first|refine Za ?_|(with_reducible constructor<;>first|intro N hN mk hmk|intro N hN|intro h)|refine Zt (Zq c4V.d (Zq hd (Zq ht (Zq ht2 ht3)))) ?_|fail)
   ·refine⟨⟨fun k hk=>?_⟩,?_⟩
    ·rcases Nat.lt_succ_iff_lt_or_eq.1 hk with h1|rfl
     ·exact hI k h1
     ·assumption
    ·refine Zw [0,1,5] [] (Zq c4V.d (Zq hd (Zq ht (Zq ht2 ht3)))) ?_
     rfl
   ·rw[hln,List.take_length,a7c hm hi hI (.inr (by omega))];simp
   ·rw[hln,List.take_length,a7c hm hi hI (.inl (by omega))];simp
theorem b3S(l:List Int)(n:Int):(B5 l n).length≤l.length+1:=by
 unfold B5
 split
 ·omega
 ·have:=congrArg List.length (List.takeWhile_append_dropWhile (p:=fun x=>decide (x<n)) (l:=l))
  rw[List.length_append]at this;simp only[List.length_append,List.length_cons];omega
theorem w9{α:Type}(l:List α)(i:Nat)(d:α)(h:i<l.length):l.take (i+1)=l.take i++[l.getD i d]:=by
 rw[List.take_add_one,List.getD_eq_getElem?_getD,List.getElem?_eq_getElem h];rfl
theorem b0M(a b:List Int)(i:Nat)(h:i<b.length):D5 a (b.take (i+1))=B5 (D5 a (b.take i)) (b.getD i 0):=by
 rw[w9 b i 0 h];unfold D5;rw[List.foldl_append];rfl
def fM:=ZZ.mk (Zq gF.d (Zq @B4 (Zq @dA (Zq @cV @N1))))
def dL(l:List E3):List (List AV):=l.map E3.av
theorem a8t(l:List E3):(dL l).length=l.length:=by simp [dL]
theorem b33(l:List E3)(z:Nat)(h:z<l.length):(dL l)[z]?=some (l.getD z O0).av:=by simp [dL,h,List.getD_eq_getElem?_getD]
theorem c30(l:List E3):(∀e∈dL l,e.length=3)=True:=by simp [dL,E3.av]
def a4t(out:List Int)(o:E3):List Int:=if o.k=2 then B5 out o.n else out
theorem a3p(l:List E3)(i:Nat)(h:i<l.length):u1 (l.take (i+1))=a4t (u1 (l.take i)) (l.getD i O0):=by
 rw[w9 l i O0 h];unfold u1;rw[List.foldl_append];rfl
theorem xN(l:List E3):(u1 l).length≤l.length:=by
 unfold u1
 have:∀(l:List E3) (out:List Int),(l.foldl (fun out o=>if o.k=2 then B5 out o.n else out) out).length≤out.length+l.length:=by
  intro l
  induction l with
  |nil=>intro out;simp
  |cons o l ih=>
   intro out
   rw[List.foldl_cons]
   have h1:=ih (if o.k=2 then B5 out o.n else out)
   have h2:(if o.k=2 then B5 out o.n else out).length≤out.length+1:=by
    split
    ·exact b3S _ _
    ·omega
   simp;omega
 simpa using this l []
def gG:=ZZ.mk (Zq fM.d (Zq @E3.av.eq_1 (Zq @a8t (Zq @b33 @c30))))
theorem lM(l:List E3)(hl:l.length≤1000):e8 Tryz.prog 218 [.a8 false (dL l)] (fun _=> .a8 false (c7 (u1 l))) (fun _=>[]):=by
 refine Zf Tryz.func218 Tryz.ntmps218 ?_
 repeat' (first|refine Za ?_|(with_reducible constructor<;>first|intro N hN mk hmk|intro N hN|intro h)|refine Zt gG.d ?_|fail)
 refine a3G 3 (y:= .a8 false (c7 [])) (by simp (maxSteps:=10000000) (disch:=omega) only[gG.d,l9,P7,s9,A2,p7,o3,AV.kept,b7,n4,u0,B3,p9,o9,b8,AV.y8,m8,v8,AV.plain,rd,u6,a6,P6,stepC,AV.e6,AV.S9,AV.w6,AV.L8,AV.scalar,T8,s6,A6,A9,B1,A8,o8,A5,U0,s7,A7,z8,j3,T7,l0,y7,y5,Q0,z6,j8,TD.isRow,s8,j7,j9,j6,F4,Value.oneCell',↓reduceIte,Int.reduceNe,Int.reduceEq,Nat.reduceAdd,Nat.reduceLT,Nat.reduceLeDiff,Nat.reduceSub,Nat.reduceMul,Nat.reduceBEq,Nat.reduceEqDiff,reduceCtorEq,Int.reduceToNat,←decide_not,←Bool.decide_and,sA,sN]<;>first|done|rfl) rfl ?_;simp (maxSteps:=10000000) (disch:=omega) only[a6,n4,y0,gG.d,l9,P7,s9,A2,p7,o3,AV.kept,b7,n4,u0,B3,p9,o9,b8,AV.y8,m8,v8,AV.plain,rd,u6,a6,P6,stepC,AV.e6,AV.S9,AV.w6,AV.L8,AV.scalar,T8,s6,A6,A9,B1,A8,o8,A5,U0,s7,A7,z8,j3,T7,l0,y7,y5,Q0,z6,j8,TD.isRow,s8,j7,j9,j6,F4,Value.oneCell',↓reduceIte,Int.reduceNe,Int.reduceEq,Nat.reduceAdd,Nat.reduceLT,Nat.reduceLeDiff,Nat.reduceSub,Nat.reduceMul,Nat.reduceBEq,Nat.reduceEqDiff,reduceCtorEq,Int.reduceToNat,←decide_not,←Bool.decide_and,sA,sN]
 refine l8 (fun i=>⟨[.a8 false (dL l),.Z,.Z,.a8 false (c7 (u1 (l.take i))),.v (.int .i64 i),.Z,.Z,.Z,.Z,.Z,.Z,.Z,.Z,.Z,.Z,.Z,.Z,.Z,.Z,.Z,.Z,.Z,.Z,.Z,.Z,.Z],[],0⟩) l.length (Zw [0,3,4] [] gG.d ?_) ?_
 ·simp [u1]
 ·intro i hi
  have hlen:=xN (l.take i)
  have hlt:(l.take i).length≤l.length:=by simp;omega
  repeat' (first|refine Za ?_|(with_reducible constructor<;>first|intro N hN mk hmk|intro N hN|intro h)|refine a2I (pY (u1 (l.take i)) (l.getD i O0).n (by omega)) rfl ?_|refine jQ (pY (u1 (l.take i)) (l.getD i O0).n (by omega)) rfl rfl ?_|refine wQ (pY (u1 (l.take i)) (l.getD i O0).n (by omega)) rfl ?_|refine Zt gG.d ?_|fail)
  ·refine Zw [0,3,4] [] gG.d ?_
   rw[a3p l i (by omega),a4t,if_pos (by assumption)];rfl
  ·refine Zw [0,3,4] [] gG.d ?_
   rw[a3p l i (by omega),a4t,if_neg (by assumption)];rfl
  ·rw[show i=l.length by omega,List.take_length]
theorem a8C(i:e7):e8 Tryz.prog 149 [.agg i.av] (fun _=> .a8 false (c7 (o5 i))) (fun _=>[]):=by
 have C:=lM [i.a,i.b,i.c] (by simp)
 simp only[dL,List.map_cons,List.map_nil,E3.av]at C
 refine Zf Tryz.func149 Tryz.ntmps149 ?_;simp only[e7.av]
 repeat' (first|refine Za ?_|(with_reducible constructor<;>first|intro N hN mk hmk|intro N hN|intro h)|(refine H5 C ?_ rfl ?_ ?_;(next=>(simp (disch:=omega) only[gG.d,u6,Nat.reduceBEq,AV.plain,Nat.reduceAdd,Nat.reduceLeDiff,Nat.reduceLT,↓reduceIte,sF]<;>first|done|rfl));(next=>(simp only[apply_ite List.length,List.length_cons,List.length_nil]<;>(try split)<;>omega)))|(refine F1 C ?_ rfl ?_ ?_;(next=>(simp (disch:=omega) only[gG.d,u6,Nat.reduceBEq,AV.plain,Nat.reduceAdd,Nat.reduceLeDiff,Nat.reduceLT,↓reduceIte,sF]<;>first|done|rfl));(next=>(simp only[apply_ite List.length,List.length_cons,List.length_nil]<;>(try split)<;>omega)))|refine Zt gG.d ?_|fail)
 all_goals rfl
theorem a3n(t:q9):e8 Tryz.prog 147 [.agg t.av] (fun _=> .a8 false (c7 (n6 t))) (fun _=>[]):=by
 have C:=lM [t.a,t.b] (by simp)
 simp only[dL,List.map_cons,List.map_nil,E3.av]at C
 refine Zf Tryz.func147 Tryz.ntmps147 ?_;simp only[q9.av]
 repeat' (first|refine Za ?_|(with_reducible constructor<;>first|intro N hN mk hmk|intro N hN|intro h)|(refine H5 C ?_ rfl ?_ ?_;(next=>(simp (disch:=omega) only[gG.d,u6,Nat.reduceBEq,AV.plain,Nat.reduceAdd,Nat.reduceLeDiff,Nat.reduceLT,↓reduceIte,sF]<;>first|done|rfl));(next=>(simp only[apply_ite List.length,List.length_cons,List.length_nil]<;>(try split)<;>omega)))|(refine F1 C ?_ rfl ?_ ?_;(next=>(simp (disch:=omega) only[gG.d,u6,Nat.reduceBEq,AV.plain,Nat.reduceAdd,Nat.reduceLeDiff,Nat.reduceLT,↓reduceIte,sF]<;>first|done|rfl));(next=>(simp only[apply_ite List.length,List.length_cons,List.length_nil]<;>(try split)<;>omega)))|refine Zt gG.d ?_|fail)
 all_goals rfl
theorem cC(i:e7):(o5 i).length≤3:=xN _
theorem bN(t:q9):(n6 t).length≤2:=xN _
end Go.Proofs.YtgdoiokalfhjoaaGreatDoor
end
