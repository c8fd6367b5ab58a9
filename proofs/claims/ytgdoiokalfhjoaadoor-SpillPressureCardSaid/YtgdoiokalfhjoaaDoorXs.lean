/- Own work (by an AI agent; no person has read it): part of a proof of the seat YtgdoiokalfhjoaaDoor. -/
import Derived.Test.YtgdoiokalfhjoaaDoorXk
set_option linter.unusedVariables false
set_option linter.unusedSimpArgs false
section
namespace Go.Ab
open Go.RowKit (Below)
theorem cS{t:List AV}{h:List (Nat×RS)}{nx id i j:Nat}{r:Row}(hl:LS.hf h id= .live r):O8 ⟨t,h,nx⟩ ⟨t,Z7 id (.live {r with es:=r.es.modify i fun e=>e.set j .Z}) h,nx⟩:=by
 intro G M0 w0 ρ a w R
 obtain⟨R,hok⟩:=R
 have hh:=a0P (x:=RS.live {r with es:=r.es.modify i fun e=>e.set j .Z}) hl (by simp)
 refine⟨ρ,?_,a1j hok⟩
 show Rel G M0 w0 ⟨t.length,LS.tf t,LS.hf (Z7 id _ h)⟩ ρ a w
 rw[hh]
 have hM:=fun b o=>qV (M0:=M0) (ρ:=ρ) (h:=LS.hf h) (id:=id) (r:=r) (r':={r with es:=r.es.modify i fun e=>e.set j .Z}) hl rfl b o
 have hc:∀b' o c,¬p7 M0 ρ (LS.hf h) b' o→w.cell? ⟨b',o,none⟩=some c→¬p7 M0 ρ (m9 (LS.hf h) id (.live {r with es:=r.es.modify i fun e=>e.set j .Z})) b' o∧w.cell? ⟨b',o,none⟩=some c:=
  fun b' o c g1 g2=>⟨fun g=>g1 ((hM b' o).1 g),g2⟩
 have lift:∀i1 r1,m9 (LS.hf h) id (.live {r with es:=r.es.modify i fun e=>e.set j .Z}) i1= .live r1→∃r',LS.hf h i1= .live r'∧r'.sz=r1.sz:=by
  intro i1 r1 hx
  by_cases hid:i1=id
  ·subst hid
   simp only[m9,if_true,RS.live.injEq]at hx
   subst hx
   exact⟨r,hl,rfl⟩
  ·simp only[m9,if_neg hid]at hx;exact⟨_,hx,rfl⟩
 refine R.step (d:=none) (val:= .Z) (v:=undef) trivial (fun _ _ h=>h) hc (fun _ _ h=>h) ?_ ?_ ?_ R.U2 ?_ ?_ (U5.refl w) (fun _ _ _ h=>h) ?_ (.Z _)
 ·intro id' r' hx
  by_cases hid:id'=id
  ·subst hid
   simp only[m9,if_true,RS.live.injEq]at hx
   subst hx
   obtain⟨b,β,arr,e,p1,p2,p3,p4,p5,p6⟩:=R.live id' r hl
   refine⟨b,β,arr,e,p1,p2,p3,by simpa using p4,fun q hq=>?_,fun m k em x u g1 g2 g3=>?_⟩
   ·obtain⟨m,hm,hmq⟩:=List.mem_iff_getElem.1 hq
    simp only at hm hmq
    rw[List.getElem_modify]at hmq
    simp at hm
    split at hmq
    ·subst hmq;rw[List.length_set];exact p5 _ (List.getElem_mem _)
    ·subst hmq;exact p5 _ (List.getElem_mem _)
   ·simp only at g1 g2 g3
    rw[List.getElem?_modify]at g1
    cases hem:r.es[m]? with
    |none=>simp [hem]at g1
    |some em0=>
     rw[hem]at g1
     simp only[Option.map_eq_map,Option.map_some,Option.some.injEq]at g1
     split at g1
     ·subst g1
      rw[List.getElem?_set]at g2
      split at g2
      ·split at g2
       ·cases g2;exact .Z _
       ·cases g2
      ·exact(p6 m k em0 x u hem g2 g3).mono (fun _ _ h=>h) hc (fun _ _ h=>h)
     ·subst g1
      exact(p6 m k em0 x u hem g2 g3).mono (fun _ _ h=>h) hc (fun _ _ h=>h)
  ·simp only[m9,if_neg hid]at hx
   obtain⟨b,β,arr,e,p1,p2,p3,p4,p5,p6⟩:=R.live id' r' hx
   exact⟨b,β,arr,e,p1,p2,p3,p4,p5,fun m k em x u g1 g2 g3=>(p6 m k em x u g1 g2 g3).mono (fun _ _ h=>h) hc (fun _ _ h=>h)⟩
 ·intro id' hx
  by_cases hid:id'=id
  ·subst hid;simp [m9]at hx
  ·simp only[m9,if_neg hid]at hx;exact R.free id' hx
 ·intro i1 i2 r1 r2 b β β' z z' h1 h2 h3 h4
  obtain⟨q1,e1,_⟩:=lift i1 r1 h1
  obtain⟨q2,e2,_⟩:=lift i2 r2 h2
  exact R.inj i1 i2 q1 q2 b β β' z z' e1 e2 h3 h4
 ·intro id' k cs hx
  by_cases hid:id'=id
  ·subst hid;simp [m9]at hx
  ·simp only[m9,if_neg hid]at hx;exact hx
 ·intro id' b q f hx
  by_cases hid:id'=id
  ·subst hid;simp [m9]at hx
  ·simp only[m9,if_neg hid]at hx;exact hx
 ·intro id' r' p hx hp
  obtain⟨q1,e1,_⟩:=lift id' r' hx
  exact R.dH id' q1 p e1 hp
theorem aI{t:List AV}{h:List (Nat×RS)}{nx id b:Nat}{d:TypeDesc}{f:Value→Option Value}(hl:LS.hf h id= .mp b d f):O8 ⟨t,h,nx⟩ ⟨t,Z7 id .gone h,nx⟩:=by
 intro G M0 w0 ρ a w R
 refine b2F (t:=t) (h:=h) (h':=Z7 id .gone h) (nx:=nx) (nx':=nx) (fun i=>?_) (a1j R.2) (Nat.le_refl _) G M0 w0 ρ a w R
 rw[a0P hl (by simp)]
 unfold m9
 by_cases e:i=id
 ·subst e;rw[if_pos rfl];exact .inr ⟨rfl,b,d,f,hl⟩
 ·rw[if_neg e];exact .inl rfl
end Go.Ab
end
section
namespace Go.Ab
section
section
variable {md:Bool} {P:Program} {ks:List KF} {s:LS} {K:Exit→LS→Prop} {c:Code}
theorem rA [j9 P] (id1 id2:Nat) {b1 b2:Nat} {d:TypeDesc} {f1 f2:Value→Option Value} (h1:LS.hf s.h id1= .mp b1 d f1) (h2:LS.hf s.h id2= .mp b2 d f2) (hd:d≠ .invalid) (k:Value) (h3:(f1 k).isSome=true) (h4:f2 k=none)
  (h:b1≠b2→AK (md:=md) P c ks s K):AK (md:=md) P c ks s K:=by
 intro m hmm G M0 w0 ρ a w Q hg R hQ
 refine h ?_ m hmm G M0 w0 ρ a w Q hg R hQ
 intro e
 subst e
 obtain⟨_,q1⟩:=R.1.iM id1 _ _ _ h1
 obtain⟨_,q2⟩:=R.1.iM id2 _ _ _ h2
 rcases q1 with⟨es,c,e1,_,_,e4,e5,_⟩|⟨e,_⟩
 ·rcases q2 with⟨es',c',g1,_,_,g4,g5,_⟩|⟨e,_⟩
  ·rw[e1]at g1
   cases g1
   cases hk:f1 k with
   |none=>rw[hk]at h3;cases h3
   |some v=>
    obtain⟨x,hx,hxk⟩:=e5 k v hk
    have:=g4 x hx
    rw[hxk,h4]at this
    cases this
  ·exact hd e
 ·exact hd e
end
end
end Go.Ab
end
section
namespace Go.Proofs.YtgdoiokalfhjoaaDoor
open Go.Ab
theorem b1G{l u:List Int}{r:Int}:r∈A4 l u↔r∈u∧r∈l:=by simp [A4]
theorem b3a{l:List Int}{r:Int}(h:r∈l):0≤kP l r∧kP l r<l.length:=by
 have:=List.idxOf_lt_length_of_mem h
 unfold kP;omega
structure bU (c:Code) (l:List Int):Prop where
 r:∀q∈l,0≤q∧q<c.regs
 s:N1 l
 e:∀q∈l,a4u c q∧¬b0E c q
end Go.Proofs.YtgdoiokalfhjoaaDoor
end
