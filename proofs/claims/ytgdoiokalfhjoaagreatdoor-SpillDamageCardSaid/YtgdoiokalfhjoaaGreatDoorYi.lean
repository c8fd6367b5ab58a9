/- Own work (by an AI agent; no person has read it): part of a proof of the seat YtgdoiokalfhjoaaGreatDoor. -/
import Derived.Test.YtgdoiokalfhjoaaGreatDoorYh
set_option linter.unusedSimpArgs false
set_option linter.unusedVariables false
set_option maxRecDepth 100000
set_option maxHeartbeats 10000000
section
namespace Go.Proofs.YtgdoiokalfhjoaaGreatDoor
open Go.Ab
theorem fB(n:Int):e8 Tryz.prog 63 [.v (.int .i64 n)] (fun _=> .agg (E3.av ⟨2,n,0⟩)) (fun _=>[]):=by
 simp only[E3.av]
 refine Zf Tryz.func63 Tryz.ntmps63 ?_
 repeat' (first|refine Za ?_|(with_reducible constructor<;>first|intro N hN mk hmk|intro N hN|intro h)|refine Zt L5.d ?_|fail)
 all_goals rfl
def c4Y:=ZZ.mk (Zq L5.d @a3a)
theorem G6{s s1 s2:LS}(h1:N3 s s1)(h2:N3 s1 s2):N3 s s2:=fun G M0 w0 ρ a w R=>
 let⟨ρ1,R1⟩:=h1 G M0 w0 ρ a w R
 h2 G M0 w0 ρ1 a w R1
theorem iR{n:Nat}{L:List (List Int)}(h:L.length=n):List.take n (lists L)=lists L:=List.take_of_length_le (by simp [lists];omega)
def zS(n:Nat):List (List Int):=List.replicate n []
def c5Y:=ZZ.mk (Zq c4Y.d (Zq @dF (Zq @oA (Zq @tC @D4))))
def W8(z:Nat)(l:List Int):AV:=if l=[]then .a8 true []else .own (100+z) 0 l.length
def fK(l:List Int):RS:=if l=[]then .gone else .live ⟨1,c7 l,0⟩
def N8(n:Nat)(F:Nat→List Int):List (List AV):=(List.range n).map fun z=>[W8 z (F z)]
def wV(n:Nat)(F:Nat→List Int):List (Nat×RS):=iL 100 n fun z=>fK (F z)
theorem wR(n:Nat)(F:Nat→List Int):(N8 n F).length=n:=by simp [N8]
theorem b6e(n:Nat)(F:Nat→List Int):(∀e∈N8 n F,e.length=1)=True:=by simp [N8]
theorem a2J(n:Nat)(F:Nat→List Int)(z:Nat)(h:z<n):(N8 n F)[z]?=some [W8 z (F z)]:=by simp [N8,h]
theorem a9z(n:Nat)(F:Nat→List Int)(z:Nat)(x:AV):(N8 n F).modify z (fun e=>o6 e 0 [x])=(List.range n).map fun y=>[if y=z then x else W8 y (F y)]:=by
 unfold N8
 rw[a4l]
 apply List.map_congr_left
 intro y _
 split<;>rfl
theorem aD(n:Nat)(F:Nat→List Int)(h:0<n):((N8 n F).all fun e=>e.all AV.plain)=false:=by
 apply Bool.eq_false_iff.2
 intro hh
 have:=List.all_eq_true.1 hh [W8 0 (F 0)] (List.mem_of_getElem? (a2J n F 0 h))
 simp only[List.all_cons,List.all_nil,Bool.and_true]at this
 unfold W8 at this
 split at this<;>simp [AV.plain]at this
theorem kL(n:Nat)(F:Nat→List Int)(z id k:Nat)(h:z<n):(((List.range n).map fun y=>[if y=z then AV.own id 0 k else W8 y (F y)]).all fun e=>e.all AV.plain)=false:=by
 apply Bool.eq_false_iff.2
 intro hh
 have:=List.all_eq_true.1 hh [if z=z then AV.own id 0 k else W8 z (F z)] (List.mem_map.2 ⟨z,List.mem_range.2 h,rfl⟩)
 simp [AV.plain]at this
def aI(F:Nat→List Int)(z:Nat)(l:List Int):Nat→List Int:=fun y=>if y=z then l else F y
theorem nK {t t':List AV} {h:List (Nat×RS)} {nx n z x:Nat} {F:Nat→List Int} {v:Int} {rows:List Row} (keep ids:List Nat) (r:Nat→Option Nat)
  (hr:r=fun id=>match r7 ids 0 id with|some j=>some j|none=>if id=x then some (100+z)else if 100≤id∧id<100+n∧F (id-100)≠[]∧id≠100+z then some id else none)
  (hnd:ids.Nodup) (hi:∀id∈ids,id<100∨100+n≤id) (hb:ids.length≤100) (hx:100+n≤x∧x∉ids) (hz:z<n) (hn:n≤100)
  (ht:n9 keep r 0 t=some t')
  (hp:b5 (LS.hf h) r ids=some rows)
  (hnew:LS.hf h x= .live ⟨1,c7 (F z++[v]),0⟩)
  (hold:∀y,y<n→y≠z→LS.hf h (100+y)=fK (F y)):
  N3 ⟨t,h,nx⟩ ⟨t',e9 0 rows++wV n (aI F z (F z++[v])),200⟩:=by
 have hni:∀id,100≤id→id<100+n→r7 ids 0 id=none:=by
  intro id h1 h2
  unfold r7
  rw[List.idxOf?_eq_none_iff.2 (fun hm=>by rcases hi id hm with h|h<;>omega)];rfl
 have hnx:r7 ids 0 x=none:=by
  unfold r7
  rw[List.idxOf?_eq_none_iff.2 hx.2];rfl
 refine zF keep ids n (fun y=>fK (aI F z (F z++[v]) y)) 100 r (fun y=>if y=z then x else 100+y) hnd (fun id j h=>by rw[hr];simp only[h]) (fun id j h hj=>?_) ht hp hb (fun y hy=>?_) (fun a b r1 r2 ha hb' h1 h2 e=>?_) 200 (by omega)
 ·rw[hr]at hj
  simp only[h]at hj
  by_cases h1:id=x
  ·rw[if_pos h1]at hj
   cases hj
   refine⟨z,hz,rfl,by simp [h1],⟨1,c7 (F z++[v]),0⟩,?_⟩
   simp [fK,aI]
  ·rw[if_neg h1]at hj
   split at hj
   ·rename_i h2
    cases hj
    refine⟨id-100,by omega,by omega,?_,⟨1,c7 (F (id-100)),0⟩,?_⟩
    ·rw[if_neg (by omega)];omega
    ·simp only[aI]
     rw[if_neg (by omega)]
     unfold fK;rw[if_neg h2.2.2.1]
   ·cases hj
 ·by_cases e:y=z
  ·subst e
   refine .inr ⟨⟨1,c7 (F y++[v]),0⟩,by simp [fK,aI],by simp [hx.2],⟨1,c7 (F y++[v]),0⟩,by simp only[if_true];exact hnew,?_⟩
   unfold c8;simp only;rw[if_pos (B4 _)]
  ·by_cases hF:F y=[]
   ·left;simp [aI,e,hF,fK]
   ·refine .inr ⟨⟨1,c7 (F y),0⟩,by simp [fK,aI,e,hF],?_,⟨1,c7 (F y),0⟩,?_,?_⟩
    ·rw[if_neg e];intro hm
     rcases hi _ hm with h|h<;>omega
    ·rw[if_neg e,hold y hy e];simp [fK,hF]
    ·unfold c8;simp only;rw[if_pos (B4 _)]
 ·split at e<;>split at e<;>omega
theorem iI{n z x:Nat}{F:Nat→List Int}{v:Int}{r:Nat→Option Nat}(hz:z<n)(hrx:r x=some (100+z))(hro:∀y,y<n→y≠z→F y≠[]→r (100+y)=some (100+y)):
  ((List.range n).map fun y=>[if y=z then AV.own x 0 ((F z).length+1)else W8 y (F y)]).mapM (fun(e:List AV)=>e.mapM (n5 r 3))=some (N8 n (aI F z (F z++[v]))):=by
 unfold N8
 refine mA fun y hy=>?_
 by_cases e:y=z
 ·subst e
  simp [n5,hrx,aI,W8]
 ·by_cases hF:F y=[]
  ·simp [e,n5,aI,W8,hF]
  ·simp [e,n5,aI,W8,hF,hro y hy e hF]
theorem eV {t t':List AV} {h:List (Nat×RS)} {nx n:Nat} {F:Nat→List Int} {rows:List Row} (keep ids:List Nat) (r:Nat→Option Nat)
  (hr:r=fun id=>match r7 ids 0 id with|some j=>some j|none=>if 100≤id∧id<100+n∧F (id-100)≠[]then some id else none)
  (hnd:ids.Nodup) (hi:∀id∈ids,id<100∨100+n≤id) (hb:ids.length≤100) (hn:n≤100)
  (ht:n9 keep r 0 t=some t')
  (hp:b5 (LS.hf h) r ids=some rows)
  (hold:∀y,y<n→F y≠[]→LS.hf h (100+y)=fK (F y)):
  N3 ⟨t,h,nx⟩ ⟨t',e9 0 rows++wV n F,200⟩:=by
 refine zF keep ids n (fun y=>fK (F y)) 100 r (fun y=>100+y) hnd (fun id j h=>by rw[hr];simp only[h]) (fun id j h hj=>?_) ht hp hb (fun y hy=>?_) (fun a b r1 r2 ha hb' h1 h2 e=>?_) 200 (by omega)
 ·rw[hr]at hj
  simp only[h]at hj
  split at hj
  ·rename_i h2
   cases hj
   refine⟨id-100,by omega,by omega,by omega,⟨1,c7 (F (id-100)),0⟩,?_⟩
   unfold fK;rw[if_neg h2.2.2]
  ·cases hj
 ·by_cases hF:F y=[]
  ·left;simp [hF,fK]
  ·refine .inr ⟨⟨1,c7 (F y),0⟩,by simp [fK,hF],?_,⟨1,c7 (F y),0⟩,?_,?_⟩
   ·intro hm
    rcases hi _ hm with h|h<;>omega
   ·rw[hold y hy hF];simp [fK,hF]
   ·unfold c8;simp only;rw[if_pos (B4 _)]
 ·omega
theorem cT{n:Nat}{F:Nat→List Int}{r:Nat→Option Nat}(hro:∀y,y<n→F y≠[]→r (100+y)=some (100+y)):
  (N8 n F).mapM (fun(e:List AV)=>e.mapM (n5 r 3))=some (N8 n F):=by
 unfold N8
 refine mA fun y hy=>?_
 by_cases hF:F y=[]
 ·simp [n5,W8,hF]
 ·simp [n5,W8,hF,hro y hy hF]
theorem D0(n:Nat)(F:Nat→List Int)(id:Nat)(h:id<100∨100+n≤id):(wV n F).lookup id=none:=B8 100 n _ id h
theorem w4(n:Nat)(F:Nat→List Int)(z:Nat)(h:z<n):(wV n F).lookup (100+z)=some (fK (F z)):=nJ 100 n _ z h
theorem Y5{s s1 s2:LS}(h:N3 s s1)(e:s1=s2):N3 s s2:=e ▸ h
noncomputable def todoI (c:Code) (i:Nat):List Int:=((List.range i).filter fun b=>(reachF c.b).getD b false).map fun(b:Nat)=>(b:Int)
noncomputable def fromI (c:Code) (i:Nat) (z:Nat):List Int:=((List.range i).filter fun b=>(reachF c.b).getD b false&&decide ((z:Int)∈m7 (B6 c.b b).t)).map fun(b:Nat)=>(b:Int)
noncomputable def fromJ (c:Code) (l:List Int) (i j:Nat) (z:Nat):List Int:=fromI c i z++if(z:Int)∈l.take j then[(i:Int)]else[]
theorem b4D{c:Code}{i:Nat}(h:(reachF c.b).getD i false=true):todoI c (i+1)=todoI c i++[(i:Int)]:=by
 unfold todoI;rw[List.range_succ,List.filter_append];simp only[List.filter_cons,List.filter_nil,h,if_true,List.map_append,List.map_cons,List.map_nil]
theorem b9U{c:Code}{i:Nat}(h:(reachF c.b).getD i false=false):todoI c (i+1)=todoI c i:=by
 unfold todoI;rw[List.range_succ,List.filter_append];simp only[List.filter_cons,List.filter_nil,h,Bool.false_eq_true,if_false,List.append_nil]
theorem b6D{c:Code}{i:Nat}(h:(reachF c.b).getD i false=false):fromI c (i+1)=fromI c i:=by
 funext z;unfold fromI;rw[List.range_succ,List.filter_append];simp only[List.filter_cons,List.filter_nil,h,Bool.false_and,Bool.false_eq_true,if_false,List.append_nil]
theorem b3y{c:Code}{i:Nat}(h:(reachF c.b).getD i false=true){j:Nat}(hj:(m7 (B6 c.b i).t).length≤j):fromJ c (m7 (B6 c.b i).t) i j=fromI c (i+1):=by
 funext z;unfold fromJ fromI
 rw[List.take_of_length_le hj,List.range_succ,List.filter_append,List.map_append]
 congr 1
 by_cases hz:(z:Int)∈m7 (B6 c.b i).t
 ·simp only[List.filter_cons,List.filter_nil,h,hz,if_true,decide_true,Bool.and_self,List.map_cons,List.map_nil]
 ·simp only[List.filter_cons,List.filter_nil,h,hz,if_false,decide_false,Bool.and_false,Bool.false_eq_true,List.map_nil]
theorem a9P(c:Code)(l:List Int)(i:Nat):fromJ c l i 0=fromI c i:=by funext z;simp [fromJ]
theorem yZ(t:q9):(m7 t).Nodup:=by
 unfold m7
 split
 ·simp
 ·split
  ·rename_i h;simp [h.2]
  ·simp
theorem wX{c:Code}{l:List Int}{i j:Nat}(hnd:l.Nodup)(hj:j<l.length)(h0:0≤l.getD j 0):fromJ c l i (j+1)=aI (fromJ c l i j) (l.getD j 0).toNat (fromJ c l i j (l.getD j 0).toNat++[(i:Int)]):=by
 have hg:l.getD j 0=l[j]:=by rw[List.getD_eq_getElem?_getD,List.getElem?_eq_getElem hj];rfl
 have hnt:l[j]∉l.take j:=by
  intro hm
  obtain⟨k,hk,e⟩:=List.mem_iff_getElem.1 hm
  rw[List.getElem_take]at e
  simp at hk
  exact List.pairwise_iff_getElem.1 hnd k j (by omega) hj (by omega) e
 have ht:l.take (j+1)=l.take j++[l[j]]:=by rw[List.take_add_one,List.getElem?_eq_getElem hj];rfl
 rw[hg]at h0⊢
 funext z
 unfold aI fromJ
 rw[ht]
 by_cases e:z=l[j].toNat
 ·rw[if_pos e]
  have e2:(z:Int)=l[j]:=by omega
  have e3:((l[j].toNat:Nat):Int)=l[j]:=by omega
  rw[e2,e3,if_neg hnt,if_pos (List.mem_append.2 (.inr (List.mem_singleton.2 rfl))),e,List.append_nil]
 ·rw[if_neg e]
  have e2:(z:Int)≠l[j]:=by omega
  simp only[List.mem_append,List.mem_singleton,e2,or_false]
theorem a7L(p:Nat→Bool)(i:Nat):(((List.range i).filter p).map fun(b:Nat)=>(b:Int)).length≤i:=by
 rw[List.length_map]
 have:=List.length_filter_le p (List.range i)
 rw[List.length_range]at this;exact this
theorem a3B(c:Code)(i:Nat):(todoI c i).length≤i:=a7L _ i
theorem pL(c:Code)(i z:Nat):(fromI c i z).length≤i:=a7L _ i
theorem a2R(c:Code)(l:List Int)(i j z:Nat):(fromJ c l i j z).length≤i+1:=by
 unfold fromJ
 have:=pL c i z
 rw[List.length_append]
 split<;>simp<;>omega
theorem b90(id i k:Nat)(cs:List AV)(n:Nat)(F:Nat→List Int)(h:id<100∨100+n≤id):F4 id i k cs (wV n F)=wV n F:=b2H id i k cs 100 n _ h
theorem zV(id n:Nat)(F:Nat→List Int)(h:id<100∨100+n≤id):cM id (wV n F)=wV n F:=a4b id 100 n _ h
theorem a92(z n:Nat)(F:Nat→List Int):cM (100+z) (wV n F)=iL 100 n (fun y=>if y=z then .gone else fK (F y)):=b3R z 100 n _
theorem a9A(n:Nat):List.replicate n [AV.a8 true []]=N8 n (fun _=>[]):=by
 apply List.ext_getElem?
 intro j
 simp only[N8,W8,if_true,List.getElem?_map]
 by_cases h:j<n
 ·rw[List.getElem?_range h];simp [h]
 ·rw[List.getElem?_eq_none (by simp;omega),List.getElem?_eq_none (by simp;omega)];rfl
theorem b4G{t t':List AV}{h:List (Nat×RS)}{nx:Nat}{rows:List Row}(keep ids:List Nat)(hnd:ids.Nodup)(ht:n9 keep (r7 ids 0) 0 t=some t')(hp:b5 (LS.hf h) (r7 ids 0) ids=some rows)(nx':Nat)(hx:ids.length≤nx'):
  N3 ⟨t,h,nx⟩ ⟨t',e9 0 rows,nx'⟩:=by
 have:=zF (s:=⟨t,h,nx⟩) (rows:=rows) keep ids 0 (fun _=> .gone) ids.length (r7 ids 0) (fun z=>z) hnd (fun id j h=>h) (fun id j h hj=>by rw[h]at hj;cases hj) ht hp (Nat.le_refl _) (fun z hz=>by omega) (fun y z r1 r2 hy=>by omega) nx' hx
 simpa[iL]using this
theorem kA{h1 h2:Nat→RS}{r:Nat→Option Nat}:∀{ids:List Nat},(∀id∈ids,h1 id=h2 id)→b5 h1 r ids=b5 h2 r ids
 |[],_=>rfl
 |id::ids,h=>by
  simp only[b5]
  rw[h id (by simp),kA fun j hj=>h j (by simp [hj])]
theorem b3A{h:Nat→RS}{n m:Nat}{F:Nat→List Int}(h4:h 4= .live ⟨1,N8 n F,0⟩)(hn:0<n)(hold:∀z,z<n→F z≠[]→h (100+z)= .live ⟨1,c7 (F z),0⟩):
  u6 h (m+2) (.own 4 0 n)=some (.a8 false (lists ((List.range n).map F)))∧∀p∈a6 h (m+2) (.own 4 0 n),p.1=4∨100≤p.1:=by
 have hl:=wR n F
 have hpl:=aD n F hn
 constructor
 ·simp only[u6,h4]
  rw[if_pos (by omega),List.drop_zero,List.take_of_length_le (by omega)]
  simp only[v7,hpl,Bool.false_eq_true,if_false]
  have:(N8 n F).mapM (fun(e:List AV)=>e.mapM (u6 h (m+1)))=some ((List.range n).map fun z=>[AV.a8 false (c7 (F z))]):=by
   unfold N8
   refine mA fun z hz=>?_
   by_cases hF:F z=[]
   ·simp [W8,hF,u6,c7]
   ·simp only[W8,if_neg hF,List.mapM_cons,List.mapM_nil,u6,hold z hz hF,Nat.zero_add,I2,Nat.le_refl,if_true,List.drop_zero,N1]
    have:=m9 (F z)
    simp [v7,this]
  rw[this]
  simp [lists,Function.comp_def]
 ·intro p hp
  simp only[a6,h4,List.mem_cons]at hp
  rcases hp with rfl|hp
  ·exact .inl rfl
  ·right
   rw[List.drop_zero,List.take_of_length_le (by omega)]at hp
   simp only[v7,hpl,Bool.false_eq_true,if_false,List.mem_flatMap]at hp
   obtain⟨e,he,x,hx,hp⟩:=hp
   simp only[N8,List.mem_map,List.mem_range]at he
   obtain⟨z,hz,rfl⟩:=he
   rw[List.mem_singleton]at hx
   subst hx
   unfold W8 at hp
   split at hp
   ·simp [a6]at hp
   ·rename_i hF
    simp only[a6,hold z hz hF,List.mem_cons]at hp
    rcases hp with rfl|hp
    ·simp
    ·rw[List.drop_zero,N1]at hp
     have:=m9 (F z)
     simp [v7,this]at hp
theorem c0w {t t':List AV} {h:List (Nat×RS)} {nx n:Nat} {F:Nat→List Int} {rows:List Row} (keep ids:List Nat) (hn:0<n) (h7:LS.tf t 7= .own 4 0 n) (h4:LS.hf h 4= .live ⟨1,N8 n F,0⟩)
  (hold:∀z,z<n→F z≠[]→LS.hf h (100+z)= .live ⟨1,c7 (F z),0⟩) (hnd:ids.Nodup) (hid:∀id∈ids,id≠4∧id<100)
  (ht:n9 keep (r7 ids 0) 0 (t.set 7 (.a8 false (lists ((List.range n).map F))))=some t') (hp:b5 (LS.hf h) (r7 ids 0) ids=some rows):N3 ⟨t,h,nx⟩ ⟨t',e9 0 rows,ids.length⟩:=by
 obtain⟨f1,f2⟩:=b3A (m:=4) h4 hn hold
 have w1:=iA (s:=⟨t,h,nx⟩) 7 6 (.a8 false (lists ((List.range n).map F))) (by show u6 (LS.hf h) 6 (LS.tf t 7)=_;rw[h7];exact f1)
 simp only[h7]at w1
 generalize a6 (LS.hf h) 6 (.own 4 0 n)=fi at*
 intro G M0 w0 ρ a w R
 obtain⟨ρ1,R1⟩:=w1 G M0 w0 ρ a w R
 refine b4G keep ids hnd ht ?_ ids.length (Nat.le_refl _) G M0 w0 ρ1 a w R1
 rw[←hp]
 refine kA fun id hi=>?_
 obtain⟨d1,d2⟩:=hid id hi
 rw[kP]
 unfold raise
 cases hh:LS.hf h id with
 |live r=>
  simp only
  rw[b6C (fun p hp=>by rcases f2 p hp with e|e<;>omega)]
 |_=>rfl
structure WI (c:Code) (I O:List (List Int)) (T:List Int):Prop where
 f:FI c I O
 m:∀b∈T,0≤b∧b<c.b.length∧fJ c.b b
 d:∀b,b<c.b.length→fJ c.b (b:Int)→(b:Int)∈T∨(O.getD b []=V4 c I b∧I.getD b []=V1 c I b)
noncomputable def fromL (c:Code):List (List Int):=(List.range c.b.length).map (fromI c c.b.length)
theorem b3z(c:Code):(fromL c).length=c.b.length:=by simp [fromL]
theorem a7Q(c:Code){b:Nat}(h:b<c.b.length):(fromL c).getD b []=fromI c c.b.length b:=by
 unfold fromL
 rw[List.getD_eq_getElem?_getD,List.getElem?_map,List.getElem?_range h];rfl
theorem yA{c:Code}{b:Int}:b∈todoI c c.b.length↔∃k:Nat,b=k∧k<c.b.length∧fJ c.b (k:Int):=by
 unfold todoI
 simp only[List.mem_map,List.mem_filter,List.mem_range]
 constructor
 ·rintro⟨k,⟨h1,h2⟩,rfl⟩
  exact⟨k,rfl,h1,(V2 c.b h1).1 h2⟩
 ·rintro⟨k,rfl,h1,h2⟩
  exact⟨k,⟨h1,(V2 c.b h1).2 h2⟩,rfl⟩
theorem a8m{c:Code}{b:Int}{z:Nat}:b∈fromI c c.b.length z↔∃k:Nat,b=k∧k<c.b.length∧fJ c.b (k:Int)∧(z:Int)∈m7 (B6 c.b k).t:=by
 unfold fromI
 simp only[List.mem_map,List.mem_filter,List.mem_range,Bool.and_eq_true,decide_eq_true_eq]
 constructor
 ·rintro⟨k,⟨h1,h2,h3⟩,rfl⟩
  exact⟨k,rfl,h1,(V2 c.b h1).1 h2,h3⟩
 ·rintro⟨k,rfl,h1,h2,h3⟩
  exact⟨k,⟨h1,(V2 c.b h1).2 h2,h3⟩,rfl⟩
theorem WI.zero(c:Code):WI c (zS c.b.length) (zS c.b.length) (todoI c c.b.length):=by
 refine⟨FI.zero c,fun b hb=>?_,fun b hb hr=> .inl (yA.2 ⟨b,rfl,hb,hr⟩)⟩
 obtain⟨k,rfl,h1,h2⟩:=yA.1 hb
 exact⟨by omega,by omega,h2⟩
theorem b0i{c:Code}{I I':List (List Int)}{k:Nat}(h:∀to∈m7 (B6 c.b k).t,I.getD to.toNat []=I'.getD to.toNat []):V4 c I k=V4 c I' k:=by
 unfold V4 cE
 congr 2
 have:∀(l:List Int),(∀to∈l,I.getD to.toNat []=I'.getD to.toNat [])→∀s:List Int,l.foldl (fun s to=>D5 s (I.getD to.toNat [])) s=l.foldl (fun s to=>D5 s (I'.getD to.toNat [])) s:=by
  intro l
  induction l with
  |nil=>intro _ s;rfl
  |cons a l ih=>
   intro h s
   rw[List.foldl_cons,List.foldl_cons,h a (by simp)]
   exact ih (fun to hto=>h to (by simp [hto])) _
 exact this _ h []
theorem WI.pop{c:Code}(hc:y3 c){I O:List (List Int)}{T:List Int}{b:Nat}(W:WI c I O (T++[(b:Int)])):b<c.b.length∧fJ c.b (b:Int)∧
  (V1 c I b=I.getD b []→WI c I (O.set b (V4 c I b)) T)∧(V1 c I b≠I.getD b []→WI c (I.set b (V1 c I b)) (O.set b (V4 c I b)) (T++fromI c c.b.length b)∧qL I+1≤qL (I.set b (V1 c I b))):=by
 obtain⟨m1,m2,m3⟩:=W.m b (by simp)
 have hb:b<c.b.length:=by omega
 have hF:=W.f.set hc hb m3
 have hbo:b<O.length:=by rw[W.f.s.lo];exact hb
 have hbi:b<I.length:=by rw[W.f.s.li];exact hb
 refine⟨hb,m3,fun e=>⟨?_,fun x hx=>W.m x (by simp [hx]),fun k hk hr=>?_⟩,fun e=>⟨⟨hF,fun x hx=>?_,fun k hk hr=>?_⟩,?_⟩⟩
 ·rw[e,yQ]at hF;exact hF
 ·rcases W.d k hk hr with h|⟨h1,h2⟩
  ·rcases List.mem_append.1 h with h|h
   ·exact .inl h
   ·have:k=b:=by have:=List.mem_singleton.1 h;omega
    subst this
    right
    rw[F2,if_pos ⟨rfl,hbo⟩]
    exact⟨rfl,e.symm⟩
  ·by_cases hkb:b=k
   ·subst hkb
    right
    rw[F2,if_pos ⟨rfl,hbo⟩]
    exact⟨rfl,h2⟩
   ·right
    rw[F2,if_neg fun hh=>hkb hh.1]
    exact⟨h1,h2⟩
 ·rcases List.mem_append.1 hx with h|h
  ·exact W.m x (by simp [h])
  ·obtain⟨k,rfl,h1,h2,_⟩:=a8m.1 h
   exact⟨by omega,by omega,h2⟩
 ·by_cases hs:(b:Int)∈m7 (B6 c.b k).t
  ·exact .inl (List.mem_append.2 (.inr (a8m.2 ⟨k,rfl,hk,hr,hs⟩)))
  ·have hsame:V4 c (I.set b (V1 c I b)) k=V4 c I k:=b0i fun to hto=>by
    rw[F2,if_neg]
    rintro⟨h1,_⟩
    have:=hc.succ.2 _ (S5 hk) to hto
    exact hs (by rw[show(b:Int)=to by omega];exact hto)
   have hsame2:V1 c (I.set b (V1 c I b)) k=V1 c I k:=by
    show atF _ (V4 c (I.set b (V1 c I b)) k) 0=atF _ (V4 c I k) 0
    rw[hsame]
   by_cases hkb:b=k
   ·subst hkb
    right
    rw[F2,F2,if_pos ⟨rfl,hbo⟩,if_pos ⟨rfl,hbi⟩,hsame,hsame2]
    exact⟨rfl,rfl⟩
   ·rcases W.d k hk hr with h|⟨h1,h2⟩
    ·left
     rcases List.mem_append.1 h with h|h
     ·exact List.mem_append.2 (.inl h)
     ·have:=List.mem_singleton.1 h;omega
    ·right
     rw[F2,F2,if_neg fun hh=>hkb hh.1,if_neg fun hh=>hkb hh.1,hsame,hsame2]
     exact⟨h1,h2⟩
 ·have t1:=tK I b (V1 c I b) hbi
  have g:=(W.f.g b hb m3).1
  obtain⟨l1,e1⟩:=oL (W.f.s.i b).2 (a4F fG:I9 (V1 c I b)) g
  have:¬(V1 c I b).length≤(I.getD b []).length:=fun hh=>e (e1 hh).symm
  omega
theorem WI.done{c:Code}{I O:List (List Int)}(W:WI c I O []):liveF c=(I,O):=W.f.done fun b hb hr=>(W.d b hb hr).resolve_left (by simp)
theorem FI.c6a{c:Code}(hc:y3 c){I O:List (List Int)}(h:FI c I O):qL I≤16*c.b.length:=(h.b70 hc).1
def wm(c:Code)(I:List (List Int))(T:List Int):Nat:=(16*c.b.length-qL I)*(c.b.length+1)+T.length
theorem c4j(c:Code)(I:List (List Int))(T:List Int)(b:Int):wm c I T<wm c I (T++[b]):=by simp [wm]
theorem c1G{c:Code}{I I':List (List Int)}{T:List Int}{b:Int}{z:Nat}(h:qL I+1≤qL I')(h2:qL I'≤16*c.b.length):wm c I' (T++fromI c c.b.length z)<wm c I (T++[b]):=by
 have hl:=pL c c.b.length z
 obtain⟨d,hd⟩:∃d,16*c.b.length-qL I=(16*c.b.length-qL I')+1+d:=⟨qL I'-qL I-1,by omega⟩
 unfold wm
 rw[hd,List.length_append,List.length_append,Nat.add_mul,Nat.add_mul]
 simp only[List.length_cons,List.length_nil]
 have:0≤d*(c.b.length+1):=Nat.zero_le _
 omega
theorem c4i(c:Code)(I:List (List Int))(T:List Int):T.length≤wm c I T:=Nat.le_add_left _ _
theorem c1H(c:Code)(h:c.b.length≤18)(I:List (List Int)):wm c I (todoI c c.b.length)≤10000:=by
 have h1:=a3B c c.b.length
 unfold wm
 have h2:(16*c.b.length-qL I)*(c.b.length+1)≤288*19:=Nat.mul_le_mul (by omega) (by omega)
 omega
end Go.Proofs.YtgdoiokalfhjoaaGreatDoor
end
