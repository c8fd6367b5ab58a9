/- Own work (by an AI agent; no person has read it): part of a proof of the seat YtgdoiokalfhjoaaDoor. -/
import Derived.Test.YtgdoiokalfhjoaaDoorXi
set_option linter.unusedSimpArgs false
set_option linter.unusedVariables false
set_option maxRecDepth 100000
set_option maxHeartbeats 10000000
section
namespace Go.Proofs.YtgdoiokalfhjoaaDoor
open Go.Ab
def b6S:=ZZ.mk (Zq @j0 @j3)
theorem nK(n:Int):n5 Tryd.prog 39 [.v (.int .i64 n)] (fun _=> .agg (H8.av ⟨2,n,0⟩)) (fun _=>[]):=by
 simp only[H8.av]
 refine Zf Tryd.func39 Tryd.ntmps39 ?_
 repeat' (first|refine Za ?_|(with_reducible constructor<;>first|intro N hN mk hmk|intro N hN|intro h)|refine Zt b6S.d ?_|fail)
 all_goals rfl
theorem O7{s s1 s2:LS}(h1:O8 s s1)(h2:O8 s1 s2):O8 s s2:=fun G M0 w0 ρ a w R=>
 let⟨ρ1,R1⟩:=h1 G M0 w0 ρ a w R
 h2 G M0 w0 ρ1 a w R1
theorem hZ{n:Nat}{L:List (List Int)}(h:L.length=n):List.take n (lists L)=lists L:=List.take_of_length_le (by simp [lists];omega)
def wD(n:Nat):List (List Int):=List.replicate n []
def X3(z:Nat)(l:List Int):AV:=if l=[]then .c5 true []else .own (100+z) 0 l.length
def eT(l:List Int):RS:=if l=[]then .gone else .live ⟨1,m8 l,0⟩
def P7(n:Nat)(F:Nat→List Int):List (List AV):=(List.range n).map fun z=>[X3 z (F z)]
def tM(n:Nat)(F:Nat→List Int):List (Nat×RS):=gU 100 n fun z=>eT (F z)
theorem tG(n:Nat)(F:Nat→List Int):(P7 n F).length=n:=by simp [P7]
theorem b0s(n:Nat)(F:Nat→List Int):(∀e∈P7 n F,e.length=1)=True:=by simp [P7]
theorem yY(n:Nat)(F:Nat→List Int)(z:Nat)(h:z<n):(P7 n F)[z]?=some [X3 z (F z)]:=by simp [P7,h]
theorem a4U(n:Nat)(F:Nat→List Int)(z:Nat)(x:AV):(P7 n F).modify z (fun e=>u2 e 0 [x])=(List.range n).map fun y=>[if y=z then x else X3 y (F y)]:=by
 unfold P7
 rw[a06]
 apply List.map_congr_left
 intro y _
 split<;>rfl
theorem aB(n:Nat)(F:Nat→List Int)(h:0<n):((P7 n F).all fun e=>e.all AV.plain)=false:=by
 apply Bool.eq_false_iff.2
 intro hh
 have:=List.all_eq_true.1 hh [X3 0 (F 0)] (List.mem_of_getElem? (yY n F 0 h))
 simp only[List.all_cons,List.all_nil,Bool.and_true]at this
 unfold X3 at this
 split at this<;>simp [AV.plain]at this
theorem jR(n:Nat)(F:Nat→List Int)(z id k:Nat)(h:z<n):(((List.range n).map fun y=>[if y=z then AV.own id 0 k else X3 y (F y)]).all fun e=>e.all AV.plain)=false:=by
 apply Bool.eq_false_iff.2
 intro hh
 have:=List.all_eq_true.1 hh [if z=z then AV.own id 0 k else X3 z (F z)] (List.mem_map.2 ⟨z,List.mem_range.2 h,rfl⟩)
 simp [AV.plain]at this
def aH(F:Nat→List Int)(z:Nat)(l:List Int):Nat→List Int:=fun y=>if y=z then l else F y
theorem mR {t t':List AV} {h:List (Nat×RS)} {nx n z x:Nat} {F:Nat→List Int} {v:Int} {rows:List Row} (keep ids:List Nat) (r:Nat→Option Nat)
  (hr:r=fun id=>match p8 ids 0 id with|some j=>some j|none=>if id=x then some (100+z)else if 100≤id∧id<100+n∧F (id-100)≠[]∧id≠100+z then some id else none)
  (hnd:ids.Nodup) (hi:∀id∈ids,id<100∨100+n≤id) (hb:ids.length≤100) (hx:100+n≤x∧x∉ids) (hz:z<n) (hn:n≤100)
  (ht:n7 keep r 0 t=some t')
  (hp:b6 (LS.hf h) r ids=some rows)
  (hnew:LS.hf h x= .live ⟨1,m8 (F z++[v]),0⟩)
  (hold:∀y,y<n→y≠z→LS.hf h (100+y)=eT (F y)):
  O8 ⟨t,h,nx⟩ ⟨t',j7 0 rows++tM n (aH F z (F z++[v])),200⟩:=by
 have hni:∀id,100≤id→id<100+n→p8 ids 0 id=none:=by
  intro id h1 h2
  unfold p8
  rw[List.idxOf?_eq_none_iff.2 (fun hm=>by rcases hi id hm with h|h<;>omega)];rfl
 have hnx:p8 ids 0 x=none:=by
  unfold p8
  rw[List.idxOf?_eq_none_iff.2 hx.2];rfl
 refine vR keep ids n (fun y=>eT (aH F z (F z++[v]) y)) 100 r (fun y=>if y=z then x else 100+y) hnd (fun id j h=>by rw[hr];simp only[h]) (fun id j h hj=>?_) ht hp hb (fun y hy=>?_) (fun a b r1 r2 ha hb' h1 h2 e=>?_) 200 (by omega)
 ·rw[hr]at hj
  simp only[h]at hj
  by_cases h1:id=x
  ·rw[if_pos h1]at hj
   cases hj
   refine⟨z,hz,rfl,by simp [h1],⟨1,m8 (F z++[v]),0⟩,?_⟩
   simp [eT,aH]
  ·rw[if_neg h1]at hj
   split at hj
   ·rename_i h2
    cases hj
    refine⟨id-100,by omega,by omega,?_,⟨1,m8 (F (id-100)),0⟩,?_⟩
    ·rw[if_neg (by omega)];omega
    ·simp only[aH]
     rw[if_neg (by omega)]
     unfold eT;rw[if_neg h2.2.2.1]
   ·cases hj
 ·by_cases e:y=z
  ·subst e
   refine .inr ⟨⟨1,m8 (F y++[v]),0⟩,by simp [eT,aH],by simp [hx.2],⟨1,m8 (F y++[v]),0⟩,by simp only[if_true];exact hnew,?_⟩
   unfold e7;simp only;rw[if_pos (A7 _)]
  ·by_cases hF:F y=[]
   ·left;simp [aH,e,hF,eT]
   ·refine .inr ⟨⟨1,m8 (F y),0⟩,by simp [eT,aH,e,hF],?_,⟨1,m8 (F y),0⟩,?_,?_⟩
    ·rw[if_neg e];intro hm
     rcases hi _ hm with h|h<;>omega
    ·rw[if_neg e,hold y hy e];simp [eT,hF]
    ·unfold e7;simp only;rw[if_pos (A7 _)]
 ·split at e<;>split at e<;>omega
theorem gR{n z x:Nat}{F:Nat→List Int}{v:Int}{r:Nat→Option Nat}(hz:z<n)(hrx:r x=some (100+z))(hro:∀y,y<n→y≠z→F y≠[]→r (100+y)=some (100+y)):
  ((List.range n).map fun y=>[if y=z then AV.own x 0 ((F z).length+1)else X3 y (F y)]).mapM (fun(e:List AV)=>e.mapM (n6 r 3))=some (P7 n (aH F z (F z++[v]))):=by
 unfold P7
 refine lG fun y hy=>?_
 by_cases e:y=z
 ·subst e
  simp [n6,hrx,aH,X3]
 ·by_cases hF:F y=[]
  ·simp [e,n6,aH,X3,hF]
  ·simp [e,n6,aH,X3,hF,hro y hy e hF]
theorem eG {t t':List AV} {h:List (Nat×RS)} {nx n:Nat} {F:Nat→List Int} {rows:List Row} (keep ids:List Nat) (r:Nat→Option Nat)
  (hr:r=fun id=>match p8 ids 0 id with|some j=>some j|none=>if 100≤id∧id<100+n∧F (id-100)≠[]then some id else none)
  (hnd:ids.Nodup) (hi:∀id∈ids,id<100∨100+n≤id) (hb:ids.length≤100) (hn:n≤100)
  (ht:n7 keep r 0 t=some t')
  (hp:b6 (LS.hf h) r ids=some rows)
  (hold:∀y,y<n→F y≠[]→LS.hf h (100+y)=eT (F y)):
  O8 ⟨t,h,nx⟩ ⟨t',j7 0 rows++tM n F,200⟩:=by
 refine vR keep ids n (fun y=>eT (F y)) 100 r (fun y=>100+y) hnd (fun id j h=>by rw[hr];simp only[h]) (fun id j h hj=>?_) ht hp hb (fun y hy=>?_) (fun a b r1 r2 ha hb' h1 h2 e=>?_) 200 (by omega)
 ·rw[hr]at hj
  simp only[h]at hj
  split at hj
  ·rename_i h2
   cases hj
   refine⟨id-100,by omega,by omega,by omega,⟨1,m8 (F (id-100)),0⟩,?_⟩
   unfold eT;rw[if_neg h2.2.2]
  ·cases hj
 ·by_cases hF:F y=[]
  ·left;simp [hF,eT]
  ·refine .inr ⟨⟨1,m8 (F y),0⟩,by simp [eT,hF],?_,⟨1,m8 (F y),0⟩,?_,?_⟩
   ·intro hm
    rcases hi _ hm with h|h<;>omega
   ·rw[hold y hy hF];simp [eT,hF]
   ·unfold e7;simp only;rw[if_pos (A7 _)]
 ·omega
theorem cO{n:Nat}{F:Nat→List Int}{r:Nat→Option Nat}(hro:∀y,y<n→F y≠[]→r (100+y)=some (100+y)):
  (P7 n F).mapM (fun(e:List AV)=>e.mapM (n6 r 3))=some (P7 n F):=by
 unfold P7
 refine lG fun y hy=>?_
 by_cases hF:F y=[]
 ·simp [n6,X3,hF]
 ·simp [n6,X3,hF,hro y hy hF]
theorem E0(n:Nat)(F:Nat→List Int)(id:Nat)(h:id<100∨100+n≤id):(tM n F).lookup id=none:=D4 100 n _ id h
theorem x5(n:Nat)(F:Nat→List Int)(z:Nat)(h:z<n):(tM n F).lookup (100+z)=some (eT (F z)):=mQ 100 n _ z h
theorem Y9{s s1 s2:LS}(h:O8 s s1)(e:s1=s2):O8 s s2:=e ▸ h
noncomputable def todoI (c:Code) (i:Nat):List Int:=((List.range i).filter fun b=>(reachF c.b).getD b false).map fun(b:Nat)=>(b:Int)
noncomputable def fromI (c:Code) (i:Nat) (z:Nat):List Int:=((List.range i).filter fun b=>(reachF c.b).getD b false&&decide ((z:Int)∈o4 (I8 c.b b).t)).map fun(b:Nat)=>(b:Int)
noncomputable def fromJ (c:Code) (l:List Int) (i j:Nat) (z:Nat):List Int:=fromI c i z++if(z:Int)∈l.take j then[(i:Int)]else[]
theorem a9u{c:Code}{i:Nat}(h:(reachF c.b).getD i false=true):todoI c (i+1)=todoI c i++[(i:Int)]:=by
 unfold todoI;rw[List.range_succ,List.filter_append];simp only[List.filter_cons,List.filter_nil,h,if_true,List.map_append,List.map_cons,List.map_nil]
theorem b2D{c:Code}{i:Nat}(h:(reachF c.b).getD i false=false):todoI c (i+1)=todoI c i:=by
 unfold todoI;rw[List.range_succ,List.filter_append];simp only[List.filter_cons,List.filter_nil,h,Bool.false_eq_true,if_false,List.append_nil]
theorem b0R{c:Code}{i:Nat}(h:(reachF c.b).getD i false=false):fromI c (i+1)=fromI c i:=by
 funext z;unfold fromI;rw[List.range_succ,List.filter_append];simp only[List.filter_cons,List.filter_nil,h,Bool.false_and,Bool.false_eq_true,if_false,List.append_nil]
theorem a8v{c:Code}{i:Nat}(h:(reachF c.b).getD i false=true){j:Nat}(hj:(o4 (I8 c.b i).t).length≤j):fromJ c (o4 (I8 c.b i).t) i j=fromI c (i+1):=by
 funext z;unfold fromJ fromI
 rw[List.take_of_length_le hj,List.range_succ,List.filter_append,List.map_append]
 congr 1
 by_cases hz:(z:Int)∈o4 (I8 c.b i).t
 ·simp only[List.filter_cons,List.filter_nil,h,hz,if_true,decide_true,Bool.and_self,List.map_cons,List.map_nil]
 ·simp only[List.filter_cons,List.filter_nil,h,hz,if_false,decide_false,Bool.and_false,Bool.false_eq_true,List.map_nil]
theorem a5a(c:Code)(l:List Int)(i:Nat):fromJ c l i 0=fromI c i:=by funext z;simp [fromJ]
theorem vL(t:w4):(o4 t).Nodup:=by
 unfold o4
 split
 ·simp
 ·split
  ·rename_i h;simp [h.2]
  ·simp
theorem tP{c:Code}{l:List Int}{i j:Nat}(hnd:l.Nodup)(hj:j<l.length)(h0:0≤l.getD j 0):fromJ c l i (j+1)=aH (fromJ c l i j) (l.getD j 0).toNat (fromJ c l i j (l.getD j 0).toNat++[(i:Int)]):=by
 have hg:l.getD j 0=l[j]:=by rw[List.getD_eq_getElem?_getD,List.getElem?_eq_getElem hj];rfl
 have hnt:l[j]∉l.take j:=by
  intro hm
  obtain⟨k,hk,e⟩:=List.mem_iff_getElem.1 hm
  rw[List.getElem_take]at e
  simp at hk
  exact List.pairwise_iff_getElem.1 hnd k j (by omega) hj (by omega) e
 have ht:l.take (j+1)=l.take j++[l[j]]:=by rw[List.take_add_one,List.getElem?_eq_getElem hj];rfl
 rw[hg]at h0⊢
 funext z
 unfold aH fromJ
 rw[ht]
 by_cases e:z=l[j].toNat
 ·rw[if_pos e]
  have e2:(z:Int)=l[j]:=by omega
  have e3:((l[j].toNat:Nat):Int)=l[j]:=by omega
  rw[e2,e3,if_neg hnt,if_pos (List.mem_append.2 (.inr (List.mem_singleton.2 rfl))),e,List.append_nil]
 ·rw[if_neg e]
  have e2:(z:Int)≠l[j]:=by omega
  simp only[List.mem_append,List.mem_singleton,e2,or_false]
theorem a3k(p:Nat→Bool)(i:Nat):(((List.range i).filter p).map fun(b:Nat)=>(b:Int)).length≤i:=by
 rw[List.length_map]
 have:=List.length_filter_le p (List.range i)
 rw[List.length_range]at this;exact this
theorem a0s(c:Code)(i:Nat):(todoI c i).length≤i:=a3k _ i
theorem oW(c:Code)(i z:Nat):(fromI c i z).length≤i:=a3k _ i
theorem zF(c:Code)(l:List Int)(i j z:Nat):(fromJ c l i j z).length≤i+1:=by
 unfold fromJ
 have:=oW c i z
 rw[List.length_append]
 split<;>simp<;>omega
theorem b2I(id i k:Nat)(cs:List AV)(n:Nat)(F:Nat→List Int)(h:id<100∨100+n≤id):T1 id i k cs (tM n F)=tM n F:=a7N id i k cs 100 n _ h
theorem wG(id n:Nat)(F:Nat→List Int)(h:id<100∨100+n≤id):cJ id (tM n F)=tM n F:=a0V id 100 n _ h
theorem a5m(z n:Nat)(F:Nat→List Int):cJ (100+z) (tM n F)=gU 100 n (fun y=>if y=z then .gone else eT (F y)):=a8K z 100 n _
theorem a4V(n:Nat):List.replicate n [AV.c5 true []]=P7 n (fun _=>[]):=by
 apply List.ext_getElem?
 intro j
 simp only[P7,X3,if_true,List.getElem?_map]
 by_cases h:j<n
 ·rw[List.getElem?_range h];simp [h]
 ·rw[List.getElem?_eq_none (by simp;omega),List.getElem?_eq_none (by simp;omega)];rfl
theorem a9x{t t':List AV}{h:List (Nat×RS)}{nx:Nat}{rows:List Row}(keep ids:List Nat)(hnd:ids.Nodup)(ht:n7 keep (p8 ids 0) 0 t=some t')(hp:b6 (LS.hf h) (p8 ids 0) ids=some rows)(nx':Nat)(hx:ids.length≤nx'):
  O8 ⟨t,h,nx⟩ ⟨t',j7 0 rows,nx'⟩:=by
 have:=vR (s:=⟨t,h,nx⟩) (rows:=rows) keep ids 0 (fun _=> .gone) ids.length (p8 ids 0) (fun z=>z) hnd (fun id j h=>h) (fun id j h hj=>by rw[h]at hj;cases hj) ht hp (Nat.le_refl _) (fun z hz=>by omega) (fun y z r1 r2 hy=>by omega) nx' hx
 simpa[gU]using this
theorem jH{h1 h2:Nat→RS}{r:Nat→Option Nat}:∀{ids:List Nat},(∀id∈ids,h1 id=h2 id)→b6 h1 r ids=b6 h2 r ids
 |[],_=>rfl
 |id::ids,h=>by
  simp only[b6]
  rw[h id (by simp),jH fun j hj=>h j (by simp [hj])]
theorem a8x{h:Nat→RS}{n m:Nat}{F:Nat→List Int}(h4:h 4= .live ⟨1,P7 n F,0⟩)(hn:0<n)(hold:∀z,z<n→F z≠[]→h (100+z)= .live ⟨1,m8 (F z),0⟩):
  B7 h (m+2) (.own 4 0 n)=some (.c5 false (lists ((List.range n).map F)))∧∀p∈b8 h (m+2) (.own 4 0 n),p.1=4∨100≤p.1:=by
 have hl:=tG n F
 have hpl:=aB n F hn
 constructor
 ·simp only[B7,h4]
  rw[if_pos (by omega),List.drop_zero,List.take_of_length_le (by omega)]
  simp only[w7,hpl,Bool.false_eq_true,if_false]
  have:(P7 n F).mapM (fun(e:List AV)=>e.mapM (B7 h (m+1)))=some ((List.range n).map fun z=>[AV.c5 false (m8 (F z))]):=by
   unfold P7
   refine lG fun z hz=>?_
   by_cases hF:F z=[]
   ·simp [X3,hF,B7,m8]
   ·simp only[X3,if_neg hF,List.mapM_cons,List.mapM_nil,B7,hold z hz hF,Nat.zero_add,F9,Nat.le_refl,if_true,List.drop_zero,Q5]
    have:=j4 (F z)
    simp [w7,this]
  rw[this]
  simp [lists,Function.comp_def]
 ·intro p hp
  simp only[b8,h4,List.mem_cons]at hp
  rcases hp with rfl|hp
  ·exact .inl rfl
  ·right
   rw[List.drop_zero,List.take_of_length_le (by omega)]at hp
   simp only[w7,hpl,Bool.false_eq_true,if_false,List.mem_flatMap]at hp
   obtain⟨e,he,x,hx,hp⟩:=hp
   simp only[P7,List.mem_map,List.mem_range]at he
   obtain⟨z,hz,rfl⟩:=he
   rw[List.mem_singleton]at hx
   subst hx
   unfold X3 at hp
   split at hp
   ·simp [b8]at hp
   ·rename_i hF
    simp only[b8,hold z hz hF,List.mem_cons]at hp
    rcases hp with rfl|hp
    ·simp
    ·rw[List.drop_zero,Q5]at hp
     have:=j4 (F z)
     simp [w7,this]at hp
theorem b23 {t t':List AV} {h:List (Nat×RS)} {nx n:Nat} {F:Nat→List Int} {rows:List Row} (keep ids:List Nat) (hn:0<n) (h7:LS.tf t 7= .own 4 0 n) (h4:LS.hf h 4= .live ⟨1,P7 n F,0⟩)
  (hold:∀z,z<n→F z≠[]→LS.hf h (100+z)= .live ⟨1,m8 (F z),0⟩) (hnd:ids.Nodup) (hid:∀id∈ids,id≠4∧id<100)
  (ht:n7 keep (p8 ids 0) 0 (t.set 7 (.c5 false (lists ((List.range n).map F))))=some t') (hp:b6 (LS.hf h) (p8 ids 0) ids=some rows):O8 ⟨t,h,nx⟩ ⟨t',j7 0 rows,ids.length⟩:=by
 obtain⟨f1,f2⟩:=a8x (m:=4) h4 hn hold
 have w1:=oF (s:=⟨t,h,nx⟩) 7 6 (.c5 false (lists ((List.range n).map F))) (by show B7 (LS.hf h) 6 (LS.tf t 7)=_;rw[h7];exact f1)
 simp only[h7]at w1
 generalize b8 (LS.hf h) 6 (.own 4 0 n)=fi at*
 intro G M0 w0 ρ a w R
 obtain⟨ρ1,R1⟩:=w1 G M0 w0 ρ a w R
 refine a9x keep ids hnd ht ?_ ids.length (Nat.le_refl _) G M0 w0 ρ1 a w R1
 rw[←hp]
 refine jH fun id hi=>?_
 obtain⟨d1,d2⟩:=hid id hi
 rw[jV]
 unfold raise
 cases hh:LS.hf h id with
 |live r=>
  simp only
  rw[b0Q (fun p hp=>by rcases f2 p hp with e|e<;>omega)]
 |_=>rfl
structure WI (c:Code) (I O:List (List Int)) (T:List Int):Prop where
 f:FI c I O
 m:∀b∈T,0≤b∧b<c.b.length∧gI c.b b
 d:∀b,b<c.b.length→gI c.b (b:Int)→(b:Int)∈T∨(O.getD b []=V5 c I b∧I.getD b []=V4 c I b)
noncomputable def fromL (c:Code):List (List Int):=(List.range c.b.length).map (fromI c c.b.length)
theorem a8w(c:Code):(fromL c).length=c.b.length:=by simp [fromL]
theorem a3o(c:Code){b:Nat}(h:b<c.b.length):(fromL c).getD b []=fromI c c.b.length b:=by
 unfold fromL
 rw[List.getD_eq_getElem?_getD,List.getElem?_map,List.getElem?_range h];rfl
theorem uP{c:Code}{b:Int}:b∈todoI c c.b.length↔∃k:Nat,b=k∧k<c.b.length∧gI c.b (k:Int):=by
 unfold todoI
 simp only[List.mem_map,List.mem_filter,List.mem_range]
 constructor
 ·rintro⟨k,⟨h1,h2⟩,rfl⟩
  exact⟨k,rfl,h1,(aF c.b h1).1 h2⟩
 ·rintro⟨k,rfl,h1,h2⟩
  exact⟨k,⟨h1,(aF c.b h1).2 h2⟩,rfl⟩
theorem a3P{c:Code}{b:Int}{z:Nat}:b∈fromI c c.b.length z↔∃k:Nat,b=k∧k<c.b.length∧gI c.b (k:Int)∧(z:Int)∈o4 (I8 c.b k).t:=by
 unfold fromI
 simp only[List.mem_map,List.mem_filter,List.mem_range,Bool.and_eq_true,decide_eq_true_eq]
 constructor
 ·rintro⟨k,⟨h1,h2,h3⟩,rfl⟩
  exact⟨k,rfl,h1,(aF c.b h1).1 h2,h3⟩
 ·rintro⟨k,rfl,h1,h2,h3⟩
  exact⟨k,⟨h1,(aF c.b h1).2 h2,h3⟩,rfl⟩
theorem WI.zero(c:Code):WI c (wD c.b.length) (wD c.b.length) (todoI c c.b.length):=by
 refine⟨FI.zero c,fun b hb=>?_,fun b hb hr=> .inl (uP.2 ⟨b,rfl,hb,hr⟩)⟩
 obtain⟨k,rfl,h1,h2⟩:=uP.1 hb
 exact⟨by omega,by omega,h2⟩
theorem a5z{c:Code}{I I':List (List Int)}{k:Nat}(h:∀to∈o4 (I8 c.b k).t,I.getD to.toNat []=I'.getD to.toNat []):V5 c I k=V5 c I' k:=by
 unfold V5 cB
 congr 2
 have:∀(l:List Int),(∀to∈l,I.getD to.toNat []=I'.getD to.toNat [])→∀s:List Int,l.foldl (fun s to=>E4 s (I.getD to.toNat [])) s=l.foldl (fun s to=>E4 s (I'.getD to.toNat [])) s:=by
  intro l
  induction l with
  |nil=>intro _ s;rfl
  |cons a l ih=>
   intro h s
   rw[List.foldl_cons,List.foldl_cons,h a (by simp)]
   exact ih (fun to hto=>h to (by simp [hto])) _
 exact this _ h []
theorem WI.pop{c:Code}(hc:C8 c){I O:List (List Int)}{T:List Int}{b:Nat}(W:WI c I O (T++[(b:Int)])):b<c.b.length∧gI c.b (b:Int)∧
  (V4 c I b=I.getD b []→WI c I (O.set b (V5 c I b)) T)∧(V4 c I b≠I.getD b []→WI c (I.set b (V4 c I b)) (O.set b (V5 c I b)) (T++fromI c c.b.length b)∧pS I+1≤pS (I.set b (V4 c I b))):=by
 obtain⟨m1,m2,m3⟩:=W.m b (by simp)
 have hb:b<c.b.length:=by omega
 have hF:=W.f.set hc hb m3
 have hbo:b<O.length:=by rw[W.f.s.lo];exact hb
 have hbi:b<I.length:=by rw[W.f.s.li];exact hb
 refine⟨hb,m3,fun e=>⟨?_,fun x hx=>W.m x (by simp [hx]),fun k hk hr=>?_⟩,fun e=>⟨⟨hF,fun x hx=>?_,fun k hk hr=>?_⟩,?_⟩⟩
 ·rw[e,vH]at hF;exact hF
 ·rcases W.d k hk hr with h|⟨h1,h2⟩
  ·rcases List.mem_append.1 h with h|h
   ·exact .inl h
   ·have:k=b:=by have:=List.mem_singleton.1 h;omega
    subst this
    right
    rw[H3,if_pos ⟨rfl,hbo⟩]
    exact⟨rfl,e.symm⟩
  ·by_cases hkb:b=k
   ·subst hkb
    right
    rw[H3,if_pos ⟨rfl,hbo⟩]
    exact⟨rfl,h2⟩
   ·right
    rw[H3,if_neg fun hh=>hkb hh.1]
    exact⟨h1,h2⟩
 ·rcases List.mem_append.1 hx with h|h
  ·exact W.m x (by simp [h])
  ·obtain⟨k,rfl,h1,h2,_⟩:=a3P.1 h
   exact⟨by omega,by omega,h2⟩
 ·by_cases hs:(b:Int)∈o4 (I8 c.b k).t
  ·exact .inl (List.mem_append.2 (.inr (a3P.2 ⟨k,rfl,hk,hr,hs⟩)))
  ·have hsame:V5 c (I.set b (V4 c I b)) k=V5 c I k:=a5z fun to hto=>by
    rw[H3,if_neg]
    rintro⟨h1,_⟩
    have:=hc.succ.2 _ (bW hk) to hto
    exact hs (by rw[show(b:Int)=to by omega];exact hto)
   have hsame2:V4 c (I.set b (V4 c I b)) k=V4 c I k:=by
    show atF _ (V5 c (I.set b (V4 c I b)) k) 0=atF _ (V5 c I k) 0
    rw[hsame]
   by_cases hkb:b=k
   ·subst hkb
    right
    rw[H3,H3,if_pos ⟨rfl,hbo⟩,if_pos ⟨rfl,hbi⟩,hsame,hsame2]
    exact⟨rfl,rfl⟩
   ·rcases W.d k hk hr with h|⟨h1,h2⟩
    ·left
     rcases List.mem_append.1 h with h|h
     ·exact List.mem_append.2 (.inl h)
     ·have:=List.mem_singleton.1 h;omega
    ·right
     rw[H3,H3,if_neg fun hh=>hkb hh.1,if_neg fun hh=>hkb hh.1,hsame,hsame2]
     exact⟨h1,h2⟩
 ·have t1:=rV I b (V4 c I b) hbi
  have g:=(W.f.g b hb m3).1
  obtain⟨l1,e1⟩:=oA (W.f.s.i b).2 (a1o eP:N1 (V4 c I b)) g
  have:¬(V4 c I b).length≤(I.getD b []).length:=fun hh=>e (e1 hh).symm
  omega
theorem WI.done{c:Code}{I O:List (List Int)}(W:WI c I O []):liveF c=(I,O):=W.f.done fun b hb hr=>(W.d b hb hr).resolve_left (by simp)
theorem FI.b7R{c:Code}(hc:C8 c){I O:List (List Int)}(h:FI c I O):pS I≤16*c.b.length:=(h.b19 hc).1
def wm(c:Code)(I:List (List Int))(T:List Int):Nat:=(16*c.b.length-pS I)*(c.b.length+1)+T.length
theorem b6d(c:Code)(I:List (List Int))(T:List Int)(b:Int):wm c I T<wm c I (T++[b]):=by simp [wm]
theorem b34{c:Code}{I I':List (List Int)}{T:List Int}{b:Int}{z:Nat}(h:pS I+1≤pS I')(h2:pS I'≤16*c.b.length):wm c I' (T++fromI c c.b.length z)<wm c I (T++[b]):=by
 have hl:=oW c c.b.length z
 obtain⟨d,hd⟩:∃d,16*c.b.length-pS I=(16*c.b.length-pS I')+1+d:=⟨pS I'-pS I-1,by omega⟩
 unfold wm
 rw[hd,List.length_append,List.length_append,Nat.add_mul,Nat.add_mul]
 simp only[List.length_cons,List.length_nil]
 have:0≤d*(c.b.length+1):=Nat.zero_le _
 omega
theorem b6c(c:Code)(I:List (List Int))(T:List Int):T.length≤wm c I T:=Nat.le_add_left _ _
theorem b35(c:Code)(h:c.b.length≤18)(I:List (List Int)):wm c I (todoI c c.b.length)≤10000:=by
 have h1:=a0s c c.b.length
 unfold wm
 have h2:(16*c.b.length-pS I)*(c.b.length+1)≤288*19:=Nat.mul_le_mul (by omega) (by omega)
 omega
end Go.Proofs.YtgdoiokalfhjoaaDoor
end
