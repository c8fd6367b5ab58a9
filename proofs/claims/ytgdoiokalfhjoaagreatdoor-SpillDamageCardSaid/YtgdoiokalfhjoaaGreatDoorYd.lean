/- Own work (by an AI agent; no person has read it): part of a proof of the seat YtgdoiokalfhjoaaGreatDoor. -/
import Derived.Test.YtgdoiokalfhjoaaGreatDoorYc
set_option linter.unusedSimpArgs false
set_option linter.unusedVariables false
set_option maxRecDepth 100000
set_option maxHeartbeats 10000000
section
namespace Go.Proofs.YtgdoiokalfhjoaaGreatDoor
open Go.Ab
def jE(p:List Int)(x:Int):List Int:=p.takeWhile (fun y=>decide (y≤x))++x::p.dropWhile (fun y=>decide (y≤x))
def E6(l:List Int):List Int:=l.foldl jE []
def Le(l:List Int):Prop:=l.Pairwise (·≤·)
theorem c0X{p:List Int}{x y:Int}:y∈jE p x↔y=x∨y∈p:=by
 unfold jE
 rw[List.mem_append,List.mem_cons]
 conv=>rhs;rw[←List.takeWhile_append_dropWhile (p:=fun y=>decide (y≤x)) (l:=p),List.mem_append]
 constructor
 ·rintro(h|h|h)
  ·exact .inr (.inl h)
  ·exact .inl h
  ·exact .inr (.inr h)
 ·rintro(h|h|h)
  ·exact .inr (.inl h)
  ·exact .inl h
  ·exact .inr (.inr h)
theorem c0M(p:List Int)(x:Int):(jE p x).length=p.length+1:=by
 have:=congrArg List.length (List.takeWhile_append_dropWhile (p:=fun y=>decide (y≤x)) (l:=p))
 rw[List.length_append]at this
 unfold jE
 simp only[List.length_append,List.length_cons];omega
theorem c5G{l:List Int}{n:Int}:∀x∈l.takeWhile (fun x=>decide (x≤n)),x≤n:=by
 induction l with
 |nil=>intro x hx;simp at hx
 |cons a l ih=>
  intro x hx
  rw[List.takeWhile_cons]at hx
  split at hx
  ·rename_i h
   rcases List.mem_cons.1 hx with rfl|hx
   ·simpa using h
   ·exact ih x hx
  ·simp at hx
theorem c1U{l:List Int}(hl:Le l){n:Int}:∀x∈l.dropWhile (fun x=>decide (x≤n)),n<x:=by
 induction l with
 |nil=>intro x hx;simp at hx
 |cons a l ih=>
  obtain⟨h1,h2⟩:=List.pairwise_cons.1 hl
  intro x hx
  rw[List.dropWhile_cons]at hx
  split at hx
  ·exact ih h2 x hx
  ·rename_i h
   have ha:n<a:=by simpa using h
   rcases List.mem_cons.1 hx with rfl|hx
   ·exact ha
   ·have:=h1 x hx;omega
theorem c3S{p:List Int}(hp:Le p)(x:Int):Le (jE p x):=by
 unfold jE
 have hs1:(p.takeWhile (fun y=>decide (y≤x))).Sublist p:=List.takeWhile_sublist _
 have hs2:(p.dropWhile (fun y=>decide (y≤x))).Sublist p:=List.dropWhile_sublist _
 refine List.pairwise_append.2 ⟨hp.sublist hs1,List.pairwise_cons.2 ⟨fun y hy=>?_,hp.sublist hs2⟩,fun y hy z hz=>?_⟩
 ·have:=c1U hp y hy;omega
 ·have h1:=c5G y hy
  rcases List.mem_cons.1 hz with rfl|hz
  ·exact h1
  ·have:=c1U hp z hz;omega
theorem kQ:∀(l p:List Int),Le p→Le (l.foldl jE p)∧(l.foldl jE p).length=p.length+l.length∧∀x,x∈l.foldl jE p↔x∈p∨x∈l
 |[],p,h=>⟨h,rfl,fun x=>by simp⟩
 |a::l,p,h=>by
  obtain⟨h1,h2,h3⟩:=kQ l (jE p a) (c3S h a)
  refine⟨h1,by rw[List.foldl_cons,h2,c0M,List.length_cons];omega,fun x=>?_⟩
  rw[List.foldl_cons,h3,c0X,List.mem_cons]
  constructor
  ·rintro((h|h)|h)
   ·exact .inr (.inl h)
   ·exact .inl h
   ·exact .inr (.inr h)
  ·rintro(h|h|h)
   ·exact .inl (.inr h)
   ·exact .inl (.inl h)
   ·exact .inr h
theorem a8a(l:List Int):Le (E6 l):=(kQ l [] List.Pairwise.nil).1
theorem pQ(l:List Int):(E6 l).length=l.length:=by have:=(kQ l [] List.Pairwise.nil).2.1;rw[List.length_nil,Nat.zero_add]at this;exact this
theorem b3O{l:List Int}{x:Int}:x∈E6 l↔x∈l:=by have:=(kQ l [] List.Pairwise.nil).2.2 x;simp only[List.not_mem_nil,false_or]at this;exact this
theorem lZ(l:List Int)(i:Nat)(h:i<l.length):E6 (l.take (i+1))=jE (E6 (l.take i)) (l.getD i 0):=by
 rw[w9 l i 0 h];unfold E6;rw[List.foldl_append];rfl
theorem a8Z{l:List Int}{q:Int→Bool}{i:Nat}(hi:i≤l.length)(h:∀k,k<i→q (l.getD k 0)=true)(he:i=l.length∨q (l.getD i 0)=false):l.takeWhile q=l.take i∧l.dropWhile q=l.drop i:=by
 induction l generalizing i with
 |nil=>
      have:i=0:=by simpa using hi
      subst this;simp
 |cons a l ih=>
  cases i with
  |zero=>
   have:q a=false:=by
                rcases he with he|he
                ·simp at he
                ·simpa using he
   rw[List.takeWhile_cons,List.dropWhile_cons,if_neg (by simp [this]),if_neg (by simp [this])];simp
  |succ i=>
   have h0:q a=true:=by simpa using h 0 (by omega)
   obtain⟨h1,h2⟩:=ih (i:=i) (by simpa using hi) (fun k hk=>by simpa using h (k+1) (by omega)) (by simpa using he)
   rw[List.takeWhile_cons,List.dropWhile_cons,if_pos h0,if_pos h0,h1,h2];simp
def bM(p:List Int)(x:Int)(j:Nat):List Int:=p.take j++x::p.drop j
theorem nY(p:List Int)(x:Int)(j:Nat)(h:j≤p.length):(bM p x j).length=p.length+1:=by unfold bM;simp;omega
theorem c3R{p:List Int}(hp:Le p){k j:Nat}(h:k≤j)(hj:j<p.length):p.getD k 0≤p.getD j 0:=by
 rcases Nat.lt_or_eq_of_le h with h|rfl
 ·have:=(List.pairwise_iff_getElem.1 hp) k j (by omega) hj h
  rw[List.getD_eq_getElem?_getD,List.getD_eq_getElem?_getD,List.getElem?_eq_getElem hj,List.getElem?_eq_getElem (show k<p.length by omega)];exact this
 ·exact Int.le_refl _
theorem a7G{p:List Int}{x:Int}{j:Nat}(hp:Le p)(hj:j≤p.length)(h1:j=0∨p.getD (j-1) 0≤x)(h2:j=p.length∨x<p.getD j 0):jE p x=bM p x j:=by
 obtain⟨e1,e2⟩:=a8Z (q:=fun y=>decide (y≤x)) hj (fun k hk=>by
  have:=c3R hp (k:=k) (j:=j-1) (by omega) (by omega)
  have:p.getD k 0≤x:=by omega
  simpa using this) (by
  rcases h2 with h2|h2
  ·exact .inl h2
  ·exact .inr (by simpa using h2))
 unfold jE bM;rw[e1,e2]
theorem b6j(p:List Int)(x:Int):bM p x p.length=p++[x]:=by unfold bM;simp
theorem c0p(p:List Int)(x:Int)(j:Nat)(r:List Int)(hj:j≤p.length):(bM p x j++r).getD j 0=x:=by
 unfold bM
 rw[List.getD_eq_getElem?_getD,List.append_assoc,List.getElem?_append_right (by simp;omega)]
 simp [show j-min j p.length=0 by omega]
theorem b6k(p:List Int)(x:Int)(j k:Nat)(r:List Int)(hk:k<j)(hj:j≤p.length):(bM p x j++r).getD k 0=p.getD k 0:=by
 unfold bM
 rw[List.getD_eq_getElem?_getD,List.append_assoc,List.getElem?_append_left (by simp;omega),List.getElem?_take_of_lt hk,List.getD_eq_getElem?_getD]
theorem a7F(p:List Int)(x:Int)(j:Nat)(r:List Int)(hj:j≤p.length)(k:Nat):(bM p x j++r)[k]?=if k<j then p[k]? else if k=j then some x else if k<p.length+1 then p[k-1]? else r[k-(p.length+1)]?:=by
 have hl:=nY p x j hj
 by_cases h1:k<j
 ·rw[if_pos h1,List.getElem?_append_left (by omega)]
  unfold bM
  rw[List.getElem?_append_left (by simp;omega),List.getElem?_take_of_lt h1]
 ·rw[if_neg h1]
  by_cases h2:k=j
  ·subst h2
   rw[if_pos rfl,List.getElem?_append_left (by omega)]
   unfold bM
   rw[List.getElem?_append_right (by simp;omega)]
   simp [show k-min k p.length=0 by omega]
  ·rw[if_neg h2]
   by_cases h3:k<p.length+1
   ·rw[if_pos h3,List.getElem?_append_left (by omega)]
    unfold bM
    rw[List.getElem?_append_right (by simp;omega),List.length_take,Nat.min_eq_left hj]
    obtain⟨d,rfl⟩:∃d,k=j+(d+1):=⟨k-j-1,by omega⟩
    rw[Nat.add_sub_cancel_left,List.getElem?_cons_succ,List.getElem?_drop];rfl
   ·rw[if_neg h3,List.getElem?_append_right (by omega),hl]
theorem b3p(p:List Int)(x:Int)(j:Nat)(r:List Int)(h0:0<j)(hj:j≤p.length):((bM p x j++r).set j (p.getD (j-1) 0)).set (j-1) x=bM p x (j-1)++r:=by
 apply List.ext_getElem?
 intro k
 have hl:(bM p x j++r).length=p.length+1+r.length:=by rw[List.length_append,nY p x j hj]
 rw[a7F p x (j-1) r (by omega),List.getElem?_set,List.getElem?_set,List.length_set,hl,a7F p x j r hj]
 by_cases h1:j-1=k
 ·rw[if_pos h1,if_pos (by omega),if_neg (by omega),if_pos (by omega)]
 ·rw[if_neg h1]
  by_cases h2:j=k
  ·subst h2
   rw[if_pos rfl,if_pos (by omega),if_neg (by omega),if_neg (by omega),if_pos (by omega),List.getD_eq_getElem?_getD,List.getElem?_eq_getElem (show j-1<p.length by omega)];rfl
  ·rw[if_neg h2]
   by_cases h3:k<j-1
   ·rw[if_pos (by omega),if_pos h3]
   ·simp only[show¬k<j by omega,show¬k=j by omega,h3,show¬k=j-1 by omega,if_false]
theorem a78(a:Int):e8 Tryz.prog 271 [.v (.int .i64 a)] (fun _=> .v (.bool false)) (fun _=>[]):=by
 refine Zf Tryz.func271 Tryz.ntmps271 ?_
 repeat' (first|refine Za ?_|(with_reducible constructor<;>first|intro N hN mk hmk|intro N hN|intro h)|refine Zt L5.d ?_|fail)
 all_goals simp
theorem c0O(a b:Int):e8 Tryz.prog 255 [.v (.int .i64 a),.v (.int .i64 b)] (fun _=> .v (.bool (decide (a<b)))) (fun _=>[]):=by
 refine Zf Tryz.func255 Tryz.ntmps255 ?_
 repeat' (first|refine Za ?_|(with_reducible constructor<;>first|intro N hN mk hmk|intro N hN|intro h)|refine Zc (a78 a) ?_|refine Zc (a78 b) ?_|refine Zt L5.d ?_|fail)
theorem xD(l:List Int)(k:Nat)(v:Int):(c7 l).modify k (fun e=>o6 e 0 [.v (.int .i64 v)])=c7 (l.set k v):=by
 apply List.ext_getElem?
 intro j
 rw[List.getElem?_modify]
 simp only[c7,List.getElem?_map,List.getElem?_set]
 by_cases h:k=j
 ·subst h
  by_cases h2:k<l.length
  ·simp [h2,o6]
  ·simp [h2]
 ·simp [h]
def vU:=ZZ.mk (Zq gF.d (Zq @xD (Zq @B4 (Zq @dA @N1))))
def a7a:=ZZ.mk (Zq vU.d @List.length_set.{0})
theorem b7b(l:List Int)(hl:l.length≤12):y6 Tryz.prog 249 [.own 0 0 l.length,.v (.int .i64 0),.v (.int .i64 l.length)] [⟨1,c7 l,0⟩] 1 (fun _:Unit=>True) (fun _=> .O2 []) (fun _=>[⟨1,c7 (E6 l),0⟩]):=by
 refine Zf Tryz.func249 Tryz.ntmps249 ?_
 repeat' (first|refine Za ?_|(with_reducible constructor<;>first|intro N hN mk hmk|intro N hN|intro h)|refine Zt vU.d ?_|fail)
 refine l8 (fun i=>⟨[.own 0 0 l.length,.v (.int .i64 0),.v (.int .i64 l.length),.Z,.Z,.Z,.v (.int .i64 ((i+1:Nat):Int)),.Z,.Z,.Z,.Z,.Z,.Z,.Z,.Z,.Z,.Z,.Z,.Z,.Z,.Z,.Z,.Z,.Z,.Z,.Z,.Z,.Z,.Z,.Z,.Z,.Z,.Z,.Z,.Z,.Z,.Z,.Z,.Z,.Z,.Z,.Z,.Z,.Z,.Z,.Z,.Z,.Z,.Z],[(0,.live ⟨1,c7 (E6 (l.take (i+1))++l.drop (i+1)),0⟩),(1,.u5 99 [.ptr 0 0 0])],2⟩) (l.length-1) (Zw [0,1,2,6] [0] vU.d ?_) ?_
 ·have e:E6 (l.take 1)++l.drop 1=l:=by
   cases l with
   |nil=>rfl
   |cons a l=>rfl
  simp only[Nat.zero_add,e,Int.zero_add,Int.natCast_one]
 ·intro i hi
  obtain⟨p,hp⟩:∃p,p=E6 (l.take (i+1)):=⟨_,rfl⟩
  have hpl:p.length=(l.take (i+1)).length:=by rw[hp,pQ]
  have hps:Le p:=by rw[hp];exact a8a _
  rw[List.length_take]at hpl
  rw[←hp]
  by_cases hin:i+1<l.length
  ·obtain⟨x,hx⟩:∃x,x=l.getD (i+1) 0:=⟨_,rfl⟩
   obtain⟨r,hr⟩:∃r,r=l.drop (i+1+1):=⟨_,rfl⟩
   have hrl:r.length=l.length-(i+1+1):=by rw[hr];simp
   have hd:l.drop (i+1)=x::r:=by
    rw[hx,hr,List.drop_eq_getElem_cons hin,List.getD_eq_getElem?_getD,List.getElem?_eq_getElem hin];rfl
   have he:p++x::r=bM p x p.length++r:=by rw[b6j];simp
   rw[hd,he]
   have hn:E6 (l.take (i+1+1))=jE p x:=by rw[lZ l (i+1) hin,hp,hx]
   rw[hn,←hr]
   have hle:=nY p x p.length (Nat.le_refl _)
   have hpi:p.length=i+1:=by omega
   have hrr:p.length+1+r.length=l.length:=by omega
   repeat' (first|refine Za ?_|(with_reducible constructor<;>first|intro N hN mk hmk|intro N hN|intro h)|refine Zt vU.d ?_|fail)
   refine H4 (fun m=>⟨[.own 0 0 l.length,.v (.int .i64 0),.v (.int .i64 l.length),.Z,.Z,.Z,.v (.int .i64 ((i+1:Nat):Int)),.v (.int .i64 ((p.length-m:Nat):Int)),.Z,.Z,.Z,.Z,.Z,.Z,.Z,.Z,.Z,.Z,.Z,.Z,.Z,.Z,.Z,.Z,.Z,.Z,.Z,.Z,.Z,.Z,.Z,.Z,.Z,.Z,.Z,.Z,.Z,.Z,.Z,.Z,.Z,.Z,.Z,.Z,.Z,.Z,.Z,.Z,.Z],[(0,.live ⟨1,c7 (bM p x (p.length-m)++r),0⟩),(1,.u5 99 [.ptr 0 0 0])],2⟩) (fun ii=>Go.Ab.W0 ((fun m=>∀k,p.length-m≤k→k<p.length→x<p.getD k 0) ii)) p.length (Zw [0,1,2,6,7] [0] vU.d ?_) ?_ ?_
   ·rw[Nat.sub_zero,hpi]
   ·exact⟨fun k h1 h2=>by omega⟩
   ·intro m hm hI
    have hI:=hI.out
    obtain⟨j,hj⟩:∃j,j=p.length-m:=⟨_,rfl⟩
    have hj1:p.length-(m+1)=j-1:=by omega
    simp only[←hj]at hI⊢
    rw[hj1]
    have hjl:j≤p.length:=by omega
    have hA:=c0p p x j r hjl
    have hL:(bM p x j++r).length=l.length:=by rw[List.length_append,nY p x j hjl];exact hrr
    by_cases hj0:0<j
    ·have hB:=b6k p x j (j-1) r (by omega) hjl
     have e1:((j:Int)-1).toNat=j-1:=by omega
     have C:=c0O x (p.getD (j-1) 0)
     have hW:=b3p p x j r hj0 hjl
     repeat' (first|refine Za ?_|(with_reducible constructor<;>first|intro N hN mk hmk|intro N hN|intro h)|refine Zc C ?_|refine Zt (Zq a7a.d (Zq hA (Zq hB (Zq e1 (Zq hL hW))))) ?_|fail)
     ·refine⟨⟨fun k h1 h2=>?_⟩,?_⟩
      ·by_cases hk:k=j-1
       ·rw[hk];assumption
       ·exact hI k (by omega) h2
      ·refine Zw [0,1,2,6,7] [0] (Zq a7a.d (Zq hA (Zq hB (Zq e1 (Zq hL hW))))) ?_
       rw[show(j:Int)-1=((j-1:Nat):Int) by omega]
     ·refine Zw [0,1,2,6] [0] (Zq a7a.d (Zq hA (Zq hB (Zq e1 (Zq hL hW))))) ?_
      rw[a7G hps hjl (.inr (by omega)) (by
       by_cases hjp:j=p.length
       ·exact .inl hjp
       ·exact .inr (hI j (Nat.le_refl _) (by omega)))]
      rfl
     ·exfalso;omega
    ·obtain rfl:j=0:=by omega
     repeat' (first|refine Za ?_|(with_reducible constructor<;>first|intro N hN mk hmk|intro N hN|intro h)|refine Zt (Zq a7a.d (Zq hA hL)) ?_|fail)
     all_goals first
      |(exfalso;omega)
      |(
        refine Zw [0,1,2,6] [0] (Zq a7a.d (Zq hA hL)) ?_
        rw[a7G hps hjl (.inl rfl) (by
         by_cases hjp:0=p.length
         ·exact .inl hjp
         ·exact .inr (hI 0 (Nat.le_refl _) (by omega)))]
        rfl)
  ·
   have e:p++l.drop (i+1)=E6 l:=by
    rw[hp,List.drop_of_length_le (by omega),List.append_nil,List.take_of_length_le (by omega)]
   rw[e]
   repeat' (first|refine Za ?_|(with_reducible constructor<;>first|intro N hN mk hmk|intro N hN|intro h)|refine Zt vU.d ?_|fail)
   refine Zr (()) [0] vU.d ?_
   trivial
def c1N:=ZZ.mk (Zq L5.d (Zq @Z9 (Zq @I2 (Zq @m9 (Zq @B4 @aG)))))
def vV:=ZZ.mk (Zq L5.d (Zq @Z9 (Zq @I2 (Zq @m9 @B4))))
theorem c34(l:List Int)(d:Int)(hl:l.length≤12):y6 Tryz.prog 235 [.own 0 0 l.length,.v (.int .i64 0),.v (.int .i64 l.length),.v (.int .i64 d)] [⟨1,c7 l,0⟩] 1 (fun _:Unit=>True) (fun _=> .O2 []) (fun _=>[⟨1,c7 (E6 l),0⟩]):=by
 have C:=b7b l hl
 refine Zf Tryz.func235 Tryz.ntmps235 ?_
 repeat' (first|refine Za ?_|(with_reducible constructor<;>first|intro N hN mk hmk|intro N hN|intro h)|(guard_target=~ AK Tryz.prog _ _ _ _;refine x9 [()] ?_)|(refine Zp C [0] c1N.d ?_;with_reducible intro _ _)|refine Zt c1N.d ?_|fail)
 refine Zr (()) [0] vV.d ?_
 trivial
theorem c3s(n:Int):IntKind.u8.wrap n=n%256:=by simp [IntKind.wrap,IntKind.signed,IntKind.bits]
theorem b7f(n:Nat)(hn:n≤12):∃v:Int,e8 Tryz.prog 259 [.v (.int .u64 n)] (fun _=> .v (.int .i64 v)) (fun _=>[]):=by
 refine Exists.intro ?v ?_
 rotate_left
 refine Zf Tryz.func259 Tryz.ntmps259 ?_
 repeat' (first|refine Za ?_|(with_reducible constructor<;>first|intro N hN mk hmk|intro N hN|intro h)|refine Zt vV.d ?_|fail)
 refine⟨⟨by rw[c3s];omega,Int.lt_of_lt_of_le (show IntKind.u8.wrap (n:Int)<256 by rw[c3s];omega) (by decide)⟩,?_⟩
 repeat' (first|refine Za ?_|(with_reducible constructor<;>first|intro N hN mk hmk|intro N hN|intro h)|refine Zt vV.d ?_|fail)
 rfl
theorem b7g(n:Nat)(hn:n≤12):∃v:Int,e8 Tryz.prog 236 [.v (.int .u64 n)] (fun _=> .v (.int .i64 v)) (fun _=>[]):=by
 obtain⟨v,C⟩:=b7f n hn
 refine⟨v,?_⟩
 refine Zf Tryz.func236 Tryz.ntmps236 ?_
 repeat' (first|refine Za ?_|(with_reducible constructor<;>first|intro N hN mk hmk|intro N hN|intro h)|refine Zc C ?_|refine Zt vV.d ?_|fail)
theorem bC(l:List Int)(hl:l.length≤12):y6 Tryz.prog 188 [.own 0 0 l.length] [⟨1,c7 l,0⟩] 1 (fun _:Unit=>True) (fun _=> .O2 []) (fun _=>[⟨1,c7 (E6 l),0⟩]):=by
 obtain⟨v,C⟩:=b7g l.length hl
 have C2:=c34 l v hl
 refine Zf Tryz.func188 Tryz.ntmps188 ?_
 repeat' (first|refine Za ?_|(with_reducible constructor<;>first|intro N hN mk hmk|intro N hN|intro h)|refine Zc C ?_|(refine Zp C2 [0] vV.d ?_;with_reducible intro _ _)|refine Zt vV.d ?_|fail)
 refine Zr (()) [0] vV.d ?_
 trivial
theorem wN(t:q9):e8 Tryz.prog 79 [.agg t.av] (fun _=> .a8 false (c7 (m7 t))) (fun _=>[]):=by
 obtain⟨k,s,⟨dk,dn,dv⟩,⟨ak,an,av⟩,⟨bk,bn,bv⟩,t0,t1⟩:=t
 refine Zf Tryz.func79 Tryz.ntmps79 ?_;simp only[q9.av]
 repeat' (first|(guard_target=~ AK Tryz.prog (Go.Code.region 4 _ _) _ _ _;(refine b5I 1 rfl rfl (fun c=>by simp) ?_;intro N N2 hN hN2))|refine Za ?_|(with_reducible constructor<;>first|intro N hN mk hmk|intro N hN|intro h)|refine Zt L5.d ?_|fail)
 rotate_left
 ·refine c1x (n:=2) (E:=T3) rfl b8X rfl (by simp [S7]) rfl rfl rfl (by simp) rfl (by decide) ?_
  refine hN2 _ ?_
  clear hN2
  repeat' (first|refine Za ?_|(with_reducible constructor<;>first|intro N hN mk hmk|intro N hN|intro h)|refine Zt L5.d ?_|fail)
  rw[show m7 ⟨k,s,⟨dk,dn,dv⟩,⟨ak,an,av⟩,⟨bk,bn,bv⟩,t0,t1⟩=[t0,t1]from(if_neg ‹¬k=5›).trans (if_pos ⟨‹k=2›,‹¬t0=t1›⟩)];rfl
 all_goals(unfold m7;(repeat' split)<;>first|rfl|(exfalso;omega)|(exfalso;simp_all;done)|simp_all)
def E8:List Int→List Int
 |[]=>[]
 |[a]=>[a]
 |a::b::l=>if a=b then E8 (b::l)else a::E8 (b::l)
theorem c5v:T3.zero.all Value.oneCell'=true:=rfl
theorem ct1:((1:Nat):Int)=1:=rfl
theorem ct2:((2:Nat):Int)=2:=rfl
theorem ct3:((3:Nat):Int)=3:=rfl
theorem jX:∀(l:List Int) (x:Int),x∈E8 l↔x∈l
 |[],x=>Iff.rfl
 |[a],x=>Iff.rfl
 |a::b::l,x=>by
  have ih:=jX (b::l) x
  rw[E8]
  split
  ·rename_i h
   subst h
   rw[ih];simp
  ·rw[List.mem_cons,ih,List.mem_cons (a:=x) (b:=a)]
theorem rM:∀(l:List Int),Le l→I9 (E8 l)
 |[],_=>List.Pairwise.nil
 |[a],_=>List.pairwise_singleton _ _
 |a::b::l,h=>by
  obtain⟨h1,h2⟩:=List.pairwise_cons.1 h
  obtain⟨h3,h4⟩:=List.pairwise_cons.1 h2
  have ih:=rM (b::l) h2
  rw[E8]
  split
  ·exact ih
  ·rename_i hne
   refine List.pairwise_cons.2 ⟨fun y hy=>?_,ih⟩
   have hy':=(jX (b::l) y).1 hy
   have hab:=h1 b (by simp)
   rcases List.mem_cons.1 hy' with rfl|hy'
   ·omega
   ·have:=h3 y hy';omega
def jM:=ZZ.mk (Zq L5.d (Zq @c5v (Zq @V9.eq_1 (Zq @ct1 (Zq @ct2 (Zq @ct3 (Zq @or_false (Zq @true_or (Zq @or_true @List.length_append.{0})))))))))
def a2z:=ZZ.mk (Zq jM.d @aG)
theorem a9B(l:List Int)(hl:l.length≤3):y6 Tryz.prog 244 [.own 0 0 l.length] [⟨1,c7 l,0⟩] 1 (fun _:Unit=>True) (fun _=> .own 0 0 (E8 l).length) (fun _=>[⟨1,c7 (E8 l)++List.replicate (l.length-(E8 l).length) [.Z],0⟩]):=by
 match l,hl with
 |[],_=>
  simp only[E8,c7,List.map_nil,List.length_nil,Nat.sub_self,List.replicate_zero,List.append_nil]
  refine Zf Tryz.func244 Tryz.ntmps244 ?_
  repeat' (first|refine Za ?_|(with_reducible constructor<;>first|intro N hN mk hmk|intro N hN|intro h)|refine oQ jM.d ?_|fail)
  refine Zr (()) [0] jM.d ?_
  trivial
 |[a],_=>
  simp only[E8,c7,List.map_nil,List.map_cons,List.length_cons,List.length_nil,Nat.sub_self,List.replicate_zero,List.append_nil]
  refine Zf Tryz.func244 Tryz.ntmps244 ?_
  repeat' (first|refine Za ?_|(with_reducible constructor<;>first|intro N hN mk hmk|intro N hN|intro h)|refine oQ jM.d ?_|fail)
  refine Zr (()) [0] jM.d ?_
  trivial
 |[a,b],_=>
  by_cases h1:a=b
  ·subst h1
   simp only[E8,if_true,c7,List.map_nil,List.map_cons,List.length_cons,List.length_nil,Nat.reduceAdd,Nat.reduceSub,List.replicate_succ,List.replicate_zero,List.cons_append,List.nil_append,List.append_nil]
   refine Zf Tryz.func244 Tryz.ntmps244 ?_
   repeat' (first|refine Za ?_|(with_reducible constructor<;>first|intro N hN mk hmk|intro N hN|intro h)|(guard_target=~ AK Tryz.prog _ _ _ _;refine x9 [(),(),()] ?_)|refine oQ a2z.d ?_|fail)
   all_goals first
    |(exfalso;omega)
    |(
      refine Zr (()) [0] jM.d ?_
      trivial)
  ·simp only[E8,h1,if_false,c7,List.map_nil,List.map_cons,List.length_cons,List.length_nil,Nat.reduceAdd,Nat.reduceSub,List.replicate_succ,List.replicate_zero,List.cons_append,List.nil_append,List.append_nil]
   refine Zf Tryz.func244 Tryz.ntmps244 ?_
   repeat' (first|refine Za ?_|(with_reducible constructor<;>first|intro N hN mk hmk|intro N hN|intro h)|(guard_target=~ AK Tryz.prog _ _ _ _;refine x9 [(),(),()] ?_)|refine oQ a2z.d ?_|fail)
   all_goals first
    |(exfalso;omega)
    |(
      refine Zr (()) [0] jM.d ?_
      trivial)
 |[a,b,c],_=>
  by_cases h1:a=b
  ·subst h1
   by_cases h2:a=c
   ·subst h2
    simp only[E8,if_true,c7,List.map_nil,List.map_cons,List.length_cons,List.length_nil,Nat.reduceAdd,Nat.reduceSub,List.replicate_succ,List.replicate_zero,List.cons_append,List.nil_append,List.append_nil]
    refine Zf Tryz.func244 Tryz.ntmps244 ?_
    repeat' (first|refine Za ?_|(with_reducible constructor<;>first|intro N hN mk hmk|intro N hN|intro h)|(guard_target=~ AK Tryz.prog _ _ _ _;refine x9 [(),(),()] ?_)|refine oQ a2z.d ?_|fail)
    all_goals first
     |(exfalso;omega)
     |(
       refine Zr (()) [0] jM.d ?_
       trivial)
   ·simp only[E8,h2,if_true,if_false,c7,List.map_nil,List.map_cons,List.length_cons,List.length_nil,Nat.reduceAdd,Nat.reduceSub,List.replicate_succ,List.replicate_zero,List.cons_append,List.nil_append,List.append_nil]
    refine Zf Tryz.func244 Tryz.ntmps244 ?_
    repeat' (first|refine Za ?_|(with_reducible constructor<;>first|intro N hN mk hmk|intro N hN|intro h)|(guard_target=~ AK Tryz.prog _ _ _ _;refine x9 [(),(),()] ?_)|refine oQ a2z.d ?_|fail)
    all_goals first
     |(exfalso;omega)
     |(
       refine Zr (()) [0] jM.d ?_
       trivial)
  ·by_cases h2:b=c
   ·subst h2
    simp only[E8,h1,if_true,if_false,c7,List.map_nil,List.map_cons,List.length_cons,List.length_nil,Nat.reduceAdd,Nat.reduceSub,List.replicate_succ,List.replicate_zero,List.cons_append,List.nil_append,List.append_nil]
    refine Zf Tryz.func244 Tryz.ntmps244 ?_
    repeat' (first|refine Za ?_|(with_reducible constructor<;>first|intro N hN mk hmk|intro N hN|intro h)|(guard_target=~ AK Tryz.prog _ _ _ _;refine x9 [(),(),()] ?_)|refine oQ a2z.d ?_|fail)
    all_goals first
     |(exfalso;omega)
     |(
       refine Zr (()) [0] jM.d ?_
       trivial)
   ·simp only[E8,h1,h2,if_false,c7,List.map_nil,List.map_cons,List.length_cons,List.length_nil,Nat.reduceAdd,Nat.reduceSub,List.replicate_succ,List.replicate_zero,List.cons_append,List.nil_append,List.append_nil]
    refine Zf Tryz.func244 Tryz.ntmps244 ?_
    repeat' (first|refine Za ?_|(with_reducible constructor<;>first|intro N hN mk hmk|intro N hN|intro h)|(guard_target=~ AK Tryz.prog _ _ _ _;refine x9 [(),(),()] ?_)|refine oQ a2z.d ?_|fail)
    all_goals first
     |(exfalso;omega)
     |(
       refine Zr (()) [0] jM.d ?_
       trivial)
end Go.Proofs.YtgdoiokalfhjoaaGreatDoor
end
