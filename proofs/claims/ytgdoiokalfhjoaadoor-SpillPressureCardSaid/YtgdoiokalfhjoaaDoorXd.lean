/- Own work (by an AI agent; no person has read it): part of a proof of the seat YtgdoiokalfhjoaaDoor. -/
import Derived.Test.YtgdoiokalfhjoaaDoorXc
set_option linter.unusedSimpArgs false
set_option linter.unusedVariables false
set_option maxRecDepth 100000
set_option maxHeartbeats 10000000
section
namespace Go.Proofs.YtgdoiokalfhjoaaDoor
open Go.Ab
def H0:List Int→List Int
 |[]=>[]
 |[a]=>[a]
 |a::b::l=>if a=b then H0 (b::l)else a::H0 (b::l)
theorem b7m:T3.zero.all Value.oneCell'=true:=rfl
theorem ct1:((1:Nat):Int)=1:=rfl
theorem ct2:((2:Nat):Int)=2:=rfl
theorem ct3:((3:Nat):Int)=3:=rfl
theorem jF:∀(l:List Int) (x:Int),x∈H0 l↔x∈l
 |[],x=>Iff.rfl
 |[a],x=>Iff.rfl
 |a::b::l,x=>by
  have ih:=jF (b::l) x
  rw[H0]
  split
  ·rename_i h
   subst h
   rw[ih];simp
  ·rw[List.mem_cons,ih,List.mem_cons (a:=x) (b:=a)]
theorem qP:∀(l:List Int),Le l→N1 (H0 l)
 |[],_=>List.Pairwise.nil
 |[a],_=>List.pairwise_singleton _ _
 |a::b::l,h=>by
  obtain⟨h1,h2⟩:=List.pairwise_cons.1 h
  obtain⟨h3,h4⟩:=List.pairwise_cons.1 h2
  have ih:=qP (b::l) h2
  rw[H0]
  split
  ·exact ih
  ·rename_i hne
   refine List.pairwise_cons.2 ⟨fun y hy=>?_,ih⟩
   have hy':=(jF (b::l) y).1 hy
   have hab:=h1 b (by simp)
   rcases List.mem_cons.1 hy' with rfl|hy'
   ·omega
   ·have:=h3 y hy';omega
def iU:=ZZ.mk (Zq @b7m (Zq @j0 (Zq @j3 (Zq @W9.eq_1 (Zq @ct1 (Zq @ct2 (Zq @ct3 (Zq @or_false (Zq @true_or (Zq @or_true @List.length_append.{0}))))))))))
def yP:=ZZ.mk (Zq iU.d @X0)
theorem a4W(l:List Int)(hl:l.length≤3):y9 Tryd.prog 69 [.own 0 0 l.length] [⟨1,m8 l,0⟩] 1 (fun _:Unit=>True) (fun _=> .own 0 0 (H0 l).length) (fun _=>[⟨1,m8 (H0 l)++List.replicate (l.length-(H0 l).length) [.Z],0⟩]):=by
 match l,hl with
 |[],_=>
  simp only[H0,m8,List.map_nil,List.length_nil,Nat.sub_self,List.replicate_zero,List.append_nil]
  refine Zf Tryd.func69 Tryd.ntmps69 ?_
  repeat' (first|refine Za ?_|(with_reducible constructor<;>first|intro N hN mk hmk|intro N hN|intro h)|refine oG iU.d ?_|fail)
  refine Zr (()) [0] iU.d ?_
  trivial
 |[a],_=>
  simp only[H0,m8,List.map_nil,List.map_cons,List.length_cons,List.length_nil,Nat.sub_self,List.replicate_zero,List.append_nil]
  refine Zf Tryd.func69 Tryd.ntmps69 ?_
  repeat' (first|refine Za ?_|(with_reducible constructor<;>first|intro N hN mk hmk|intro N hN|intro h)|refine oG iU.d ?_|fail)
  refine Zr (()) [0] iU.d ?_
  trivial
 |[a,b],_=>
  by_cases h1:a=b
  ·subst h1
   simp only[H0,if_true,m8,List.map_nil,List.map_cons,List.length_cons,List.length_nil,Nat.reduceAdd,Nat.reduceSub,List.replicate_succ,List.replicate_zero,List.cons_append,List.nil_append,List.append_nil]
   refine Zf Tryd.func69 Tryd.ntmps69 ?_
   repeat' (first|refine Za ?_|(with_reducible constructor<;>first|intro N hN mk hmk|intro N hN|intro h)|(guard_target=~ AK Tryd.prog _ _ _ _;refine y3 [(),(),()] ?_)|refine oG yP.d ?_|fail)
   all_goals first
    |(exfalso;omega)
    |(
      refine Zr (()) [0] iU.d ?_
      trivial)
  ·simp only[H0,h1,if_false,m8,List.map_nil,List.map_cons,List.length_cons,List.length_nil,Nat.reduceAdd,Nat.reduceSub,List.replicate_succ,List.replicate_zero,List.cons_append,List.nil_append,List.append_nil]
   refine Zf Tryd.func69 Tryd.ntmps69 ?_
   repeat' (first|refine Za ?_|(with_reducible constructor<;>first|intro N hN mk hmk|intro N hN|intro h)|(guard_target=~ AK Tryd.prog _ _ _ _;refine y3 [(),(),()] ?_)|refine oG yP.d ?_|fail)
   all_goals first
    |(exfalso;omega)
    |(
      refine Zr (()) [0] iU.d ?_
      trivial)
 |[a,b,c],_=>
  by_cases h1:a=b
  ·subst h1
   by_cases h2:a=c
   ·subst h2
    simp only[H0,if_true,m8,List.map_nil,List.map_cons,List.length_cons,List.length_nil,Nat.reduceAdd,Nat.reduceSub,List.replicate_succ,List.replicate_zero,List.cons_append,List.nil_append,List.append_nil]
    refine Zf Tryd.func69 Tryd.ntmps69 ?_
    repeat' (first|refine Za ?_|(with_reducible constructor<;>first|intro N hN mk hmk|intro N hN|intro h)|(guard_target=~ AK Tryd.prog _ _ _ _;refine y3 [(),(),()] ?_)|refine oG yP.d ?_|fail)
    all_goals first
     |(exfalso;omega)
     |(
       refine Zr (()) [0] iU.d ?_
       trivial)
   ·simp only[H0,h2,if_true,if_false,m8,List.map_nil,List.map_cons,List.length_cons,List.length_nil,Nat.reduceAdd,Nat.reduceSub,List.replicate_succ,List.replicate_zero,List.cons_append,List.nil_append,List.append_nil]
    refine Zf Tryd.func69 Tryd.ntmps69 ?_
    repeat' (first|refine Za ?_|(with_reducible constructor<;>first|intro N hN mk hmk|intro N hN|intro h)|(guard_target=~ AK Tryd.prog _ _ _ _;refine y3 [(),(),()] ?_)|refine oG yP.d ?_|fail)
    all_goals first
     |(exfalso;omega)
     |(
       refine Zr (()) [0] iU.d ?_
       trivial)
  ·by_cases h2:b=c
   ·subst h2
    simp only[H0,h1,if_true,if_false,m8,List.map_nil,List.map_cons,List.length_cons,List.length_nil,Nat.reduceAdd,Nat.reduceSub,List.replicate_succ,List.replicate_zero,List.cons_append,List.nil_append,List.append_nil]
    refine Zf Tryd.func69 Tryd.ntmps69 ?_
    repeat' (first|refine Za ?_|(with_reducible constructor<;>first|intro N hN mk hmk|intro N hN|intro h)|(guard_target=~ AK Tryd.prog _ _ _ _;refine y3 [(),(),()] ?_)|refine oG yP.d ?_|fail)
    all_goals first
     |(exfalso;omega)
     |(
       refine Zr (()) [0] iU.d ?_
       trivial)
   ·simp only[H0,h1,h2,if_false,m8,List.map_nil,List.map_cons,List.length_cons,List.length_nil,Nat.reduceAdd,Nat.reduceSub,List.replicate_succ,List.replicate_zero,List.cons_append,List.nil_append,List.append_nil]
    refine Zf Tryd.func69 Tryd.ntmps69 ?_
    repeat' (first|refine Za ?_|(with_reducible constructor<;>first|intro N hN mk hmk|intro N hN|intro h)|(guard_target=~ AK Tryd.prog _ _ _ _;refine y3 [(),(),()] ?_)|refine oG yP.d ?_|fail)
    all_goals first
     |(exfalso;omega)
     |(
       refine Zr (()) [0] iU.d ?_
       trivial)
end Go.Proofs.YtgdoiokalfhjoaaDoor
end
