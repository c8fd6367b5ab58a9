/- Own work (by an AI agent; no person has read it): part of a proof of the seat YtgdoiokalfhjoaaDoor. -/
import Derived.Test.YtgdoiokalfhjoaaDoorXk
set_option linter.unusedSimpArgs false
set_option linter.unusedVariables false
set_option maxRecDepth 100000
set_option maxHeartbeats 10000000
section
namespace Go.Proofs.YtgdoiokalfhjoaaDoor
open Go.Ab
def kQ(l:List Int)(regs:Int)(L:List l0)(i:Nat):List l0:=(L.take i).flatMap (cI l regs)
theorem zY(l:List Int)(regs:Int)(L:List l0)(i:Nat)(h:i<L.length):kQ l regs L (i+1)=kQ l regs L i++cI l regs (L.getD i I0):=by
 unfold kQ;rw[G6 L i I0 h,List.flatMap_append];simp
theorem b09(l:List Int)(regs:Int)(x:l0):cI l regs x≠[]:=by unfold cI;simp
theorem bY(l inn:List Int)(regs:Int):(P5 l inn regs).length=inn.length:=by simp [P5]
theorem a8E(l:List Int)(regs:Int)(x:l0):(cI l regs x).length≤5:=by
 have h1:=bZ l (w6 x)
 have h2:=fZ x
 unfold cI
 rw[List.length_append,bY,List.length_cons]
 split<;>simp<;>omega
theorem uV(l:List Int)(regs:Int)(L:List l0):∀i,(kQ l regs L i).length≤5*i
 |0=>by simp [kQ]
 |i+1=>by
  by_cases h:i<L.length
  ·have:=uV l regs L i
   have:=a8E l regs (L.getD i I0)
   rw[zY l regs L i h,List.length_append];omega
  ·have:=uV l regs L i
   unfold kQ at*
   rw[List.take_of_length_le (by omega)]at this⊢
   omega
theorem o6(G:List l0)(x:l0):(j5 (G++[x])).take (G.length+1)=j5 (G++[x]):=List.take_of_length_le (by simp [j5])
theorem o7(O G:List l0):(j5 (O++G)).take (O.length+G.length)=j5 (O++G):=List.take_of_length_le (by simp [j5])
theorem o8(O G:List l0)(x:l0):(j5 (O++G++[x])).take (O.length+G.length+1)=j5 (O++G++[x]):=List.take_of_length_le (by simp [j5];omega)
theorem oZ{l:List Int}{regs:Int}{x:l0}(h:Q7 x∈l):cI l regs x=P5 l (A4 l (w6 x)) regs++[{x with a:=K9 x.a (A4 l (w6 x)) regs,b:=K9 x.b (A4 l (w6 x)) regs,c:=K9 x.c (A4 l (w6 x)) regs,d:=kV regs}]++[⟨12,0,b4y l (Q7 x),O0,kV regs,O0,O0⟩]:=by
 unfold cI b1d b7g;rw[if_pos h,if_pos h,rR h,List.append_assoc];rfl
theorem tT{l:List Int}{regs:Int}{x:l0}(h:¬Q7 x∈l):cI l regs x=P5 l (A4 l (w6 x)) regs++[{x with a:=K9 x.a (A4 l (w6 x)) regs,b:=K9 x.b (A4 l (w6 x)) regs,c:=K9 x.c (A4 l (w6 x)) regs}]:=by
 unfold cI b1d;rw[if_neg h,if_neg h]
theorem b5(a b:List l0):j5 a++j5 b=j5 (a++b):=by simp [j5]
end Go.Proofs.YtgdoiokalfhjoaaDoor
end
