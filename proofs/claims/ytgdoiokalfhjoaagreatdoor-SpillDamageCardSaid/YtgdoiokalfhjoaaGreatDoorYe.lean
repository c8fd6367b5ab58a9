/- Own work (by an AI agent; no person has read it): part of a proof of the seat YtgdoiokalfhjoaaGreatDoor. -/
import Derived.Test.YtgdoiokalfhjoaaGreatDoorYd
set_option linter.unusedSimpArgs false
set_option linter.unusedVariables false
set_option maxRecDepth 100000
set_option maxHeartbeats 10000000
section
namespace Go.Proofs.YtgdoiokalfhjoaaGreatDoor
open Go.Ab
theorem a0c(c:List Int)(X:List (List AV)):(c7 c++X).take c.length=c7 c:=by
 rw[List.take_append_of_le_length (by rw[I2];exact Nat.le_refl _),N1]
theorem b4r(q:List Int)(n:Nat)(g:Nat→Nat):List.map (fun(e:List AV)=>List.map (v8 g 3) e) (c7 q++List.replicate n [AV.Z])=c7 q++List.replicate n [AV.Z]:=by
 rw[List.map_append]
 congr 1
 ·simp [c7,v8]
 ·simp [v8]
def fY(ops:List E3):List Int:=(ops.filter fun o=>decide (o.k=2)).map fun o=>o.n
theorem X2(o:E3)(l:List E3):fY (o::l)=if o.k=2 then o.n::fY l else fY l:=by
 unfold fY
 rw[List.filter_cons]
 by_cases h:o.k=2<;>simp [h]
theorem bA:fY []=[]:=rfl
theorem c0Y{ops:List E3}{x:Int}:x∈fY ops↔∃o∈ops,o.k=2∧o.n=x:=by
 unfold fY
 rw[List.mem_map]
 constructor
 ·rintro⟨o,h1,h2⟩
  obtain⟨h3,h4⟩:=List.mem_filter.1 h1
  exact⟨o,h3,by simpa using h4,h2⟩
 ·rintro⟨o,h1,h2,h3⟩
  exact⟨o,List.mem_filter.2 ⟨h1,by simpa using h2⟩,h3⟩
theorem c1q(ops:List E3):E8 (E6 (fY ops))=u1 ops:=by
 refine I9.ext (rM _ (a8a _)) (gB _) fun x=>?_
 rw[jX,b3O,c0Y,dB]
theorem X3{ops:List E3}{l:List Int}(h:fY ops=l):E8 (E6 l)=u1 ops:=by rw[←h];exact c1q ops
theorem F6(l:List Int)(hl:l.length≤3):y6 Tryz.prog 244 [.own 0 0 l.length] [⟨1,c7 (E6 l),0⟩] 1 (fun _:Unit=>True) (fun _=> .own 0 0 (E8 (E6 l)).length) (fun _=>[⟨1,c7 (E8 (E6 l))++List.replicate (l.length-(E8 (E6 l)).length) [.Z],0⟩]):=by
 have C:=a9B (E6 l) (by rw[pQ];exact hl)
 rw[pQ]at C
 exact C
def c1O:=ZZ.mk (Zq L5.d (Zq @Z9 @aG))
theorem b3P:e8 Tryz.prog 249 [.a8 false [],.v (.int .i64 0),.v (.int .i64 0)] (fun _=> .O2 []) (fun _=>[]):=by
 refine Zf Tryz.func249 Tryz.ntmps249 ?_
 repeat' (first|refine Za ?_|(with_reducible constructor<;>first|intro N hN mk hmk|intro N hN|intro h)|(guard_target=~ AK Tryz.prog _ _ _ _;refine x9 [()] ?_)|refine Zt c1O.d ?_|fail)
theorem c1j(d:Int):e8 Tryz.prog 235 [.a8 false [],.v (.int .i64 0),.v (.int .i64 0),.v (.int .i64 d)] (fun _=> .O2 []) (fun _=>[]):=by
 refine Zf Tryz.func235 Tryz.ntmps235 ?_
 repeat' (first|refine Za ?_|(with_reducible constructor<;>first|intro N hN mk hmk|intro N hN|intro h)|(guard_target=~ AK Tryz.prog _ _ _ _;refine x9 [()] ?_)|refine Zc b3P ?_|refine Zt c1O.d ?_|fail)
def c1P:=ZZ.mk (Zq L5.d @Z9)
theorem a8Q:e8 Tryz.prog 188 [.a8 false []] (fun _=> .O2 []) (fun _=>[]):=by
 obtain⟨v,C⟩:=b7g 0 (by omega)
 have C2:=c1j v
 simp only[Int.natCast_zero]at C
 refine Zf Tryz.func188 Tryz.ntmps188 ?_
 repeat' (first|refine Za ?_|(with_reducible constructor<;>first|intro N hN mk hmk|intro N hN|intro h)|refine Zc C ?_|refine Zc C2 ?_|refine Zt c1P.d ?_|fail)
theorem qY:e8 Tryz.prog 244 [.a8 false []] (fun _=> .a8 false []) (fun _=>[]):=by
 refine Zf Tryz.func244 Tryz.ntmps244 ?_
 repeat' (first|refine Za ?_|(with_reducible constructor<;>first|intro N hN mk hmk|intro N hN|intro h)|refine Zt c1P.d ?_|fail)
 all_goals skip
def N9:=ZZ.mk (Zq L5.d (Zq @b4r (Zq @ite_self.{1} (Zq @I2 (Zq @ct1 (Zq @ct2 (Zq @ct3 (Zq @List.length_append.{0} (Zq @Nat.le_add_right (Zq @a0c (Zq @a8t (Zq @m9 (Zq @B4 @aG)))))))))))))
theorem b3c(a b:E3):e8 Tryz.prog 223 [.a8 false (dL [a,b])] (fun _=> .a8 false (c7 (u1 [a,b]))) (fun _=>[]):=by
 obtain⟨ak,an,av⟩:=a
 obtain⟨bk,bn,bv⟩:=b
 by_cases ha:ak=2
 ·by_cases hb:bk=2
  ·have hr:fY [⟨ak,an,av⟩,⟨bk,bn,bv⟩]=[an,bn]:=by simp only[X2,bA,ha,hb,if_true,if_false]
   have e:=X3 hr
   have C1:=bC [an,bn] (by simp)
   have C2:=F6 [an,bn] (by simp)
   rw[e]at C2
   generalize hC:E6 [an,bn]=w at C1 C2
   clear hC e hr
   generalize u1 [⟨ak,an,av⟩,⟨bk,bn,bv⟩]=q at*
   simp only[c7,List.map_cons,List.map_nil,List.length_cons,List.length_nil,Nat.reduceAdd]at C1
   simp only[List.length_cons,List.length_nil,Nat.reduceAdd]at C2
   rw[show(List.map (fun z=>[AV.v (Value.int IntKind.i64 z)]) w)=c7 w from rfl]at C1
   refine Zf Tryz.func223 Tryz.ntmps223 ?_;simp only[dL,E3.av,List.map_cons,List.map_nil]
   repeat' (first|refine Za ?_|(with_reducible constructor<;>first|intro N hN mk hmk|intro N hN|intro h)|(guard_target=~ AK Tryz.prog _ _ _ _;refine x9 [(),(),()] ?_)|(refine Zp C1 [264] (Zq N9.d (Zq ha hb)) ?_;with_reducible intro _ _)|(refine Zp C2 [264] (Zq N9.d (Zq ha hb)) ?_;with_reducible intro _ _)|refine oQ (Zq N9.d (Zq ha hb)) ?_|fail)
  ·have hr:fY [⟨ak,an,av⟩,⟨bk,bn,bv⟩]=[an]:=by simp only[X2,bA,ha,hb,if_true,if_false]
   have e:=X3 hr
   have C1:=bC [an] (by simp)
   have C2:=F6 [an] (by simp)
   rw[e]at C2
   generalize hC:E6 [an]=w at C1 C2
   clear hC e hr
   generalize u1 [⟨ak,an,av⟩,⟨bk,bn,bv⟩]=q at*
   simp only[c7,List.map_cons,List.map_nil,List.length_cons,List.length_nil,Nat.reduceAdd]at C1
   simp only[List.length_cons,List.length_nil,Nat.reduceAdd]at C2
   rw[show(List.map (fun z=>[AV.v (Value.int IntKind.i64 z)]) w)=c7 w from rfl]at C1
   refine Zf Tryz.func223 Tryz.ntmps223 ?_;simp only[dL,E3.av,List.map_cons,List.map_nil]
   repeat' (first|refine Za ?_|(with_reducible constructor<;>first|intro N hN mk hmk|intro N hN|intro h)|(guard_target=~ AK Tryz.prog _ _ _ _;refine x9 [(),(),()] ?_)|(refine Zp C1 [136] (Zq N9.d (Zq ha hb)) ?_;with_reducible intro _ _)|(refine Zp C2 [136] (Zq N9.d (Zq ha hb)) ?_;with_reducible intro _ _)|refine oQ (Zq N9.d (Zq ha hb)) ?_|fail)
 ·by_cases hb:bk=2
  ·have hr:fY [⟨ak,an,av⟩,⟨bk,bn,bv⟩]=[bn]:=by simp only[X2,bA,ha,hb,if_true,if_false]
   have e:=X3 hr
   have C1:=bC [bn] (by simp)
   have C2:=F6 [bn] (by simp)
   rw[e]at C2
   generalize hC:E6 [bn]=w at C1 C2
   clear hC e hr
   generalize u1 [⟨ak,an,av⟩,⟨bk,bn,bv⟩]=q at*
   simp only[c7,List.map_cons,List.map_nil,List.length_cons,List.length_nil,Nat.reduceAdd]at C1
   simp only[List.length_cons,List.length_nil,Nat.reduceAdd]at C2
   rw[show(List.map (fun z=>[AV.v (Value.int IntKind.i64 z)]) w)=c7 w from rfl]at C1
   refine Zf Tryz.func223 Tryz.ntmps223 ?_;simp only[dL,E3.av,List.map_cons,List.map_nil]
   repeat' (first|refine Za ?_|(with_reducible constructor<;>first|intro N hN mk hmk|intro N hN|intro h)|(guard_target=~ AK Tryz.prog _ _ _ _;refine x9 [(),(),()] ?_)|(refine Zp C1 [216] (Zq N9.d (Zq ha hb)) ?_;with_reducible intro _ _)|(refine Zp C2 [216] (Zq N9.d (Zq ha hb)) ?_;with_reducible intro _ _)|refine oQ (Zq N9.d (Zq ha hb)) ?_|fail)
  ·have hr:fY [⟨ak,an,av⟩,⟨bk,bn,bv⟩]=[]:=by simp only[X2,bA,ha,hb,if_true,if_false]
   have e:=X3 hr
   rw[←e]
   refine Zf Tryz.func223 Tryz.ntmps223 ?_;simp only[dL,E3.av,List.map_cons,List.map_nil]
   repeat' (first|refine Za ?_|(with_reducible constructor<;>first|intro N hN mk hmk|intro N hN|intro h)|(guard_target=~ AK Tryz.prog _ _ _ _;refine x9 [(),(),()] ?_)|refine Zc a8Q ?_|refine Zc qY ?_|refine oQ (Zq N9.d (Zq ha hb)) ?_|fail)
   all_goals rfl
theorem b3d(a b c:E3):e8 Tryz.prog 223 [.a8 false (dL [a,b,c])] (fun _=> .a8 false (c7 (u1 [a,b,c]))) (fun _=>[]):=by
 obtain⟨ak,an,av⟩:=a
 obtain⟨bk,bn,bv⟩:=b
 obtain⟨ck,cn,cv⟩:=c
 by_cases ha:ak=2
 ·by_cases hb:bk=2
  ·by_cases hc:ck=2
   ·have hr:fY [⟨ak,an,av⟩,⟨bk,bn,bv⟩,⟨ck,cn,cv⟩]=[an,bn,cn]:=by simp only[X2,bA,ha,hb,hc,if_true,if_false]
    have e:=X3 hr
    have C1:=bC [an,bn,cn] (by simp)
    have C2:=F6 [an,bn,cn] (by simp)
    rw[e]at C2
    generalize hC:E6 [an,bn,cn]=w at C1 C2
    clear hC e hr
    generalize u1 [⟨ak,an,av⟩,⟨bk,bn,bv⟩,⟨ck,cn,cv⟩]=q at*
    simp only[c7,List.map_cons,List.map_nil,List.length_cons,List.length_nil,Nat.reduceAdd]at C1
    simp only[List.length_cons,List.length_nil,Nat.reduceAdd]at C2
    rw[show(List.map (fun z=>[AV.v (Value.int IntKind.i64 z)]) w)=c7 w from rfl]at C1
    refine Zf Tryz.func223 Tryz.ntmps223 ?_;simp only[dL,E3.av,List.map_cons,List.map_nil]
    repeat' (first|refine Za ?_|(with_reducible constructor<;>first|intro N hN mk hmk|intro N hN|intro h)|(guard_target=~ AK Tryz.prog _ _ _ _;refine x9 [(),(),(),()] ?_)|(refine Zp C1 [392] (Zq N9.d (Zq ha (Zq hb hc))) ?_;with_reducible intro _ _)|(refine Zp C2 [392] (Zq N9.d (Zq ha (Zq hb hc))) ?_;with_reducible intro _ _)|refine oQ (Zq N9.d (Zq ha (Zq hb hc))) ?_|fail)
   ·have hr:fY [⟨ak,an,av⟩,⟨bk,bn,bv⟩,⟨ck,cn,cv⟩]=[an,bn]:=by simp only[X2,bA,ha,hb,hc,if_true,if_false]
    have e:=X3 hr
    have C1:=bC [an,bn] (by simp)
    have C2:=F6 [an,bn] (by simp)
    rw[e]at C2
    generalize hC:E6 [an,bn]=w at C1 C2
    clear hC e hr
    generalize u1 [⟨ak,an,av⟩,⟨bk,bn,bv⟩,⟨ck,cn,cv⟩]=q at*
    simp only[c7,List.map_cons,List.map_nil,List.length_cons,List.length_nil,Nat.reduceAdd]at C1
    simp only[List.length_cons,List.length_nil,Nat.reduceAdd]at C2
    rw[show(List.map (fun z=>[AV.v (Value.int IntKind.i64 z)]) w)=c7 w from rfl]at C1
    refine Zf Tryz.func223 Tryz.ntmps223 ?_;simp only[dL,E3.av,List.map_cons,List.map_nil]
    repeat' (first|refine Za ?_|(with_reducible constructor<;>first|intro N hN mk hmk|intro N hN|intro h)|(guard_target=~ AK Tryz.prog _ _ _ _;refine x9 [(),(),(),()] ?_)|(refine Zp C1 [264] (Zq N9.d (Zq ha (Zq hb hc))) ?_;with_reducible intro _ _)|(refine Zp C2 [264] (Zq N9.d (Zq ha (Zq hb hc))) ?_;with_reducible intro _ _)|refine oQ (Zq N9.d (Zq ha (Zq hb hc))) ?_|fail)
  ·by_cases hc:ck=2
   ·have hr:fY [⟨ak,an,av⟩,⟨bk,bn,bv⟩,⟨ck,cn,cv⟩]=[an,cn]:=by simp only[X2,bA,ha,hb,hc,if_true,if_false]
    have e:=X3 hr
    have C1:=bC [an,cn] (by simp)
    have C2:=F6 [an,cn] (by simp)
    rw[e]at C2
    generalize hC:E6 [an,cn]=w at C1 C2
    clear hC e hr
    generalize u1 [⟨ak,an,av⟩,⟨bk,bn,bv⟩,⟨ck,cn,cv⟩]=q at*
    simp only[c7,List.map_cons,List.map_nil,List.length_cons,List.length_nil,Nat.reduceAdd]at C1
    simp only[List.length_cons,List.length_nil,Nat.reduceAdd]at C2
    rw[show(List.map (fun z=>[AV.v (Value.int IntKind.i64 z)]) w)=c7 w from rfl]at C1
    refine Zf Tryz.func223 Tryz.ntmps223 ?_;simp only[dL,E3.av,List.map_cons,List.map_nil]
    repeat' (first|refine Za ?_|(with_reducible constructor<;>first|intro N hN mk hmk|intro N hN|intro h)|(guard_target=~ AK Tryz.prog _ _ _ _;refine x9 [(),(),(),()] ?_)|(refine Zp C1 [344] (Zq N9.d (Zq ha (Zq hb hc))) ?_;with_reducible intro _ _)|(refine Zp C2 [344] (Zq N9.d (Zq ha (Zq hb hc))) ?_;with_reducible intro _ _)|refine oQ (Zq N9.d (Zq ha (Zq hb hc))) ?_|fail)
   ·have hr:fY [⟨ak,an,av⟩,⟨bk,bn,bv⟩,⟨ck,cn,cv⟩]=[an]:=by simp only[X2,bA,ha,hb,hc,if_true,if_false]
    have e:=X3 hr
    have C1:=bC [an] (by simp)
    have C2:=F6 [an] (by simp)
    rw[e]at C2
    generalize hC:E6 [an]=w at C1 C2
    clear hC e hr
    generalize u1 [⟨ak,an,av⟩,⟨bk,bn,bv⟩,⟨ck,cn,cv⟩]=q at*
    simp only[c7,List.map_cons,List.map_nil,List.length_cons,List.length_nil,Nat.reduceAdd]at C1
    simp only[List.length_cons,List.length_nil,Nat.reduceAdd]at C2
    rw[show(List.map (fun z=>[AV.v (Value.int IntKind.i64 z)]) w)=c7 w from rfl]at C1
    refine Zf Tryz.func223 Tryz.ntmps223 ?_;simp only[dL,E3.av,List.map_cons,List.map_nil]
    repeat' (first|refine Za ?_|(with_reducible constructor<;>first|intro N hN mk hmk|intro N hN|intro h)|(guard_target=~ AK Tryz.prog _ _ _ _;refine x9 [(),(),(),()] ?_)|(refine Zp C1 [136] (Zq N9.d (Zq ha (Zq hb hc))) ?_;with_reducible intro _ _)|(refine Zp C2 [136] (Zq N9.d (Zq ha (Zq hb hc))) ?_;with_reducible intro _ _)|refine oQ (Zq N9.d (Zq ha (Zq hb hc))) ?_|fail)
 ·by_cases hb:bk=2
  ·by_cases hc:ck=2
   ·have hr:fY [⟨ak,an,av⟩,⟨bk,bn,bv⟩,⟨ck,cn,cv⟩]=[bn,cn]:=by simp only[X2,bA,ha,hb,hc,if_true,if_false]
    have e:=X3 hr
    have C1:=bC [bn,cn] (by simp)
    have C2:=F6 [bn,cn] (by simp)
    rw[e]at C2
    generalize hC:E6 [bn,cn]=w at C1 C2
    clear hC e hr
    generalize u1 [⟨ak,an,av⟩,⟨bk,bn,bv⟩,⟨ck,cn,cv⟩]=q at*
    simp only[c7,List.map_cons,List.map_nil,List.length_cons,List.length_nil,Nat.reduceAdd]at C1
    simp only[List.length_cons,List.length_nil,Nat.reduceAdd]at C2
    rw[show(List.map (fun z=>[AV.v (Value.int IntKind.i64 z)]) w)=c7 w from rfl]at C1
    refine Zf Tryz.func223 Tryz.ntmps223 ?_;simp only[dL,E3.av,List.map_cons,List.map_nil]
    repeat' (first|refine Za ?_|(with_reducible constructor<;>first|intro N hN mk hmk|intro N hN|intro h)|(guard_target=~ AK Tryz.prog _ _ _ _;refine x9 [(),(),(),()] ?_)|(refine Zp C1 [344] (Zq N9.d (Zq ha (Zq hb hc))) ?_;with_reducible intro _ _)|(refine Zp C2 [344] (Zq N9.d (Zq ha (Zq hb hc))) ?_;with_reducible intro _ _)|refine oQ (Zq N9.d (Zq ha (Zq hb hc))) ?_|fail)
   ·have hr:fY [⟨ak,an,av⟩,⟨bk,bn,bv⟩,⟨ck,cn,cv⟩]=[bn]:=by simp only[X2,bA,ha,hb,hc,if_true,if_false]
    have e:=X3 hr
    have C1:=bC [bn] (by simp)
    have C2:=F6 [bn] (by simp)
    rw[e]at C2
    generalize hC:E6 [bn]=w at C1 C2
    clear hC e hr
    generalize u1 [⟨ak,an,av⟩,⟨bk,bn,bv⟩,⟨ck,cn,cv⟩]=q at*
    simp only[c7,List.map_cons,List.map_nil,List.length_cons,List.length_nil,Nat.reduceAdd]at C1
    simp only[List.length_cons,List.length_nil,Nat.reduceAdd]at C2
    rw[show(List.map (fun z=>[AV.v (Value.int IntKind.i64 z)]) w)=c7 w from rfl]at C1
    refine Zf Tryz.func223 Tryz.ntmps223 ?_;simp only[dL,E3.av,List.map_cons,List.map_nil]
    repeat' (first|refine Za ?_|(with_reducible constructor<;>first|intro N hN mk hmk|intro N hN|intro h)|(guard_target=~ AK Tryz.prog _ _ _ _;refine x9 [(),(),(),()] ?_)|(refine Zp C1 [216] (Zq N9.d (Zq ha (Zq hb hc))) ?_;with_reducible intro _ _)|(refine Zp C2 [216] (Zq N9.d (Zq ha (Zq hb hc))) ?_;with_reducible intro _ _)|refine oQ (Zq N9.d (Zq ha (Zq hb hc))) ?_|fail)
  ·by_cases hc:ck=2
   ·have hr:fY [⟨ak,an,av⟩,⟨bk,bn,bv⟩,⟨ck,cn,cv⟩]=[cn]:=by simp only[X2,bA,ha,hb,hc,if_true,if_false]
    have e:=X3 hr
    have C1:=bC [cn] (by simp)
    have C2:=F6 [cn] (by simp)
    rw[e]at C2
    generalize hC:E6 [cn]=w at C1 C2
    clear hC e hr
    generalize u1 [⟨ak,an,av⟩,⟨bk,bn,bv⟩,⟨ck,cn,cv⟩]=q at*
    simp only[c7,List.map_cons,List.map_nil,List.length_cons,List.length_nil,Nat.reduceAdd]at C1
    simp only[List.length_cons,List.length_nil,Nat.reduceAdd]at C2
    rw[show(List.map (fun z=>[AV.v (Value.int IntKind.i64 z)]) w)=c7 w from rfl]at C1
    refine Zf Tryz.func223 Tryz.ntmps223 ?_;simp only[dL,E3.av,List.map_cons,List.map_nil]
    repeat' (first|refine Za ?_|(with_reducible constructor<;>first|intro N hN mk hmk|intro N hN|intro h)|(guard_target=~ AK Tryz.prog _ _ _ _;refine x9 [(),(),(),()] ?_)|(refine Zp C1 [296] (Zq N9.d (Zq ha (Zq hb hc))) ?_;with_reducible intro _ _)|(refine Zp C2 [296] (Zq N9.d (Zq ha (Zq hb hc))) ?_;with_reducible intro _ _)|refine oQ (Zq N9.d (Zq ha (Zq hb hc))) ?_|fail)
   ·have hr:fY [⟨ak,an,av⟩,⟨bk,bn,bv⟩,⟨ck,cn,cv⟩]=[]:=by simp only[X2,bA,ha,hb,hc,if_true,if_false]
    have e:=X3 hr
    rw[←e]
    refine Zf Tryz.func223 Tryz.ntmps223 ?_;simp only[dL,E3.av,List.map_cons,List.map_nil]
    repeat' (first|refine Za ?_|(with_reducible constructor<;>first|intro N hN mk hmk|intro N hN|intro h)|(guard_target=~ AK Tryz.prog _ _ _ _;refine x9 [(),(),(),()] ?_)|refine Zc a8Q ?_|refine Zc qY ?_|refine oQ (Zq N9.d (Zq ha (Zq hb hc))) ?_|fail)
    all_goals rfl
theorem a9H{α:Type}(l:List α)(i:Nat)(d:α)(h:i<l.length):l.drop i=l.getD i d::l.drop (i+1):=by
 rw[List.drop_eq_getElem_cons h,List.getD_eq_getElem?_getD,List.getElem?_eq_getElem h];rfl
def c1M:=ZZ.mk (Zq fM.d (Zq @e7.av.eq_1 (Zq @q9.av.eq_1 (Zq @O3 (Zq @eX (Zq @cA @L1))))))
def lists(l:List (List Int)):List (List AV):=l.map fun x=>[.a8 false (c7 x)]
theorem a3a(l:List (List Int)):(lists l).length=l.length:=by simp [lists]
theorem iQ(l:List (List Int))(z:Nat)(h:z<l.length):(lists l)[z]?=some [.a8 false (c7 (l.getD z []))]:=by simp [lists,h,List.getD_eq_getElem?_getD]
theorem tC(l:List (List Int)):(∀e∈lists l,e.length=1)=True:=by simp [lists]
theorem dF(l:List (List Int)):((lists l).all fun e=>e.all AV.plain)=true:=by simp [lists,AV.plain]
theorem oA(l:List (List Int)):v7 (lists l)=true:=dF l
def gC(inn:List (List Int))(l:List Int):List Int:=l.foldl (fun s to=>D5 s (inn.getD to.toNat [])) []
theorem b0E(inn:List (List Int))(l:List Int)(i:Nat)(h:i<l.length):gC inn (l.take (i+1))=D5 (gC inn (l.take i)) (inn.getD (l.getD i 0).toNat []):=by
 rw[w9 l i 0 h];unfold gC;rw[List.foldl_append];rfl
theorem nZ(t:q9):(m7 t).length≤2:=by
 unfold m7
 split
 ·simp
 ·split<;>simp
theorem L2{l:List Int}{i:Nat}(h:i<l.length):l.getD i 0∈l:=by
 rw[List.getD_eq_getElem?_getD,List.getElem?_eq_getElem h];exact List.getElem_mem h
def u3(l:List Bool):List (List AV):=l.map fun z=>[.v (.bool z)]
theorem Q8(l:List Bool):(u3 l).length=l.length:=by simp [u3]
theorem T6(l:List Bool)(z:Nat)(h:z<l.length):(u3 l)[z]?=some [.v (.bool (l.getD z false))]:=by simp [u3,h,List.getD_eq_getElem?_getD]
theorem cY(l:List Bool):(∀e∈u3 l,e.length=1)=True:=by
 simp only[eq_iff_iff,iff_true,u3,List.mem_map]
 rintro e ⟨_,_,rfl⟩
 rfl
theorem Y6(l:List Bool):((u3 l).all fun e=>e.all AV.plain)=true:=by simp [u3,AV.plain]
theorem aC(l:List Bool):v7 (u3 l)=true:=Y6 l
theorem kJ(l:List Bool)(k:Nat)(v:Bool):(u3 l).modify k (fun e=>o6 e 0 [.v (.bool v)])=u3 (l.set k v):=by
 apply List.ext_getElem?
 intro j
 rw[List.getElem?_modify]
 simp only[u3,List.getElem?_map,List.getElem?_set]
 by_cases h:k=j
 ·subst h
  by_cases h2:k<l.length
  ·simp [h2,o6]
  ·simp [h2]
 ·simp [h]
theorem Z7(l:List Bool):(u3 l).take l.length=u3 l:=by rw[←Q8,List.take_length]
theorem kK(n:Nat):List.replicate n [AV.v (.bool false)]=u3 (List.replicate n false):=by simp [u3]
theorem pW(out:List Bool)(l:List Int)(i:Nat)(h:i<l.length):Z1 out (l.take (i+1))=(Z1 out (l.take i)).set (l.getD i 0).toNat true:=by
 rw[w9 l i 0 h];unfold Z1;rw[List.foldl_append];rfl
theorem b3Y(l:List Int)(out:List Bool)(b:Nat)(h:out.getD b false=true):(Z1 out l).getD b false=true:=by
 induction l generalizing out with
 |nil=>exact h
 |cons a l ih=>
  refine ih (out.set a.toNat true) ?_
  rw[Y8];split
  ·rfl
  ·exact h
theorem b3T(bs:List b6)(out:List Bool)(b:Nat):(dM bs out b).length=out.length:=by
 unfold dM
 split
 ·exact U8 _ _
 ·rfl
theorem xM(bs:List b6)(out:List Bool):∀n,(Y3 bs out n).length=out.length
 |0=>rfl
 |n+1=>by show(dM bs (Y3 bs out n) n).length=_;rw[b3T,xM bs out n]
theorem xO(bs:List b6)(out:List Bool):∀n,(F8 bs out n).length=out.length
 |0=>rfl
 |n+1=>by show(Y3 bs (F8 bs out n) _).length=_;rw[xM,xO bs out n]
def gH:=ZZ.mk (Zq fM.d (Zq @List.length_replicate.{0} (Zq @List.length_set.{0} (Zq @Q8 (Zq @T6 (Zq @cY (Zq @Y6 (Zq @aC (Zq @kJ (Zq @Z7 (Zq @kK (Zq @q9.av.eq_1 (Zq @D4 (Zq @Q7 (Zq @N7 (Zq @O5 @b6.av.eq_1))))))))))))))))
def vT:=ZZ.mk (Zq L5.d (Zq @Y6 (Zq @aC @O5)))
theorem b4d(c:Code)(hc:bU c.b)(hn:c.b.length≤1000):e8 Tryz.prog 52 [.agg c.av] (fun _=> .a8 false (u3 (reachF c.b))) (fun _=>[]):=by
 have h1:=hc.1
 rw[←b0r hc]
 generalize hbs':c.b=bs at*
 have hl0:(Z3 bs.length).length=bs.length:=by simp [Z3]
 refine Zf Tryz.func52 Tryz.ntmps52 ?_;simp only[Code.av,hbs']
 repeat' (first|refine Za ?_|(with_reducible constructor<;>first|intro N hN mk hmk|intro N hN|intro h)|refine Zt gH.d ?_|fail)
 refine l8 (fun k=>⟨[.Z,.ptr 0 0 0,.Z,.own 1 0 bs.length,.v (.int .i64 k),.Z,.Z,.Z,.Z,.Z,.Z,.Z,.Z,.Z,.Z,.Z,.Z,.Z,.Z,.Z,.Z,.Z,.Z,.Z,.Z,.Z,.Z,.Z,.Z,.Z,.Z,.Z,.Z,.Z,.Z,.Z,.Z,.Z,.Z,.Z,.Z,.Z,.Z,.Z,.Z,.Z,.Z,.Z,.Z,.Z,.Z,.Z,.Z,.Z],[(0,.live ⟨8,[[.v (.int .i64 c.group),.v (.int .i64 c.sub),.v (.int .i64 c.regs),.v (.int .i64 c.w5),.v (.int .i64 c.params),.a8 false (y4 c.c9),.a8 false (loops c.loops),.a8 false (o0 bs)]],0⟩),(1,.live ⟨1,u3 (F8 bs (Z3 bs.length) k),0⟩)],2⟩) bs.length (Zw [1,3,4] [0,40] gH.d ?_) ?_
 ·rfl
 ·intro k hk
  have hlk:(F8 bs (Z3 bs.length) k).length=bs.length:=by rw[xO,hl0]
  obtain⟨O,hO⟩:∃O,O=F8 bs (Z3 bs.length) k:=⟨_,rfl⟩
  rw[←hO]at hlk⊢
  repeat' (first|refine Za ?_|(with_reducible constructor<;>first|intro N hN mk hmk|intro N hN|intro h)|refine Zt gH.d ?_|fail)
  ·refine l8 (fun b=>⟨[.Z,.ptr 0 0 0,.Z,.own 1 0 bs.length,.v (.int .i64 k),.v (.int .i64 b),.Z,.Z,.Z,.Z,.Z,.Z,.Z,.Z,.Z,.Z,.Z,.Z,.Z,.Z,.Z,.Z,.Z,.Z,.Z,.Z,.Z,.Z,.Z,.Z,.Z,.Z,.Z,.Z,.Z,.Z,.Z,.Z,.Z,.Z,.Z,.Z,.Z,.Z,.Z,.Z,.Z,.Z,.Z,.Z,.Z,.Z,.Z,.Z],[(0,.live ⟨8,[[.v (.int .i64 c.group),.v (.int .i64 c.sub),.v (.int .i64 c.regs),.v (.int .i64 c.w5),.v (.int .i64 c.params),.a8 false (y4 c.c9),.a8 false (loops c.loops),.a8 false (o0 bs)]],0⟩),(1,.live ⟨1,u3 (Y3 bs O b),0⟩)],2⟩) bs.length (Zw [1,3,4,5] [0,1] gH.d ?_) ?_
   ·rfl
   ·intro b hb
    have hlb:(Y3 bs O b).length=bs.length:=by rw[xM,hlk]
    obtain⟨U,hU⟩:∃U,U=Y3 bs O b:=⟨_,rfl⟩
    rw[←hU]at hlb⊢
    have C:=b7O (bs.getD b B0).t
    simp only[q9.av]at C
    repeat' (first|refine Za ?_|(with_reducible constructor<;>first|intro N hN mk hmk|intro N hN|intro h)|refine Zc C ?_|refine Zt gH.d ?_|fail)
    ·obtain⟨t,ht⟩:∃t,t=(bs.getD b B0).t:=⟨_,rfl⟩
     rw[←ht]
     have hs:∀to∈m7 t,0≤to∧to<bs.length:=by rw[ht];exact hc.2 _ (S5 (show b<bs.length by omega))
     have hl2:=nZ t
     by_cases hu:U.getD b false=true
     ·have e1:Y3 bs O (b+1)=Z1 U (m7 t):=by
       show dM bs (Y3 bs O b) b=_
       rw[←hU,ht];unfold dM;rw[if_pos hu];rfl
      rw[e1]
      refine l8 (fun i=>⟨[.Z,.ptr 0 0 0,.Z,.own 1 0 bs.length,.v (.int .i64 k),.v (.int .i64 b),.a8 false (c7 (m7 t)),.v (.int .i64 i),.Z,.Z,.Z,.Z,.Z,.Z,.Z,.Z,.Z,.Z,.Z,.Z,.Z,.Z,.Z,.Z,.Z,.Z,.Z,.Z,.Z,.Z,.Z,.Z,.Z,.Z,.Z,.Z,.Z,.Z,.Z,.Z,.Z,.Z,.Z,.Z,.Z,.Z,.Z,.Z,.Z,.Z,.Z,.Z,.Z,.Z],[(0,.live ⟨8,[[.v (.int .i64 c.group),.v (.int .i64 c.sub),.v (.int .i64 c.regs),.v (.int .i64 c.w5),.v (.int .i64 c.params),.a8 false (y4 c.c9),.a8 false (loops c.loops),.a8 false (o0 bs)]],0⟩),(1,.live ⟨1,u3 (Z1 U ((m7 t).take i)),0⟩)],2⟩) (m7 t).length (Zw [1,3,4,5,6,7] [0,1] gH.d ?_) ?_
      ·rfl
      ·intro i hi
       have hm:=b3Y ((m7 t).take i) U b hu
       have hml:(Z1 U ((m7 t).take i)).length=bs.length:=by rw[U8];exact hlb
       by_cases hin:i<(m7 t).length
       ·have hto:=hs _ (L2 hin)
        repeat' (first|refine Za ?_|(with_reducible constructor<;>first|intro N hN mk hmk|intro N hN|intro h)|refine Zt (Zq gH.d hm) ?_|fail)
        all_goals first|(exfalso;omega)|(refine Zw [1,3,4,5,6,7] [0,1] (Zq gH.d hm) ?_;rw[pW U (m7 t) i hin];rfl)
       ·have e:(m7 t).take i=m7 t:=List.take_of_length_le (by omega)
        rw[e]at hml hm⊢
        repeat' (first|refine Za ?_|(with_reducible constructor<;>first|intro N hN mk hmk|intro N hN|intro h)|refine Zt (Zq gH.d hm) ?_|fail)
        all_goals first|(exfalso;omega)|(refine Zw [1,3,4,5] [0,1] (Zq gH.d hm) ?_;rfl)
     ·have e1:Y3 bs O (b+1)=U:=by
       show dM bs (Y3 bs O b) b=_
       rw[←hU];unfold dM;rw[if_neg hu]
      rw[e1]
      have hm:U.getD b false=false:=by simpa using hu
      refine l8 (fun i=>⟨[.Z,.ptr 0 0 0,.Z,.own 1 0 bs.length,.v (.int .i64 k),.v (.int .i64 b),.a8 false (c7 (m7 t)),.v (.int .i64 i),.Z,.Z,.Z,.Z,.Z,.Z,.Z,.Z,.Z,.Z,.Z,.Z,.Z,.Z,.Z,.Z,.Z,.Z,.Z,.Z,.Z,.Z,.Z,.Z,.Z,.Z,.Z,.Z,.Z,.Z,.Z,.Z,.Z,.Z,.Z,.Z,.Z,.Z,.Z,.Z,.Z,.Z,.Z,.Z,.Z,.Z],[(0,.live ⟨8,[[.v (.int .i64 c.group),.v (.int .i64 c.sub),.v (.int .i64 c.regs),.v (.int .i64 c.w5),.v (.int .i64 c.params),.a8 false (y4 c.c9),.a8 false (loops c.loops),.a8 false (o0 bs)]],0⟩),(1,.live ⟨1,u3 U,0⟩)],2⟩) 0 (Zw [1,3,4,5,6,7] [0,1] (Zq gH.d hm) ?_) ?_
      ·rfl
      ·intro i hi
       obtain rfl:i=0:=by omega
       repeat' (first|refine Za ?_|(with_reducible constructor<;>first|intro N hN mk hmk|intro N hN|intro h)|refine Zt (Zq gH.d hm) ?_|fail)
       all_goals first|(exfalso;omega)|(refine Zw [1,3,4,5] [0,1] (Zq gH.d hm) ?_;rfl)
    ·obtain rfl:b=bs.length:=by omega
     refine Zw [1,3,4] [0,1] vT.d ?_
     rw[hU,hO];rfl
  ·obtain rfl:k=bs.length:=by omega
   have ht:(u3 O).take bs.length=u3 O:=by rw[←hlk];exact Z7 O
   rw[ht,if_pos (by omega),if_pos (Y6 O),hO]
def b2W:=ZZ.mk (Zq L5.d @E3.av.eq_1)
theorem wO(i:e7):e8 Tryz.prog 162 [.agg i.av] (fun _=> .a8 false (c7 (o5 i))) (fun _=>[]):=by
 have C:=b3d i.a i.b i.c
 simp only[dL,List.map_cons,List.map_nil,E3.av]at C
 refine Zf Tryz.func162 Tryz.ntmps162 ?_;simp only[e7.av]
 repeat' (first|refine Za ?_|(with_reducible constructor<;>first|intro N hN mk hmk|intro N hN|intro h)|(refine H5 C ?_ rfl ?_ ?_;(next=>(simp (disch:=omega) only[b2W.d,u6,Nat.reduceBEq,AV.plain,Nat.reduceAdd,Nat.reduceLeDiff,Nat.reduceLT,↓reduceIte,sF]<;>first|done|rfl));(next=>(simp only[apply_ite List.length,List.length_cons,List.length_nil]<;>(try split)<;>omega)))|(refine F1 C ?_ rfl ?_ ?_;(next=>(simp (disch:=omega) only[b2W.d,u6,Nat.reduceBEq,AV.plain,Nat.reduceAdd,Nat.reduceLeDiff,Nat.reduceLT,↓reduceIte,sF]<;>first|done|rfl));(next=>(simp only[apply_ite List.length,List.length_cons,List.length_nil]<;>(try split)<;>omega)))|refine Zt b2W.d ?_|fail)
 all_goals rfl
theorem pH(t:q9):e8 Tryz.prog 195 [.agg t.av] (fun _=> .a8 false (c7 (n6 t))) (fun _=>[]):=by
 have C:=b3c t.a t.b
 simp only[dL,List.map_cons,List.map_nil,E3.av]at C
 refine Zf Tryz.func195 Tryz.ntmps195 ?_;simp only[q9.av]
 repeat' (first|refine Za ?_|(with_reducible constructor<;>first|intro N hN mk hmk|intro N hN|intro h)|(refine H5 C ?_ rfl ?_ ?_;(next=>(simp (disch:=omega) only[b2W.d,u6,Nat.reduceBEq,AV.plain,Nat.reduceAdd,Nat.reduceLeDiff,Nat.reduceLT,↓reduceIte,sF]<;>first|done|rfl));(next=>(simp only[apply_ite List.length,List.length_cons,List.length_nil]<;>(try split)<;>omega)))|(refine F1 C ?_ rfl ?_ ?_;(next=>(simp (disch:=omega) only[b2W.d,u6,Nat.reduceBEq,AV.plain,Nat.reduceAdd,Nat.reduceLeDiff,Nat.reduceLT,↓reduceIte,sF]<;>first|done|rfl));(next=>(simp only[apply_ite List.length,List.length_cons,List.length_nil]<;>(try split)<;>omega)))|refine Zt b2W.d ?_|fail)
 all_goals rfl
def b2X:=ZZ.mk (Zq L5.d @L4.eq_1)
theorem wP(l:List Int)(n:Int)(hl:aY l)(hn:n<64):e8 Tryz.prog 84 [L4 l,.v (.int .i64 n)] (fun _=>L4 (bQ l n)) (fun _=>[]):=by
 by_cases h:0≤n
 ·have e1:Int.tdiv n 64=0:=Int.tdiv_eq_zero_of_lt h hn
  have e2:Int.tmod n 64=n:=Int.tmod_eq_of_lt h hn
  have e3:=c1h hl ⟨h,hn⟩
  have e4:bQ l n=B5 l n:=by unfold bQ;rw[if_neg (by omega)]
  refine Zf Tryz.func84 Tryz.ntmps84 ?_;simp only[L4]
  repeat' (first|refine Za ?_|(with_reducible constructor<;>first|intro N hN mk hmk|intro N hN|intro h)|refine Zt (Zq b2X.d (Zq e1 (Zq e2 (Zq e3 e4)))) ?_|fail)
  all_goals rfl
 ·have e4:bQ l n=l:=by unfold bQ;rw[if_pos (by omega)]
  refine Zf Tryz.func84 Tryz.ntmps84 ?_;simp only[L4]
  repeat' (first|refine Za ?_|(with_reducible constructor<;>first|intro N hN mk hmk|intro N hN|intro h)|refine Zt (Zq b2X.d e4) ?_|fail)
  all_goals rfl
theorem qU(l:List Int)(n:Int)(hl:aY l)(hn:n<64):e8 Tryz.prog 160 [L4 l,.v (.int .i64 n)] (fun _=>L4 (P5 l n)) (fun _=>[]):=by
 by_cases h:0≤n
 ·have e1:Int.tdiv n 64=0:=Int.tdiv_eq_zero_of_lt h hn
  have e2:Int.tmod n 64=n:=Int.tmod_eq_of_lt h hn
  have e3:=wC hl ⟨h,hn⟩
  refine Zf Tryz.func160 Tryz.ntmps160 ?_;simp only[L4]
  repeat' (first|refine Za ?_|(with_reducible constructor<;>first|intro N hN mk hmk|intro N hN|intro h)|refine Zt (Zq b2X.d (Zq e1 (Zq e2 e3))) ?_|fail)
  all_goals rfl
 ·have e4:P5 l n=l:=by
   unfold P5
   refine List.filter_eq_self.2 fun x hx=>?_
   have:=(hl x hx).1
   simp;omega
  refine Zf Tryz.func160 Tryz.ntmps160 ?_;simp only[L4]
  repeat' (first|refine Za ?_|(with_reducible constructor<;>first|intro N hN mk hmk|intro N hN|intro h)|refine Zt (Zq b2X.d e4) ?_|fail)
  all_goals rfl
def c4W:=ZZ.mk (Zq b2X.d @aG)
theorem pG(a b:List Int)(ha:aY a)(hb:aY b):e8 Tryz.prog 161 [L4 a,L4 b] (fun _=>L4 (D5 a b)) (fun _=>[]):=by
 have e3:=b7F ha hb
 have e4:=c5m
 refine Zf Tryz.func161 Tryz.ntmps161 ?_;simp only[L4]
 repeat' (first|refine Za ?_|(with_reducible constructor<;>first|intro N hN mk hmk|intro N hN|intro h)|(guard_target=~ AK Tryz.prog _ _ _ _;refine x9 [(),(),(),(),()] ?_)|refine oQ (Zq c4W.d (Zq e3 e4)) ?_|fail)
 all_goals rfl
theorem c1e(l:List Int)(i:Nat)(h:i<l.length):D5 [] (l.take (i+1))=B5 (D5 [] (l.take i)) (l.getD i 0):=b0M [] l i h
def b5C:=ZZ.mk (Zq gF.d @L4.eq_1)
theorem a3K(l:List Int)(hl:aY l)(hn:l.length≤100000):e8 Tryz.prog 81 [.a8 false (c7 l)] (fun _=>L4 (D5 [] l)) (fun _=>[]):=by
 refine Zf Tryz.func81 Tryz.ntmps81 ?_
 repeat' (first|refine Za ?_|(with_reducible constructor<;>first|intro N hN mk hmk|intro N hN|intro h)|refine Zt b5C.d ?_|fail)
 refine l8 (fun i=>⟨[.a8 false (c7 l),.Z,.ptr 0 0 0,.ptr 1 0 0,.Z,.Z,.a8 false (c7 l),.v (.int .i64 l.length),.v (.int .i64 i),.Z,.Z,.Z,.Z,.Z,.Z,.Z,.Z],[(0,.live ⟨4,[[.v (.int .u64 0),.v (.int .u64 0),.v (.int .u64 0),.v (.int .u64 0)]],0⟩),(1,.live ⟨4,[[.v (.int .u64 (D3 (D5 [] (l.take i)))),.v (.int .u64 0),.v (.int .u64 0),.v (.int .u64 0)]],0⟩)],2⟩) l.length (Zw [0,2,3,6,7,8] [0,8] b5C.d ?_) ?_
 ·simp [D5,D3]
 ·intro i hi
  by_cases hlt:i<l.length
  ·have hm:l.getD i 0∈l:=by rw[List.getD_eq_getElem?_getD,List.getElem?_eq_getElem hlt];exact List.getElem_mem hlt
   have hr:=hl _ hm
   have hu:aY (D5 [] (l.take i)):=aY.nil.union fun x hx=>hl x (List.mem_of_mem_take hx)
   have C:=wP (D5 [] (l.take i)) (l.getD i 0) hu hr.2
   rw[show bQ (D5 [] (l.take i)) (l.getD i 0)=D5 [] (l.take (i+1))from by rw[c1e l i hlt,bQ,if_neg (by omega)]]at C
   repeat' (first|refine Za ?_|(with_reducible constructor<;>first|intro N hN mk hmk|intro N hN|intro h)|refine Zc C ?_|refine Zt b5C.d ?_|fail)
   refine Zw [0,2,3,6,7,8] [0,1] b5C.d ?_
   rfl
  ·obtain rfl:i=l.length:=by omega
   repeat' (first|refine Za ?_|(with_reducible constructor<;>first|intro N hN mk hmk|intro N hN|intro h)|refine Zt b5C.d ?_|fail)
   rw[List.take_length]
theorem a89{a l:List Int}(ha:I9 a):D5 a (D5 [] l)=D5 a l:=by
 refine I9.ext (cW ha) (cW ha) fun x=>?_
 rw[Q9,Q9,Q9];simp
theorem wJ(x:e7)(l:List Int)(hl:aY l)(sl:I9 l)(hd:E9 x<64)(hu:aY (o5 x)):e8 Tryz.prog 85 [.agg x.av,L4 l] (fun _=>L4 (U1 x l)) (fun _=>[]):=by
 have C1:=sU x
 have C2:=wO x
 have h1:=cC x
 have C3:=qU l (E9 x) hl hd
 have C5:=a3K (o5 x) hu (by omega)
 have C4:=pG (P5 l (E9 x)) (D5 [] (o5 x)) hl.iX (aY.nil.union hu)
 rw[a89 (fT sl _)]at C4
 simp only[e7.av]at C1 C2
 refine Zf Tryz.func85 Tryz.ntmps85 ?_;simp only[e7.av,L4]
 repeat' (first|refine Za ?_|(with_reducible constructor<;>first|intro N hN mk hmk|intro N hN|intro h)|refine Zc C1 ?_|refine Zc C2 ?_|refine Zc C3 ?_|refine Zc C5 ?_|refine Zc C4 ?_|refine Zt b2X.d ?_|fail)
 all_goals rfl
theorem c1S(L:List e7):e8 Tryz.prog 83 [.a8 false (c6 L)] (fun n=> .fn 159 [.ptr n 0 0]) (fun n=>[⟨1,[[.a8 false (c6 L)]],0⟩]):=by
 (refine dE Tryz.func83 rfl (by kernel_rfl) ?_;rw[gO Tryz.ntmps83];simp only[List.replicate_succ,List.replicate_zero,List.cons_append,List.nil_append,List.length_cons,List.length_nil,Nat.reduceAdd,Nat.reduceSub];refine u4 ?_)
 repeat' (first|refine Za ?_|(with_reducible constructor<;>first|intro N hN mk hmk|intro N hN|intro h)|refine Zt L5.d ?_|fail)
 exact⟨[0],by decide,fun nid=>⟨by simp only[c5,n9,b5,c8,n5,w8,AV.plain,Nat.reduceBEq,↓reduceIte,Nat.reduceEqDiff,Nat.reduceAdd,sC],by simp only[c5,n9,b5,c8,n5,w8,AV.plain,Nat.reduceBEq,↓reduceIte,Nat.reduceEqDiff,Nat.reduceAdd,sC]⟩⟩
theorem a3V(L:List e7)(out:List Int):(bY L.length L.length).foldl (fun s i=>U1 (L.getD i I0) s) out=L.foldr U1 out:=by
 have:∀k,k≤L.length→(bY L.length k).foldl (fun s i=>U1 (L.getD i I0) s) out=(L.drop (L.length-k)).foldr U1 out:=by
  intro k
  induction k with
  |zero=>intro _;simp [bY]
  |succ k ih=>
   intro hk
   rw[qZ,List.foldl_append,ih (by omega),show L.length-k=(L.length-(k+1))+1 from by omega,List.drop_eq_getElem_cons (i:=L.length-(k+1)) (by omega),List.foldr_cons]
   simp only[List.foldl_cons,List.foldl_nil]
   rw[show L.length-1-k=L.length-(k+1)from by omega,List.getD_eq_getElem?_getD,List.getElem?_eq_getElem (by omega)]
   rfl
 rw[this _ (Nat.le_refl _),Nat.sub_self,List.drop_zero]
theorem a90(l:List e7)(i:Nat):List.take ((l.length:Int)-i).toNat (List.drop i (c6 l))=c6 (l.drop i):=by
 unfold c6
 rw[←List.map_drop,←List.map_take]
 rw[List.take_of_length_le (by simp)]
def dW(L:List e7)(out:List Int)(pre:List Nat):List Int:=pre.foldl (fun s i=>U1 (L.getD i I0) s) out
theorem wG(L:List e7)(out:List Int)(pre:List Nat)(x:Nat):dW L out (pre++[x])=U1 (L.getD x I0) (dW L out pre):=by
 unfold dW;rw[List.foldl_append];rfl
theorem b5W{L:List e7}(hg:∀x,E9 (L.getD x I0)<64∧aY (o5 (L.getD x I0))):∀{out:List Int},aY out→I9 out→∀pre:List Nat,aY (dW L out pre)∧I9 (dW L out pre):=by
 intro out ho so pre
 induction pre generalizing out with
 |nil=>exact⟨ho,so⟩
 |cons x pre ih=>exact ih (aY.union ho.iX (hg x).2) (mM so)
theorem b3D{L:List e7}(h:∀x∈L,E9 x<64∧aY (o5 x))(x:Nat):E9 (L.getD x I0)<64∧aY (o5 (L.getD x I0)):=by
 by_cases hx:x<L.length
 ·rw[List.getD_eq_getElem?_getD,List.getElem?_eq_getElem hx];exact h _ (List.getElem_mem hx)
 ·rw[List.getD_eq_getElem?_getD,List.getElem?_eq_none (by omega)]
  exact⟨by decide,aY.nil⟩
def zO:=ZZ.mk (Zq L5.d (Zq @cA (Zq @a90 @O3)))
theorem b6c(b:b6)(out:List Int)(i:Nat)(hi:i≤b.i.length)(hn:b.i.length≤1000)(ho:aY out)(so:I9 out)(hr:∀x∈b.i,E9 x<64∧aY (o5 x)):
  e8 Tryz.prog 86 [.agg b.av,L4 out,.v (.int .i64 i)] (fun _=>L4 (atF b out i)) (fun _=>[]):=by
 have CB:=c1S (b.i.drop i)
 refine Zf Tryz.func86 Tryz.ntmps86 ?_;simp only[b6.av,q9.av,L4,List.cons_append]
 repeat' (first|refine Za ?_|(with_reducible constructor<;>first|intro N hN mk hmk|intro N hN|intro h)|(refine H5 CB ?_ rfl ?_ ?_;(next=>(simp (disch:=omega) only[zO.d,u6,Nat.reduceBEq,AV.plain,Nat.reduceAdd,Nat.reduceLeDiff,Nat.reduceLT,↓reduceIte,sF]<;>first|done|rfl));(next=>(simp only[apply_ite List.length,List.length_cons,List.length_nil]<;>(try split)<;>omega)))|(refine F1 CB ?_ rfl ?_ ?_;(next=>(simp (disch:=omega) only[zO.d,u6,Nat.reduceBEq,AV.plain,Nat.reduceAdd,Nat.reduceLeDiff,Nat.reduceLT,↓reduceIte,sF]<;>first|done|rfl));(next=>(simp only[apply_ite List.length,List.length_cons,List.length_nil]<;>(try split)<;>omega)))|refine Zt zO.d ?_|fail)
 refine a3G 13 (y:= .fn 159 [.aA [[.a8 false (c6 (b.i.drop i))]] 0 0]) (by simp (maxSteps:=10000000) (disch:=omega) only[zO.d,l9,P7,s9,A2,p7,o3,AV.kept,b7,n4,u0,B3,p9,o9,b8,AV.y8,m8,v8,AV.plain,rd,u6,a6,P6,stepC,AV.e6,AV.S9,AV.w6,AV.L8,AV.scalar,T8,s6,A6,A9,B1,A8,o8,A5,U0,s7,A7,z8,j3,T7,l0,y7,y5,Q0,z6,j8,TD.isRow,s8,j7,j9,j6,F4,Value.oneCell',↓reduceIte,Int.reduceNe,Int.reduceEq,Nat.reduceAdd,Nat.reduceLT,Nat.reduceLeDiff,Nat.reduceSub,Nat.reduceMul,Nat.reduceBEq,Nat.reduceEqDiff,reduceCtorEq,Int.reduceToNat,←decide_not,←Bool.decide_and,sA,sN]<;>first|done|rfl) rfl ?_;simp (maxSteps:=10000000) (disch:=omega) only[a6,n4,y0,zO.d,l9,P7,s9,A2,p7,o3,AV.kept,b7,n4,u0,B3,p9,o9,b8,AV.y8,m8,v8,AV.plain,rd,u6,a6,P6,stepC,AV.e6,AV.S9,AV.w6,AV.L8,AV.scalar,T8,s6,A6,A9,B1,A8,o8,A5,U0,s7,A7,z8,j3,T7,l0,y7,y5,Q0,z6,j8,TD.isRow,s8,j7,j9,j6,F4,Value.oneCell',↓reduceIte,Int.reduceNe,Int.reduceEq,Nat.reduceAdd,Nat.reduceLT,Nat.reduceLeDiff,Nat.reduceSub,Nat.reduceMul,Nat.reduceBEq,Nat.reduceEqDiff,reduceCtorEq,Int.reduceToNat,←decide_not,←Bool.decide_and,sA,sN]
 have hg:=b3D (L:=b.i.drop i) fun x hx=>hr x (List.mem_of_mem_drop hx)
 generalize hLd:b.i.drop i=L at*
 refine b1G rfl L (fun pre=>⟨[.Z,.Z,.Z,.Z,.ptr 0 0 0,.Z,.ptr 1 0 0,.Z,.Z,.Z,.Z,.Z,.Z,.fn 159 [.aA [[.a8 false (c6 L)]] 0 0],.Z,.Z,.Z,.Z,.Z,.Z],[(0,.live ⟨4,[[.v (.int .u64 (D3 (dW L out pre))),.v (.int .u64 0),.v (.int .u64 0),.v (.int .u64 0)]],0⟩),(1,.live ⟨4,[[.v (.int .u64 0),.v (.int .u64 0),.v (.int .u64 0),.v (.int .u64 0)]],0⟩)],2⟩) 7 [4,6] (by rw[←hLd];simp;omega) rfl (Zw [4,6,13] [8,16] zO.d rfl) (fun _=>⟨by simp,by simp⟩) (fun _=>rfl) (fun _=>by simp [b7]) (fun pre x hlt=>?_) ?_
 ·obtain⟨h1,h2⟩:=b5W hg ho so pre
  have C:=wJ (L.getD x I0) (dW L out pre) h1 h2 (hg x).1 (hg x).2
  rw[←wG]at C
  generalize L.getD x I0=y at*
  simp only[e7.av,L4]at C
  simp only[b7V,LS.tf,List.map_cons,List.map_nil,e7.av]
  repeat' (first|refine Za ?_|(with_reducible constructor<;>first|intro N hN mk hmk|intro N hN|intro h)|refine Zs zO.d ?_|fail)
  refine⟨rfl,?_⟩
  repeat' (first|refine Za ?_|(with_reducible constructor<;>first|intro N hN mk hmk|intro N hN|intro h)|refine Zc C ?_|refine Zs zO.d ?_|fail)
  refine b2u 2 rfl ?_ ?_ ?_
  ·simp [b7,B7]
  ·rfl
  ·refine fV (keep:=[4,6,13]) (ids:=[0,1]) (s':=_) (by simp only[B7,o3,Y2,AV.kept,List.map_cons,List.map_nil,List.all_cons,List.all_nil,if_true,if_false,Nat.reduceEqDiff,LS.tf,zO.d,c5,n9,b5,c8,n5,w8,AV.plain,Nat.reduceBEq,↓reduceIte,Nat.reduceEqDiff,Nat.reduceAdd,sC];rfl) rfl
 ·repeat' (first|refine Za ?_|(with_reducible constructor<;>first|intro N hN mk hmk|intro N hN|intro h)|refine Zt zO.d ?_|fail)
  rw[show dW L out (bY L.length L.length)=atF b out i from(a3V L out).trans (by rw[←hLd];rfl)]
end Go.Proofs.YtgdoiokalfhjoaaGreatDoor
end
