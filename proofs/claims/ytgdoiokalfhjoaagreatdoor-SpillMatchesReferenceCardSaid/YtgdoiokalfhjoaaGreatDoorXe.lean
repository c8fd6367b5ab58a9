/- Own work (by an AI agent; no person has read it): part of a proof of the seat YtgdoiokalfhjoaaGreatDoor. -/
import Derived.Test.YtgdoiokalfhjoaaGreatDoorXd
set_option linter.unusedSimpArgs false
set_option linter.unusedVariables false
set_option maxRecDepth 100000
set_option maxHeartbeats 10000000
section
namespace Go.Proofs.YtgdoiokalfhjoaaGreatDoor
open Go.Ab
theorem a09(c:List Int)(X:List (List AV)):(b7 c++X).take c.length=b7 c:=by
 rw[List.take_append_of_le_length (by rw[H3];exact Nat.le_refl _),U8]
theorem b5t(q:List Int)(n:Nat)(g:Nat→Nat):List.map (fun(e:List AV)=>List.map (x5 g 3) e) (b7 q++List.replicate n [AV.Z])=b7 q++List.replicate n [AV.Z]:=by
 rw[List.map_append]
 congr 1
 ·simp [b7,x5]
 ·simp [x5]
def iC(ops:List E3):List Int:=(ops.filter fun o=>decide (o.k=2)).map fun o=>o.n
theorem X1(o:E3)(l:List E3):iC (o::l)=if o.k=2 then o.n::iC l else iC l:=by
 unfold iC
 rw[List.filter_cons]
 by_cases h:o.k=2<;>simp [h]
theorem bH:iC []=[]:=rfl
theorem c1U{ops:List E3}{x:Int}:x∈iC ops↔∃o∈ops,o.k=2∧o.n=x:=by
 unfold iC
 rw[List.mem_map]
 constructor
 ·rintro⟨o,h1,h2⟩
  obtain⟨h3,h4⟩:=List.mem_filter.1 h1
  exact⟨o,h3,by simpa using h4,h2⟩
 ·rintro⟨o,h1,h2,h3⟩
  exact⟨o,List.mem_filter.2 ⟨h1,by simpa using h2⟩,h3⟩
theorem c2q(ops:List E3):F4 (E7 (iC ops))=o5 ops:=by
 refine I5.ext (tW _ (a9c _)) (iH _) fun x=>?_
 rw[lF,b4T,c1U,L6]
theorem X2{ops:List E3}{l:List Int}(h:iC ops=l):F4 (E7 l)=o5 ops:=by rw[←h];exact c2q ops
theorem F9(l:List Int)(hl:l.length≤3):y0 Tryz.prog 244 [.own 0 0 l.length] [⟨1,b7 (E7 l),0⟩] 1 (fun _:Unit=>True) (fun _=> .own 0 0 (F4 (E7 l)).length) (fun _=>[⟨1,b7 (F4 (E7 l))++List.replicate (l.length-(F4 (E7 l)).length) [.Z],0⟩]):=by
 have C:=b0D (E7 l) (by rw[rN];exact hl)
 rw[rN]at C
 exact C
def c2M:=ZZ.mk (Zq I8.d (Zq @bF @aL))
theorem b4U:c9 Tryz.prog 249 [.a6 false [],.v (.int .i64 0),.v (.int .i64 0)] (fun _=> .O4 []) (fun _=>[]):=by
 refine Zf Tryz.func249 Tryz.ntmps249 ?_
 repeat' (first|refine Za ?_|(with_reducible constructor<;>first|intro N hN mk hmk|intro N hN|intro h)|(guard_target=~ AK Tryz.prog _ _ _ _;refine x9 [()] ?_)|refine Zt c2M.d ?_|fail)
theorem c2g(d:Int):c9 Tryz.prog 235 [.a6 false [],.v (.int .i64 0),.v (.int .i64 0),.v (.int .i64 d)] (fun _=> .O4 []) (fun _=>[]):=by
 refine Zf Tryz.func235 Tryz.ntmps235 ?_
 repeat' (first|refine Za ?_|(with_reducible constructor<;>first|intro N hN mk hmk|intro N hN|intro h)|(guard_target=~ AK Tryz.prog _ _ _ _;refine x9 [()] ?_)|refine Zc b4U ?_|refine Zt c2M.d ?_|fail)
def c2N:=ZZ.mk (Zq I8.d @bF)
theorem a9X:c9 Tryz.prog 188 [.a6 false []] (fun _=> .O4 []) (fun _=>[]):=by
 obtain⟨v,C⟩:=b8f 0 (by omega)
 have C2:=c2g v
 simp only[Int.natCast_zero]at C
 refine Zf Tryz.func188 Tryz.ntmps188 ?_
 repeat' (first|refine Za ?_|(with_reducible constructor<;>first|intro N hN mk hmk|intro N hN|intro h)|refine Zc C ?_|refine Zc C2 ?_|refine Zt c2N.d ?_|fail)
theorem tH:c9 Tryz.prog 244 [.a6 false []] (fun _=> .a6 false []) (fun _=>[]):=by
 refine Zf Tryz.func244 Tryz.ntmps244 ?_
 repeat' (first|refine Za ?_|(with_reducible constructor<;>first|intro N hN mk hmk|intro N hN|intro h)|refine Zt c2N.d ?_|fail)
 all_goals skip
def O2:=ZZ.mk (Zq I8.d (Zq @b5t (Zq @ite_self.{1} (Zq @H3 (Zq @ct1 (Zq @ct2 (Zq @ct3 (Zq @List.length_append.{0} (Zq @Nat.le_add_right (Zq @a09 (Zq @a9w (Zq @j8 (Zq @y9 @aL)))))))))))))
theorem b4f(a b:E3):c9 Tryz.prog 223 [.a6 false (dR [a,b])] (fun _=> .a6 false (b7 (o5 [a,b]))) (fun _=>[]):=by
 obtain⟨ak,an,av⟩:=a
 obtain⟨bk,bn,bv⟩:=b
 by_cases ha:ak=2
 ·by_cases hb:bk=2
  ·have hr:iC [⟨ak,an,av⟩,⟨bk,bn,bv⟩]=[an,bn]:=by simp only[X1,bH,ha,hb,if_true,if_false]
   have e:=X2 hr
   have C1:=bK [an,bn] (by simp)
   have C2:=F9 [an,bn] (by simp)
   rw[e]at C2
   generalize hC:E7 [an,bn]=w at C1 C2
   clear hC e hr
   generalize o5 [⟨ak,an,av⟩,⟨bk,bn,bv⟩]=q at*
   simp only[b7,List.map_cons,List.map_nil,List.length_cons,List.length_nil,Nat.reduceAdd]at C1
   simp only[List.length_cons,List.length_nil,Nat.reduceAdd]at C2
   rw[show(List.map (fun z=>[AV.v (Value.int IntKind.i64 z)]) w)=b7 w from rfl]at C1
   refine Zf Tryz.func223 Tryz.ntmps223 ?_;simp only[dR,E3.av,List.map_cons,List.map_nil]
   repeat' (first|refine Za ?_|(with_reducible constructor<;>first|intro N hN mk hmk|intro N hN|intro h)|(guard_target=~ AK Tryz.prog _ _ _ _;refine x9 [(),(),()] ?_)|(refine Zp C1 [264] (Zq O2.d (Zq ha hb)) ?_;with_reducible intro _ _)|(refine Zp C2 [264] (Zq O2.d (Zq ha hb)) ?_;with_reducible intro _ _)|refine qR (Zq O2.d (Zq ha hb)) ?_|fail)
  ·have hr:iC [⟨ak,an,av⟩,⟨bk,bn,bv⟩]=[an]:=by simp only[X1,bH,ha,hb,if_true,if_false]
   have e:=X2 hr
   have C1:=bK [an] (by simp)
   have C2:=F9 [an] (by simp)
   rw[e]at C2
   generalize hC:E7 [an]=w at C1 C2
   clear hC e hr
   generalize o5 [⟨ak,an,av⟩,⟨bk,bn,bv⟩]=q at*
   simp only[b7,List.map_cons,List.map_nil,List.length_cons,List.length_nil,Nat.reduceAdd]at C1
   simp only[List.length_cons,List.length_nil,Nat.reduceAdd]at C2
   rw[show(List.map (fun z=>[AV.v (Value.int IntKind.i64 z)]) w)=b7 w from rfl]at C1
   refine Zf Tryz.func223 Tryz.ntmps223 ?_;simp only[dR,E3.av,List.map_cons,List.map_nil]
   repeat' (first|refine Za ?_|(with_reducible constructor<;>first|intro N hN mk hmk|intro N hN|intro h)|(guard_target=~ AK Tryz.prog _ _ _ _;refine x9 [(),(),()] ?_)|(refine Zp C1 [136] (Zq O2.d (Zq ha hb)) ?_;with_reducible intro _ _)|(refine Zp C2 [136] (Zq O2.d (Zq ha hb)) ?_;with_reducible intro _ _)|refine qR (Zq O2.d (Zq ha hb)) ?_|fail)
 ·by_cases hb:bk=2
  ·have hr:iC [⟨ak,an,av⟩,⟨bk,bn,bv⟩]=[bn]:=by simp only[X1,bH,ha,hb,if_true,if_false]
   have e:=X2 hr
   have C1:=bK [bn] (by simp)
   have C2:=F9 [bn] (by simp)
   rw[e]at C2
   generalize hC:E7 [bn]=w at C1 C2
   clear hC e hr
   generalize o5 [⟨ak,an,av⟩,⟨bk,bn,bv⟩]=q at*
   simp only[b7,List.map_cons,List.map_nil,List.length_cons,List.length_nil,Nat.reduceAdd]at C1
   simp only[List.length_cons,List.length_nil,Nat.reduceAdd]at C2
   rw[show(List.map (fun z=>[AV.v (Value.int IntKind.i64 z)]) w)=b7 w from rfl]at C1
   refine Zf Tryz.func223 Tryz.ntmps223 ?_;simp only[dR,E3.av,List.map_cons,List.map_nil]
   repeat' (first|refine Za ?_|(with_reducible constructor<;>first|intro N hN mk hmk|intro N hN|intro h)|(guard_target=~ AK Tryz.prog _ _ _ _;refine x9 [(),(),()] ?_)|(refine Zp C1 [216] (Zq O2.d (Zq ha hb)) ?_;with_reducible intro _ _)|(refine Zp C2 [216] (Zq O2.d (Zq ha hb)) ?_;with_reducible intro _ _)|refine qR (Zq O2.d (Zq ha hb)) ?_|fail)
  ·have hr:iC [⟨ak,an,av⟩,⟨bk,bn,bv⟩]=[]:=by simp only[X1,bH,ha,hb,if_true,if_false]
   have e:=X2 hr
   rw[←e]
   refine Zf Tryz.func223 Tryz.ntmps223 ?_;simp only[dR,E3.av,List.map_cons,List.map_nil]
   repeat' (first|refine Za ?_|(with_reducible constructor<;>first|intro N hN mk hmk|intro N hN|intro h)|(guard_target=~ AK Tryz.prog _ _ _ _;refine x9 [(),(),()] ?_)|refine Zc a9X ?_|refine Zc tH ?_|refine qR (Zq O2.d (Zq ha hb)) ?_|fail)
   all_goals rfl
theorem b4g(a b c:E3):c9 Tryz.prog 223 [.a6 false (dR [a,b,c])] (fun _=> .a6 false (b7 (o5 [a,b,c]))) (fun _=>[]):=by
 obtain⟨ak,an,av⟩:=a
 obtain⟨bk,bn,bv⟩:=b
 obtain⟨ck,cn,cv⟩:=c
 by_cases ha:ak=2
 ·by_cases hb:bk=2
  ·by_cases hc:ck=2
   ·have hr:iC [⟨ak,an,av⟩,⟨bk,bn,bv⟩,⟨ck,cn,cv⟩]=[an,bn,cn]:=by simp only[X1,bH,ha,hb,hc,if_true,if_false]
    have e:=X2 hr
    have C1:=bK [an,bn,cn] (by simp)
    have C2:=F9 [an,bn,cn] (by simp)
    rw[e]at C2
    generalize hC:E7 [an,bn,cn]=w at C1 C2
    clear hC e hr
    generalize o5 [⟨ak,an,av⟩,⟨bk,bn,bv⟩,⟨ck,cn,cv⟩]=q at*
    simp only[b7,List.map_cons,List.map_nil,List.length_cons,List.length_nil,Nat.reduceAdd]at C1
    simp only[List.length_cons,List.length_nil,Nat.reduceAdd]at C2
    rw[show(List.map (fun z=>[AV.v (Value.int IntKind.i64 z)]) w)=b7 w from rfl]at C1
    refine Zf Tryz.func223 Tryz.ntmps223 ?_;simp only[dR,E3.av,List.map_cons,List.map_nil]
    repeat' (first|refine Za ?_|(with_reducible constructor<;>first|intro N hN mk hmk|intro N hN|intro h)|(guard_target=~ AK Tryz.prog _ _ _ _;refine x9 [(),(),(),()] ?_)|(refine Zp C1 [392] (Zq O2.d (Zq ha (Zq hb hc))) ?_;with_reducible intro _ _)|(refine Zp C2 [392] (Zq O2.d (Zq ha (Zq hb hc))) ?_;with_reducible intro _ _)|refine qR (Zq O2.d (Zq ha (Zq hb hc))) ?_|fail)
   ·have hr:iC [⟨ak,an,av⟩,⟨bk,bn,bv⟩,⟨ck,cn,cv⟩]=[an,bn]:=by simp only[X1,bH,ha,hb,hc,if_true,if_false]
    have e:=X2 hr
    have C1:=bK [an,bn] (by simp)
    have C2:=F9 [an,bn] (by simp)
    rw[e]at C2
    generalize hC:E7 [an,bn]=w at C1 C2
    clear hC e hr
    generalize o5 [⟨ak,an,av⟩,⟨bk,bn,bv⟩,⟨ck,cn,cv⟩]=q at*
    simp only[b7,List.map_cons,List.map_nil,List.length_cons,List.length_nil,Nat.reduceAdd]at C1
    simp only[List.length_cons,List.length_nil,Nat.reduceAdd]at C2
    rw[show(List.map (fun z=>[AV.v (Value.int IntKind.i64 z)]) w)=b7 w from rfl]at C1
    refine Zf Tryz.func223 Tryz.ntmps223 ?_;simp only[dR,E3.av,List.map_cons,List.map_nil]
    repeat' (first|refine Za ?_|(with_reducible constructor<;>first|intro N hN mk hmk|intro N hN|intro h)|(guard_target=~ AK Tryz.prog _ _ _ _;refine x9 [(),(),(),()] ?_)|(refine Zp C1 [264] (Zq O2.d (Zq ha (Zq hb hc))) ?_;with_reducible intro _ _)|(refine Zp C2 [264] (Zq O2.d (Zq ha (Zq hb hc))) ?_;with_reducible intro _ _)|refine qR (Zq O2.d (Zq ha (Zq hb hc))) ?_|fail)
  ·by_cases hc:ck=2
   ·have hr:iC [⟨ak,an,av⟩,⟨bk,bn,bv⟩,⟨ck,cn,cv⟩]=[an,cn]:=by simp only[X1,bH,ha,hb,hc,if_true,if_false]
    have e:=X2 hr
    have C1:=bK [an,cn] (by simp)
    have C2:=F9 [an,cn] (by simp)
    rw[e]at C2
    generalize hC:E7 [an,cn]=w at C1 C2
    clear hC e hr
    generalize o5 [⟨ak,an,av⟩,⟨bk,bn,bv⟩,⟨ck,cn,cv⟩]=q at*
    simp only[b7,List.map_cons,List.map_nil,List.length_cons,List.length_nil,Nat.reduceAdd]at C1
    simp only[List.length_cons,List.length_nil,Nat.reduceAdd]at C2
    rw[show(List.map (fun z=>[AV.v (Value.int IntKind.i64 z)]) w)=b7 w from rfl]at C1
    refine Zf Tryz.func223 Tryz.ntmps223 ?_;simp only[dR,E3.av,List.map_cons,List.map_nil]
    repeat' (first|refine Za ?_|(with_reducible constructor<;>first|intro N hN mk hmk|intro N hN|intro h)|(guard_target=~ AK Tryz.prog _ _ _ _;refine x9 [(),(),(),()] ?_)|(refine Zp C1 [344] (Zq O2.d (Zq ha (Zq hb hc))) ?_;with_reducible intro _ _)|(refine Zp C2 [344] (Zq O2.d (Zq ha (Zq hb hc))) ?_;with_reducible intro _ _)|refine qR (Zq O2.d (Zq ha (Zq hb hc))) ?_|fail)
   ·have hr:iC [⟨ak,an,av⟩,⟨bk,bn,bv⟩,⟨ck,cn,cv⟩]=[an]:=by simp only[X1,bH,ha,hb,hc,if_true,if_false]
    have e:=X2 hr
    have C1:=bK [an] (by simp)
    have C2:=F9 [an] (by simp)
    rw[e]at C2
    generalize hC:E7 [an]=w at C1 C2
    clear hC e hr
    generalize o5 [⟨ak,an,av⟩,⟨bk,bn,bv⟩,⟨ck,cn,cv⟩]=q at*
    simp only[b7,List.map_cons,List.map_nil,List.length_cons,List.length_nil,Nat.reduceAdd]at C1
    simp only[List.length_cons,List.length_nil,Nat.reduceAdd]at C2
    rw[show(List.map (fun z=>[AV.v (Value.int IntKind.i64 z)]) w)=b7 w from rfl]at C1
    refine Zf Tryz.func223 Tryz.ntmps223 ?_;simp only[dR,E3.av,List.map_cons,List.map_nil]
    repeat' (first|refine Za ?_|(with_reducible constructor<;>first|intro N hN mk hmk|intro N hN|intro h)|(guard_target=~ AK Tryz.prog _ _ _ _;refine x9 [(),(),(),()] ?_)|(refine Zp C1 [136] (Zq O2.d (Zq ha (Zq hb hc))) ?_;with_reducible intro _ _)|(refine Zp C2 [136] (Zq O2.d (Zq ha (Zq hb hc))) ?_;with_reducible intro _ _)|refine qR (Zq O2.d (Zq ha (Zq hb hc))) ?_|fail)
 ·by_cases hb:bk=2
  ·by_cases hc:ck=2
   ·have hr:iC [⟨ak,an,av⟩,⟨bk,bn,bv⟩,⟨ck,cn,cv⟩]=[bn,cn]:=by simp only[X1,bH,ha,hb,hc,if_true,if_false]
    have e:=X2 hr
    have C1:=bK [bn,cn] (by simp)
    have C2:=F9 [bn,cn] (by simp)
    rw[e]at C2
    generalize hC:E7 [bn,cn]=w at C1 C2
    clear hC e hr
    generalize o5 [⟨ak,an,av⟩,⟨bk,bn,bv⟩,⟨ck,cn,cv⟩]=q at*
    simp only[b7,List.map_cons,List.map_nil,List.length_cons,List.length_nil,Nat.reduceAdd]at C1
    simp only[List.length_cons,List.length_nil,Nat.reduceAdd]at C2
    rw[show(List.map (fun z=>[AV.v (Value.int IntKind.i64 z)]) w)=b7 w from rfl]at C1
    refine Zf Tryz.func223 Tryz.ntmps223 ?_;simp only[dR,E3.av,List.map_cons,List.map_nil]
    repeat' (first|refine Za ?_|(with_reducible constructor<;>first|intro N hN mk hmk|intro N hN|intro h)|(guard_target=~ AK Tryz.prog _ _ _ _;refine x9 [(),(),(),()] ?_)|(refine Zp C1 [344] (Zq O2.d (Zq ha (Zq hb hc))) ?_;with_reducible intro _ _)|(refine Zp C2 [344] (Zq O2.d (Zq ha (Zq hb hc))) ?_;with_reducible intro _ _)|refine qR (Zq O2.d (Zq ha (Zq hb hc))) ?_|fail)
   ·have hr:iC [⟨ak,an,av⟩,⟨bk,bn,bv⟩,⟨ck,cn,cv⟩]=[bn]:=by simp only[X1,bH,ha,hb,hc,if_true,if_false]
    have e:=X2 hr
    have C1:=bK [bn] (by simp)
    have C2:=F9 [bn] (by simp)
    rw[e]at C2
    generalize hC:E7 [bn]=w at C1 C2
    clear hC e hr
    generalize o5 [⟨ak,an,av⟩,⟨bk,bn,bv⟩,⟨ck,cn,cv⟩]=q at*
    simp only[b7,List.map_cons,List.map_nil,List.length_cons,List.length_nil,Nat.reduceAdd]at C1
    simp only[List.length_cons,List.length_nil,Nat.reduceAdd]at C2
    rw[show(List.map (fun z=>[AV.v (Value.int IntKind.i64 z)]) w)=b7 w from rfl]at C1
    refine Zf Tryz.func223 Tryz.ntmps223 ?_;simp only[dR,E3.av,List.map_cons,List.map_nil]
    repeat' (first|refine Za ?_|(with_reducible constructor<;>first|intro N hN mk hmk|intro N hN|intro h)|(guard_target=~ AK Tryz.prog _ _ _ _;refine x9 [(),(),(),()] ?_)|(refine Zp C1 [216] (Zq O2.d (Zq ha (Zq hb hc))) ?_;with_reducible intro _ _)|(refine Zp C2 [216] (Zq O2.d (Zq ha (Zq hb hc))) ?_;with_reducible intro _ _)|refine qR (Zq O2.d (Zq ha (Zq hb hc))) ?_|fail)
  ·by_cases hc:ck=2
   ·have hr:iC [⟨ak,an,av⟩,⟨bk,bn,bv⟩,⟨ck,cn,cv⟩]=[cn]:=by simp only[X1,bH,ha,hb,hc,if_true,if_false]
    have e:=X2 hr
    have C1:=bK [cn] (by simp)
    have C2:=F9 [cn] (by simp)
    rw[e]at C2
    generalize hC:E7 [cn]=w at C1 C2
    clear hC e hr
    generalize o5 [⟨ak,an,av⟩,⟨bk,bn,bv⟩,⟨ck,cn,cv⟩]=q at*
    simp only[b7,List.map_cons,List.map_nil,List.length_cons,List.length_nil,Nat.reduceAdd]at C1
    simp only[List.length_cons,List.length_nil,Nat.reduceAdd]at C2
    rw[show(List.map (fun z=>[AV.v (Value.int IntKind.i64 z)]) w)=b7 w from rfl]at C1
    refine Zf Tryz.func223 Tryz.ntmps223 ?_;simp only[dR,E3.av,List.map_cons,List.map_nil]
    repeat' (first|refine Za ?_|(with_reducible constructor<;>first|intro N hN mk hmk|intro N hN|intro h)|(guard_target=~ AK Tryz.prog _ _ _ _;refine x9 [(),(),(),()] ?_)|(refine Zp C1 [296] (Zq O2.d (Zq ha (Zq hb hc))) ?_;with_reducible intro _ _)|(refine Zp C2 [296] (Zq O2.d (Zq ha (Zq hb hc))) ?_;with_reducible intro _ _)|refine qR (Zq O2.d (Zq ha (Zq hb hc))) ?_|fail)
   ·have hr:iC [⟨ak,an,av⟩,⟨bk,bn,bv⟩,⟨ck,cn,cv⟩]=[]:=by simp only[X1,bH,ha,hb,hc,if_true,if_false]
    have e:=X2 hr
    rw[←e]
    refine Zf Tryz.func223 Tryz.ntmps223 ?_;simp only[dR,E3.av,List.map_cons,List.map_nil]
    repeat' (first|refine Za ?_|(with_reducible constructor<;>first|intro N hN mk hmk|intro N hN|intro h)|(guard_target=~ AK Tryz.prog _ _ _ _;refine x9 [(),(),(),()] ?_)|refine Zc a9X ?_|refine Zc tH ?_|refine qR (Zq O2.d (Zq ha (Zq hb hc))) ?_|fail)
    all_goals rfl
theorem b06(x:e8)(l:List Int):(x6 x l).length≤l.length+3:=by
 have h1:=Z4 x
 have h2:=gR l (z8 x)
 have h3:=rR (A8 l (z8 x)) (m7 x)
 unfold x6;omega
theorem b4X(l:List e8)(out:List Int):(l.foldr x6 out).length≤out.length+3*l.length:=by
 induction l with
 |nil=>simp
 |cons x l ih=>have:=b06 x (l.foldr x6 out);rw[List.foldr_cons];simp;omega
theorem yF{α:Type}(l:List α)(i:Nat)(d:α)(h:i<l.length):l.drop i=l.getD i d::l.drop (i+1):=by
 rw[List.drop_eq_getElem_cons h,List.getD_eq_getElem?_getD,List.getElem?_eq_getElem h];rfl
theorem c1g(b:b6)(out:List Int)(i:Nat)(h:i<b.i.length):kV b out i=x6 (b.i.getD i I0) (kV b out (i+1)):=by
 unfold kV;rw[yF b.i i I0 h];rfl
theorem c4F(b:b6)(out:List Int):kV b out b.i.length=out:=by unfold kV;simp
theorem c4T(b:b6)(out:List Int)(i:Nat):(kV b out i).length≤out.length+3*b.i.length:=by
 have:=b4X (b.i.drop i) out
 unfold kV;simp at this⊢;omega
def xG:=ZZ.mk (Zq P8.d (Zq @e8.av.eq_1 (Zq @o6.av.eq_1 (Zq @Q6 (Zq @fG (Zq @bC @O3))))))
theorem b8M(b:b6)(out:List Int)(i0:Nat)(hi0:i0≤b.i.length)(hb:b.i.length≤1000)(ho:out.length≤1000):c9 Tryz.prog 137 [.agg b.av,.a6 false (b7 out),.v (.int .i64 i0)] (fun _=> .a6 false (b7 (kV b out i0))) (fun _=>[]):=by
 obtain⟨n,hn⟩:∃n,n=b.i.length-i0:=⟨_,rfl⟩
 refine Zf Tryz.func137 Tryz.ntmps137 ?_;simp only[b6.av,o6.av]
 repeat' (first|refine Za ?_|(with_reducible constructor<;>first|intro N hN mk hmk|intro N hN|intro h)|refine Zt xG.d ?_|fail)
 refine c8 (fun j=>⟨[.Z,.Z,.v (.int .i64 i0),.ptr 0 0 0,.Z,.Z,.Z,.a6 false (b7 (kV b out (b.i.length-j))),.v (.int .i64 ((b.i.length:Int)-1-j)),.Z,.Z,.Z,.Z,.Z,.Z,.Z,.Z,.Z,.Z,.Z,.Z,.Z,.Z,.Z,.Z,.Z,.Z],[(0,.live ⟨14,[b.av],0⟩)],1⟩) n (Zw [2,3,7,8] [0] xG.d ?_) ?_
 ·simp only[Nat.sub_zero,c4F,b6.av,o6.av,Int.natCast_zero,Int.sub_zero]
 ·intro j hj
  have hlen:=c4T b out (b.i.length-j)
  simp only[b6.av,o6.av]
  by_cases hjn:j<n
  ·have e:((b.i.length:Int)-1-j).toNat=b.i.length-(j+1):=by omega
   have C:=b1n (b.i.getD (b.i.length-(j+1)) I0) (kV b out (b.i.length-j)) (by omega)
   simp only[e8.av]at C
   repeat' (first|refine Za ?_|(with_reducible constructor<;>first|intro N hN mk hmk|intro N hN|intro h)|refine Zc C ?_|refine Zt (Zq xG.d e) ?_|fail)
   refine Zw [2,3,7,8] [0] (Zq xG.d e) ?_
   rw[c1g b out (b.i.length-(j+1)) (by omega),show b.i.length-(j+1)+1=b.i.length-j by omega,show(b.i.length:Int)-1-((j+1:Nat):Int)=(b.i.length:Int)-1-j-1 by omega]
  ·have e:b.i.length-j=i0:=by omega
   repeat' (first|refine Za ?_|(with_reducible constructor<;>first|intro N hN mk hmk|intro N hN|intro h)|refine Zt (Zq xG.d e) ?_|fail)
   all_goals first|rfl|rw[e]
def lists(l:List (List Int)):List (List AV):=l.map fun x=>[.a6 false (b7 x)]
theorem mI(l:List (List Int)):(lists l).length=l.length:=by simp [lists]
theorem V5(l:List (List Int))(z:Nat)(h:z<l.length):(lists l)[z]?=some [.a6 false (b7 (l.getD z []))]:=by simp [lists,h,List.getD_eq_getElem?_getD]
theorem jU(l:List (List Int)):(∀e∈lists l,e.length=1)=True:=by simp [lists]
theorem S8(l:List (List Int)):((lists l).all fun e=>e.all AV.plain)=true:=by simp [lists,AV.plain]
theorem cI(l:List (List Int)):v7 (lists l)=true:=S8 l
def b1K(n:Nat)(l:List (List Int)):Prop:=∀z,(l.getD z []).length≤n
def aC(inn:List (List Int))(l:List Int):List Int:=l.foldl (fun s to=>w9 s (inn.getD to.toNat [])) []
theorem a0v(inn:List (List Int))(l:List Int)(i:Nat)(h:i<l.length):aC inn (l.take (i+1))=w9 (aC inn (l.take i)) (inn.getD (l.getD i 0).toNat []):=by
 rw[w4 l i 0 h];unfold aC;rw[List.foldl_append];rfl
theorem a39{n:Nat}{inn:List (List Int)}(h:b1K n inn)(l:List Int):(aC inn l).length≤n*l.length:=by
 have:∀(l:List Int) (s:List Int),(l.foldl (fun s to=>w9 s (inn.getD to.toNat [])) s).length≤s.length+n*l.length:=by
  intro l
  induction l with
  |nil=>intro s;simp
  |cons a l ih=>
   intro s
   rw[List.foldl_cons]
   have h1:=ih (w9 s (inn.getD a.toNat []))
   have h2:=rR s (inn.getD a.toNat [])
   have h3:=h a.toNat
   rw[List.length_cons,Nat.mul_add,Nat.mul_one];omega
 have h:=this l []
 rw[List.length_nil,Nat.zero_add]at h
 exact h
theorem lD(t:o6):(e9 t).length≤2:=by
 unfold e9
 split
 ·simp
 ·split<;>simp
theorem F6{l:List Int}{i:Nat}(h:i<l.length):l.getD i 0∈l:=by
 rw[List.getD_eq_getElem?_getD,List.getElem?_eq_getElem h];exact List.getElem_mem h
def sZ:=ZZ.mk (Zq P8.d (Zq @o6.av.eq_1 (Zq @y7 (Zq @I3 (Zq @H8 (Zq @K0 (Zq @b6.av.eq_1 (Zq @mI (Zq @V5 (Zq @jU (Zq @S8 @cI)))))))))))
def o8(l:List Bool):List (List AV):=l.map fun z=>[.v (.bool z)]
theorem K7(l:List Bool):(o8 l).length=l.length:=by simp [o8]
theorem K6(l:List Bool)(z:Nat)(h:z<l.length):(o8 l)[z]?=some [.v (.bool (l.getD z false))]:=by simp [o8,h,List.getD_eq_getElem?_getD]
theorem aG(l:List Bool):(∀e∈o8 l,e.length=1)=True:=by
 simp only[eq_iff_iff,iff_true,o8,List.mem_map]
 rintro e ⟨_,_,rfl⟩
 rfl
theorem Y8(l:List Bool):((o8 l).all fun e=>e.all AV.plain)=true:=by simp [o8,AV.plain]
theorem aH(l:List Bool):v7 (o8 l)=true:=Y8 l
theorem lW(l:List Bool)(k:Nat)(v:Bool):(o8 l).modify k (fun e=>p8 e 0 [.v (.bool v)])=o8 (l.set k v):=by
 apply List.ext_getElem?
 intro j
 rw[List.getElem?_modify]
 simp only[o8,List.getElem?_map,List.getElem?_set]
 by_cases h:k=j
 ·subst h
  by_cases h2:k<l.length
  ·simp [h2,p8]
  ·simp [h2]
 ·simp [h]
theorem aD(l:List Bool):(o8 l).take l.length=o8 l:=by rw[←K7,List.take_length]
theorem lX(n:Nat):List.replicate n [AV.v (.bool false)]=o8 (List.replicate n false):=by simp [o8]
theorem rV(out:List Bool)(l:List Int)(i:Nat)(h:i<l.length):Z5 out (l.take (i+1))=(Z5 out (l.take i)).set (l.getD i 0).toNat true:=by
 rw[w4 l i 0 h];unfold Z5;rw[List.foldl_append];rfl
theorem b42(l:List Int)(out:List Bool)(b:Nat)(h:out.getD b false=true):(Z5 out l).getD b false=true:=by
 induction l generalizing out with
 |nil=>exact h
 |cons a l ih=>
  refine ih (out.set a.toNat true) ?_
  rw[Z1];split
  ·rfl
  ·exact h
theorem b4Y(bs:List b6)(out:List Bool)(b:Nat):(dS bs out b).length=out.length:=by
 unfold dS
 split
 ·exact U5 _ _
 ·rfl
theorem zE(bs:List b6)(out:List Bool):∀n,(Y5 bs out n).length=out.length
 |0=>rfl
 |n+1=>by show(dS bs (Y5 bs out n) n).length=_;rw[b4Y,zE bs out n]
theorem zG(bs:List b6)(out:List Bool):∀n,(G7 bs out n).length=out.length
 |0=>rfl
 |n+1=>by show(Y5 bs (G7 bs out n) _).length=_;rw[zE,zG bs out n]
def iK:=ZZ.mk (Zq P8.d (Zq @List.length_replicate.{0} (Zq @List.length_set.{0} (Zq @K7 (Zq @K6 (Zq @aG (Zq @Y8 (Zq @aH (Zq @lW (Zq @aD (Zq @lX (Zq @o6.av.eq_1 (Zq @y7 (Zq @I3 (Zq @H8 (Zq @K0 @b6.av.eq_1))))))))))))))))
def nF:=ZZ.mk (Zq I8.d (Zq @Y8 (Zq @aH @K0)))
theorem mP(c:Code)(hc:aT c.b)(hn:c.b.length≤1000):c9 Tryz.prog 52 [.agg c.av] (fun _=> .a6 false (o8 (reachF c.b))) (fun _=>[]):=by
 have h1:=hc.1
 rw[←b1t hc]
 generalize hbs':c.b=bs at*
 have hl0:(Z8 bs.length).length=bs.length:=by simp [Z8]
 refine Zf Tryz.func52 Tryz.ntmps52 ?_;simp only[Code.av,hbs']
 repeat' (first|refine Za ?_|(with_reducible constructor<;>first|intro N hN mk hmk|intro N hN|intro h)|refine Zt iK.d ?_|fail)
 refine c8 (fun k=>⟨[.Z,.ptr 0 0 0,.Z,.own 1 0 bs.length,.v (.int .i64 k),.Z,.Z,.Z,.Z,.Z,.Z,.Z,.Z,.Z,.Z,.Z,.Z,.Z,.Z,.Z,.Z,.Z,.Z,.Z,.Z,.Z,.Z,.Z,.Z,.Z,.Z,.Z,.Z,.Z,.Z,.Z,.Z,.Z,.Z,.Z,.Z,.Z,.Z,.Z,.Z,.Z,.Z,.Z,.Z,.Z,.Z,.Z,.Z,.Z],[(0,.live ⟨8,[[.v (.int .i64 c.group),.v (.int .i64 c.sub),.v (.int .i64 c.regs),.v (.int .i64 c.u7),.v (.int .i64 c.params),.a6 false (w6 c.c6),.a6 false (loops c.loops),.a6 false (p7 bs)]],0⟩),(1,.live ⟨1,o8 (G7 bs (Z8 bs.length) k),0⟩)],2⟩) bs.length (Zw [1,3,4] [0,40] iK.d ?_) ?_
 ·rfl
 ·intro k hk
  have hlk:(G7 bs (Z8 bs.length) k).length=bs.length:=by rw[zG,hl0]
  obtain⟨O,hO⟩:∃O,O=G7 bs (Z8 bs.length) k:=⟨_,rfl⟩
  rw[←hO]at hlk⊢
  repeat' (first|refine Za ?_|(with_reducible constructor<;>first|intro N hN mk hmk|intro N hN|intro h)|refine Zt iK.d ?_|fail)
  ·refine c8 (fun b=>⟨[.Z,.ptr 0 0 0,.Z,.own 1 0 bs.length,.v (.int .i64 k),.v (.int .i64 b),.Z,.Z,.Z,.Z,.Z,.Z,.Z,.Z,.Z,.Z,.Z,.Z,.Z,.Z,.Z,.Z,.Z,.Z,.Z,.Z,.Z,.Z,.Z,.Z,.Z,.Z,.Z,.Z,.Z,.Z,.Z,.Z,.Z,.Z,.Z,.Z,.Z,.Z,.Z,.Z,.Z,.Z,.Z,.Z,.Z,.Z,.Z,.Z],[(0,.live ⟨8,[[.v (.int .i64 c.group),.v (.int .i64 c.sub),.v (.int .i64 c.regs),.v (.int .i64 c.u7),.v (.int .i64 c.params),.a6 false (w6 c.c6),.a6 false (loops c.loops),.a6 false (p7 bs)]],0⟩),(1,.live ⟨1,o8 (Y5 bs O b),0⟩)],2⟩) bs.length (Zw [1,3,4,5] [0,1] iK.d ?_) ?_
   ·rfl
   ·intro b hb
    have hlb:(Y5 bs O b).length=bs.length:=by rw[zE,hlk]
    obtain⟨U,hU⟩:∃U,U=Y5 bs O b:=⟨_,rfl⟩
    rw[←hU]at hlb⊢
    have C:=a9I (bs.getD b B0).t
    simp only[o6.av]at C
    repeat' (first|refine Za ?_|(with_reducible constructor<;>first|intro N hN mk hmk|intro N hN|intro h)|refine Zc C ?_|refine Zt iK.d ?_|fail)
    ·obtain⟨t,ht⟩:∃t,t=(bs.getD b B0).t:=⟨_,rfl⟩
     rw[←ht]
     have hs:∀to∈e9 t,0≤to∧to<bs.length:=by rw[ht];exact hc.2 _ (O8 (show b<bs.length by omega))
     have hl2:=lD t
     by_cases hu:U.getD b false=true
     ·have e1:Y5 bs O (b+1)=Z5 U (e9 t):=by
       show dS bs (Y5 bs O b) b=_
       rw[←hU,ht];unfold dS;rw[if_pos hu];rfl
      rw[e1]
      refine c8 (fun i=>⟨[.Z,.ptr 0 0 0,.Z,.own 1 0 bs.length,.v (.int .i64 k),.v (.int .i64 b),.a6 false (b7 (e9 t)),.v (.int .i64 i),.Z,.Z,.Z,.Z,.Z,.Z,.Z,.Z,.Z,.Z,.Z,.Z,.Z,.Z,.Z,.Z,.Z,.Z,.Z,.Z,.Z,.Z,.Z,.Z,.Z,.Z,.Z,.Z,.Z,.Z,.Z,.Z,.Z,.Z,.Z,.Z,.Z,.Z,.Z,.Z,.Z,.Z,.Z,.Z,.Z,.Z],[(0,.live ⟨8,[[.v (.int .i64 c.group),.v (.int .i64 c.sub),.v (.int .i64 c.regs),.v (.int .i64 c.u7),.v (.int .i64 c.params),.a6 false (w6 c.c6),.a6 false (loops c.loops),.a6 false (p7 bs)]],0⟩),(1,.live ⟨1,o8 (Z5 U ((e9 t).take i)),0⟩)],2⟩) (e9 t).length (Zw [1,3,4,5,6,7] [0,1] iK.d ?_) ?_
      ·rfl
      ·intro i hi
       have hm:=b42 ((e9 t).take i) U b hu
       have hml:(Z5 U ((e9 t).take i)).length=bs.length:=by rw[U5];exact hlb
       by_cases hin:i<(e9 t).length
       ·have hto:=hs _ (F6 hin)
        repeat' (first|refine Za ?_|(with_reducible constructor<;>first|intro N hN mk hmk|intro N hN|intro h)|refine Zt (Zq iK.d hm) ?_|fail)
        all_goals first|(exfalso;omega)|(refine Zw [1,3,4,5,6,7] [0,1] (Zq iK.d hm) ?_;rw[rV U (e9 t) i hin];rfl)
       ·have e:(e9 t).take i=e9 t:=List.take_of_length_le (by omega)
        rw[e]at hml hm⊢
        repeat' (first|refine Za ?_|(with_reducible constructor<;>first|intro N hN mk hmk|intro N hN|intro h)|refine Zt (Zq iK.d hm) ?_|fail)
        all_goals first|(exfalso;omega)|(refine Zw [1,3,4,5] [0,1] (Zq iK.d hm) ?_;rfl)
     ·have e1:Y5 bs O (b+1)=U:=by
       show dS bs (Y5 bs O b) b=_
       rw[←hU];unfold dS;rw[if_neg hu]
      rw[e1]
      have hm:U.getD b false=false:=by simpa using hu
      refine c8 (fun i=>⟨[.Z,.ptr 0 0 0,.Z,.own 1 0 bs.length,.v (.int .i64 k),.v (.int .i64 b),.a6 false (b7 (e9 t)),.v (.int .i64 i),.Z,.Z,.Z,.Z,.Z,.Z,.Z,.Z,.Z,.Z,.Z,.Z,.Z,.Z,.Z,.Z,.Z,.Z,.Z,.Z,.Z,.Z,.Z,.Z,.Z,.Z,.Z,.Z,.Z,.Z,.Z,.Z,.Z,.Z,.Z,.Z,.Z,.Z,.Z,.Z,.Z,.Z,.Z,.Z,.Z,.Z],[(0,.live ⟨8,[[.v (.int .i64 c.group),.v (.int .i64 c.sub),.v (.int .i64 c.regs),.v (.int .i64 c.u7),.v (.int .i64 c.params),.a6 false (w6 c.c6),.a6 false (loops c.loops),.a6 false (p7 bs)]],0⟩),(1,.live ⟨1,o8 U,0⟩)],2⟩) 0 (Zw [1,3,4,5,6,7] [0,1] (Zq iK.d hm) ?_) ?_
      ·rfl
      ·intro i hi
       obtain rfl:i=0:=by omega
       repeat' (first|refine Za ?_|(with_reducible constructor<;>first|intro N hN mk hmk|intro N hN|intro h)|refine Zt (Zq iK.d hm) ?_|fail)
       all_goals first|(exfalso;omega)|(refine Zw [1,3,4,5] [0,1] (Zq iK.d hm) ?_;rfl)
    ·obtain rfl:b=bs.length:=by omega
     refine Zw [1,3,4] [0,1] nF.d ?_
     rw[hU,hO];rfl
  ·obtain rfl:k=bs.length:=by omega
   have ht:(o8 O).take bs.length=o8 O:=by rw[←hlk];exact aD O
   rw[ht,if_pos (by omega),if_pos (Y8 O),hO]
def b3Z:=ZZ.mk (Zq I8.d @E3.av.eq_1)
theorem yA(i:e8):c9 Tryz.prog 162 [.agg i.av] (fun _=> .a6 false (b7 (m7 i))) (fun _=>[]):=by
 have C:=b4g i.a i.b i.c
 simp only[dR,List.map_cons,List.map_nil,E3.av]at C
 refine Zf Tryz.func162 Tryz.ntmps162 ?_;simp only[e8.av]
 repeat' (first|refine Za ?_|(with_reducible constructor<;>first|intro N hN mk hmk|intro N hN|intro h)|(refine M8 C ?_ rfl ?_ ?_;(next=>(simp (disch:=omega) only[b3Z.d,v8,Nat.reduceBEq,AV.plain,Nat.reduceAdd,Nat.reduceLeDiff,Nat.reduceLT,↓reduceIte,sF]<;>first|done|rfl));(next=>(simp only[apply_ite List.length,List.length_cons,List.length_nil]<;>(try split)<;>omega)))|(refine H9 C ?_ rfl ?_ ?_;(next=>(simp (disch:=omega) only[b3Z.d,v8,Nat.reduceBEq,AV.plain,Nat.reduceAdd,Nat.reduceLeDiff,Nat.reduceLT,↓reduceIte,sF]<;>first|done|rfl));(next=>(simp only[apply_ite List.length,List.length_cons,List.length_nil]<;>(try split)<;>omega)))|refine Zt b3Z.d ?_|fail)
 all_goals rfl
theorem rG(t:o6):c9 Tryz.prog 195 [.agg t.av] (fun _=> .a6 false (b7 (j6 t))) (fun _=>[]):=by
 have C:=b4f t.a t.b
 simp only[dR,List.map_cons,List.map_nil,E3.av]at C
 refine Zf Tryz.func195 Tryz.ntmps195 ?_;simp only[o6.av]
 repeat' (first|refine Za ?_|(with_reducible constructor<;>first|intro N hN mk hmk|intro N hN|intro h)|(refine M8 C ?_ rfl ?_ ?_;(next=>(simp (disch:=omega) only[b3Z.d,v8,Nat.reduceBEq,AV.plain,Nat.reduceAdd,Nat.reduceLeDiff,Nat.reduceLT,↓reduceIte,sF]<;>first|done|rfl));(next=>(simp only[apply_ite List.length,List.length_cons,List.length_nil]<;>(try split)<;>omega)))|(refine H9 C ?_ rfl ?_ ?_;(next=>(simp (disch:=omega) only[b3Z.d,v8,Nat.reduceBEq,AV.plain,Nat.reduceAdd,Nat.reduceLeDiff,Nat.reduceLT,↓reduceIte,sF]<;>first|done|rfl));(next=>(simp only[apply_ite List.length,List.length_cons,List.length_nil]<;>(try split)<;>omega)))|refine Zt b3Z.d ?_|fail)
 all_goals rfl
def b30:=ZZ.mk (Zq I8.d @L8.eq_1)
theorem yB(l:List Int)(n:Int)(hl:bG l)(hn:n<64):c9 Tryz.prog 84 [L8 l,.v (.int .i64 n)] (fun _=>L8 (X5 l n)) (fun _=>[]):=by
 by_cases h:0≤n
 ·have e1:Int.tdiv n 64=0:=Int.tdiv_eq_zero_of_lt h hn
  have e2:Int.tmod n 64=n:=Int.tmod_eq_of_lt h hn
  have e3:=c2e hl ⟨h,hn⟩
  have e4:X5 l n=y5 l n:=by unfold X5;rw[if_neg (by omega)]
  refine Zf Tryz.func84 Tryz.ntmps84 ?_;simp only[L8]
  repeat' (first|refine Za ?_|(with_reducible constructor<;>first|intro N hN mk hmk|intro N hN|intro h)|refine Zt (Zq b30.d (Zq e1 (Zq e2 (Zq e3 e4)))) ?_|fail)
  all_goals rfl
 ·have e4:X5 l n=l:=by unfold X5;rw[if_pos (by omega)]
  refine Zf Tryz.func84 Tryz.ntmps84 ?_;simp only[L8]
  repeat' (first|refine Za ?_|(with_reducible constructor<;>first|intro N hN mk hmk|intro N hN|intro h)|refine Zt (Zq b30.d e4) ?_|fail)
  all_goals rfl
theorem tD(l:List Int)(n:Int)(hl:bG l)(hn:n<64):c9 Tryz.prog 160 [L8 l,.v (.int .i64 n)] (fun _=>L8 (A8 l n)) (fun _=>[]):=by
 by_cases h:0≤n
 ·have e1:Int.tdiv n 64=0:=Int.tdiv_eq_zero_of_lt h hn
  have e2:Int.tmod n 64=n:=Int.tmod_eq_of_lt h hn
  have e3:=xO hl ⟨h,hn⟩
  refine Zf Tryz.func160 Tryz.ntmps160 ?_;simp only[L8]
  repeat' (first|refine Za ?_|(with_reducible constructor<;>first|intro N hN mk hmk|intro N hN|intro h)|refine Zt (Zq b30.d (Zq e1 (Zq e2 e3))) ?_|fail)
  all_goals rfl
 ·have e4:A8 l n=l:=by
   unfold A8
   refine List.filter_eq_self.2 fun x hx=>?_
   have:=(hl x hx).1
   simp;omega
  refine Zf Tryz.func160 Tryz.ntmps160 ?_;simp only[L8]
  repeat' (first|refine Za ?_|(with_reducible constructor<;>first|intro N hN mk hmk|intro N hN|intro h)|refine Zt (Zq b30.d e4) ?_|fail)
  all_goals rfl
def c5R:=ZZ.mk (Zq b30.d @aL)
theorem rF(a b:List Int)(ha:bG a)(hb:bG b):c9 Tryz.prog 161 [L8 a,L8 b] (fun _=>L8 (w9 a b)) (fun _=>[]):=by
 have e3:=b8F ha hb
 have e4:=c6m
 refine Zf Tryz.func161 Tryz.ntmps161 ?_;simp only[L8]
 repeat' (first|refine Za ?_|(with_reducible constructor<;>first|intro N hN mk hmk|intro N hN|intro h)|(guard_target=~ AK Tryz.prog _ _ _ _;refine x9 [(),(),(),(),()] ?_)|refine qR (Zq c5R.d (Zq e3 e4)) ?_|fail)
 all_goals rfl
theorem c19(l:List Int)(i:Nat)(h:i<l.length):w9 [] (l.take (i+1))=y5 (w9 [] (l.take i)) (l.getD i 0):=oP [] l i h
def b6E:=ZZ.mk (Zq iJ.d @L8.eq_1)
theorem a4O(l:List Int)(hl:bG l)(hn:l.length≤100000):c9 Tryz.prog 81 [.a6 false (b7 l)] (fun _=>L8 (w9 [] l)) (fun _=>[]):=by
 refine Zf Tryz.func81 Tryz.ntmps81 ?_
 repeat' (first|refine Za ?_|(with_reducible constructor<;>first|intro N hN mk hmk|intro N hN|intro h)|refine Zt b6E.d ?_|fail)
 refine c8 (fun i=>⟨[.a6 false (b7 l),.Z,.ptr 0 0 0,.ptr 1 0 0,.Z,.Z,.a6 false (b7 l),.v (.int .i64 l.length),.v (.int .i64 i),.Z,.Z,.Z,.Z,.Z,.Z,.Z,.Z],[(0,.live ⟨4,[[.v (.int .u64 0),.v (.int .u64 0),.v (.int .u64 0),.v (.int .u64 0)]],0⟩),(1,.live ⟨4,[[.v (.int .u64 (B7 (w9 [] (l.take i)))),.v (.int .u64 0),.v (.int .u64 0),.v (.int .u64 0)]],0⟩)],2⟩) l.length (Zw [0,2,3,6,7,8] [0,8] b6E.d ?_) ?_
 ·simp [w9,B7]
 ·intro i hi
  by_cases hlt:i<l.length
  ·have hm:l.getD i 0∈l:=by rw[List.getD_eq_getElem?_getD,List.getElem?_eq_getElem hlt];exact List.getElem_mem hlt
   have hr:=hl _ hm
   have hu:bG (w9 [] (l.take i)):=bG.nil.union fun x hx=>hl x (List.mem_of_mem_take hx)
   have C:=yB (w9 [] (l.take i)) (l.getD i 0) hu hr.2
   rw[show X5 (w9 [] (l.take i)) (l.getD i 0)=w9 [] (l.take (i+1))from by rw[c19 l i hlt,X5,if_neg (by omega)]]at C
   repeat' (first|refine Za ?_|(with_reducible constructor<;>first|intro N hN mk hmk|intro N hN|intro h)|refine Zc C ?_|refine Zt b6E.d ?_|fail)
   refine Zw [0,2,3,6,7,8] [0,1] b6E.d ?_
   rfl
  ·obtain rfl:i=l.length:=by omega
   repeat' (first|refine Za ?_|(with_reducible constructor<;>first|intro N hN mk hmk|intro N hN|intro h)|refine Zt b6E.d ?_|fail)
   rw[List.take_length]
theorem a99{a l:List Int}(ha:I5 a):w9 a (w9 [] l)=w9 a l:=by
 refine I5.ext (dD ha) (dD ha) fun x=>?_
 rw[Q7,Q7,Q7];simp
theorem xV(x:e8)(l:List Int)(hl:bG l)(sl:I5 l)(hd:z8 x<64)(hu:bG (m7 x)):c9 Tryz.prog 85 [.agg x.av,L8 l] (fun _=>L8 (x6 x l)) (fun _=>[]):=by
 have C1:=uM x
 have C2:=yA x
 have h1:=Z4 x
 have C3:=tD l (z8 x) hl hd
 have C5:=a4O (m7 x) hu (by omega)
 have C4:=rF (A8 l (z8 x)) (w9 [] (m7 x)) hl.kD (bG.nil.union hu)
 rw[a99 (gY sl _)]at C4
 simp only[e8.av]at C1 C2
 refine Zf Tryz.func85 Tryz.ntmps85 ?_;simp only[e8.av,L8]
 repeat' (first|refine Za ?_|(with_reducible constructor<;>first|intro N hN mk hmk|intro N hN|intro h)|refine Zc C1 ?_|refine Zc C2 ?_|refine Zc C3 ?_|refine Zc C5 ?_|refine Zc C4 ?_|refine Zt b30.d ?_|fail)
 all_goals rfl
theorem c2O(L:List e8):c9 Tryz.prog 83 [.a6 false (e7 L)] (fun n=> .fn 159 [.ptr n 0 0]) (fun n=>[⟨1,[[.a6 false (e7 L)]],0⟩]):=by
 (refine gP Tryz.func83 rfl (by kernel_rfl) ?_;rw[lB Tryz.ntmps83];simp only[List.replicate_succ,List.replicate_zero,List.cons_append,List.nil_append,List.length_cons,List.length_nil,Nat.reduceAdd,Nat.reduceSub];refine u2 ?_)
 repeat' (first|refine Za ?_|(with_reducible constructor<;>first|intro N hN mk hmk|intro N hN|intro h)|refine Zt I8.d ?_|fail)
 exact⟨[0],by decide,fun nid=>⟨by simp only[c5,o0,b5,e6,n9,x8,AV.plain,Nat.reduceBEq,↓reduceIte,Nat.reduceEqDiff,Nat.reduceAdd,sC],by simp only[c5,o0,b5,e6,n9,x8,AV.plain,Nat.reduceBEq,↓reduceIte,Nat.reduceEqDiff,Nat.reduceAdd,sC]⟩⟩
theorem a4Y(L:List e8)(out:List Int):(N5 L.length L.length).foldl (fun s i=>x6 (L.getD i I0) s) out=L.foldr x6 out:=by
 have:∀k,k≤L.length→(N5 L.length k).foldl (fun s i=>x6 (L.getD i I0) s) out=(L.drop (L.length-k)).foldr x6 out:=by
  intro k
  induction k with
  |zero=>intro _;simp [N5]
  |succ k ih=>
   intro hk
   rw[gQ,List.foldl_append,ih (by omega),show L.length-k=(L.length-(k+1))+1 from by omega,List.drop_eq_getElem_cons (i:=L.length-(k+1)) (by omega),List.foldr_cons]
   simp only[List.foldl_cons,List.foldl_nil]
   rw[show L.length-1-k=L.length-(k+1)from by omega,List.getD_eq_getElem?_getD,List.getElem?_eq_getElem (by omega)]
   rfl
 rw[this _ (Nat.le_refl _),Nat.sub_self,List.drop_zero]
theorem b02(l:List e8)(i:Nat):List.take ((l.length:Int)-i).toNat (List.drop i (e7 l))=e7 (l.drop i):=by
 unfold e7
 rw[←List.map_drop,←List.map_take]
 rw[List.take_of_length_le (by simp)]
def cN(L:List e8)(out:List Int)(pre:List Nat):List Int:=pre.foldl (fun s i=>x6 (L.getD i I0) s) out
theorem xS(L:List e8)(out:List Int)(pre:List Nat)(x:Nat):cN L out (pre++[x])=x6 (L.getD x I0) (cN L out pre):=by
 unfold cN;rw[List.foldl_append];rfl
theorem b6Y{L:List e8}(hg:∀x,z8 (L.getD x I0)<64∧bG (m7 (L.getD x I0))):∀{out:List Int},bG out→I5 out→∀pre:List Nat,bG (cN L out pre)∧I5 (cN L out pre):=by
 intro out ho so pre
 induction pre generalizing out with
 |nil=>exact⟨ho,so⟩
 |cons x pre ih=>exact ih (bG.union ho.kD (hg x).2) (oL so)
theorem b4H{L:List e8}(h:∀x∈L,z8 x<64∧bG (m7 x))(x:Nat):z8 (L.getD x I0)<64∧bG (m7 (L.getD x I0)):=by
 by_cases hx:x<L.length
 ·rw[List.getD_eq_getElem?_getD,List.getElem?_eq_getElem hx];exact h _ (List.getElem_mem hx)
 ·rw[List.getD_eq_getElem?_getD,List.getElem?_eq_none (by omega)]
  exact⟨by decide,bG.nil⟩
def a0K:=ZZ.mk (Zq I8.d (Zq @bC (Zq @b02 @Q6)))
theorem b7b(b:b6)(out:List Int)(i:Nat)(hi:i≤b.i.length)(hn:b.i.length≤1000)(ho:bG out)(so:I5 out)(hr:∀x∈b.i,z8 x<64∧bG (m7 x)):
  c9 Tryz.prog 86 [.agg b.av,L8 out,.v (.int .i64 i)] (fun _=>L8 (kV b out i)) (fun _=>[]):=by
 have CB:=c2O (b.i.drop i)
 refine Zf Tryz.func86 Tryz.ntmps86 ?_;simp only[b6.av,o6.av,L8,List.cons_append]
 repeat' (first|refine Za ?_|(with_reducible constructor<;>first|intro N hN mk hmk|intro N hN|intro h)|(refine M8 CB ?_ rfl ?_ ?_;(next=>(simp (disch:=omega) only[a0K.d,v8,Nat.reduceBEq,AV.plain,Nat.reduceAdd,Nat.reduceLeDiff,Nat.reduceLT,↓reduceIte,sF]<;>first|done|rfl));(next=>(simp only[apply_ite List.length,List.length_cons,List.length_nil]<;>(try split)<;>omega)))|(refine H9 CB ?_ rfl ?_ ?_;(next=>(simp (disch:=omega) only[a0K.d,v8,Nat.reduceBEq,AV.plain,Nat.reduceAdd,Nat.reduceLeDiff,Nat.reduceLT,↓reduceIte,sF]<;>first|done|rfl));(next=>(simp only[apply_ite List.length,List.length_cons,List.length_nil]<;>(try split)<;>omega)))|refine Zt a0K.d ?_|fail)
 refine nR 13 (y:= .fn 159 [.aF [[.a6 false (e7 (b.i.drop i))]] 0 0]) (by simp (maxSteps:=10000000) (disch:=omega) only[a0K.d,n7,T6,u4,B4,s7,o7,AV.kept,b8,n6,u5,D5,s8,s6,c7,AV.A6,n8,x5,AV.plain,rd,v8,a8,T1,stepC,AV.j3,AV.U9,AV.x7,AV.O6,AV.scalar,V7,u0,C8,D3,D4,D0,s5,B9,V8,u1,C9,B3,l0,V6,n4,A4,A3,T7,B2,m8,TD.isRow,u3,l9,n3,l7,H7,Value.oneCell',↓reduceIte,Int.reduceNe,Int.reduceEq,Nat.reduceAdd,Nat.reduceLT,Nat.reduceLeDiff,Nat.reduceSub,Nat.reduceMul,Nat.reduceBEq,Nat.reduceEqDiff,reduceCtorEq,Int.reduceToNat,←decide_not,←Bool.decide_and,sA,sN]<;>first|done|rfl) rfl ?_;simp (maxSteps:=10000000) (disch:=omega) only[a8,n6,y3,a0K.d,n7,T6,u4,B4,s7,o7,AV.kept,b8,n6,u5,D5,s8,s6,c7,AV.A6,n8,x5,AV.plain,rd,v8,a8,T1,stepC,AV.j3,AV.U9,AV.x7,AV.O6,AV.scalar,V7,u0,C8,D3,D4,D0,s5,B9,V8,u1,C9,B3,l0,V6,n4,A4,A3,T7,B2,m8,TD.isRow,u3,l9,n3,l7,H7,Value.oneCell',↓reduceIte,Int.reduceNe,Int.reduceEq,Nat.reduceAdd,Nat.reduceLT,Nat.reduceLeDiff,Nat.reduceSub,Nat.reduceMul,Nat.reduceBEq,Nat.reduceEqDiff,reduceCtorEq,Int.reduceToNat,←decide_not,←Bool.decide_and,sA,sN]
 have hg:=b4H (L:=b.i.drop i) fun x hx=>hr x (List.mem_of_mem_drop hx)
 generalize hLd:b.i.drop i=L at*
 refine b2B rfl L (fun pre=>⟨[.Z,.Z,.Z,.Z,.ptr 0 0 0,.Z,.ptr 1 0 0,.Z,.Z,.Z,.Z,.Z,.Z,.fn 159 [.aF [[.a6 false (e7 L)]] 0 0],.Z,.Z,.Z,.Z,.Z,.Z],[(0,.live ⟨4,[[.v (.int .u64 (B7 (cN L out pre))),.v (.int .u64 0),.v (.int .u64 0),.v (.int .u64 0)]],0⟩),(1,.live ⟨4,[[.v (.int .u64 0),.v (.int .u64 0),.v (.int .u64 0),.v (.int .u64 0)]],0⟩)],2⟩) 7 [4,6] (by rw[←hLd];simp;omega) rfl (Zw [4,6,13] [8,16] a0K.d rfl) (fun _=>⟨by simp,by simp⟩) (fun _=>rfl) (fun _=>by simp [b8]) (fun pre x hlt=>?_) ?_
 ·obtain⟨h1,h2⟩:=b6Y hg ho so pre
  have C:=xV (L.getD x I0) (cN L out pre) h1 h2 (hg x).1 (hg x).2
  rw[←xS]at C
  generalize L.getD x I0=y at*
  simp only[e8.av,L8]at C
  simp only[b8V,LS.tf,List.map_cons,List.map_nil,e8.av]
  repeat' (first|refine Za ?_|(with_reducible constructor<;>first|intro N hN mk hmk|intro N hN|intro h)|refine Zs a0K.d ?_|fail)
  refine⟨rfl,?_⟩
  repeat' (first|refine Za ?_|(with_reducible constructor<;>first|intro N hN mk hmk|intro N hN|intro h)|refine Zc C ?_|refine Zs a0K.d ?_|fail)
  refine b3w 2 rfl ?_ ?_ ?_
  ·simp [b8,A7]
  ·rfl
  ·refine hZ (keep:=[4,6,13]) (ids:=[0,1]) (s':=_) (by simp only[A7,o7,Y4,AV.kept,List.map_cons,List.map_nil,List.all_cons,List.all_nil,if_true,if_false,Nat.reduceEqDiff,LS.tf,a0K.d,c5,o0,b5,e6,n9,x8,AV.plain,Nat.reduceBEq,↓reduceIte,Nat.reduceEqDiff,Nat.reduceAdd,sC];rfl) rfl
 ·repeat' (first|refine Za ?_|(with_reducible constructor<;>first|intro N hN mk hmk|intro N hN|intro h)|refine Zt a0K.d ?_|fail)
  rw[show cN L out (N5 L.length L.length)=kV b out i from(a4Y L out).trans (by rw[←hLd];rfl)]
end Go.Proofs.YtgdoiokalfhjoaaGreatDoor
end
