/- Own work (by an AI agent; no person has read it): part of a proof of the seat YtgdoiokalfhjoaaDoor. -/
import Derived.Test.YtgdoiokalfhjoaaDoorXd
set_option linter.unusedSimpArgs false
set_option linter.unusedVariables false
set_option maxRecDepth 100000
set_option maxHeartbeats 10000000
section
namespace Go.Proofs.YtgdoiokalfhjoaaDoor
open Go.Ab
theorem wM(c:List Int)(X:List (List AV)):(m8 c++X).take c.length=m8 c:=by
 rw[List.take_append_of_le_length (by rw[F9];exact Nat.le_refl _),Q5]
theorem a9i(q:List Int)(n:Nat)(g:Nat→Nat):List.map (fun(e:List AV)=>List.map (E6 g 3) e) (m8 q++List.replicate n [AV.Z])=m8 q++List.replicate n [AV.Z]:=by
 rw[List.map_append]
 congr 1
 ·simp [m8,E6]
 ·simp [E6]
def fH(ops:List H8):List Int:=(ops.filter fun o=>decide (o.k=2)).map fun o=>o.n
theorem X6(o:H8)(l:List H8):fH (o::l)=if o.k=2 then o.n::fH l else fH l:=by
 unfold fH
 rw[List.filter_cons]
 by_cases h:o.k=2<;>simp [h]
theorem aY:fH []=[]:=rfl
theorem b3t{ops:List H8}{x:Int}:x∈fH ops↔∃o∈ops,o.k=2∧o.n=x:=by
 unfold fH
 rw[List.mem_map]
 constructor
 ·rintro⟨o,h1,h2⟩
  obtain⟨h3,h4⟩:=List.mem_filter.1 h1
  exact⟨o,h3,by simpa using h4,h2⟩
 ·rintro⟨o,h1,h2,h3⟩
  exact⟨o,List.mem_filter.2 ⟨h1,by simpa using h2⟩,h3⟩
theorem b3Q(ops:List H8):H0 (G8 (fH ops))=A3 ops:=by
 refine N1.ext (qP _ (a3C _)) (fJ _) fun x=>?_
 rw[jF,a8H,b3t,cU]
theorem X7{ops:List H8}{l:List Int}(h:fH ops=l):H0 (G8 l)=A3 ops:=by rw[←h];exact b3Q ops
theorem H5(l:List Int)(hl:l.length≤3):y9 Tryd.prog 69 [.own 0 0 l.length] [⟨1,m8 (G8 l),0⟩] 1 (fun _:Unit=>True) (fun _=> .own 0 0 (H0 (G8 l)).length) (fun _=>[⟨1,m8 (H0 (G8 l))++List.replicate (l.length-(H0 (G8 l)).length) [.Z],0⟩]):=by
 have C:=a4W (G8 l) (by rw[pB];exact hl)
 rw[pB]at C
 exact C
def b4b:=ZZ.mk (Zq @cD (Zq @j0 (Zq @j3 @X0)))
theorem a8I:n5 Tryd.prog 70 [.c5 false [],.v (.int .i64 0),.v (.int .i64 0)] (fun _=> .Q0 []) (fun _=>[]):=by
 refine Zf Tryd.func70 Tryd.ntmps70 ?_
 repeat' (first|refine Za ?_|(with_reducible constructor<;>first|intro N hN mk hmk|intro N hN|intro h)|(guard_target=~ AK Tryd.prog _ _ _ _;refine y3 [()] ?_)|refine Zt b4b.d ?_|fail)
theorem b3K(d:Int):n5 Tryd.prog 66 [.c5 false [],.v (.int .i64 0),.v (.int .i64 0),.v (.int .i64 d)] (fun _=> .Q0 []) (fun _=>[]):=by
 refine Zf Tryd.func66 Tryd.ntmps66 ?_
 repeat' (first|refine Za ?_|(with_reducible constructor<;>first|intro N hN mk hmk|intro N hN|intro h)|(guard_target=~ AK Tryd.prog _ _ _ _;refine y3 [()] ?_)|refine Zc a8I ?_|refine Zt b4b.d ?_|fail)
def b4c:=ZZ.mk (Zq @cD (Zq @j0 @j3))
theorem a4i:n5 Tryd.prog 53 [.c5 false []] (fun _=> .Q0 []) (fun _=>[]):=by
 obtain⟨v,C⟩:=b1w 0 (by omega)
 have C2:=b3K v
 simp only[Int.natCast_zero]at C
 refine Zf Tryd.func53 Tryd.ntmps53 ?_
 repeat' (first|refine Za ?_|(with_reducible constructor<;>first|intro N hN mk hmk|intro N hN|intro h)|refine Zc C ?_|refine Zc C2 ?_|refine Zt b4c.d ?_|fail)
theorem qE:n5 Tryd.prog 69 [.c5 false []] (fun _=> .c5 false []) (fun _=>[]):=by
 refine Zf Tryd.func69 Tryd.ntmps69 ?_
 repeat' (first|refine Za ?_|(with_reducible constructor<;>first|intro N hN mk hmk|intro N hN|intro h)|refine Zt b4c.d ?_|fail)
 all_goals skip
def P8:=ZZ.mk (Zq @a9i (Zq @ite_self.{1} (Zq @F9 (Zq @ct1 (Zq @ct2 (Zq @ct3 (Zq @List.length_append.{0} (Zq @Nat.le_add_right (Zq @wM (Zq @b1R (Zq @j4 (Zq @A7 (Zq @j0 (Zq @j3 @X0))))))))))))))
theorem a75(a b:H8):n5 Tryd.prog 65 [.c5 false (iN [a,b])] (fun _=> .c5 false (m8 (A3 [a,b]))) (fun _=>[]):=by
 obtain⟨ak,an,av⟩:=a
 obtain⟨bk,bn,bv⟩:=b
 by_cases ha:ak=2
 ·by_cases hb:bk=2
  ·have hr:fH [⟨ak,an,av⟩,⟨bk,bn,bv⟩]=[an,bn]:=by simp only[X6,aY,ha,hb,if_true,if_false]
   have e:=X7 hr
   have C1:=bA [an,bn] (by simp)
   have C2:=H5 [an,bn] (by simp)
   rw[e]at C2
   generalize hC:G8 [an,bn]=w at C1 C2
   clear hC e hr
   generalize A3 [⟨ak,an,av⟩,⟨bk,bn,bv⟩]=q at*
   simp only[m8,List.map_cons,List.map_nil,List.length_cons,List.length_nil,Nat.reduceAdd]at C1
   simp only[List.length_cons,List.length_nil,Nat.reduceAdd]at C2
   rw[show(List.map (fun z=>[AV.v (Value.int IntKind.i64 z)]) w)=m8 w from rfl]at C1
   refine Zf Tryd.func65 Tryd.ntmps65 ?_;simp only[iN,H8.av,List.map_cons,List.map_nil]
   repeat' (first|refine Za ?_|(with_reducible constructor<;>first|intro N hN mk hmk|intro N hN|intro h)|(guard_target=~ AK Tryd.prog _ _ _ _;refine y3 [(),(),()] ?_)|(refine Zp C1 [264] (Zq P8.d (Zq ha hb)) ?_;with_reducible intro _ _)|(refine Zp C2 [264] (Zq P8.d (Zq ha hb)) ?_;with_reducible intro _ _)|refine oG (Zq P8.d (Zq ha hb)) ?_|fail)
  ·have hr:fH [⟨ak,an,av⟩,⟨bk,bn,bv⟩]=[an]:=by simp only[X6,aY,ha,hb,if_true,if_false]
   have e:=X7 hr
   have C1:=bA [an] (by simp)
   have C2:=H5 [an] (by simp)
   rw[e]at C2
   generalize hC:G8 [an]=w at C1 C2
   clear hC e hr
   generalize A3 [⟨ak,an,av⟩,⟨bk,bn,bv⟩]=q at*
   simp only[m8,List.map_cons,List.map_nil,List.length_cons,List.length_nil,Nat.reduceAdd]at C1
   simp only[List.length_cons,List.length_nil,Nat.reduceAdd]at C2
   rw[show(List.map (fun z=>[AV.v (Value.int IntKind.i64 z)]) w)=m8 w from rfl]at C1
   refine Zf Tryd.func65 Tryd.ntmps65 ?_;simp only[iN,H8.av,List.map_cons,List.map_nil]
   repeat' (first|refine Za ?_|(with_reducible constructor<;>first|intro N hN mk hmk|intro N hN|intro h)|(guard_target=~ AK Tryd.prog _ _ _ _;refine y3 [(),(),()] ?_)|(refine Zp C1 [136] (Zq P8.d (Zq ha hb)) ?_;with_reducible intro _ _)|(refine Zp C2 [136] (Zq P8.d (Zq ha hb)) ?_;with_reducible intro _ _)|refine oG (Zq P8.d (Zq ha hb)) ?_|fail)
 ·by_cases hb:bk=2
  ·have hr:fH [⟨ak,an,av⟩,⟨bk,bn,bv⟩]=[bn]:=by simp only[X6,aY,ha,hb,if_true,if_false]
   have e:=X7 hr
   have C1:=bA [bn] (by simp)
   have C2:=H5 [bn] (by simp)
   rw[e]at C2
   generalize hC:G8 [bn]=w at C1 C2
   clear hC e hr
   generalize A3 [⟨ak,an,av⟩,⟨bk,bn,bv⟩]=q at*
   simp only[m8,List.map_cons,List.map_nil,List.length_cons,List.length_nil,Nat.reduceAdd]at C1
   simp only[List.length_cons,List.length_nil,Nat.reduceAdd]at C2
   rw[show(List.map (fun z=>[AV.v (Value.int IntKind.i64 z)]) w)=m8 w from rfl]at C1
   refine Zf Tryd.func65 Tryd.ntmps65 ?_;simp only[iN,H8.av,List.map_cons,List.map_nil]
   repeat' (first|refine Za ?_|(with_reducible constructor<;>first|intro N hN mk hmk|intro N hN|intro h)|(guard_target=~ AK Tryd.prog _ _ _ _;refine y3 [(),(),()] ?_)|(refine Zp C1 [216] (Zq P8.d (Zq ha hb)) ?_;with_reducible intro _ _)|(refine Zp C2 [216] (Zq P8.d (Zq ha hb)) ?_;with_reducible intro _ _)|refine oG (Zq P8.d (Zq ha hb)) ?_|fail)
  ·have hr:fH [⟨ak,an,av⟩,⟨bk,bn,bv⟩]=[]:=by simp only[X6,aY,ha,hb,if_true,if_false]
   have e:=X7 hr
   rw[←e]
   refine Zf Tryd.func65 Tryd.ntmps65 ?_;simp only[iN,H8.av,List.map_cons,List.map_nil]
   repeat' (first|refine Za ?_|(with_reducible constructor<;>first|intro N hN mk hmk|intro N hN|intro h)|(guard_target=~ AK Tryd.prog _ _ _ _;refine y3 [(),(),()] ?_)|refine Zc a4i ?_|refine Zc qE ?_|refine oG (Zq P8.d (Zq ha hb)) ?_|fail)
   all_goals rfl
theorem a77(a b c:H8):n5 Tryd.prog 65 [.c5 false (iN [a,b,c])] (fun _=> .c5 false (m8 (A3 [a,b,c]))) (fun _=>[]):=by
 obtain⟨ak,an,av⟩:=a
 obtain⟨bk,bn,bv⟩:=b
 obtain⟨ck,cn,cv⟩:=c
 by_cases ha:ak=2
 ·by_cases hb:bk=2
  ·by_cases hc:ck=2
   ·have hr:fH [⟨ak,an,av⟩,⟨bk,bn,bv⟩,⟨ck,cn,cv⟩]=[an,bn,cn]:=by simp only[X6,aY,ha,hb,hc,if_true,if_false]
    have e:=X7 hr
    have C1:=bA [an,bn,cn] (by simp)
    have C2:=H5 [an,bn,cn] (by simp)
    rw[e]at C2
    generalize hC:G8 [an,bn,cn]=w at C1 C2
    clear hC e hr
    generalize A3 [⟨ak,an,av⟩,⟨bk,bn,bv⟩,⟨ck,cn,cv⟩]=q at*
    simp only[m8,List.map_cons,List.map_nil,List.length_cons,List.length_nil,Nat.reduceAdd]at C1
    simp only[List.length_cons,List.length_nil,Nat.reduceAdd]at C2
    rw[show(List.map (fun z=>[AV.v (Value.int IntKind.i64 z)]) w)=m8 w from rfl]at C1
    refine Zf Tryd.func65 Tryd.ntmps65 ?_;simp only[iN,H8.av,List.map_cons,List.map_nil]
    repeat' (first|refine Za ?_|(with_reducible constructor<;>first|intro N hN mk hmk|intro N hN|intro h)|(guard_target=~ AK Tryd.prog _ _ _ _;refine y3 [(),(),(),()] ?_)|(refine Zp C1 [392] (Zq P8.d (Zq ha (Zq hb hc))) ?_;with_reducible intro _ _)|(refine Zp C2 [392] (Zq P8.d (Zq ha (Zq hb hc))) ?_;with_reducible intro _ _)|refine oG (Zq P8.d (Zq ha (Zq hb hc))) ?_|fail)
   ·have hr:fH [⟨ak,an,av⟩,⟨bk,bn,bv⟩,⟨ck,cn,cv⟩]=[an,bn]:=by simp only[X6,aY,ha,hb,hc,if_true,if_false]
    have e:=X7 hr
    have C1:=bA [an,bn] (by simp)
    have C2:=H5 [an,bn] (by simp)
    rw[e]at C2
    generalize hC:G8 [an,bn]=w at C1 C2
    clear hC e hr
    generalize A3 [⟨ak,an,av⟩,⟨bk,bn,bv⟩,⟨ck,cn,cv⟩]=q at*
    simp only[m8,List.map_cons,List.map_nil,List.length_cons,List.length_nil,Nat.reduceAdd]at C1
    simp only[List.length_cons,List.length_nil,Nat.reduceAdd]at C2
    rw[show(List.map (fun z=>[AV.v (Value.int IntKind.i64 z)]) w)=m8 w from rfl]at C1
    refine Zf Tryd.func65 Tryd.ntmps65 ?_;simp only[iN,H8.av,List.map_cons,List.map_nil]
    repeat' (first|refine Za ?_|(with_reducible constructor<;>first|intro N hN mk hmk|intro N hN|intro h)|(guard_target=~ AK Tryd.prog _ _ _ _;refine y3 [(),(),(),()] ?_)|(refine Zp C1 [264] (Zq P8.d (Zq ha (Zq hb hc))) ?_;with_reducible intro _ _)|(refine Zp C2 [264] (Zq P8.d (Zq ha (Zq hb hc))) ?_;with_reducible intro _ _)|refine oG (Zq P8.d (Zq ha (Zq hb hc))) ?_|fail)
  ·by_cases hc:ck=2
   ·have hr:fH [⟨ak,an,av⟩,⟨bk,bn,bv⟩,⟨ck,cn,cv⟩]=[an,cn]:=by simp only[X6,aY,ha,hb,hc,if_true,if_false]
    have e:=X7 hr
    have C1:=bA [an,cn] (by simp)
    have C2:=H5 [an,cn] (by simp)
    rw[e]at C2
    generalize hC:G8 [an,cn]=w at C1 C2
    clear hC e hr
    generalize A3 [⟨ak,an,av⟩,⟨bk,bn,bv⟩,⟨ck,cn,cv⟩]=q at*
    simp only[m8,List.map_cons,List.map_nil,List.length_cons,List.length_nil,Nat.reduceAdd]at C1
    simp only[List.length_cons,List.length_nil,Nat.reduceAdd]at C2
    rw[show(List.map (fun z=>[AV.v (Value.int IntKind.i64 z)]) w)=m8 w from rfl]at C1
    refine Zf Tryd.func65 Tryd.ntmps65 ?_;simp only[iN,H8.av,List.map_cons,List.map_nil]
    repeat' (first|refine Za ?_|(with_reducible constructor<;>first|intro N hN mk hmk|intro N hN|intro h)|(guard_target=~ AK Tryd.prog _ _ _ _;refine y3 [(),(),(),()] ?_)|(refine Zp C1 [344] (Zq P8.d (Zq ha (Zq hb hc))) ?_;with_reducible intro _ _)|(refine Zp C2 [344] (Zq P8.d (Zq ha (Zq hb hc))) ?_;with_reducible intro _ _)|refine oG (Zq P8.d (Zq ha (Zq hb hc))) ?_|fail)
   ·have hr:fH [⟨ak,an,av⟩,⟨bk,bn,bv⟩,⟨ck,cn,cv⟩]=[an]:=by simp only[X6,aY,ha,hb,hc,if_true,if_false]
    have e:=X7 hr
    have C1:=bA [an] (by simp)
    have C2:=H5 [an] (by simp)
    rw[e]at C2
    generalize hC:G8 [an]=w at C1 C2
    clear hC e hr
    generalize A3 [⟨ak,an,av⟩,⟨bk,bn,bv⟩,⟨ck,cn,cv⟩]=q at*
    simp only[m8,List.map_cons,List.map_nil,List.length_cons,List.length_nil,Nat.reduceAdd]at C1
    simp only[List.length_cons,List.length_nil,Nat.reduceAdd]at C2
    rw[show(List.map (fun z=>[AV.v (Value.int IntKind.i64 z)]) w)=m8 w from rfl]at C1
    refine Zf Tryd.func65 Tryd.ntmps65 ?_;simp only[iN,H8.av,List.map_cons,List.map_nil]
    repeat' (first|refine Za ?_|(with_reducible constructor<;>first|intro N hN mk hmk|intro N hN|intro h)|(guard_target=~ AK Tryd.prog _ _ _ _;refine y3 [(),(),(),()] ?_)|(refine Zp C1 [136] (Zq P8.d (Zq ha (Zq hb hc))) ?_;with_reducible intro _ _)|(refine Zp C2 [136] (Zq P8.d (Zq ha (Zq hb hc))) ?_;with_reducible intro _ _)|refine oG (Zq P8.d (Zq ha (Zq hb hc))) ?_|fail)
 ·by_cases hb:bk=2
  ·by_cases hc:ck=2
   ·have hr:fH [⟨ak,an,av⟩,⟨bk,bn,bv⟩,⟨ck,cn,cv⟩]=[bn,cn]:=by simp only[X6,aY,ha,hb,hc,if_true,if_false]
    have e:=X7 hr
    have C1:=bA [bn,cn] (by simp)
    have C2:=H5 [bn,cn] (by simp)
    rw[e]at C2
    generalize hC:G8 [bn,cn]=w at C1 C2
    clear hC e hr
    generalize A3 [⟨ak,an,av⟩,⟨bk,bn,bv⟩,⟨ck,cn,cv⟩]=q at*
    simp only[m8,List.map_cons,List.map_nil,List.length_cons,List.length_nil,Nat.reduceAdd]at C1
    simp only[List.length_cons,List.length_nil,Nat.reduceAdd]at C2
    rw[show(List.map (fun z=>[AV.v (Value.int IntKind.i64 z)]) w)=m8 w from rfl]at C1
    refine Zf Tryd.func65 Tryd.ntmps65 ?_;simp only[iN,H8.av,List.map_cons,List.map_nil]
    repeat' (first|refine Za ?_|(with_reducible constructor<;>first|intro N hN mk hmk|intro N hN|intro h)|(guard_target=~ AK Tryd.prog _ _ _ _;refine y3 [(),(),(),()] ?_)|(refine Zp C1 [344] (Zq P8.d (Zq ha (Zq hb hc))) ?_;with_reducible intro _ _)|(refine Zp C2 [344] (Zq P8.d (Zq ha (Zq hb hc))) ?_;with_reducible intro _ _)|refine oG (Zq P8.d (Zq ha (Zq hb hc))) ?_|fail)
   ·have hr:fH [⟨ak,an,av⟩,⟨bk,bn,bv⟩,⟨ck,cn,cv⟩]=[bn]:=by simp only[X6,aY,ha,hb,hc,if_true,if_false]
    have e:=X7 hr
    have C1:=bA [bn] (by simp)
    have C2:=H5 [bn] (by simp)
    rw[e]at C2
    generalize hC:G8 [bn]=w at C1 C2
    clear hC e hr
    generalize A3 [⟨ak,an,av⟩,⟨bk,bn,bv⟩,⟨ck,cn,cv⟩]=q at*
    simp only[m8,List.map_cons,List.map_nil,List.length_cons,List.length_nil,Nat.reduceAdd]at C1
    simp only[List.length_cons,List.length_nil,Nat.reduceAdd]at C2
    rw[show(List.map (fun z=>[AV.v (Value.int IntKind.i64 z)]) w)=m8 w from rfl]at C1
    refine Zf Tryd.func65 Tryd.ntmps65 ?_;simp only[iN,H8.av,List.map_cons,List.map_nil]
    repeat' (first|refine Za ?_|(with_reducible constructor<;>first|intro N hN mk hmk|intro N hN|intro h)|(guard_target=~ AK Tryd.prog _ _ _ _;refine y3 [(),(),(),()] ?_)|(refine Zp C1 [216] (Zq P8.d (Zq ha (Zq hb hc))) ?_;with_reducible intro _ _)|(refine Zp C2 [216] (Zq P8.d (Zq ha (Zq hb hc))) ?_;with_reducible intro _ _)|refine oG (Zq P8.d (Zq ha (Zq hb hc))) ?_|fail)
  ·by_cases hc:ck=2
   ·have hr:fH [⟨ak,an,av⟩,⟨bk,bn,bv⟩,⟨ck,cn,cv⟩]=[cn]:=by simp only[X6,aY,ha,hb,hc,if_true,if_false]
    have e:=X7 hr
    have C1:=bA [cn] (by simp)
    have C2:=H5 [cn] (by simp)
    rw[e]at C2
    generalize hC:G8 [cn]=w at C1 C2
    clear hC e hr
    generalize A3 [⟨ak,an,av⟩,⟨bk,bn,bv⟩,⟨ck,cn,cv⟩]=q at*
    simp only[m8,List.map_cons,List.map_nil,List.length_cons,List.length_nil,Nat.reduceAdd]at C1
    simp only[List.length_cons,List.length_nil,Nat.reduceAdd]at C2
    rw[show(List.map (fun z=>[AV.v (Value.int IntKind.i64 z)]) w)=m8 w from rfl]at C1
    refine Zf Tryd.func65 Tryd.ntmps65 ?_;simp only[iN,H8.av,List.map_cons,List.map_nil]
    repeat' (first|refine Za ?_|(with_reducible constructor<;>first|intro N hN mk hmk|intro N hN|intro h)|(guard_target=~ AK Tryd.prog _ _ _ _;refine y3 [(),(),(),()] ?_)|(refine Zp C1 [296] (Zq P8.d (Zq ha (Zq hb hc))) ?_;with_reducible intro _ _)|(refine Zp C2 [296] (Zq P8.d (Zq ha (Zq hb hc))) ?_;with_reducible intro _ _)|refine oG (Zq P8.d (Zq ha (Zq hb hc))) ?_|fail)
   ·have hr:fH [⟨ak,an,av⟩,⟨bk,bn,bv⟩,⟨ck,cn,cv⟩]=[]:=by simp only[X6,aY,ha,hb,hc,if_true,if_false]
    have e:=X7 hr
    rw[←e]
    refine Zf Tryd.func65 Tryd.ntmps65 ?_;simp only[iN,H8.av,List.map_cons,List.map_nil]
    repeat' (first|refine Za ?_|(with_reducible constructor<;>first|intro N hN mk hmk|intro N hN|intro h)|(guard_target=~ AK Tryd.prog _ _ _ _;refine y3 [(),(),(),()] ?_)|refine Zc a4i ?_|refine Zc qE ?_|refine oG (Zq P8.d (Zq ha (Zq hb hc))) ?_|fail)
    all_goals rfl
def lists(l:List (List Int)):List (List AV):=l.map fun x=>[.c5 false (m8 x)]
theorem jZ(l:List (List Int)):(lists l).length=l.length:=by simp [lists]
theorem gY(l:List (List Int))(z:Nat)(h:z<l.length):(lists l)[z]?=some [.c5 false (m8 (l.getD z []))]:=by simp [lists,h,List.getD_eq_getElem?_getD]
theorem rM(l:List (List Int)):(∀e∈lists l,e.length=1)=True:=by simp [lists]
theorem bM(l:List (List Int)):((lists l).all fun e=>e.all AV.plain)=true:=by simp [lists,AV.plain]
theorem gZ(l:List (List Int)):w7 (lists l)=true:=bM l
def fK(inn:List (List Int))(l:List Int):List Int:=l.foldl (fun s to=>E4 s (inn.getD to.toNat [])) []
theorem a5U(inn:List (List Int))(l:List Int)(i:Nat)(h:i<l.length):fK inn (l.take (i+1))=E4 (fK inn (l.take i)) (inn.getD (l.getD i 0).toNat []):=by
 rw[G6 l i 0 h];unfold fK;rw[List.foldl_append];rfl
theorem uD(t:w4):(o4 t).length≤2:=by
 unfold o4
 split
 ·simp
 ·split<;>simp
theorem V8{l:List Int}{i:Nat}(h:i<l.length):l.getD i 0∈l:=by
 rw[List.getD_eq_getElem?_getD,List.getElem?_eq_getElem h];exact List.getElem_mem h
def F7(l:List Bool):List (List AV):=l.map fun z=>[.v (.bool z)]
theorem U8(l:List Bool):(F7 l).length=l.length:=by simp [F7]
theorem W8(l:List Bool)(z:Nat)(h:z<l.length):(F7 l)[z]?=some [.v (.bool (l.getD z false))]:=by simp [F7,h,List.getD_eq_getElem?_getD]
theorem dS(l:List Bool):(∀e∈F7 l,e.length=1)=True:=by
 simp only[eq_iff_iff,iff_true,F7,List.mem_map]
 rintro e ⟨_,_,rfl⟩
 rfl
theorem P9(l:List Bool):((F7 l).all fun e=>e.all AV.plain)=true:=by simp [F7,AV.plain]
theorem M5(l:List Bool):w7 (F7 l)=true:=P9 l
theorem fP(l:List Bool)(k:Nat)(v:Bool):(F7 l).modify k (fun e=>u2 e 0 [.v (.bool v)])=F7 (l.set k v):=by
 apply List.ext_getElem?
 intro j
 rw[List.getElem?_modify]
 simp only[F7,List.getElem?_map,List.getElem?_set]
 by_cases h:k=j
 ·subst h
  by_cases h2:k<l.length
  ·simp [h2,u2]
  ·simp [h2]
 ·simp [h]
theorem eQ(l:List Bool):(F7 l).take l.length=F7 l:=by rw[←U8,List.take_length]
theorem yV(n:Nat):List.replicate n [AV.v (.bool false)]=F7 (List.replicate n false):=by simp [F7]
end Go.Proofs.YtgdoiokalfhjoaaDoor
end
