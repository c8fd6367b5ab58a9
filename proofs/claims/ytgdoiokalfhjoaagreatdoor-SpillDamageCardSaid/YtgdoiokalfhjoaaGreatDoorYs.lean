/- Own work (by an AI agent; no person has read it): part of a proof of the seat YtgdoiokalfhjoaaGreatDoor. -/
import Derived.Test.YtgdoiokalfhjoaaGreatDoorYr
set_option linter.unusedSimpArgs false
set_option linter.unusedVariables false
set_option maxRecDepth 100000
set_option maxHeartbeats 10000000
section
namespace Go.Proofs.YtgdoiokalfhjoaaGreatDoor
open Go.Ab
def slF(l:List Int)(r:Int):Option Value:=if r∈l then some (.int .i64 (gN l r))else none
theorem b2y(l:List Int)(r:Int):(slF l r).isSome=decide (r∈l):=by
 unfold slF;split<;>simp [*]
theorem c1t(l:List Int)(r:Int):(slF l r).getD (.int .i64 0)= .int .i64 (if r∈l then gN l r else 0):=by
 unfold slF;split<;>rfl
theorem c4e:(fun _=>none)=bG .i64 (slF []):=by
 funext v;cases v<;>simp [bG,slF]
theorem a7Y{l:List Int}{a r:Int}(h:a∉l):gN (l++[a]) r=if r∈l then gN l r else if r=a then l.length else l.length+1:=by
 unfold gN
 rw[List.idxOf_append]
 split
 ·rfl
 ·by_cases e:r=a
  ·subst e;simp
  ·have e2:(a==r)=false:=by simpa using Ne.symm e
   rw[if_neg e,List.idxOf_cons,e2]
   simp;omega
theorem c1u{l:List Int}{a:Int}(h:a∉l):(fun c=>if c=a then some (Value.int .i64 l.length)else slF l c)=slF (l++[a]):=by
 funext c
 unfold slF
 rw[a7Y h]
 by_cases e:c=a
 ·subst e;simp [h]
 ·by_cases e2:c∈l
  ·simp [e,e2]
  ·simp [e,e2]
theorem a4o(regs:Int):(fun _=>none)=bG .i64 (nmF [] regs):=by
 funext v;cases v<;>simp [bG,nmF]
theorem kT{K:List Int}{a regs:Int}(h:a∉K):(fun c=>if c=a then some (Value.int .i64 (regs+K.length))else nmF K regs c)=nmF (K++[a]) regs:=by
 funext c
 unfold nmF
 rw[a7Y h]
 by_cases e:c=a
 ·subst e;simp [h]
 ·by_cases e2:c∈K
  ·simp [e,e2]
  ·simp [e,e2]
theorem a4n{K:List Int}{regs:Int}(h:K.Nodup):mapLen (bG .i64 (nmF K regs))=K.length:=by
 have h1:(K.map (Value.int .i64)).Nodup:=by
  exact List.Pairwise.map _ (fun a b hab e=>hab (by cases e;rfl)) h
 rw[a3f h1 fun k=>?_,List.length_map]
 cases k with
 |int q z=>
  cases q<;>simp [bG,nmF]
 |_=>simp [bG]
theorem b4y{l:List Int}(h:I9 l):l.Nodup:=h.imp fun h=>by omega
theorem qI{l:List Int}(h:I9 l){i:Nat}(hi:i<l.length):l.getD i 0∉l.take i:=by
 intro hm
 obtain⟨k,hk,e⟩:=List.getElem_of_mem hm
 rw[List.getD_eq_getElem?_getD,List.getElem?_eq_getElem hi,Option.getD_some,List.getElem_take]at e
 have:=List.pairwise_iff_getElem.1 h k i (by simp at hk;omega) hi (by simp at hk;omega)
 omega
theorem iN{l u:List Int}(h:I9 u){i:Nat}(hi:i<u.length):u.getD i 0∉r6 l (u.take i):=fun hm=>qI h hi (b7q.1 hm).1
theorem kO(l K:List Int)(regs a:Int):I7 l (K++[a]) regs=I7 l K regs++[a7U l regs a K.length]:=by
 unfold I7
 rw[List.length_append,List.length_singleton,List.range_succ,List.map_append]
 congr 1
 ·refine List.map_congr_left fun k hk=>?_
  rw[List.getD_eq_getElem?_getD,List.getD_eq_getElem?_getD,List.getElem?_append_left (List.mem_range.1 hk)]
 ·simp
theorem iP{l u:List Int}(h:I9 u):(r6 l u).Nodup:=(b4y h).sublist List.filter_sublist
theorem b77(x:e7):I9 (o5 x):=gB _
theorem b4A(t:q9):I9 (n6 t):=gB _
def c5N:List AV:= .a8 true []::Q6.av
def Q5(c:Code)(l:List Int)(i:Nat):List (List AV):=o0 ((c.b.take i).map (I3 l c.regs))++List.replicate (c.b.length-i) c5N
theorem qP(c:Code)(l:List Int)(i:Nat)(h:i≤c.b.length):(Q5 c l i).length=c.b.length:=by simp [Q5,o0];omega
theorem b4I(c:Code)(l:List Int):Q5 c l c.b.length=o0 (c.b.map (I3 l c.regs)):=by simp [Q5]
theorem zI(c:Code)(l:List Int)(i:Nat):(∀e∈Q5 c l i,e.length=14)=True:=by
 refine eq_true fun e he=>?_
 rcases List.mem_append.1 he with h|h
 ·obtain⟨b,_,rfl⟩:=List.mem_map.1 h;rfl
 ·rw[(List.mem_replicate.1 h).2];rfl
theorem b4K(c:Code)(l:List Int)(i:Nat)(r:Nat→Option Nat):((Q5 c l i).mapM fun e=>e.mapM (n5 r 3))=some (Q5 c l i):=by
 refine gV fun e he=>gV fun x hx=>?_
 rcases List.mem_append.1 he with h|h
 ·obtain⟨b,_,rfl⟩:=List.mem_map.1 h
  simp only[b6.av,q9.av,List.mem_cons,List.not_mem_nil,or_false]at hx
  rcases hx with rfl|rfl|rfl|rfl|rfl|rfl|rfl|rfl|rfl|rfl|rfl|rfl|rfl|rfl<;>rfl
 ·rw[(List.mem_replicate.1 h).2]at hx
  simp only[c5N,q9.av,List.mem_cons,List.not_mem_nil,or_false]at hx
  rcases hx with rfl|rfl|rfl|rfl|rfl|rfl|rfl|rfl|rfl|rfl|rfl|rfl|rfl|rfl<;>rfl
theorem b4J(c:Code)(l:List Int)(i:Nat)(h:i<c.b.length)(x:List AV)(hx:x=(I3 l c.regs (c.b.getD i B0)).av):(Q5 c l i).modify i (fun e=>o6 e 0 x)=Q5 c l (i+1):=by
 subst hx
 apply List.ext_getElem?
 intro j
 rw[List.getElem?_modify]
 have hl:(o0 ((c.b.take i).map (I3 l c.regs))).length=i:=by simp [o0];omega
 have hl2:(o0 ((c.b.take (i+1)).map (I3 l c.regs))).length=i+1:=by simp [o0];omega
 unfold Q5
 by_cases h1:j<i
 ·rw[List.getElem?_append_left (by omega),List.getElem?_append_left (by omega)]
  simp [o0,h1,show j<i+1 by omega,show¬i=j by omega]
 ·by_cases h2:j=i
  ·subst h2
   rw[List.getElem?_append_right (by omega),hl,List.getElem?_append_left (by omega)]
   have h3:j<c.b.length:=h
   simp [o0,List.getElem?_replicate,show 0<c.b.length-j by omega,List.getElem?_take,h3]
   rfl
  ·rw[List.getElem?_append_right (by omega),List.getElem?_append_right (by omega),hl,hl2]
   simp only[List.getElem?_replicate,show¬i=j by omega,if_false]
   have:(j-i<c.b.length-i)↔(j-(i+1)<c.b.length-(i+1)):=by omega
   by_cases h4:j-i<c.b.length-i
   ·rw[if_pos h4,if_pos (this.1 h4)];rfl
   ·rw[if_neg h4,if_neg (fun h=>h4 (this.2 h))];rfl
theorem c5M(c:Code)(l:List Int):List.replicate c.b.length [AV.a8 true [],.v (.int .i64 0),.v (.int .i64 0),.v (.int .i64 0),.v (.int .i64 0),.v (.int .i32 0),.v (.int .i64 0),.v (.int .i64 0),.v (.int .i32 0),.v (.int .i64 0),.v (.int .i64 0),.v (.int .i32 0),.v (.int .i64 0),.v (.int .i64 0)]=Q5 c l 0:=by
 simp only[Q5,o0,List.take_zero,List.map_nil,List.nil_append,Nat.sub_zero];rfl
theorem qO(c:Code)(l:List Int)(i:Nat)(h:i<c.b.length)(x:List AV)(hx:x.length=14):((Q5 c l i).modify i fun e=>o6 e 0 x)[i]?=some x:=by
 have hl:(Q5 c l i).length=c.b.length:=qP c l i (by omega)
 have hi:i<(Q5 c l i).length:=by omega
 have h14:((Q5 c l i)[i]).length=14:=by
  have:=zI c l i
  exact(of_eq_true this) _ (List.getElem_mem hi)
 rw[List.getElem?_modify,List.getElem?_eq_getElem hi]
 simp only[if_true,Option.map_eq_map,Option.map_some,Option.some.injEq]
 apply List.ext_getElem?
 intro j
 rw[gY]
 by_cases hj:j<14
 ·rw[if_pos (by omega),if_pos (by omega)];rfl
 ·rw[if_neg (by omega),List.getElem?_eq_none (by omega),List.getElem?_eq_none (by omega)]
theorem mP(c:Code)(l:List Int)(i:Nat)(h:i<c.b.length)(a y:AV)(T:List AV)(hT:T.length=13)(hx:y::T=(I3 l c.regs (c.b.getD i B0)).av):((Q5 c l i).modify i fun e=>o6 e 0 (a::T)).modify i (fun e=>o6 e 0 [y])=Q5 c l (i+1):=by
 rw[←b4J c l i h (y::T) hx]
 apply List.ext_getElem?
 intro j
 rw[List.getElem?_modify,List.getElem?_modify,List.getElem?_modify]
 by_cases e:i=j
 ·subst e
  have hi:i<(Q5 c l i).length:=by rw[qP c l i (by omega)];exact h
  have h14:((Q5 c l i)[i]).length=14:=(of_eq_true (zI c l i)) _ (List.getElem_mem hi)
  rw[List.getElem?_eq_getElem hi]
  generalize (Q5 c l i)[i]=E at h14
  simp only[if_true,Option.map_eq_map,Option.map_some,Option.some.injEq]
  cases E with
  |nil=>simp at h14
  |cons z E=>
   have hs:∀e:List AV,o6 e 0 []=e:=fun e=>by cases e<;>rfl
   simp [o6,hs]
 ·simp [e]
def o7:=ZZ.mk (Zq zN.d (Zq a67.d (Zq a6Y.d (Zq @List.length_append.{0} (Zq @c13 (Zq @b2y (Zq @c1t (Zq @zB (Zq @zI (Zq @b4K (Zq @ite_self.{1} @cB)))))))))))
def c4P:=ZZ.mk (Zq o7.d @aB)
theorem qT(c:Code)(l:List Int)(hc:y3 c)(hl:I9 l)(hr:∀q∈l,0≤q∧q<c.regs):e8 Tryz.prog 125 [.agg c.av,.a8 false (c7 l)] (fun _=> .agg (n8 c l).av) (fun _=>[]):=by
 have hc0:=hc.r
 have hn:=hc.n
 have hlen:=pZ hr hl hc0.1
 refine Zf Tryz.func125 Tryz.ntmps125 ?_;simp only[Code.av]
 repeat' (first|refine Za ?_|(with_reducible constructor<;>first|intro N hN mk hmk|intro N hN|intro h)|(clear hN N)|refine Zt o7.d ?_|fail)
 ·have e:l=[]:=List.length_eq_zero_iff.1 (by omega)
  unfold n8;rw[if_pos e]
 ·have hne:¬l=[]:=fun e=>by subst e;simp at*
  obtain⟨q0,hq0⟩:=List.exists_mem_of_ne_nil l hne
  have hq0s:(bG .i64 (slF l) (.int .i64 q0)).isSome=true:=by rw[sZ,b2y];exact decide_eq_true hq0
  intro bs
  repeat' (first|refine Za ?_|(with_reducible constructor<;>first|intro N hN mk hmk|intro N hN|intro h)|(clear hN N)|refine Zt o7.d ?_|fail)
  refine l8 (fun i=>⟨[.Z,.a8 false (c7 l),.ptr 0 0 0,.Z,.ptr 1 0 0,.v (.map (some bs)),.Z,.Z,.Z,.Z,.Z,.Z,.Z,.Z,.Z,.Z,.Z,.a8 false (c7 l),.v (.int .i64 l.length),.v (.int .i64 i),.Z,.Z,.Z,.Z,.Z,.Z,.Z,.Z,.Z,.Z,.Z,.Z,.Z,.Z,.Z,.Z,.Z,.Z,.Z,.Z,.Z,.Z,.Z,.Z,.Z,.Z,.Z,.Z,.Z,.Z,.Z,.Z,.Z,.Z,.Z,.Z,.Z,.Z,.Z,.Z,.Z,.Z,.Z,.Z,.Z,.Z,.Z,.Z,.Z,.Z,.Z,.Z,.Z,.Z,.Z,.Z,.Z,.Z,.Z,.Z,.Z,.Z,.Z,.Z,.Z,.Z,.Z,.Z,.Z,.Z,.Z],[(0,.live ⟨8,[[.v (.int .i64 c.group),.v (.int .i64 c.sub),.v (.int .i64 c.regs),.v (.int .i64 c.w5),.v (.int .i64 c.params),.a8 false (y4 c.c9),.a8 false (Proofs.YtgdoiokalfhjoaaGreatDoor.loops c.loops),.a8 false (o0 c.b)]],0⟩),(1,.live ⟨8,[[.v (.int .i64 0),.v (.int .i64 0),.v (.int .i64 0),.v (.int .i64 0),.v (.int .i64 0),.a8 true [],.a8 true [],.a8 true []]],0⟩),(2,.mp bs (.int .i64) (bG .i64 (slF (l.take i))))],3⟩) l.length (Zw [1,2,4,5,17,18,19] [0,8] o7.d ?_) ?_
  ·rw[c4e];rfl
  ·intro i hi
   by_cases hlt:i<l.length
   ·have hfr:=qI hl hlt
    repeat' (first|refine Za ?_|(with_reducible constructor<;>first|intro N hN mk hmk|intro N hN|intro h)|(clear hN N)|refine Zt o7.d ?_|fail)
    have e1:=c1u hfr
    rw[show(l.take i).length=i by simp;omega,←w9 l i 0 hlt]at e1
    rw[e1]
    refine Zw [1,2,4,5,17,18,19] [0,1] o7.d ?_
    rfl
   ·obtain rfl:i=l.length:=by omega
    rw[List.take_length]
    repeat' (first|refine Za ?_|(with_reducible constructor<;>first|intro N hN mk hmk|intro N hN|intro h)|(clear hN N)|refine Zt (Zq o7.d (c5M c l)) ?_|fail)
    clear hi hlt
    refine l8 (fun i=>⟨[.Z,.a8 false (c7 l),.ptr 0 0 0,.Z,.ptr 1 0 0,.v (.map (some bs)),.Z,.Z,.ptr 2 0 0,.Z,.Z,.Z,.Z,.Z,.Z,.Z,.Z,.Z,.Z,.Z,.Z,.Z,.Z,.Z,.Z,.Z,.Z,.Z,.Z,.Z,.Z,.Z,.Z,.Z,.Z,.Z,.Z,.Z,.Z,.Z,.Z,.Z,.a8 false (o0 c.b),.v (.int .i64 c.b.length),.v (.int .i64 i),.Z,.Z,.Z,.Z,.Z,.Z,.Z,.Z,.Z,.Z,.Z,.Z,.Z,.Z,.Z,.Z,.Z,.Z,.Z,.Z,.Z,.Z,.Z,.Z,.Z,.Z,.Z,.Z,.Z,.Z,.Z,.Z,.Z,.Z,.Z,.Z,.Z,.Z,.Z,.Z,.Z,.Z,.Z,.Z,.Z,.Z],[(0,.live ⟨8,[[.v (.int .i64 c.group),.v (.int .i64 c.sub),.v (.int .i64 c.regs),.v (.int .i64 c.w5),.v (.int .i64 c.params),.a8 false (y4 c.c9),.a8 false (Proofs.YtgdoiokalfhjoaaGreatDoor.loops c.loops),.a8 false (o0 c.b)]],0⟩),(1,.live ⟨8,[[.v (.int .i64 0),.v (.int .i64 0),.v (.int .i64 0),.v (.int .i64 0),.v (.int .i64 0),.a8 true [],.a8 true [],.a8 true []]],0⟩),(2,.live ⟨8,[[.v (.int .i64 c.group),.v (.int .i64 c.sub),.v (.int .i64 (c.regs+3)),.v (.int .i64 l.length),.v (.int .i64 c.params),.a8 false (y4 c.c9),.a8 false (Proofs.YtgdoiokalfhjoaaGreatDoor.loops c.loops),.own 3 0 c.b.length]],0⟩),(3,.live ⟨14,Q5 c l i,0⟩),(4,.mp bs (.int .i64) (bG .i64 (slF l)))],5⟩) c.b.length (Zw [1,2,4,5,8,42,43,44] [0,1,19,131] (Zq o7.d (c5M c l)) ?_) ?_
    ·rfl
    ·intro i hi
     have hzl:=qP c l i hi
     by_cases hlt:i<c.b.length
     ·have hbo:=hc.b _ (S5 hlt)
      obtain⟨B,hB⟩:∃B,B=B6 c.b i:=⟨_,rfl⟩
      have hB2:c.b.getD i B0=B:=by rw[hB];rfl
      rw[←hB]at hbo
      have hbl:=hbo.l
      repeat' (first|refine Za ?_|(with_reducible constructor<;>first|intro N hN mk hmk|intro N hN|intro h)|(refine u7 1 [2,4,8,10,11] Tryz.func201 rfl (by kernel_rfl) (by simp only[b7,ne_eq,Nat.reduceEqDiff,not_false_eq_true,and_self]) ?_;rw[B9 Tryz.ntmps201];refine u4 ?_)|(clear hN N)|refine Zt (Zq o7.d (Zq hB2 hzl)) ?_|fail)
      have hou:=fun k=>oE l c.regs B.i k
      refine u9 (cX (id:=93) (i:=0) (j:=3) rfl) ?_
      simp only[Z6,Nat.reduceEqDiff,if_true,if_false,↓reduceIte,List.modify_zero_cons,List.set_cons_succ,List.set_cons_zero]
      refine l8 (fun k=>⟨[.Z,.nD 202 [.ptr 5 0 0],.Z,.Z,.Z,.Z,.a8 false (c6 B.i),.v (.int .i64 B.i.length),.v (.int .i64 k),.Z,.Z,.Z,.Z,.Z,.Z,.Z],(if(cJ l c.regs B.i k)=[]then[(0,.live ⟨8,[[.v (.int .i64 c.group),.v (.int .i64 c.sub),.v (.int .i64 c.regs),.v (.int .i64 c.w5),.v (.int .i64 c.params),.a8 false (y4 c.c9),.a8 false (Proofs.YtgdoiokalfhjoaaGreatDoor.loops c.loops),.a8 false (o0 c.b)]],0⟩),(1,.live ⟨8,[[.v (.int .i64 0),.v (.int .i64 0),.v (.int .i64 0),.v (.int .i64 0),.v (.int .i64 0),.a8 true [],.a8 true [],.a8 true []]],0⟩),(2,.live ⟨8,[[.v (.int .i64 c.group),.v (.int .i64 c.sub),.v (.int .i64 (c.regs+3)),.v (.int .i64 l.length),.v (.int .i64 c.params),.a8 false (y4 c.c9),.a8 false (Proofs.YtgdoiokalfhjoaaGreatDoor.loops c.loops),.own 3 0 c.b.length]],0⟩),(3,.live ⟨14,Q5 c l i,0⟩),(4,.live ⟨14,[[.a8 false (c6 B.i),.v (.int .i64 B.t.kind),.v (.int .i64 B.t.sub),.v (.int .i64 B.t.d.k),.v (.int .i64 B.t.d.n),.v (.int .i32 B.t.d.v),.v (.int .i64 B.t.a.k),.v (.int .i64 B.t.a.n),.v (.int .i32 B.t.a.v),.v (.int .i64 B.t.b.k),.v (.int .i64 B.t.b.n),.v (.int .i32 B.t.b.v),.v (.int .i64 B.t.t0),.v (.int .i64 B.t.t1)]],0⟩),(5,.live ⟨4,[[.v (.map (some bs)),.v (.int .i64 c.regs),.a8 true [],.Z]],0⟩),(6,.mp bs (.int .i64) (bG .i64 (slF l))),(7,.u5 1 [.ptr 0 0 0,.ptr 1 0 0,.ptr 2 0 0,.ptr 4 0 0,.ptr 5 0 0])]else[(0,.live ⟨8,[[.v (.int .i64 c.group),.v (.int .i64 c.sub),.v (.int .i64 c.regs),.v (.int .i64 c.w5),.v (.int .i64 c.params),.a8 false (y4 c.c9),.a8 false (Proofs.YtgdoiokalfhjoaaGreatDoor.loops c.loops),.a8 false (o0 c.b)]],0⟩),(1,.live ⟨8,[[.v (.int .i64 0),.v (.int .i64 0),.v (.int .i64 0),.v (.int .i64 0),.v (.int .i64 0),.a8 true [],.a8 true [],.a8 true []]],0⟩),(2,.live ⟨8,[[.v (.int .i64 c.group),.v (.int .i64 c.sub),.v (.int .i64 (c.regs+3)),.v (.int .i64 l.length),.v (.int .i64 c.params),.a8 false (y4 c.c9),.a8 false (Proofs.YtgdoiokalfhjoaaGreatDoor.loops c.loops),.own 3 0 c.b.length]],0⟩),(3,.live ⟨14,Q5 c l i,0⟩),(4,.live ⟨14,[[.a8 false (c6 B.i),.v (.int .i64 B.t.kind),.v (.int .i64 B.t.sub),.v (.int .i64 B.t.d.k),.v (.int .i64 B.t.d.n),.v (.int .i32 B.t.d.v),.v (.int .i64 B.t.a.k),.v (.int .i64 B.t.a.n),.v (.int .i32 B.t.a.v),.v (.int .i64 B.t.b.k),.v (.int .i64 B.t.b.n),.v (.int .i32 B.t.b.v),.v (.int .i64 B.t.t0),.v (.int .i64 B.t.t1)]],0⟩),(5,.live ⟨4,[[.v (.map (some bs)),.v (.int .i64 c.regs),.own 6 0 (cJ l c.regs B.i k).length,.Z]],0⟩),(6,.live ⟨15,c6 (cJ l c.regs B.i k),0⟩),(7,.mp bs (.int .i64) (bG .i64 (slF l))),(8,.u5 1 [.ptr 0 0 0,.ptr 1 0 0,.ptr 2 0 0,.ptr 4 0 0,.ptr 5 0 0])]),(if(cJ l c.regs B.i k)=[]then 8 else 9)⟩) B.i.length (Zw [1,6,7,8] [0,1,2,3,37,93] (Zq o7.d (Zq hB2 hzl)) ?_) ?_
      ·have e:cJ l c.regs B.i 0=[]:=rfl
       rw[e,if_pos rfl,if_pos rfl];rfl
      ·intro k hk
       have hok:=hou k
       by_cases hlk:k<B.i.length
       ·have hs:=kW l c.regs B.i k hlk
        have hbi:=hbo.i _ (show B.i.getD k I0∈B.i by rw[List.getD_eq_getElem?_getD,List.getElem?_eq_getElem hlk];exact List.getElem_mem hlk)
        have hne2:cJ l c.regs B.i (k+1)≠[]:=by rw[hs];intro h;exact absurd (List.append_eq_nil_iff.1 h).2 (xB _ _ _)
        rw[if_neg hne2,if_neg hne2]
        obtain⟨x,hx⟩:∃x,B.i.getD k I0=x:=⟨_,rfl⟩
        rw[hx]at hs hbi
        have hu:=cC x
        have hsu:=b77 x
        have C1:=wO x
        have C2:=sU x
        simp only[e7.av]at C1 C2
        have C3:=fun(K:List Int) (O:List e7) (bn:Nat) (o:E3)=>a8o o K c.regs c.regs (.map (some bs)) O bn
        simp only[E3.av]at C3
        by_cases hO:cJ l c.regs B.i k=[]
        ·rw[if_pos hO,if_pos hO]
         repeat' (first|refine Za ?_|(with_reducible constructor<;>first|intro N hN mk hmk|intro N hN|intro h)|(refine u7 2 [1] Tryz.func202 rfl (by kernel_rfl) (by simp only[b7,ne_eq,Nat.reduceEqDiff,not_false_eq_true,and_self]) ?_;rw[B9 Tryz.ntmps202];refine u4 ?_)|(refine u7 3 [0,3] Tryz.func203 rfl (by kernel_rfl) (by simp only[b7,ne_eq,Nat.reduceEqDiff,not_false_eq_true,and_self]) ?_;rw[B9 Tryz.ntmps203];refine u4 ?_)|refine Zc C1 ?_|(clear hN N)|refine Zt (Zq o7.d (Zq hx (Zq hB2 hzl))) ?_|fail)
         intro bn
         repeat' (first|refine Za ?_|(with_reducible constructor<;>first|intro N hN mk hmk|intro N hN|intro h)|(refine u7 2 [1] Tryz.func202 rfl (by kernel_rfl) (by simp only[b7,ne_eq,Nat.reduceEqDiff,not_false_eq_true,and_self]) ?_;rw[B9 Tryz.ntmps202];refine u4 ?_)|(refine u7 3 [0,3] Tryz.func203 rfl (by kernel_rfl) (by simp only[b7,ne_eq,Nat.reduceEqDiff,not_false_eq_true,and_self]) ?_;rw[B9 Tryz.ntmps203];refine u4 ?_)|refine Zc C1 ?_|(clear hN N)|refine Zt (Zq o7.d (Zq hx (Zq hB2 hzl))) ?_|fail)
         refine sL 6 120 (b1:=bs) (b2:=bn) rfl rfl (fun h=>by cases h) (.int .i64 q0) hq0s rfl fun hbn=>?_
         have hb1:=eq_false hbn
         have hb2:=eq_false (Ne.symm hbn)
         rw[a4o c.regs]
         refine l8 (fun j=>⟨[.ptr 5 0 0,.Z,.Z,.Z,.Z,.Z,.Z,.Z,.Z,.Z,.Z,.Z,.a8 false (c7 (o5 x)),.v (.int .i64 (o5 x).length),.v (.int .i64 j),.Z,.Z,.Z,.Z,.Z,.Z,.Z,.Z,.Z,.Z,.Z,.Z,.Z,.Z,.Z,.Z,.Z,.Z,.Z,.Z,.Z,.Z,.Z,.Z,.Z,.Z,.Z,.Z,.Z,.Z,.Z,.Z,.Z,.Z,.Z,.Z,.Z,.Z,.Z,.Z,.Z,.Z,.Z,.Z,.Z,.Z,.Z],(if(r6 l ((o5 x).take j))=[]then[(0,.live ⟨8,[[.v (.int .i64 c.group),.v (.int .i64 c.sub),.v (.int .i64 c.regs),.v (.int .i64 c.w5),.v (.int .i64 c.params),.a8 false (y4 c.c9),.a8 false (Proofs.YtgdoiokalfhjoaaGreatDoor.loops c.loops),.a8 false (o0 c.b)]],0⟩),(1,.live ⟨8,[[.v (.int .i64 0),.v (.int .i64 0),.v (.int .i64 0),.v (.int .i64 0),.v (.int .i64 0),.a8 true [],.a8 true [],.a8 true []]],0⟩),(2,.live ⟨8,[[.v (.int .i64 c.group),.v (.int .i64 c.sub),.v (.int .i64 (c.regs+3)),.v (.int .i64 l.length),.v (.int .i64 c.params),.a8 false (y4 c.c9),.a8 false (Proofs.YtgdoiokalfhjoaaGreatDoor.loops c.loops),.own 3 0 c.b.length]],0⟩),(3,.live ⟨14,Q5 c l i,0⟩),(4,.live ⟨14,[[.a8 false (c6 B.i),.v (.int .i64 B.t.kind),.v (.int .i64 B.t.sub),.v (.int .i64 B.t.d.k),.v (.int .i64 B.t.d.n),.v (.int .i32 B.t.d.v),.v (.int .i64 B.t.a.k),.v (.int .i64 B.t.a.n),.v (.int .i32 B.t.a.v),.v (.int .i64 B.t.b.k),.v (.int .i64 B.t.b.n),.v (.int .i32 B.t.b.v),.v (.int .i64 B.t.t0),.v (.int .i64 B.t.t1)]],0⟩),(5,.live ⟨4,[[.v (.map (some bs)),.v (.int .i64 c.regs),.a8 true [],.v (.map (some bn))]],0⟩),(6,.live ⟨15,[[.v (.int .i64 x.op),.v (.int .i64 x.sub),.v (.int .i64 x.n),.v (.int .i64 x.d.k),.v (.int .i64 x.d.n),.v (.int .i32 x.d.v),.v (.int .i64 x.a.k),.v (.int .i64 x.a.n),.v (.int .i32 x.a.v),.v (.int .i64 x.b.k),.v (.int .i64 x.b.n),.v (.int .i32 x.b.v),.v (.int .i64 x.c.k),.v (.int .i64 x.c.n),.v (.int .i32 x.c.v)]],0⟩),(7,.mp bs (.int .i64) (bG .i64 (slF l))),(8,.u5 1 [.ptr 0 0 0,.ptr 1 0 0,.ptr 2 0 0,.ptr 4 0 0,.ptr 5 0 0]),(9,.u5 2 [.nD 202 [.ptr 5 0 0]]),(10,.u5 3 [.ptr 5 0 0,.ptr 6 0 0]),(11,.mp bn (.int .i64) (bG .i64 (nmF (r6 l ((o5 x).take j)) c.regs)))]else[(0,.live ⟨8,[[.v (.int .i64 c.group),.v (.int .i64 c.sub),.v (.int .i64 c.regs),.v (.int .i64 c.w5),.v (.int .i64 c.params),.a8 false (y4 c.c9),.a8 false (Proofs.YtgdoiokalfhjoaaGreatDoor.loops c.loops),.a8 false (o0 c.b)]],0⟩),(1,.live ⟨8,[[.v (.int .i64 0),.v (.int .i64 0),.v (.int .i64 0),.v (.int .i64 0),.v (.int .i64 0),.a8 true [],.a8 true [],.a8 true []]],0⟩),(2,.live ⟨8,[[.v (.int .i64 c.group),.v (.int .i64 c.sub),.v (.int .i64 (c.regs+3)),.v (.int .i64 l.length),.v (.int .i64 c.params),.a8 false (y4 c.c9),.a8 false (Proofs.YtgdoiokalfhjoaaGreatDoor.loops c.loops),.own 3 0 c.b.length]],0⟩),(3,.live ⟨14,Q5 c l i,0⟩),(4,.live ⟨14,[[.a8 false (c6 B.i),.v (.int .i64 B.t.kind),.v (.int .i64 B.t.sub),.v (.int .i64 B.t.d.k),.v (.int .i64 B.t.d.n),.v (.int .i32 B.t.d.v),.v (.int .i64 B.t.a.k),.v (.int .i64 B.t.a.n),.v (.int .i32 B.t.a.v),.v (.int .i64 B.t.b.k),.v (.int .i64 B.t.b.n),.v (.int .i32 B.t.b.v),.v (.int .i64 B.t.t0),.v (.int .i64 B.t.t1)]],0⟩),(5,.live ⟨4,[[.v (.map (some bs)),.v (.int .i64 c.regs),.own 7 0 (I7 l (r6 l ((o5 x).take j)) c.regs).length,.v (.map (some bn))]],0⟩),(6,.live ⟨15,[[.v (.int .i64 x.op),.v (.int .i64 x.sub),.v (.int .i64 x.n),.v (.int .i64 x.d.k),.v (.int .i64 x.d.n),.v (.int .i32 x.d.v),.v (.int .i64 x.a.k),.v (.int .i64 x.a.n),.v (.int .i32 x.a.v),.v (.int .i64 x.b.k),.v (.int .i64 x.b.n),.v (.int .i32 x.b.v),.v (.int .i64 x.c.k),.v (.int .i64 x.c.n),.v (.int .i32 x.c.v)]],0⟩),(7,.live ⟨15,c6 (I7 l (r6 l ((o5 x).take j)) c.regs),0⟩),(8,.mp bs (.int .i64) (bG .i64 (slF l))),(9,.u5 1 [.ptr 0 0 0,.ptr 1 0 0,.ptr 2 0 0,.ptr 4 0 0,.ptr 5 0 0]),(10,.u5 2 [.nD 202 [.ptr 5 0 0]]),(11,.u5 3 [.ptr 5 0 0,.ptr 6 0 0]),(12,.mp bn (.int .i64) (bG .i64 (nmF (r6 l ((o5 x).take j)) c.regs)))]),(if(r6 l ((o5 x).take j))=[]then 12 else 13)⟩) (o5 x).length (Zw [0,12,13,14] [0,1,2,3,4,5,72] (Zq o7.d (Zq hx (Zq hB2 hzl))) ?_) ?_
         ·rfl
         ·intro j hj
          have hKn:=iP (l:=l) (u:=(o5 x).take j) (hsu.sublist (List.take_sublist _ _))
          have hml:=a4n (regs:=c.regs) hKn
          have hkl:(r6 l ((o5 x).take j)).length≤3:=Nat.le_trans (X0 _ _) (by rw[List.length_take];omega)
          obtain⟨K,hK⟩:∃K,(r6 l ((o5 x).take j))=K:=⟨_,rfl⟩
          rw[hK]at hKn hml hkl⊢
          by_cases hlj:j<(o5 x).length
          ·have hKf:=iN (l:=l) hsu hlj
           rw[hK]at hKf
           by_cases hK0:K=[]
           ·subst hK0
            rw[if_pos rfl,if_pos rfl]
            repeat' (first|refine Zl ?_|(with_reducible constructor<;>first|intro N hN mk hmk|intro N hN|intro h)|(refine u7 2 [1] Tryz.func202 rfl (by kernel_rfl) (by simp only[b7,ne_eq,Nat.reduceEqDiff,not_false_eq_true,and_self]) ?_;rw[B9 Tryz.ntmps202];refine u4 ?_)|(refine u7 3 [0,3] Tryz.func203 rfl (by kernel_rfl) (by simp only[b7,ne_eq,Nat.reduceEqDiff,not_false_eq_true,and_self]) ?_;rw[B9 Tryz.ntmps203];refine u4 ?_)|refine Zc (aE _) ?_|(clear hN N)|refine Zt (Zq o7.d (Zq hb1 (Zq hb2 (Zq hml (Zq hx (Zq hB2 hzl)))))) ?_|fail)
            ·have e1:=eY hlj (by assumption)
             rw[hK,List.nil_append]at e1
             have e2:=kT (regs:=c.regs) hKf
             have hn1:¬[(o5 x).getD j 0]=[]:=by simp
             rw[e1,if_neg hn1,if_neg hn1]
             simp only[List.length_nil]at e2
             rw[e2,if_pos (by assumption)]
             refine Zw [0,12,13,14] [0,1,2,3,4,5,6,372] (Zq o7.d (Zq hb1 (Zq hb2 (Zq hml (Zq hx (Zq hB2 hzl)))))) ?_
             rfl
            ·have e1:=iO hlj (by assumption)
             rw[hK]at e1
             rw[e1,if_pos rfl,if_pos rfl]
             refine Zw [0,12,13,14] [0,1,2,3,4,5,6] (Zq o7.d (Zq hb1 (Zq hb2 (Zq hml (Zq hx (Zq hB2 hzl)))))) ?_
             rfl
           ·rw[if_neg hK0,if_neg hK0]
            obtain⟨G,hG⟩:∃G,G=I7 l K c.regs:=⟨_,rfl⟩
            have hGl:G.length≤3:=by rw[hG,Y9];exact hkl
            rw[←hG]
            repeat' (first|refine Zl ?_|(with_reducible constructor<;>first|intro N hN mk hmk|intro N hN|intro h)|(refine u7 2 [1] Tryz.func202 rfl (by kernel_rfl) (by simp only[b7,ne_eq,Nat.reduceEqDiff,not_false_eq_true,and_self]) ?_;rw[B9 Tryz.ntmps202];refine u4 ?_)|(refine u7 3 [0,3] Tryz.func203 rfl (by kernel_rfl) (by simp only[b7,ne_eq,Nat.reduceEqDiff,not_false_eq_true,and_self]) ?_;rw[B9 Tryz.ntmps203];refine u4 ?_)|refine Zc (aE _) ?_|(clear hN N)|refine Zt (Zq o7.d (Zq hb1 (Zq hb2 (Zq hml (Zq hx (Zq hB2 hzl)))))) ?_|fail)
            ·have e1:=eY hlj (by assumption)
             rw[hK]at e1
             have e2:=kT (regs:=c.regs) hKf
             have hn1:¬K++[(o5 x).getD j 0]=[]:=by simp
             rw[e1,if_neg hn1,if_neg hn1,e2,if_pos (by assumption)]
             refine Zw [0,12,13,14] [0,1,2,3,4,5,6,373] (Zq o7.d (Zq hb1 (Zq hb2 (Zq hml (Zq hx (Zq hB2 hzl)))))) ?_
             rw[kO,List.length_append,←hG];rfl
            ·have e1:=iO hlj (by assumption)
             rw[hK]at e1
             rw[e1,if_neg hK0,if_neg hK0,←hG]
             refine Zw [0,12,13,14] [0,1,2,3,4,5,6,7] (Zq o7.d (Zq hb1 (Zq hb2 (Zq hml (Zq hx (Zq hB2 hzl)))))) ?_
             rfl
          ·obtain rfl:j=(o5 x).length:=by omega
           rw[List.take_length]at hK
           by_cases hK0:K=[]
           ·subst hK0
            rw[if_pos rfl,if_pos rfl]
            by_cases hdl:E9 x∈l
            all_goals first|have hdd:=eq_false hdl|have hdd:=eq_true hdl
            all_goals repeat' (first|refine Za ?_|(with_reducible constructor<;>first|intro N hN mk hmk|intro N hN|intro h)|(refine u7 2 [1] Tryz.func202 rfl (by kernel_rfl) (by simp only[b7,ne_eq,Nat.reduceEqDiff,not_false_eq_true,and_self]) ?_;rw[B9 Tryz.ntmps202];refine u4 ?_)|(refine u7 3 [0,3] Tryz.func203 rfl (by kernel_rfl) (by simp only[b7,ne_eq,Nat.reduceEqDiff,not_false_eq_true,and_self]) ?_;rw[B9 Tryz.ntmps203];refine u4 ?_)|refine Zc (aE _) ?_|refine Zc C2 ?_|(refine I4 (idm:=11) (C3 [] [] bn x.a) ?_ rfl rfl rfl ?_;(next=>(simp (disch:=omega) only[o7.d,hdd,hb1,hb2,hml,hx,hB2,hzl,u6,Nat.reduceBEq,AV.plain,Nat.reduceAdd,Nat.reduceLeDiff,Nat.reduceLT,↓reduceIte,sF]<;>first|done|rfl)))|(refine G8 (idm:=11) (C3 [] [] bn x.a) ?_ rfl rfl rfl ?_;(next=>(simp (disch:=omega) only[o7.d,hdd,hb1,hb2,hml,hx,hB2,hzl,u6,Nat.reduceBEq,AV.plain,Nat.reduceAdd,Nat.reduceLeDiff,Nat.reduceLT,↓reduceIte,sF]<;>first|done|rfl)))|(refine I4 (idm:=11) (C3 [] [] bn x.b) ?_ rfl rfl rfl ?_;(next=>(simp (disch:=omega) only[o7.d,hdd,hb1,hb2,hml,hx,hB2,hzl,u6,Nat.reduceBEq,AV.plain,Nat.reduceAdd,Nat.reduceLeDiff,Nat.reduceLT,↓reduceIte,sF]<;>first|done|rfl)))|(refine G8 (idm:=11) (C3 [] [] bn x.b) ?_ rfl rfl rfl ?_;(next=>(simp (disch:=omega) only[o7.d,hdd,hb1,hb2,hml,hx,hB2,hzl,u6,Nat.reduceBEq,AV.plain,Nat.reduceAdd,Nat.reduceLeDiff,Nat.reduceLT,↓reduceIte,sF]<;>first|done|rfl)))|(refine I4 (idm:=11) (C3 [] [] bn x.c) ?_ rfl rfl rfl ?_;(next=>(simp (disch:=omega) only[o7.d,hdd,hb1,hb2,hml,hx,hB2,hzl,u6,Nat.reduceBEq,AV.plain,Nat.reduceAdd,Nat.reduceLeDiff,Nat.reduceLT,↓reduceIte,sF]<;>first|done|rfl)))|(refine G8 (idm:=11) (C3 [] [] bn x.c) ?_ rfl rfl rfl ?_;(next=>(simp (disch:=omega) only[o7.d,hdd,hb1,hb2,hml,hx,hB2,hzl,u6,Nat.reduceBEq,AV.plain,Nat.reduceAdd,Nat.reduceLeDiff,Nat.reduceLT,↓reduceIte,sF]<;>first|done|rfl)))|(clear hN N)|refine Zt (Zq o7.d (Zq hdd (Zq hb1 (Zq hb2 (Zq hml (Zq hx (Zq hB2 hzl))))))) ?_|fail)
            ·refine G6 (aJ (id:=11) rfl) ?_
             simp only[Z6,Nat.reduceEqDiff,if_true,if_false,↓reduceIte,List.modify_zero_cons,List.set_cons_succ,List.set_cons_zero]
             refine G6 (cX (id:=5) (i:=0) (j:=3) rfl) ?_
             simp only[Z6,Nat.reduceEqDiff,if_true,if_false,↓reduceIte,List.modify_zero_cons,List.set_cons_succ,List.set_cons_zero]
             skip
             refine Zw [1,6,7,8] [0,1,2,3,4,5,532] (Zq o7.d (Zq hdd (Zq hb1 (Zq hb2 (Zq hml (Zq hx (Zq hB2 hzl))))))) ?_
             rw[hs,hO,eN hdl,hK,kZ hdl]
             try simp only[←List.append_assoc,List.nil_append,List.length_append,List.length_cons,List.length_nil,Nat.zero_add]
             rfl
            ·refine G6 (aJ (id:=11) rfl) ?_
             simp only[Z6,Nat.reduceEqDiff,if_true,if_false,↓reduceIte,List.modify_zero_cons,List.set_cons_succ,List.set_cons_zero]
             refine G6 (cX (id:=5) (i:=0) (j:=3) rfl) ?_
             simp only[Z6,Nat.reduceEqDiff,if_true,if_false,↓reduceIte,List.modify_zero_cons,List.set_cons_succ,List.set_cons_zero]
             skip
             refine Zw [1,6,7,8] [0,1,2,3,4,5,332] (Zq o7.d (Zq hdd (Zq hb1 (Zq hb2 (Zq hml (Zq hx (Zq hB2 hzl))))))) ?_
             rw[hs,hO,bZ hdl,hK]
             try simp only[←List.append_assoc,List.nil_append,List.length_append,List.length_cons,List.length_nil,Nat.zero_add]
             rfl
           ·rw[if_neg hK0,if_neg hK0]
            obtain⟨G,hG⟩:∃G,G=I7 l K c.regs:=⟨_,rfl⟩
            have hGl:G.length≤3:=by rw[hG,Y9];exact hkl
            rw[←hG]
            by_cases hdl:E9 x∈l
            all_goals first|have hdd:=eq_false hdl|have hdd:=eq_true hdl
            all_goals repeat' (first|refine Za ?_|(with_reducible constructor<;>first|intro N hN mk hmk|intro N hN|intro h)|(refine u7 2 [1] Tryz.func202 rfl (by kernel_rfl) (by simp only[b7,ne_eq,Nat.reduceEqDiff,not_false_eq_true,and_self]) ?_;rw[B9 Tryz.ntmps202];refine u4 ?_)|(refine u7 3 [0,3] Tryz.func203 rfl (by kernel_rfl) (by simp only[b7,ne_eq,Nat.reduceEqDiff,not_false_eq_true,and_self]) ?_;rw[B9 Tryz.ntmps203];refine u4 ?_)|refine Zc (aE _) ?_|refine Zc C2 ?_|(refine I4 (idm:=12) (C3 K G bn x.a) ?_ rfl rfl rfl ?_;(next=>(simp (disch:=omega) only[o7.d,hdd,hb1,hb2,hml,hx,hB2,hzl,u6,Nat.reduceBEq,AV.plain,Nat.reduceAdd,Nat.reduceLeDiff,Nat.reduceLT,↓reduceIte,sF]<;>first|done|rfl)))|(refine G8 (idm:=12) (C3 K G bn x.a) ?_ rfl rfl rfl ?_;(next=>(simp (disch:=omega) only[o7.d,hdd,hb1,hb2,hml,hx,hB2,hzl,u6,Nat.reduceBEq,AV.plain,Nat.reduceAdd,Nat.reduceLeDiff,Nat.reduceLT,↓reduceIte,sF]<;>first|done|rfl)))|(refine I4 (idm:=12) (C3 K G bn x.b) ?_ rfl rfl rfl ?_;(next=>(simp (disch:=omega) only[o7.d,hdd,hb1,hb2,hml,hx,hB2,hzl,u6,Nat.reduceBEq,AV.plain,Nat.reduceAdd,Nat.reduceLeDiff,Nat.reduceLT,↓reduceIte,sF]<;>first|done|rfl)))|(refine G8 (idm:=12) (C3 K G bn x.b) ?_ rfl rfl rfl ?_;(next=>(simp (disch:=omega) only[o7.d,hdd,hb1,hb2,hml,hx,hB2,hzl,u6,Nat.reduceBEq,AV.plain,Nat.reduceAdd,Nat.reduceLeDiff,Nat.reduceLT,↓reduceIte,sF]<;>first|done|rfl)))|(refine I4 (idm:=12) (C3 K G bn x.c) ?_ rfl rfl rfl ?_;(next=>(simp (disch:=omega) only[o7.d,hdd,hb1,hb2,hml,hx,hB2,hzl,u6,Nat.reduceBEq,AV.plain,Nat.reduceAdd,Nat.reduceLeDiff,Nat.reduceLT,↓reduceIte,sF]<;>first|done|rfl)))|(refine G8 (idm:=12) (C3 K G bn x.c) ?_ rfl rfl rfl ?_;(next=>(simp (disch:=omega) only[o7.d,hdd,hb1,hb2,hml,hx,hB2,hzl,u6,Nat.reduceBEq,AV.plain,Nat.reduceAdd,Nat.reduceLeDiff,Nat.reduceLT,↓reduceIte,sF]<;>first|done|rfl)))|(clear hN N)|refine Zt (Zq o7.d (Zq hdd (Zq hb1 (Zq hb2 (Zq hml (Zq hx (Zq hB2 hzl))))))) ?_|fail)
            ·refine G6 (aJ (id:=12) rfl) ?_
             simp only[Z6,Nat.reduceEqDiff,if_true,if_false,↓reduceIte,List.modify_zero_cons,List.set_cons_succ,List.set_cons_zero]
             refine G6 (cX (id:=5) (i:=0) (j:=3) rfl) ?_
             simp only[Z6,Nat.reduceEqDiff,if_true,if_false,↓reduceIte,List.modify_zero_cons,List.set_cons_succ,List.set_cons_zero]
             skip
             refine Zw [1,6,7,8] [0,1,2,3,4,5,533] (Zq o7.d (Zq hdd (Zq hb1 (Zq hb2 (Zq hml (Zq hx (Zq hB2 hzl))))))) ?_
             rw[hs,hO,eN hdl,hK,←hG,kZ hdl]
             try simp only[←List.append_assoc,List.nil_append,List.length_append,List.length_cons,List.length_nil,Nat.zero_add]
             rfl
            ·refine G6 (aJ (id:=12) rfl) ?_
             simp only[Z6,Nat.reduceEqDiff,if_true,if_false,↓reduceIte,List.modify_zero_cons,List.set_cons_succ,List.set_cons_zero]
             refine G6 (cX (id:=5) (i:=0) (j:=3) rfl) ?_
             simp only[Z6,Nat.reduceEqDiff,if_true,if_false,↓reduceIte,List.modify_zero_cons,List.set_cons_succ,List.set_cons_zero]
             skip
             refine Zw [1,6,7,8] [0,1,2,3,4,5,333] (Zq o7.d (Zq hdd (Zq hb1 (Zq hb2 (Zq hml (Zq hx (Zq hB2 hzl))))))) ?_
             rw[hs,hO,bZ hdl,hK,←hG]
             try simp only[←List.append_assoc,List.nil_append,List.length_append,List.length_cons,List.length_nil,Nat.zero_add]
             rfl
        ·rw[if_neg hO,if_neg hO]
         obtain⟨O,hOO⟩:∃O,O=cJ l c.regs B.i k:=⟨_,rfl⟩
         rw[←hOO]at hO hok hs
         rw[←hOO]
         repeat' (first|refine Za ?_|(with_reducible constructor<;>first|intro N hN mk hmk|intro N hN|intro h)|(refine u7 2 [1] Tryz.func202 rfl (by kernel_rfl) (by simp only[b7,ne_eq,Nat.reduceEqDiff,not_false_eq_true,and_self]) ?_;rw[B9 Tryz.ntmps202];refine u4 ?_)|(refine u7 3 [0,3] Tryz.func203 rfl (by kernel_rfl) (by simp only[b7,ne_eq,Nat.reduceEqDiff,not_false_eq_true,and_self]) ?_;rw[B9 Tryz.ntmps203];refine u4 ?_)|refine Zc C1 ?_|(clear hN N)|refine Zt (Zq o7.d (Zq hx (Zq hB2 hzl))) ?_|fail)
         intro bn
         repeat' (first|refine Za ?_|(with_reducible constructor<;>first|intro N hN mk hmk|intro N hN|intro h)|(refine u7 2 [1] Tryz.func202 rfl (by kernel_rfl) (by simp only[b7,ne_eq,Nat.reduceEqDiff,not_false_eq_true,and_self]) ?_;rw[B9 Tryz.ntmps202];refine u4 ?_)|(refine u7 3 [0,3] Tryz.func203 rfl (by kernel_rfl) (by simp only[b7,ne_eq,Nat.reduceEqDiff,not_false_eq_true,and_self]) ?_;rw[B9 Tryz.ntmps203];refine u4 ?_)|refine Zc C1 ?_|(clear hN N)|refine Zt (Zq o7.d (Zq hx (Zq hB2 hzl))) ?_|fail)
         refine sL 7 121 (b1:=bs) (b2:=bn) rfl rfl (fun h=>by cases h) (.int .i64 q0) hq0s rfl fun hbn=>?_
         have hb1:=eq_false hbn
         have hb2:=eq_false (Ne.symm hbn)
         rw[a4o c.regs]
         refine l8 (fun j=>⟨[.ptr 5 0 0,.Z,.Z,.Z,.Z,.Z,.Z,.Z,.Z,.Z,.Z,.Z,.a8 false (c7 (o5 x)),.v (.int .i64 (o5 x).length),.v (.int .i64 j),.Z,.Z,.Z,.Z,.Z,.Z,.Z,.Z,.Z,.Z,.Z,.Z,.Z,.Z,.Z,.Z,.Z,.Z,.Z,.Z,.Z,.Z,.Z,.Z,.Z,.Z,.Z,.Z,.Z,.Z,.Z,.Z,.Z,.Z,.Z,.Z,.Z,.Z,.Z,.Z,.Z,.Z,.Z,.Z,.Z,.Z,.Z],[(0,.live ⟨8,[[.v (.int .i64 c.group),.v (.int .i64 c.sub),.v (.int .i64 c.regs),.v (.int .i64 c.w5),.v (.int .i64 c.params),.a8 false (y4 c.c9),.a8 false (Proofs.YtgdoiokalfhjoaaGreatDoor.loops c.loops),.a8 false (o0 c.b)]],0⟩),(1,.live ⟨8,[[.v (.int .i64 0),.v (.int .i64 0),.v (.int .i64 0),.v (.int .i64 0),.v (.int .i64 0),.a8 true [],.a8 true [],.a8 true []]],0⟩),(2,.live ⟨8,[[.v (.int .i64 c.group),.v (.int .i64 c.sub),.v (.int .i64 (c.regs+3)),.v (.int .i64 l.length),.v (.int .i64 c.params),.a8 false (y4 c.c9),.a8 false (Proofs.YtgdoiokalfhjoaaGreatDoor.loops c.loops),.own 3 0 c.b.length]],0⟩),(3,.live ⟨14,Q5 c l i,0⟩),(4,.live ⟨14,[[.a8 false (c6 B.i),.v (.int .i64 B.t.kind),.v (.int .i64 B.t.sub),.v (.int .i64 B.t.d.k),.v (.int .i64 B.t.d.n),.v (.int .i32 B.t.d.v),.v (.int .i64 B.t.a.k),.v (.int .i64 B.t.a.n),.v (.int .i32 B.t.a.v),.v (.int .i64 B.t.b.k),.v (.int .i64 B.t.b.n),.v (.int .i32 B.t.b.v),.v (.int .i64 B.t.t0),.v (.int .i64 B.t.t1)]],0⟩),(5,.live ⟨4,[[.v (.map (some bs)),.v (.int .i64 c.regs),.own 7 0 (O++I7 l (r6 l ((o5 x).take j)) c.regs).length,.v (.map (some bn))]],0⟩),(6,.live ⟨15,[[.v (.int .i64 x.op),.v (.int .i64 x.sub),.v (.int .i64 x.n),.v (.int .i64 x.d.k),.v (.int .i64 x.d.n),.v (.int .i32 x.d.v),.v (.int .i64 x.a.k),.v (.int .i64 x.a.n),.v (.int .i32 x.a.v),.v (.int .i64 x.b.k),.v (.int .i64 x.b.n),.v (.int .i32 x.b.v),.v (.int .i64 x.c.k),.v (.int .i64 x.c.n),.v (.int .i32 x.c.v)]],0⟩),(7,.live ⟨15,c6 (O++I7 l (r6 l ((o5 x).take j)) c.regs),0⟩),(8,.mp bs (.int .i64) (bG .i64 (slF l))),(9,.u5 1 [.ptr 0 0 0,.ptr 1 0 0,.ptr 2 0 0,.ptr 4 0 0,.ptr 5 0 0]),(10,.u5 2 [.nD 202 [.ptr 5 0 0]]),(11,.u5 3 [.ptr 5 0 0,.ptr 6 0 0]),(12,.mp bn (.int .i64) (bG .i64 (nmF (r6 l ((o5 x).take j)) c.regs)))],13⟩) (o5 x).length (Zw [0,12,13,14] [0,1,2,3,4,5,73,6] (Zq o7.d (Zq hx (Zq hB2 hzl))) ?_) ?_
         ·have e:O++I7 l (r6 l ((o5 x).take 0)) c.regs=O:=by simp [r6,I7]
          rw[e];rfl
         ·intro j hj
          have hKn:=iP (l:=l) (u:=(o5 x).take j) (hsu.sublist (List.take_sublist _ _))
          have hml:=a4n (regs:=c.regs) hKn
          have hkl:(r6 l ((o5 x).take j)).length≤3:=Nat.le_trans (X0 _ _) (by rw[List.length_take];omega)
          obtain⟨K,hK⟩:∃K,(r6 l ((o5 x).take j))=K:=⟨_,rfl⟩
          rw[hK]at hKn hml hkl⊢
          by_cases hlj:j<(o5 x).length
          ·have hKf:=iN (l:=l) hsu hlj
           rw[hK]at hKf
           obtain⟨G,hG⟩:∃G,G=I7 l K c.regs:=⟨_,rfl⟩
           have hGl:G.length≤3:=by rw[hG,Y9];exact hkl
           rw[←hG]
           repeat' (first|refine Zl ?_|(with_reducible constructor<;>first|intro N hN mk hmk|intro N hN|intro h)|(refine u7 2 [1] Tryz.func202 rfl (by kernel_rfl) (by simp only[b7,ne_eq,Nat.reduceEqDiff,not_false_eq_true,and_self]) ?_;rw[B9 Tryz.ntmps202];refine u4 ?_)|(refine u7 3 [0,3] Tryz.func203 rfl (by kernel_rfl) (by simp only[b7,ne_eq,Nat.reduceEqDiff,not_false_eq_true,and_self]) ?_;rw[B9 Tryz.ntmps203];refine u4 ?_)|refine Zc (aE _) ?_|(clear hN N)|refine Zt (Zq o7.d (Zq hb1 (Zq hb2 (Zq hml (Zq hx (Zq hB2 hzl)))))) ?_|fail)
           ·have e1:=eY hlj (by assumption)
            rw[hK]at e1
            have e2:=kT (regs:=c.regs) hKf
            rw[e1,e2,if_pos (by assumption)]
            refine Zw [0,12,13,14] [0,1,2,3,4,5,6,373] (Zq o7.d (Zq hb1 (Zq hb2 (Zq hml (Zq hx (Zq hB2 hzl)))))) ?_
            rw[kO,←hG,←List.append_assoc,List.length_append];rfl
           ·have e1:=iO hlj (by assumption)
            rw[hK]at e1
            rw[e1,←hG]
            refine Zw [0,12,13,14] [0,1,2,3,4,5,6,7] (Zq o7.d (Zq hb1 (Zq hb2 (Zq hml (Zq hx (Zq hB2 hzl)))))) ?_
            rfl
          ·obtain rfl:j=(o5 x).length:=by omega
           rw[List.take_length]at hK
           obtain⟨G,hG⟩:∃G,G=I7 l K c.regs:=⟨_,rfl⟩
           have hGl:G.length≤3:=by rw[hG,Y9];exact hkl
           rw[←hG]
           by_cases hdl:E9 x∈l
           all_goals first|have hdd:=eq_false hdl|have hdd:=eq_true hdl
           all_goals repeat' (first|refine Za ?_|(with_reducible constructor<;>first|intro N hN mk hmk|intro N hN|intro h)|(refine u7 2 [1] Tryz.func202 rfl (by kernel_rfl) (by simp only[b7,ne_eq,Nat.reduceEqDiff,not_false_eq_true,and_self]) ?_;rw[B9 Tryz.ntmps202];refine u4 ?_)|(refine u7 3 [0,3] Tryz.func203 rfl (by kernel_rfl) (by simp only[b7,ne_eq,Nat.reduceEqDiff,not_false_eq_true,and_self]) ?_;rw[B9 Tryz.ntmps203];refine u4 ?_)|refine Zc (aE _) ?_|refine Zc C2 ?_|(refine I4 (idm:=12) (C3 K (O++G) bn x.a) ?_ rfl rfl rfl ?_;(next=>(simp (disch:=omega) only[o7.d,hdd,hb1,hb2,hml,hx,hB2,hzl,u6,Nat.reduceBEq,AV.plain,Nat.reduceAdd,Nat.reduceLeDiff,Nat.reduceLT,↓reduceIte,sF]<;>first|done|rfl)))|(refine G8 (idm:=12) (C3 K (O++G) bn x.a) ?_ rfl rfl rfl ?_;(next=>(simp (disch:=omega) only[o7.d,hdd,hb1,hb2,hml,hx,hB2,hzl,u6,Nat.reduceBEq,AV.plain,Nat.reduceAdd,Nat.reduceLeDiff,Nat.reduceLT,↓reduceIte,sF]<;>first|done|rfl)))|(refine I4 (idm:=12) (C3 K (O++G) bn x.b) ?_ rfl rfl rfl ?_;(next=>(simp (disch:=omega) only[o7.d,hdd,hb1,hb2,hml,hx,hB2,hzl,u6,Nat.reduceBEq,AV.plain,Nat.reduceAdd,Nat.reduceLeDiff,Nat.reduceLT,↓reduceIte,sF]<;>first|done|rfl)))|(refine G8 (idm:=12) (C3 K (O++G) bn x.b) ?_ rfl rfl rfl ?_;(next=>(simp (disch:=omega) only[o7.d,hdd,hb1,hb2,hml,hx,hB2,hzl,u6,Nat.reduceBEq,AV.plain,Nat.reduceAdd,Nat.reduceLeDiff,Nat.reduceLT,↓reduceIte,sF]<;>first|done|rfl)))|(refine I4 (idm:=12) (C3 K (O++G) bn x.c) ?_ rfl rfl rfl ?_;(next=>(simp (disch:=omega) only[o7.d,hdd,hb1,hb2,hml,hx,hB2,hzl,u6,Nat.reduceBEq,AV.plain,Nat.reduceAdd,Nat.reduceLeDiff,Nat.reduceLT,↓reduceIte,sF]<;>first|done|rfl)))|(refine G8 (idm:=12) (C3 K (O++G) bn x.c) ?_ rfl rfl rfl ?_;(next=>(simp (disch:=omega) only[o7.d,hdd,hb1,hb2,hml,hx,hB2,hzl,u6,Nat.reduceBEq,AV.plain,Nat.reduceAdd,Nat.reduceLeDiff,Nat.reduceLT,↓reduceIte,sF]<;>first|done|rfl)))|(clear hN N)|refine Zt (Zq o7.d (Zq hdd (Zq hb1 (Zq hb2 (Zq hml (Zq hx (Zq hB2 hzl))))))) ?_|fail)
           ·refine G6 (aJ (id:=12) rfl) ?_
            simp only[Z6,Nat.reduceEqDiff,if_true,if_false,↓reduceIte,List.modify_zero_cons,List.set_cons_succ,List.set_cons_zero]
            refine G6 (cX (id:=5) (i:=0) (j:=3) rfl) ?_
            simp only[Z6,Nat.reduceEqDiff,if_true,if_false,↓reduceIte,List.modify_zero_cons,List.set_cons_succ,List.set_cons_zero]
            skip
            refine Zw [1,6,7,8] [0,1,2,3,4,5,533] (Zq o7.d (Zq hdd (Zq hb1 (Zq hb2 (Zq hml (Zq hx (Zq hB2 hzl))))))) ?_
            rw[hs,eN hdl,hK,←hG,kZ hdl]
            try simp only[←List.append_assoc,List.nil_append,List.length_append,List.length_cons,List.length_nil,Nat.zero_add]
            rfl
           ·refine G6 (aJ (id:=12) rfl) ?_
            simp only[Z6,Nat.reduceEqDiff,if_true,if_false,↓reduceIte,List.modify_zero_cons,List.set_cons_succ,List.set_cons_zero]
            refine G6 (cX (id:=5) (i:=0) (j:=3) rfl) ?_
            simp only[Z6,Nat.reduceEqDiff,if_true,if_false,↓reduceIte,List.modify_zero_cons,List.set_cons_succ,List.set_cons_zero]
            skip
            refine Zw [1,6,7,8] [0,1,2,3,4,5,333] (Zq o7.d (Zq hdd (Zq hb1 (Zq hb2 (Zq hml (Zq hx (Zq hB2 hzl))))))) ?_
            rw[hs,bZ hdl,hK,←hG]
            try simp only[←List.append_assoc,List.nil_append,List.length_append,List.length_cons,List.length_nil,Nat.zero_add]
            rfl
       ·obtain rfl:k=B.i.length:=by omega
        have huT:=bN B.t
        have hsu:=b4A B.t
        have C1:=pH B.t
        simp only[q9.av]at C1
        have C3:=fun(K:List Int) (O:List e7) (bn:Nat) (o:E3)=>a8o o K c.regs c.regs (.map (some bs)) O bn
        simp only[E3.av]at C3
        obtain⟨O,hOO⟩:∃O,O=cJ l c.regs B.i B.i.length:=⟨_,rfl⟩
        rw[←hOO]at hok⊢
        have hOf:O=B.i.flatMap (cL l c.regs):=by rw[hOO];unfold cJ;rw[List.take_length]
        by_cases hO:O=[]
        ·rw[if_pos hO,if_pos hO]
         repeat' (first|refine Za ?_|(with_reducible constructor<;>first|intro N hN mk hmk|intro N hN|intro h)|(refine u7 4 [2,4,8,10,11] Tryz.func203 rfl (by kernel_rfl) (by simp only[b7,ne_eq,Nat.reduceEqDiff,not_false_eq_true,and_self]) ?_;rw[B9 Tryz.ntmps203];refine u4 ?_)|refine Zc C1 ?_|(clear hN N)|refine Zt (Zq o7.d (Zq hB2 hzl)) ?_|fail)
         intro bn
         repeat' (first|refine Za ?_|(with_reducible constructor<;>first|intro N hN mk hmk|intro N hN|intro h)|(refine u7 4 [2,4,8,10,11] Tryz.func203 rfl (by kernel_rfl) (by simp only[b7,ne_eq,Nat.reduceEqDiff,not_false_eq_true,and_self]) ?_;rw[B9 Tryz.ntmps203];refine u4 ?_)|refine Zc C1 ?_|(clear hN N)|refine Zt (Zq o7.d (Zq hB2 hzl)) ?_|fail)
         refine sL 6 64 (b1:=bs) (b2:=bn) rfl rfl (fun h=>by cases h) (.int .i64 q0) hq0s rfl fun hbn=>?_
         have hb1:=eq_false hbn
         have hb2:=eq_false (Ne.symm hbn)
         rw[a4o c.regs]
         refine l8 (fun j=>⟨[.ptr 5 0 0,.Z,.Z,.Z,.Z,.Z,.Z,.Z,.Z,.Z,.Z,.Z,.a8 false (c7 (n6 B.t)),.v (.int .i64 (n6 B.t).length),.v (.int .i64 j),.Z,.Z,.Z,.Z,.Z,.Z,.Z,.Z,.Z,.Z,.Z,.Z,.Z,.Z,.Z,.Z,.Z,.Z,.Z,.Z,.Z,.Z,.Z,.Z,.Z,.Z,.Z,.Z,.Z,.Z,.Z,.Z,.Z,.Z,.Z,.Z,.Z,.Z,.Z,.Z,.Z,.Z,.Z,.Z,.Z,.Z,.Z],(if(r6 l ((n6 B.t).take j))=[]then[(0,.live ⟨8,[[.v (.int .i64 c.group),.v (.int .i64 c.sub),.v (.int .i64 c.regs),.v (.int .i64 c.w5),.v (.int .i64 c.params),.a8 false (y4 c.c9),.a8 false (Proofs.YtgdoiokalfhjoaaGreatDoor.loops c.loops),.a8 false (o0 c.b)]],0⟩),(1,.live ⟨8,[[.v (.int .i64 0),.v (.int .i64 0),.v (.int .i64 0),.v (.int .i64 0),.v (.int .i64 0),.a8 true [],.a8 true [],.a8 true []]],0⟩),(2,.live ⟨8,[[.v (.int .i64 c.group),.v (.int .i64 c.sub),.v (.int .i64 (c.regs+3)),.v (.int .i64 l.length),.v (.int .i64 c.params),.a8 false (y4 c.c9),.a8 false (Proofs.YtgdoiokalfhjoaaGreatDoor.loops c.loops),.own 3 0 c.b.length]],0⟩),(3,.live ⟨14,Q5 c l i,0⟩),(4,.live ⟨14,[[.a8 false (c6 B.i),.v (.int .i64 B.t.kind),.v (.int .i64 B.t.sub),.v (.int .i64 B.t.d.k),.v (.int .i64 B.t.d.n),.v (.int .i32 B.t.d.v),.v (.int .i64 B.t.a.k),.v (.int .i64 B.t.a.n),.v (.int .i32 B.t.a.v),.v (.int .i64 B.t.b.k),.v (.int .i64 B.t.b.n),.v (.int .i32 B.t.b.v),.v (.int .i64 B.t.t0),.v (.int .i64 B.t.t1)]],0⟩),(5,.live ⟨4,[[.v (.map (some bs)),.v (.int .i64 c.regs),.a8 true [],.v (.map (some bn))]],0⟩),(6,.mp bs (.int .i64) (bG .i64 (slF l))),(7,.u5 4 [.ptr 0 0 0,.ptr 1 0 0,.ptr 2 0 0,.ptr 4 0 0,.ptr 5 0 0]),(8,.mp bn (.int .i64) (bG .i64 (nmF (r6 l ((n6 B.t).take j)) c.regs)))]else[(0,.live ⟨8,[[.v (.int .i64 c.group),.v (.int .i64 c.sub),.v (.int .i64 c.regs),.v (.int .i64 c.w5),.v (.int .i64 c.params),.a8 false (y4 c.c9),.a8 false (Proofs.YtgdoiokalfhjoaaGreatDoor.loops c.loops),.a8 false (o0 c.b)]],0⟩),(1,.live ⟨8,[[.v (.int .i64 0),.v (.int .i64 0),.v (.int .i64 0),.v (.int .i64 0),.v (.int .i64 0),.a8 true [],.a8 true [],.a8 true []]],0⟩),(2,.live ⟨8,[[.v (.int .i64 c.group),.v (.int .i64 c.sub),.v (.int .i64 (c.regs+3)),.v (.int .i64 l.length),.v (.int .i64 c.params),.a8 false (y4 c.c9),.a8 false (Proofs.YtgdoiokalfhjoaaGreatDoor.loops c.loops),.own 3 0 c.b.length]],0⟩),(3,.live ⟨14,Q5 c l i,0⟩),(4,.live ⟨14,[[.a8 false (c6 B.i),.v (.int .i64 B.t.kind),.v (.int .i64 B.t.sub),.v (.int .i64 B.t.d.k),.v (.int .i64 B.t.d.n),.v (.int .i32 B.t.d.v),.v (.int .i64 B.t.a.k),.v (.int .i64 B.t.a.n),.v (.int .i32 B.t.a.v),.v (.int .i64 B.t.b.k),.v (.int .i64 B.t.b.n),.v (.int .i32 B.t.b.v),.v (.int .i64 B.t.t0),.v (.int .i64 B.t.t1)]],0⟩),(5,.live ⟨4,[[.v (.map (some bs)),.v (.int .i64 c.regs),.own 6 0 (I7 l (r6 l ((n6 B.t).take j)) c.regs).length,.v (.map (some bn))]],0⟩),(6,.live ⟨15,c6 (I7 l (r6 l ((n6 B.t).take j)) c.regs),0⟩),(7,.mp bs (.int .i64) (bG .i64 (slF l))),(8,.u5 4 [.ptr 0 0 0,.ptr 1 0 0,.ptr 2 0 0,.ptr 4 0 0,.ptr 5 0 0]),(9,.mp bn (.int .i64) (bG .i64 (nmF (r6 l ((n6 B.t).take j)) c.regs)))]),(if(r6 l ((n6 B.t).take j))=[]then 9 else 10)⟩) (n6 B.t).length (Zw [0,12,13,14] [0,1,2,3,4,5] (Zq o7.d (Zq hB2 hzl)) ?_) ?_
         ·rfl
         ·intro j hj
          have hKn:=iP (l:=l) (u:=(n6 B.t).take j) (hsu.sublist (List.take_sublist _ _))
          have hml:=a4n (regs:=c.regs) hKn
          have hkl:(r6 l ((n6 B.t).take j)).length≤2:=Nat.le_trans (X0 _ _) (by rw[List.length_take];omega)
          obtain⟨K,hK⟩:∃K,(r6 l ((n6 B.t).take j))=K:=⟨_,rfl⟩
          rw[hK]at hKn hml hkl⊢
          by_cases hlj:j<(n6 B.t).length
          ·have hKf:=iN (l:=l) hsu hlj
           rw[hK]at hKf
           by_cases hK0:K=[]
           ·subst hK0
            rw[if_pos rfl,if_pos rfl]
            repeat' (first|refine Zl ?_|(with_reducible constructor<;>first|intro N hN mk hmk|intro N hN|intro h)|(refine u7 4 [2,4,8,10,11] Tryz.func203 rfl (by kernel_rfl) (by simp only[b7,ne_eq,Nat.reduceEqDiff,not_false_eq_true,and_self]) ?_;rw[B9 Tryz.ntmps203];refine u4 ?_)|refine Zc (aE _) ?_|(clear hN N)|refine Zt (Zq o7.d (Zq hb1 (Zq hb2 (Zq hml (Zq hB2 hzl))))) ?_|fail)
            ·have e1:=eY hlj (by assumption)
             rw[hK,List.nil_append]at e1
             have e2:=kT (regs:=c.regs) hKf
             have hn1:¬[(n6 B.t).getD j 0]=[]:=by simp
             rw[e1,if_neg hn1,if_neg hn1]
             simp only[List.length_nil]at e2
             rw[e2,if_pos (by assumption)]
             refine Zw [0,12,13,14] [0,1,2,3,4,5,369] (Zq o7.d (Zq hb1 (Zq hb2 (Zq hml (Zq hB2 hzl))))) ?_
             rfl
            ·have e1:=iO hlj (by assumption)
             rw[hK]at e1
             rw[e1,if_pos rfl,if_pos rfl]
             refine Zw [0,12,13,14] [0,1,2,3,4,5] (Zq o7.d (Zq hb1 (Zq hb2 (Zq hml (Zq hB2 hzl))))) ?_
             rfl
           ·rw[if_neg hK0,if_neg hK0]
            obtain⟨G,hG⟩:∃G,G=I7 l K c.regs:=⟨_,rfl⟩
            have hGl:G.length≤2:=by rw[hG,Y9];exact hkl
            rw[←hG]
            repeat' (first|refine Zl ?_|(with_reducible constructor<;>first|intro N hN mk hmk|intro N hN|intro h)|(refine u7 4 [2,4,8,10,11] Tryz.func203 rfl (by kernel_rfl) (by simp only[b7,ne_eq,Nat.reduceEqDiff,not_false_eq_true,and_self]) ?_;rw[B9 Tryz.ntmps203];refine u4 ?_)|refine Zc (aE _) ?_|(clear hN N)|refine Zt (Zq o7.d (Zq hb1 (Zq hb2 (Zq hml (Zq hB2 hzl))))) ?_|fail)
            ·have e1:=eY hlj (by assumption)
             rw[hK]at e1
             have e2:=kT (regs:=c.regs) hKf
             have hn1:¬K++[(n6 B.t).getD j 0]=[]:=by simp
             rw[e1,if_neg hn1,if_neg hn1,e2,if_pos (by assumption)]
             refine Zw [0,12,13,14] [0,1,2,3,4,5,370] (Zq o7.d (Zq hb1 (Zq hb2 (Zq hml (Zq hB2 hzl))))) ?_
             rw[kO,List.length_append,←hG];rfl
            ·have e1:=iO hlj (by assumption)
             rw[hK]at e1
             rw[e1,if_neg hK0,if_neg hK0,←hG]
             refine Zw [0,12,13,14] [0,1,2,3,4,5,6] (Zq o7.d (Zq hb1 (Zq hb2 (Zq hml (Zq hB2 hzl))))) ?_
             rfl
          ·obtain rfl:j=(n6 B.t).length:=by omega
           rw[List.take_length]at hK
           by_cases hK0:K=[]
           ·subst hK0
            rw[if_pos rfl,if_pos rfl]
            repeat' (first|refine Za ?_|(with_reducible constructor<;>first|intro N hN mk hmk|intro N hN|intro h)|(refine u7 4 [2,4,8,10,11] Tryz.func203 rfl (by kernel_rfl) (by simp only[b7,ne_eq,Nat.reduceEqDiff,not_false_eq_true,and_self]) ?_;rw[B9 Tryz.ntmps203];refine u4 ?_)|refine Zc (aE _) ?_|(refine I4 (idm:=8) (C3 [] [] bn B.t.a) ?_ rfl rfl rfl ?_;(next=>(simp (disch:=omega) only[o7.d,hb1,hb2,hml,hB2,hzl,u6,Nat.reduceBEq,AV.plain,Nat.reduceAdd,Nat.reduceLeDiff,Nat.reduceLT,↓reduceIte,sF]<;>first|done|rfl)))|(refine G8 (idm:=8) (C3 [] [] bn B.t.a) ?_ rfl rfl rfl ?_;(next=>(simp (disch:=omega) only[o7.d,hb1,hb2,hml,hB2,hzl,u6,Nat.reduceBEq,AV.plain,Nat.reduceAdd,Nat.reduceLeDiff,Nat.reduceLT,↓reduceIte,sF]<;>first|done|rfl)))|(refine I4 (idm:=8) (C3 [] [] bn B.t.b) ?_ rfl rfl rfl ?_;(next=>(simp (disch:=omega) only[o7.d,hb1,hb2,hml,hB2,hzl,u6,Nat.reduceBEq,AV.plain,Nat.reduceAdd,Nat.reduceLeDiff,Nat.reduceLT,↓reduceIte,sF]<;>first|done|rfl)))|(refine G8 (idm:=8) (C3 [] [] bn B.t.b) ?_ rfl rfl rfl ?_;(next=>(simp (disch:=omega) only[o7.d,hb1,hb2,hml,hB2,hzl,u6,Nat.reduceBEq,AV.plain,Nat.reduceAdd,Nat.reduceLeDiff,Nat.reduceLT,↓reduceIte,sF]<;>first|done|rfl)))|(clear hN N)|refine Zt (Zq o7.d (Zq hb1 (Zq hb2 (Zq hml (Zq hB2 hzl))))) ?_|fail)
            refine G6 (aJ (id:=8) rfl) ?_
            simp only[Z6,Nat.reduceEqDiff,if_true,if_false,↓reduceIte,List.modify_zero_cons,List.set_cons_succ,List.set_cons_zero]
            have hbs:I3 l c.regs B=⟨[],{B.t with a:=C8 B.t.a [] c.regs,b:=C8 B.t.b [] c.regs}⟩:=by unfold I3;rw[hK,←hOf,hO];rfl
            have ep:=mP c l i hlt (.a8 true []) (.a8 false []) (q9.av {B.t with a:=C8 B.t.a [] c.regs,b:=C8 B.t.b [] c.regs}) rfl (by rw[hB2,hbs];rfl)
            simp only[q9.av]at ep
            refine G6 (V3 3 i 0 6 (.a8 true []) (.a8 false []) rfl (by rw[qO c l i hlt _ rfl];rfl) (by simp (maxSteps:=10000000) (disch:=omega) only[u6,o7.d,hb1,hb2,hml,hB2,hzl,l9,P7,s9,A2,p7,o3,AV.kept,b7,n4,u0,B3,p9,o9,b8,AV.y8,m8,v8,AV.plain,rd,u6,a6,P6,stepC,AV.e6,AV.S9,AV.w6,AV.L8,AV.scalar,T8,s6,A6,A9,B1,A8,o8,A5,U0,s7,A7,z8,j3,T7,l0,y7,y5,Q0,z6,j8,TD.isRow,s8,j7,j9,j6,F4,Value.oneCell',↓reduceIte,Int.reduceNe,Int.reduceEq,Nat.reduceAdd,Nat.reduceLT,Nat.reduceLeDiff,Nat.reduceSub,Nat.reduceMul,Nat.reduceBEq,Nat.reduceEqDiff,reduceCtorEq,Int.reduceToNat,←decide_not,←Bool.decide_and,sA,sN]<;>first|done|rfl)) ?_
            simp (maxSteps:=10000000) (disch:=omega) only[a6,n4,y0,F4,o7.d,hb1,hb2,hml,hB2,hzl,l9,P7,s9,A2,p7,o3,AV.kept,b7,n4,u0,B3,p9,o9,b8,AV.y8,m8,v8,AV.plain,rd,u6,a6,P6,stepC,AV.e6,AV.S9,AV.w6,AV.L8,AV.scalar,T8,s6,A6,A9,B1,A8,o8,A5,U0,s7,A7,z8,j3,T7,l0,y7,y5,Q0,z6,j8,TD.isRow,s8,j7,j9,j6,F4,Value.oneCell',↓reduceIte,Int.reduceNe,Int.reduceEq,Nat.reduceAdd,Nat.reduceLT,Nat.reduceLeDiff,Nat.reduceSub,Nat.reduceMul,Nat.reduceBEq,Nat.reduceEqDiff,reduceCtorEq,Int.reduceToNat,←decide_not,←Bool.decide_and,sA,sN]
            rw[ep]
            refine Zw [1,2,4,5,8,42,43,44] [0,1,2,3] (Zq o7.d (Zq hb1 (Zq hb2 (Zq hml (Zq hB2 hzl))))) ?_
            rfl
           ·rw[if_neg hK0,if_neg hK0]
            obtain⟨G,hG⟩:∃G,G=I7 l K c.regs:=⟨_,rfl⟩
            have hGl:G.length≤2:=by rw[hG,Y9];exact hkl
            rw[←hG]
            repeat' (first|refine Za ?_|(with_reducible constructor<;>first|intro N hN mk hmk|intro N hN|intro h)|(refine u7 4 [2,4,8,10,11] Tryz.func203 rfl (by kernel_rfl) (by simp only[b7,ne_eq,Nat.reduceEqDiff,not_false_eq_true,and_self]) ?_;rw[B9 Tryz.ntmps203];refine u4 ?_)|refine Zc (aE _) ?_|(refine I4 (idm:=9) (C3 K G bn B.t.a) ?_ rfl rfl rfl ?_;(next=>(simp (disch:=omega) only[o7.d,hb1,hb2,hml,hB2,hzl,u6,Nat.reduceBEq,AV.plain,Nat.reduceAdd,Nat.reduceLeDiff,Nat.reduceLT,↓reduceIte,sF]<;>first|done|rfl)))|(refine G8 (idm:=9) (C3 K G bn B.t.a) ?_ rfl rfl rfl ?_;(next=>(simp (disch:=omega) only[o7.d,hb1,hb2,hml,hB2,hzl,u6,Nat.reduceBEq,AV.plain,Nat.reduceAdd,Nat.reduceLeDiff,Nat.reduceLT,↓reduceIte,sF]<;>first|done|rfl)))|(refine I4 (idm:=9) (C3 K G bn B.t.b) ?_ rfl rfl rfl ?_;(next=>(simp (disch:=omega) only[o7.d,hb1,hb2,hml,hB2,hzl,u6,Nat.reduceBEq,AV.plain,Nat.reduceAdd,Nat.reduceLeDiff,Nat.reduceLT,↓reduceIte,sF]<;>first|done|rfl)))|(refine G8 (idm:=9) (C3 K G bn B.t.b) ?_ rfl rfl rfl ?_;(next=>(simp (disch:=omega) only[o7.d,hb1,hb2,hml,hB2,hzl,u6,Nat.reduceBEq,AV.plain,Nat.reduceAdd,Nat.reduceLeDiff,Nat.reduceLT,↓reduceIte,sF]<;>first|done|rfl)))|(clear hN N)|refine Zt (Zq o7.d (Zq hb1 (Zq hb2 (Zq hml (Zq hB2 hzl))))) ?_|fail)
            refine G6 (aJ (id:=9) rfl) ?_
            simp only[Z6,Nat.reduceEqDiff,if_true,if_false,↓reduceIte,List.modify_zero_cons,List.set_cons_succ,List.set_cons_zero]
            have hbs:I3 l c.regs B=⟨G,{B.t with a:=C8 B.t.a K c.regs,b:=C8 B.t.b K c.regs}⟩:=by unfold I3;rw[hK,←hOf,hO,←hG];rfl
            have ep:=mP c l i hlt (.own 6 0 G.length) (.a8 false (c6 G)) (q9.av {B.t with a:=C8 B.t.a K c.regs,b:=C8 B.t.b K c.regs}) rfl (by rw[hB2,hbs];rfl)
            simp only[q9.av]at ep
            refine G6 (V3 3 i 0 6 (.own 6 0 G.length) (.a8 false (c6 G)) rfl (by rw[qO c l i hlt _ rfl];rfl) (by simp (maxSteps:=10000000) (disch:=omega) only[u6,o7.d,hb1,hb2,hml,hB2,hzl,l9,P7,s9,A2,p7,o3,AV.kept,b7,n4,u0,B3,p9,o9,b8,AV.y8,m8,v8,AV.plain,rd,u6,a6,P6,stepC,AV.e6,AV.S9,AV.w6,AV.L8,AV.scalar,T8,s6,A6,A9,B1,A8,o8,A5,U0,s7,A7,z8,j3,T7,l0,y7,y5,Q0,z6,j8,TD.isRow,s8,j7,j9,j6,F4,Value.oneCell',↓reduceIte,Int.reduceNe,Int.reduceEq,Nat.reduceAdd,Nat.reduceLT,Nat.reduceLeDiff,Nat.reduceSub,Nat.reduceMul,Nat.reduceBEq,Nat.reduceEqDiff,reduceCtorEq,Int.reduceToNat,←decide_not,←Bool.decide_and,sA,sN]<;>first|done|rfl)) ?_
            simp (maxSteps:=10000000) (disch:=omega) only[a6,n4,y0,F4,o7.d,hb1,hb2,hml,hB2,hzl,l9,P7,s9,A2,p7,o3,AV.kept,b7,n4,u0,B3,p9,o9,b8,AV.y8,m8,v8,AV.plain,rd,u6,a6,P6,stepC,AV.e6,AV.S9,AV.w6,AV.L8,AV.scalar,T8,s6,A6,A9,B1,A8,o8,A5,U0,s7,A7,z8,j3,T7,l0,y7,y5,Q0,z6,j8,TD.isRow,s8,j7,j9,j6,F4,Value.oneCell',↓reduceIte,Int.reduceNe,Int.reduceEq,Nat.reduceAdd,Nat.reduceLT,Nat.reduceLeDiff,Nat.reduceSub,Nat.reduceMul,Nat.reduceBEq,Nat.reduceEqDiff,reduceCtorEq,Int.reduceToNat,←decide_not,←Bool.decide_and,sA,sN]
            rw[ep]
            refine Zw [1,2,4,5,8,42,43,44] [0,1,2,3] (Zq o7.d (Zq hb1 (Zq hb2 (Zq hml (Zq hB2 hzl))))) ?_
            rfl
        ·rw[if_neg hO,if_neg hO]
         repeat' (first|refine Za ?_|(with_reducible constructor<;>first|intro N hN mk hmk|intro N hN|intro h)|(refine u7 4 [2,4,8,10,11] Tryz.func203 rfl (by kernel_rfl) (by simp only[b7,ne_eq,Nat.reduceEqDiff,not_false_eq_true,and_self]) ?_;rw[B9 Tryz.ntmps203];refine u4 ?_)|refine Zc C1 ?_|(clear hN N)|refine Zt (Zq o7.d (Zq hB2 hzl)) ?_|fail)
         intro bn
         repeat' (first|refine Za ?_|(with_reducible constructor<;>first|intro N hN mk hmk|intro N hN|intro h)|(refine u7 4 [2,4,8,10,11] Tryz.func203 rfl (by kernel_rfl) (by simp only[b7,ne_eq,Nat.reduceEqDiff,not_false_eq_true,and_self]) ?_;rw[B9 Tryz.ntmps203];refine u4 ?_)|refine Zc C1 ?_|(clear hN N)|refine Zt (Zq o7.d (Zq hB2 hzl)) ?_|fail)
         refine sL 7 65 (b1:=bs) (b2:=bn) rfl rfl (fun h=>by cases h) (.int .i64 q0) hq0s rfl fun hbn=>?_
         have hb1:=eq_false hbn
         have hb2:=eq_false (Ne.symm hbn)
         rw[a4o c.regs]
         refine l8 (fun j=>⟨[.ptr 5 0 0,.Z,.Z,.Z,.Z,.Z,.Z,.Z,.Z,.Z,.Z,.Z,.a8 false (c7 (n6 B.t)),.v (.int .i64 (n6 B.t).length),.v (.int .i64 j),.Z,.Z,.Z,.Z,.Z,.Z,.Z,.Z,.Z,.Z,.Z,.Z,.Z,.Z,.Z,.Z,.Z,.Z,.Z,.Z,.Z,.Z,.Z,.Z,.Z,.Z,.Z,.Z,.Z,.Z,.Z,.Z,.Z,.Z,.Z,.Z,.Z,.Z,.Z,.Z,.Z,.Z,.Z,.Z,.Z,.Z,.Z],[(0,.live ⟨8,[[.v (.int .i64 c.group),.v (.int .i64 c.sub),.v (.int .i64 c.regs),.v (.int .i64 c.w5),.v (.int .i64 c.params),.a8 false (y4 c.c9),.a8 false (Proofs.YtgdoiokalfhjoaaGreatDoor.loops c.loops),.a8 false (o0 c.b)]],0⟩),(1,.live ⟨8,[[.v (.int .i64 0),.v (.int .i64 0),.v (.int .i64 0),.v (.int .i64 0),.v (.int .i64 0),.a8 true [],.a8 true [],.a8 true []]],0⟩),(2,.live ⟨8,[[.v (.int .i64 c.group),.v (.int .i64 c.sub),.v (.int .i64 (c.regs+3)),.v (.int .i64 l.length),.v (.int .i64 c.params),.a8 false (y4 c.c9),.a8 false (Proofs.YtgdoiokalfhjoaaGreatDoor.loops c.loops),.own 3 0 c.b.length]],0⟩),(3,.live ⟨14,Q5 c l i,0⟩),(4,.live ⟨14,[[.a8 false (c6 B.i),.v (.int .i64 B.t.kind),.v (.int .i64 B.t.sub),.v (.int .i64 B.t.d.k),.v (.int .i64 B.t.d.n),.v (.int .i32 B.t.d.v),.v (.int .i64 B.t.a.k),.v (.int .i64 B.t.a.n),.v (.int .i32 B.t.a.v),.v (.int .i64 B.t.b.k),.v (.int .i64 B.t.b.n),.v (.int .i32 B.t.b.v),.v (.int .i64 B.t.t0),.v (.int .i64 B.t.t1)]],0⟩),(5,.live ⟨4,[[.v (.map (some bs)),.v (.int .i64 c.regs),.own 6 0 (O++I7 l (r6 l ((n6 B.t).take j)) c.regs).length,.v (.map (some bn))]],0⟩),(6,.live ⟨15,c6 (O++I7 l (r6 l ((n6 B.t).take j)) c.regs),0⟩),(7,.mp bs (.int .i64) (bG .i64 (slF l))),(8,.u5 4 [.ptr 0 0 0,.ptr 1 0 0,.ptr 2 0 0,.ptr 4 0 0,.ptr 5 0 0]),(9,.mp bn (.int .i64) (bG .i64 (nmF (r6 l ((n6 B.t).take j)) c.regs)))],10⟩) (n6 B.t).length (Zw [0,12,13,14] [0,1,2,3,4,5,6] (Zq o7.d (Zq hB2 hzl)) ?_) ?_
         ·have e:O++I7 l (r6 l ((n6 B.t).take 0)) c.regs=O:=by simp [r6,I7]
          rw[e];rfl
         ·intro j hj
          have hKn:=iP (l:=l) (u:=(n6 B.t).take j) (hsu.sublist (List.take_sublist _ _))
          have hml:=a4n (regs:=c.regs) hKn
          have hkl:(r6 l ((n6 B.t).take j)).length≤2:=Nat.le_trans (X0 _ _) (by rw[List.length_take];omega)
          obtain⟨K,hK⟩:∃K,(r6 l ((n6 B.t).take j))=K:=⟨_,rfl⟩
          rw[hK]at hKn hml hkl⊢
          by_cases hlj:j<(n6 B.t).length
          ·have hKf:=iN (l:=l) hsu hlj
           rw[hK]at hKf
           obtain⟨G,hG⟩:∃G,G=I7 l K c.regs:=⟨_,rfl⟩
           have hGl:G.length≤2:=by rw[hG,Y9];exact hkl
           rw[←hG]
           repeat' (first|refine Zl ?_|(with_reducible constructor<;>first|intro N hN mk hmk|intro N hN|intro h)|(refine u7 4 [2,4,8,10,11] Tryz.func203 rfl (by kernel_rfl) (by simp only[b7,ne_eq,Nat.reduceEqDiff,not_false_eq_true,and_self]) ?_;rw[B9 Tryz.ntmps203];refine u4 ?_)|refine Zc (aE _) ?_|(clear hN N)|refine Zt (Zq o7.d (Zq hb1 (Zq hb2 (Zq hml (Zq hB2 hzl))))) ?_|fail)
           ·have e1:=eY hlj (by assumption)
            rw[hK]at e1
            have e2:=kT (regs:=c.regs) hKf
            rw[e1,e2,if_pos (by assumption)]
            refine Zw [0,12,13,14] [0,1,2,3,4,5,370] (Zq o7.d (Zq hb1 (Zq hb2 (Zq hml (Zq hB2 hzl))))) ?_
            rw[kO,←hG,←List.append_assoc,List.length_append];rfl
           ·have e1:=iO hlj (by assumption)
            rw[hK]at e1
            rw[e1,←hG]
            refine Zw [0,12,13,14] [0,1,2,3,4,5,6] (Zq o7.d (Zq hb1 (Zq hb2 (Zq hml (Zq hB2 hzl))))) ?_
            rfl
          ·obtain rfl:j=(n6 B.t).length:=by omega
           rw[List.take_length]at hK
           obtain⟨G,hG⟩:∃G,G=I7 l K c.regs:=⟨_,rfl⟩
           have hGl:G.length≤2:=by rw[hG,Y9];exact hkl
           rw[←hG]
           repeat' (first|refine Za ?_|(with_reducible constructor<;>first|intro N hN mk hmk|intro N hN|intro h)|(refine u7 4 [2,4,8,10,11] Tryz.func203 rfl (by kernel_rfl) (by simp only[b7,ne_eq,Nat.reduceEqDiff,not_false_eq_true,and_self]) ?_;rw[B9 Tryz.ntmps203];refine u4 ?_)|refine Zc (aE _) ?_|(refine I4 (idm:=9) (C3 K (O++G) bn B.t.a) ?_ rfl rfl rfl ?_;(next=>(simp (disch:=omega) only[o7.d,hb1,hb2,hml,hB2,hzl,u6,Nat.reduceBEq,AV.plain,Nat.reduceAdd,Nat.reduceLeDiff,Nat.reduceLT,↓reduceIte,sF]<;>first|done|rfl)))|(refine G8 (idm:=9) (C3 K (O++G) bn B.t.a) ?_ rfl rfl rfl ?_;(next=>(simp (disch:=omega) only[o7.d,hb1,hb2,hml,hB2,hzl,u6,Nat.reduceBEq,AV.plain,Nat.reduceAdd,Nat.reduceLeDiff,Nat.reduceLT,↓reduceIte,sF]<;>first|done|rfl)))|(refine I4 (idm:=9) (C3 K (O++G) bn B.t.b) ?_ rfl rfl rfl ?_;(next=>(simp (disch:=omega) only[o7.d,hb1,hb2,hml,hB2,hzl,u6,Nat.reduceBEq,AV.plain,Nat.reduceAdd,Nat.reduceLeDiff,Nat.reduceLT,↓reduceIte,sF]<;>first|done|rfl)))|(refine G8 (idm:=9) (C3 K (O++G) bn B.t.b) ?_ rfl rfl rfl ?_;(next=>(simp (disch:=omega) only[o7.d,hb1,hb2,hml,hB2,hzl,u6,Nat.reduceBEq,AV.plain,Nat.reduceAdd,Nat.reduceLeDiff,Nat.reduceLT,↓reduceIte,sF]<;>first|done|rfl)))|(clear hN N)|refine Zt (Zq o7.d (Zq hb1 (Zq hb2 (Zq hml (Zq hB2 hzl))))) ?_|fail)
           refine G6 (aJ (id:=9) rfl) ?_
           simp only[Z6,Nat.reduceEqDiff,if_true,if_false,↓reduceIte,List.modify_zero_cons,List.set_cons_succ,List.set_cons_zero]
           have hbs:I3 l c.regs B=⟨(O++G),{B.t with a:=C8 B.t.a K c.regs,b:=C8 B.t.b K c.regs}⟩:=by unfold I3;rw[hK,←hOf,←hG]
           have ep:=mP c l i hlt (.own 6 0 (O.length+G.length)) (.a8 false (c6 (O++G))) (q9.av {B.t with a:=C8 B.t.a K c.regs,b:=C8 B.t.b K c.regs}) rfl (by rw[hB2,hbs];rfl)
           simp only[q9.av]at ep
           refine G6 (V3 3 i 0 6 (.own 6 0 (O.length+G.length)) (.a8 false (c6 (O++G))) rfl (by rw[qO c l i hlt _ rfl];rfl) (by simp (maxSteps:=10000000) (disch:=omega) only[u6,o7.d,hb1,hb2,hml,hB2,hzl,l9,P7,s9,A2,p7,o3,AV.kept,b7,n4,u0,B3,p9,o9,b8,AV.y8,m8,v8,AV.plain,rd,u6,a6,P6,stepC,AV.e6,AV.S9,AV.w6,AV.L8,AV.scalar,T8,s6,A6,A9,B1,A8,o8,A5,U0,s7,A7,z8,j3,T7,l0,y7,y5,Q0,z6,j8,TD.isRow,s8,j7,j9,j6,F4,Value.oneCell',↓reduceIte,Int.reduceNe,Int.reduceEq,Nat.reduceAdd,Nat.reduceLT,Nat.reduceLeDiff,Nat.reduceSub,Nat.reduceMul,Nat.reduceBEq,Nat.reduceEqDiff,reduceCtorEq,Int.reduceToNat,←decide_not,←Bool.decide_and,sA,sN]<;>first|done|rfl)) ?_
           simp (maxSteps:=10000000) (disch:=omega) only[a6,n4,y0,F4,o7.d,hb1,hb2,hml,hB2,hzl,l9,P7,s9,A2,p7,o3,AV.kept,b7,n4,u0,B3,p9,o9,b8,AV.y8,m8,v8,AV.plain,rd,u6,a6,P6,stepC,AV.e6,AV.S9,AV.w6,AV.L8,AV.scalar,T8,s6,A6,A9,B1,A8,o8,A5,U0,s7,A7,z8,j3,T7,l0,y7,y5,Q0,z6,j8,TD.isRow,s8,j7,j9,j6,F4,Value.oneCell',↓reduceIte,Int.reduceNe,Int.reduceEq,Nat.reduceAdd,Nat.reduceLT,Nat.reduceLeDiff,Nat.reduceSub,Nat.reduceMul,Nat.reduceBEq,Nat.reduceEqDiff,reduceCtorEq,Int.reduceToNat,←decide_not,←Bool.decide_and,sA,sN]
           rw[ep]
           refine Zw [1,2,4,5,8,42,43,44] [0,1,2,3] (Zq o7.d (Zq hb1 (Zq hb2 (Zq hml (Zq hB2 hzl))))) ?_
           rfl
     ·obtain rfl:i=c.b.length:=by omega
      have hres:n8 c l={c with w5:=l.length,regs:=c.regs+3,b:=c.b.map (I3 l c.regs)}:=by unfold n8;rw[if_neg hne]
      have hbl2:(c.b.map (I3 l c.regs)).length=c.b.length:=by simp
      rw[hres,b4I]
      obtain⟨M,hM⟩:∃M,M=c.b.map (I3 l c.regs):=⟨_,rfl⟩
      rw[←hM]at hbl2⊢
      rw[←hbl2]
      repeat' (first|refine Za ?_|(with_reducible constructor<;>first|intro N hN mk hmk|intro N hN|intro h)|(clear hN N)|refine Zt c4P.d ?_|fail)
      all_goals first|rfl
end Go.Proofs.YtgdoiokalfhjoaaGreatDoor
end
