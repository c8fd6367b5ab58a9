/- Own work (by an AI agent; no person has read it): part of a proof of the seat YtgdoiokalfhjoaaDoor. -/
import Derived.Test.YtgdoiokalfhjoaaDoorXl
import Derived.Test.YtgdoiokalfhjoaaDoorXr
import Derived.Test.YtgdoiokalfhjoaaDoorXs
set_option linter.unusedSimpArgs false
set_option linter.unusedVariables false
set_option maxRecDepth 100000
set_option maxHeartbeats 10000000
section
namespace Go.Proofs.YtgdoiokalfhjoaaDoor
open Go.Ab
def slF(l:List Int)(r:Int):Option Value:=if r∈l then some (.int .i64 (kP l r))else none
theorem a7G(l:List Int)(r:Int):(slF l r).isSome=decide (r∈l):=by
 unfold slF;split<;>simp [*]
theorem b3U(l:List Int)(r:Int):(slF l r).getD (.int .i64 0)= .int .i64 (if r∈l then kP l r else 0):=by
 unfold slF;split<;>rfl
theorem b59:(fun _=>none)=bE .i64 (slF []):=by
 funext v;cases v<;>simp [bE,slF]
theorem a3v{l:List Int}{a r:Int}(h:a∉l):kP (l++[a]) r=if r∈l then kP l r else if r=a then l.length else l.length+1:=by
 unfold kP
 rw[List.idxOf_append]
 split
 ·rfl
 ·by_cases e:r=a
  ·subst e;simp
  ·have e2:(a==r)=false:=by simpa using Ne.symm e
   rw[if_neg e,List.idxOf_cons,e2]
   simp;omega
theorem b3V{l:List Int}{a:Int}(h:a∉l):(fun c=>if c=a then some (Value.int .i64 l.length)else slF l c)=slF (l++[a]):=by
 funext c
 unfold slF
 rw[a3v h]
 by_cases e:c=a
 ·subst e;simp [h]
 ·by_cases e2:c∈l
  ·simp [e,e2]
  ·simp [e,e2]
theorem a09(regs:Int):(fun _=>none)=bE .i64 (nmF [] regs):=by
 funext v;cases v<;>simp [bE,nmF]
theorem kD{K:List Int}{a regs:Int}(h:a∉K):(fun c=>if c=a then some (Value.int .i64 (regs+K.length))else nmF K regs c)=nmF (K++[a]) regs:=by
 funext c
 unfold nmF
 rw[a3v h]
 by_cases e:c=a
 ·subst e;simp [h]
 ·by_cases e2:c∈K
  ·simp [e,e2]
  ·simp [e,e2]
theorem a08{K:List Int}{regs:Int}(h:K.Nodup):mapLen (bE .i64 (nmF K regs))=K.length:=by
 have h1:(K.map (Value.int .i64)).Nodup:=by
  exact List.Pairwise.map _ (fun a b hab e=>hab (by cases e;rfl)) h
 rw[zU h1 fun k=>?_,List.length_map]
 cases k with
 |int q z=>
  cases q<;>simp [bE,nmF]
 |_=>simp [bE]
theorem a9p{l:List Int}(h:N1 l):l.Nodup:=h.imp fun h=>by omega
theorem pP{l:List Int}(h:N1 l){i:Nat}(hi:i<l.length):l.getD i 0∉l.take i:=by
 intro hm
 obtain⟨k,hk,e⟩:=List.getElem_of_mem hm
 rw[List.getD_eq_getElem?_getD,List.getElem?_eq_getElem hi,Option.getD_some,List.getElem_take]at e
 have:=List.pairwise_iff_getElem.1 h k i (by simp at hk;omega) hi (by simp at hk;omega)
 omega
theorem gW{l u:List Int}(h:N1 u){i:Nat}(hi:i<u.length):u.getD i 0∉A4 l (u.take i):=fun hm=>pP h hi (b1G.1 hm).1
theorem jU(l K:List Int)(regs a:Int):P5 l (K++[a]) regs=P5 l K regs++[b66 l regs a K.length]:=by
 unfold P5
 rw[List.length_append,List.length_singleton,List.range_succ,List.map_append]
 congr 1
 ·refine List.map_congr_left fun k hk=>?_
  rw[List.getD_eq_getElem?_getD,List.getD_eq_getElem?_getD,List.getElem?_append_left (List.mem_range.1 hk)]
 ·simp
theorem gX{l u:List Int}(h:N1 u):(A4 l u).Nodup:=(a9p h).sublist List.filter_sublist
theorem b2f(x:l0):N1 (w6 x):=fJ _
theorem a9r(t:w4):N1 (u9 t):=fJ _
def b7A:List AV:= .c5 true []::T0.av
def S9(c:Code)(l:List Int)(i:Nat):List (List AV):=y6 ((c.b.take i).map (W7 l c.regs))++List.replicate (c.b.length-i) b7A
theorem pV(c:Code)(l:List Int)(i:Nat)(h:i≤c.b.length):(S9 c l i).length=c.b.length:=by simp [S9,y6];omega
theorem a9z(c:Code)(l:List Int):S9 c l c.b.length=y6 (c.b.map (W7 l c.regs)):=by simp [S9]
theorem vU(c:Code)(l:List Int)(i:Nat):(∀e∈S9 c l i,e.length=14)=True:=by
 refine eq_true fun e he=>?_
 rcases List.mem_append.1 he with h|h
 ·obtain⟨b,_,rfl⟩:=List.mem_map.1 h;rfl
 ·rw[(List.mem_replicate.1 h).2];rfl
theorem a9B(c:Code)(l:List Int)(i:Nat)(r:Nat→Option Nat):((S9 c l i).mapM fun e=>e.mapM (n6 r 3))=some (S9 c l i):=by
 refine gD fun e he=>gD fun x hx=>?_
 rcases List.mem_append.1 he with h|h
 ·obtain⟨b,_,rfl⟩:=List.mem_map.1 h
  simp only[e8.av,w4.av,List.mem_cons,List.not_mem_nil,or_false]at hx
  rcases hx with rfl|rfl|rfl|rfl|rfl|rfl|rfl|rfl|rfl|rfl|rfl|rfl|rfl|rfl<;>rfl
 ·rw[(List.mem_replicate.1 h).2]at hx
  simp only[b7A,w4.av,List.mem_cons,List.not_mem_nil,or_false]at hx
  rcases hx with rfl|rfl|rfl|rfl|rfl|rfl|rfl|rfl|rfl|rfl|rfl|rfl|rfl|rfl<;>rfl
theorem a9A(c:Code)(l:List Int)(i:Nat)(h:i<c.b.length)(x:List AV)(hx:x=(W7 l c.regs (c.b.getD i B0)).av):(S9 c l i).modify i (fun e=>u2 e 0 x)=S9 c l (i+1):=by
 subst hx
 apply List.ext_getElem?
 intro j
 rw[List.getElem?_modify]
 have hl:(y6 ((c.b.take i).map (W7 l c.regs))).length=i:=by simp [y6];omega
 have hl2:(y6 ((c.b.take (i+1)).map (W7 l c.regs))).length=i+1:=by simp [y6];omega
 unfold S9
 by_cases h1:j<i
 ·rw[List.getElem?_append_left (by omega),List.getElem?_append_left (by omega)]
  simp [y6,h1,show j<i+1 by omega,show¬i=j by omega]
 ·by_cases h2:j=i
  ·subst h2
   rw[List.getElem?_append_right (by omega),hl,List.getElem?_append_left (by omega)]
   have h3:j<c.b.length:=h
   simp [y6,List.getElem?_replicate,show 0<c.b.length-j by omega,List.getElem?_take,h3]
   rfl
  ·rw[List.getElem?_append_right (by omega),List.getElem?_append_right (by omega),hl,hl2]
   simp only[List.getElem?_replicate,show¬i=j by omega,if_false]
   have:(j-i<c.b.length-i)↔(j-(i+1)<c.b.length-(i+1)):=by omega
   by_cases h4:j-i<c.b.length-i
   ·rw[if_pos h4,if_pos (this.1 h4)];rfl
   ·rw[if_neg h4,if_neg (fun h=>h4 (this.2 h))];rfl
theorem b7z(c:Code)(l:List Int):List.replicate c.b.length [AV.c5 true [],.v (.int .i64 0),.v (.int .i64 0),.v (.int .i64 0),.v (.int .i64 0),.v (.int .i32 0),.v (.int .i64 0),.v (.int .i64 0),.v (.int .i32 0),.v (.int .i64 0),.v (.int .i64 0),.v (.int .i32 0),.v (.int .i64 0),.v (.int .i64 0)]=S9 c l 0:=by
 simp only[S9,y6,List.take_zero,List.map_nil,List.nil_append,Nat.sub_zero];rfl
theorem pU(c:Code)(l:List Int)(i:Nat)(h:i<c.b.length)(x:List AV)(hx:x.length=14):((S9 c l i).modify i fun e=>u2 e 0 x)[i]?=some x:=by
 have hl:(S9 c l i).length=c.b.length:=pV c l i (by omega)
 have hi:i<(S9 c l i).length:=by omega
 have h14:((S9 c l i)[i]).length=14:=by
  have:=vU c l i
  exact(of_eq_true this) _ (List.getElem_mem hi)
 rw[List.getElem?_modify,List.getElem?_eq_getElem hi]
 simp only[if_true,Option.map_eq_map,Option.map_some,Option.some.injEq]
 apply List.ext_getElem?
 intro j
 rw[gG]
 by_cases hj:j<14
 ·rw[if_pos (by omega),if_pos (by omega)];rfl
 ·rw[if_neg (by omega),List.getElem?_eq_none (by omega),List.getElem?_eq_none (by omega)]
theorem lX(c:Code)(l:List Int)(i:Nat)(h:i<c.b.length)(a y:AV)(T:List AV)(hT:T.length=13)(hx:y::T=(W7 l c.regs (c.b.getD i B0)).av):((S9 c l i).modify i fun e=>u2 e 0 (a::T)).modify i (fun e=>u2 e 0 [y])=S9 c l (i+1):=by
 rw[←a9A c l i h (y::T) hx]
 apply List.ext_getElem?
 intro j
 rw[List.getElem?_modify,List.getElem?_modify,List.getElem?_modify]
 by_cases e:i=j
 ·subst e
  have hi:i<(S9 c l i).length:=by rw[pV c l i (by omega)];exact h
  have h14:((S9 c l i)[i]).length=14:=(of_eq_true (vU c l i)) _ (List.getElem_mem hi)
  rw[List.getElem?_eq_getElem hi]
  generalize (S9 c l i)[i]=E at h14
  simp only[if_true,Option.map_eq_map,Option.map_some,Option.some.injEq]
  cases E with
  |nil=>simp at h14
  |cons z E=>
   have hs:∀e:List AV,u2 e 0 []=e:=fun e=>by cases e<;>rfl
   simp [u2,hs]
 ·simp [e]
def o5:=ZZ.mk (Zq @List.length_append.{0} (Zq @a7G (Zq @b3U (Zq @vU (Zq @a9B (Zq @ite_self.{1} (Zq @F9 (Zq @V1 (Zq @O4 (Zq @bF (Zq @j4 (Zq @A7 (Zq @aX (Zq @aE (Zq @Q5 (Zq @p0 (Zq @gV (Zq @w8 (Zq @m7 (Zq @y8 (Zq @r8 (Zq @s6 (Zq @n3 (Zq @aA (Zq @W6 (Zq @l8 (Zq @e8.av.eq_1 (Zq @w4.av.eq_1 (Zq @l0.av.eq_1 (Zq @H8.av.eq_1 (Zq @j0 @j3)))))))))))))))))))))))))))))))
def b6K:=ZZ.mk (Zq o5.d @dZ)
theorem pZ(c:Code)(l:List Int)(hc:C8 c)(hl:N1 l)(hr:∀q∈l,0≤q∧q<c.regs):n5 Tryd.prog 38 [.agg c.av,.c5 false (m8 l)] (fun _=> .agg (p9 c l).av) (fun _=>[]):=by
 have hc0:=hc.r
 have hn:=hc.n
 have hlen:=pJ hr hl hc0.1
 refine Zf Tryd.func38 Tryd.ntmps38 ?_;simp only[Code.av]
 repeat' (first|refine Za ?_|(with_reducible constructor<;>first|intro N hN mk hmk|intro N hN|intro h)|(clear hN N)|refine Zt (Zq o5.d (Zq o6 (Zq o7 (Zq o8 (Zq e6 (Zq c9 (Zq c6 (Zq b9 (Zq a6 (Zq b5 (Zq b7 a7))))))))))) ?_|fail)
 ·have e:l=[]:=List.length_eq_zero_iff.1 (by omega)
  unfold p9;rw[if_pos e]
 ·have hne:¬l=[]:=fun e=>by subst e;simp at*
  obtain⟨q0,hq0⟩:=List.exists_mem_of_ne_nil l hne
  have hq0s:(bE .i64 (slF l) (.int .i64 q0)).isSome=true:=by rw[c6,a7G];exact decide_eq_true hq0
  intro bs
  repeat' (first|refine Za ?_|(with_reducible constructor<;>first|intro N hN mk hmk|intro N hN|intro h)|(clear hN N)|refine Zt (Zq o5.d (Zq o6 (Zq o7 (Zq o8 (Zq e6 (Zq c9 (Zq c6 (Zq b9 (Zq a6 (Zq b5 (Zq b7 a7))))))))))) ?_|fail)
  refine v7 (fun i=>⟨[.Z,.c5 false (m8 l),.ptr 0 0 0,.Z,.ptr 1 0 0,.v (.map (some bs)),.Z,.Z,.Z,.Z,.Z,.Z,.Z,.Z,.Z,.Z,.Z,.c5 false (m8 l),.v (.int .i64 l.length),.v (.int .i64 i),.Z,.Z,.Z,.Z,.Z,.Z,.Z,.Z,.Z,.Z,.Z,.Z,.Z,.Z,.Z,.Z,.Z,.Z,.Z,.Z,.Z,.Z,.Z,.Z,.Z,.Z,.Z,.Z,.Z,.Z,.Z,.Z,.Z,.Z,.Z,.Z,.Z,.Z,.Z,.Z,.Z,.Z,.Z,.Z,.Z,.Z,.Z,.Z,.Z,.Z,.Z,.Z,.Z,.Z,.Z,.Z,.Z,.Z,.Z,.Z,.Z,.Z,.Z,.Z,.Z,.Z,.Z,.Z,.Z,.Z,.Z],[(0,.live ⟨8,[[.v (.int .i64 c.group),.v (.int .i64 c.sub),.v (.int .i64 c.regs),.v (.int .i64 c.I2),.v (.int .i64 c.params),.c5 false (H2 c.o0),.c5 false (Proofs.YtgdoiokalfhjoaaDoor.loops c.loops),.c5 false (y6 c.b)]],0⟩),(1,.live ⟨8,[[.v (.int .i64 0),.v (.int .i64 0),.v (.int .i64 0),.v (.int .i64 0),.v (.int .i64 0),.c5 true [],.c5 true [],.c5 true []]],0⟩),(2,.mp bs (.int .i64) (bE .i64 (slF (l.take i))))],3⟩) l.length (Zw [1,2,4,5,17,18,19] [0,8] (Zq o5.d (Zq o6 (Zq o7 (Zq o8 (Zq e6 (Zq c9 (Zq c6 (Zq b9 (Zq a6 (Zq b5 (Zq b7 a7))))))))))) ?_) ?_
  ·rw[b59];rfl
  ·intro i hi
   by_cases hlt:i<l.length
   ·have hfr:=pP hl hlt
    repeat' (first|refine Za ?_|(with_reducible constructor<;>first|intro N hN mk hmk|intro N hN|intro h)|(clear hN N)|refine Zt (Zq o5.d (Zq o6 (Zq o7 (Zq o8 (Zq e6 (Zq c9 (Zq c6 (Zq b9 (Zq a6 (Zq b5 (Zq b7 a7))))))))))) ?_|fail)
    have e1:=b3V hfr
    rw[show(l.take i).length=i by simp;omega,←G6 l i 0 hlt]at e1
    rw[e1]
    refine Zw [1,2,4,5,17,18,19] [0,1] (Zq o5.d (Zq o6 (Zq o7 (Zq o8 (Zq e6 (Zq c9 (Zq c6 (Zq b9 (Zq a6 (Zq b5 (Zq b7 a7))))))))))) ?_
    rfl
   ·obtain rfl:i=l.length:=by omega
    rw[List.take_length]
    repeat' (first|refine Za ?_|(with_reducible constructor<;>first|intro N hN mk hmk|intro N hN|intro h)|(clear hN N)|refine Zt (Zq o5.d (Zq (b7z c l) (Zq o6 (Zq o7 (Zq o8 (Zq e6 (Zq c9 (Zq c6 (Zq b9 (Zq a6 (Zq b5 (Zq b7 a7)))))))))))) ?_|fail)
    clear hi hlt
    refine v7 (fun i=>⟨[.Z,.c5 false (m8 l),.ptr 0 0 0,.Z,.ptr 1 0 0,.v (.map (some bs)),.Z,.Z,.ptr 2 0 0,.Z,.Z,.Z,.Z,.Z,.Z,.Z,.Z,.Z,.Z,.Z,.Z,.Z,.Z,.Z,.Z,.Z,.Z,.Z,.Z,.Z,.Z,.Z,.Z,.Z,.Z,.Z,.Z,.Z,.Z,.Z,.Z,.Z,.c5 false (y6 c.b),.v (.int .i64 c.b.length),.v (.int .i64 i),.Z,.Z,.Z,.Z,.Z,.Z,.Z,.Z,.Z,.Z,.Z,.Z,.Z,.Z,.Z,.Z,.Z,.Z,.Z,.Z,.Z,.Z,.Z,.Z,.Z,.Z,.Z,.Z,.Z,.Z,.Z,.Z,.Z,.Z,.Z,.Z,.Z,.Z,.Z,.Z,.Z,.Z,.Z,.Z,.Z,.Z],[(0,.live ⟨8,[[.v (.int .i64 c.group),.v (.int .i64 c.sub),.v (.int .i64 c.regs),.v (.int .i64 c.I2),.v (.int .i64 c.params),.c5 false (H2 c.o0),.c5 false (Proofs.YtgdoiokalfhjoaaDoor.loops c.loops),.c5 false (y6 c.b)]],0⟩),(1,.live ⟨8,[[.v (.int .i64 0),.v (.int .i64 0),.v (.int .i64 0),.v (.int .i64 0),.v (.int .i64 0),.c5 true [],.c5 true [],.c5 true []]],0⟩),(2,.live ⟨8,[[.v (.int .i64 c.group),.v (.int .i64 c.sub),.v (.int .i64 (c.regs+3)),.v (.int .i64 l.length),.v (.int .i64 c.params),.c5 false (H2 c.o0),.c5 false (Proofs.YtgdoiokalfhjoaaDoor.loops c.loops),.own 3 0 c.b.length]],0⟩),(3,.live ⟨14,S9 c l i,0⟩),(4,.mp bs (.int .i64) (bE .i64 (slF l)))],5⟩) c.b.length (Zw [1,2,4,5,8,42,43,44] [0,1,19,131] (Zq o5.d (Zq (b7z c l) (Zq o6 (Zq o7 (Zq o8 (Zq e6 (Zq c9 (Zq c6 (Zq b9 (Zq a6 (Zq b5 (Zq b7 a7)))))))))))) ?_) ?_
    ·rfl
    ·intro i hi
     have hzl:=pV c l i hi
     by_cases hlt:i<c.b.length
     ·have hbo:=hc.b _ (bW hlt)
      obtain⟨B,hB⟩:∃B,B=I8 c.b i:=⟨_,rfl⟩
      have hB2:c.b.getD i B0=B:=by rw[hB];rfl
      rw[←hB]at hbo
      have hbl:=hbo.l
      repeat' (first|refine Za ?_|(with_reducible constructor<;>first|intro N hN mk hmk|intro N hN|intro h)|(refine v8 1 [2,4,8,10,11] Tryd.func60 rfl (by kernel_rfl) (by simp only[e9,ne_eq,Nat.reduceEqDiff,not_false_eq_true,and_self]) ?_;rw[D5 Tryd.ntmps60];refine w5 ?_)|(clear hN N)|refine Zt (Zq o5.d (Zq hB2 (Zq hzl (Zq o6 (Zq o7 (Zq o8 (Zq e6 (Zq c9 (Zq c6 (Zq b9 (Zq a6 (Zq b5 (Zq b7 a7))))))))))))) ?_|fail)
      have hou:=fun k=>uV l c.regs B.i k
      refine A5 (cS (id:=93) (i:=0) (j:=3) rfl) ?_
      simp only[Z7,Nat.reduceEqDiff,if_true,if_false,↓reduceIte,List.modify_zero_cons,List.set_cons_succ,List.set_cons_zero]
      refine v7 (fun k=>⟨[.Z,.mJ 61 [.ptr 5 0 0],.Z,.Z,.Z,.Z,.c5 false (j5 B.i),.v (.int .i64 B.i.length),.v (.int .i64 k),.Z,.Z,.Z,.Z,.Z,.Z,.Z],(if(kQ l c.regs B.i k)=[]then[(0,.live ⟨8,[[.v (.int .i64 c.group),.v (.int .i64 c.sub),.v (.int .i64 c.regs),.v (.int .i64 c.I2),.v (.int .i64 c.params),.c5 false (H2 c.o0),.c5 false (Proofs.YtgdoiokalfhjoaaDoor.loops c.loops),.c5 false (y6 c.b)]],0⟩),(1,.live ⟨8,[[.v (.int .i64 0),.v (.int .i64 0),.v (.int .i64 0),.v (.int .i64 0),.v (.int .i64 0),.c5 true [],.c5 true [],.c5 true []]],0⟩),(2,.live ⟨8,[[.v (.int .i64 c.group),.v (.int .i64 c.sub),.v (.int .i64 (c.regs+3)),.v (.int .i64 l.length),.v (.int .i64 c.params),.c5 false (H2 c.o0),.c5 false (Proofs.YtgdoiokalfhjoaaDoor.loops c.loops),.own 3 0 c.b.length]],0⟩),(3,.live ⟨14,S9 c l i,0⟩),(4,.live ⟨14,[[.c5 false (j5 B.i),.v (.int .i64 B.t.kind),.v (.int .i64 B.t.sub),.v (.int .i64 B.t.d.k),.v (.int .i64 B.t.d.n),.v (.int .i32 B.t.d.v),.v (.int .i64 B.t.a.k),.v (.int .i64 B.t.a.n),.v (.int .i32 B.t.a.v),.v (.int .i64 B.t.b.k),.v (.int .i64 B.t.b.n),.v (.int .i32 B.t.b.v),.v (.int .i64 B.t.t0),.v (.int .i64 B.t.t1)]],0⟩),(5,.live ⟨4,[[.v (.map (some bs)),.v (.int .i64 c.regs),.c5 true [],.Z]],0⟩),(6,.mp bs (.int .i64) (bE .i64 (slF l))),(7,.u3 1 [.ptr 0 0 0,.ptr 1 0 0,.ptr 2 0 0,.ptr 4 0 0,.ptr 5 0 0])]else[(0,.live ⟨8,[[.v (.int .i64 c.group),.v (.int .i64 c.sub),.v (.int .i64 c.regs),.v (.int .i64 c.I2),.v (.int .i64 c.params),.c5 false (H2 c.o0),.c5 false (Proofs.YtgdoiokalfhjoaaDoor.loops c.loops),.c5 false (y6 c.b)]],0⟩),(1,.live ⟨8,[[.v (.int .i64 0),.v (.int .i64 0),.v (.int .i64 0),.v (.int .i64 0),.v (.int .i64 0),.c5 true [],.c5 true [],.c5 true []]],0⟩),(2,.live ⟨8,[[.v (.int .i64 c.group),.v (.int .i64 c.sub),.v (.int .i64 (c.regs+3)),.v (.int .i64 l.length),.v (.int .i64 c.params),.c5 false (H2 c.o0),.c5 false (Proofs.YtgdoiokalfhjoaaDoor.loops c.loops),.own 3 0 c.b.length]],0⟩),(3,.live ⟨14,S9 c l i,0⟩),(4,.live ⟨14,[[.c5 false (j5 B.i),.v (.int .i64 B.t.kind),.v (.int .i64 B.t.sub),.v (.int .i64 B.t.d.k),.v (.int .i64 B.t.d.n),.v (.int .i32 B.t.d.v),.v (.int .i64 B.t.a.k),.v (.int .i64 B.t.a.n),.v (.int .i32 B.t.a.v),.v (.int .i64 B.t.b.k),.v (.int .i64 B.t.b.n),.v (.int .i32 B.t.b.v),.v (.int .i64 B.t.t0),.v (.int .i64 B.t.t1)]],0⟩),(5,.live ⟨4,[[.v (.map (some bs)),.v (.int .i64 c.regs),.own 6 0 (kQ l c.regs B.i k).length,.Z]],0⟩),(6,.live ⟨15,j5 (kQ l c.regs B.i k),0⟩),(7,.mp bs (.int .i64) (bE .i64 (slF l))),(8,.u3 1 [.ptr 0 0 0,.ptr 1 0 0,.ptr 2 0 0,.ptr 4 0 0,.ptr 5 0 0])]),(if(kQ l c.regs B.i k)=[]then 8 else 9)⟩) B.i.length (Zw [1,6,7,8] [0,1,2,3,37,93] (Zq o5.d (Zq hB2 (Zq hzl (Zq o6 (Zq o7 (Zq o8 (Zq e6 (Zq c9 (Zq c6 (Zq b9 (Zq a6 (Zq b5 (Zq b7 a7))))))))))))) ?_) ?_
      ·have e:kQ l c.regs B.i 0=[]:=rfl
       rw[e,if_pos rfl,if_pos rfl];rfl
      ·intro k hk
       have hok:=hou k
       by_cases hlk:k<B.i.length
       ·have hs:=zY l c.regs B.i k hlk
        have hbi:=hbo.i _ (show B.i.getD k I0∈B.i by rw[List.getD_eq_getElem?_getD,List.getElem?_eq_getElem hlk];exact List.getElem_mem hlk)
        have hne2:kQ l c.regs B.i (k+1)≠[]:=by rw[hs];intro h;exact absurd (List.append_eq_nil_iff.1 h).2 (b09 _ _ _)
        rw[if_neg hne2,if_neg hne2]
        obtain⟨x,hx⟩:∃x,B.i.getD k I0=x:=⟨_,rfl⟩
        rw[hx]at hs hbi
        have hu:=fZ x
        have hsu:=b2f x
        have C1:=tE x
        have C2:=rG x
        simp only[l0.av]at C1 C2
        have C3:=fun(K:List Int) (O:List l0) (bn:Nat) (o:H8)=>a3S o K c.regs c.regs (.map (some bs)) O bn
        simp only[H8.av]at C3
        by_cases hO:kQ l c.regs B.i k=[]
        ·rw[if_pos hO,if_pos hO]
         repeat' (first|refine Za ?_|(with_reducible constructor<;>first|intro N hN mk hmk|intro N hN|intro h)|(refine v8 2 [1] Tryd.func61 rfl (by kernel_rfl) (by simp only[e9,ne_eq,Nat.reduceEqDiff,not_false_eq_true,and_self]) ?_;rw[D5 Tryd.ntmps61];refine w5 ?_)|(refine v8 3 [0,3] Tryd.func62 rfl (by kernel_rfl) (by simp only[e9,ne_eq,Nat.reduceEqDiff,not_false_eq_true,and_self]) ?_;rw[D5 Tryd.ntmps62];refine w5 ?_)|refine Zc C1 ?_|(clear hN N)|refine Zt (Zq o5.d (Zq hx (Zq hB2 (Zq hzl (Zq o6 (Zq o7 (Zq o8 (Zq e6 (Zq c9 (Zq c6 (Zq b9 (Zq a6 (Zq b5 (Zq b7 a7)))))))))))))) ?_|fail)
         intro bn
         repeat' (first|refine Za ?_|(with_reducible constructor<;>first|intro N hN mk hmk|intro N hN|intro h)|(refine v8 2 [1] Tryd.func61 rfl (by kernel_rfl) (by simp only[e9,ne_eq,Nat.reduceEqDiff,not_false_eq_true,and_self]) ?_;rw[D5 Tryd.ntmps61];refine w5 ?_)|(refine v8 3 [0,3] Tryd.func62 rfl (by kernel_rfl) (by simp only[e9,ne_eq,Nat.reduceEqDiff,not_false_eq_true,and_self]) ?_;rw[D5 Tryd.ntmps62];refine w5 ?_)|refine Zc C1 ?_|(clear hN N)|refine Zt (Zq o5.d (Zq hx (Zq hB2 (Zq hzl (Zq o6 (Zq o7 (Zq o8 (Zq e6 (Zq c9 (Zq c6 (Zq b9 (Zq a6 (Zq b5 (Zq b7 a7)))))))))))))) ?_|fail)
         refine rA 6 120 (b1:=bs) (b2:=bn) rfl rfl (fun h=>by cases h) (.int .i64 q0) hq0s rfl fun hbn=>?_
         have hb1:=eq_false hbn
         have hb2:=eq_false (Ne.symm hbn)
         rw[a09 c.regs]
         refine v7 (fun j=>⟨[.ptr 5 0 0,.Z,.Z,.Z,.Z,.Z,.Z,.Z,.Z,.Z,.Z,.Z,.c5 false (m8 (w6 x)),.v (.int .i64 (w6 x).length),.v (.int .i64 j),.Z,.Z,.Z,.Z,.Z,.Z,.Z,.Z,.Z,.Z,.Z,.Z,.Z,.Z,.Z,.Z,.Z,.Z,.Z,.Z,.Z,.Z,.Z,.Z,.Z,.Z,.Z,.Z,.Z,.Z,.Z,.Z,.Z,.Z,.Z,.Z,.Z,.Z,.Z,.Z,.Z,.Z,.Z,.Z,.Z,.Z,.Z],(if(A4 l ((w6 x).take j))=[]then[(0,.live ⟨8,[[.v (.int .i64 c.group),.v (.int .i64 c.sub),.v (.int .i64 c.regs),.v (.int .i64 c.I2),.v (.int .i64 c.params),.c5 false (H2 c.o0),.c5 false (Proofs.YtgdoiokalfhjoaaDoor.loops c.loops),.c5 false (y6 c.b)]],0⟩),(1,.live ⟨8,[[.v (.int .i64 0),.v (.int .i64 0),.v (.int .i64 0),.v (.int .i64 0),.v (.int .i64 0),.c5 true [],.c5 true [],.c5 true []]],0⟩),(2,.live ⟨8,[[.v (.int .i64 c.group),.v (.int .i64 c.sub),.v (.int .i64 (c.regs+3)),.v (.int .i64 l.length),.v (.int .i64 c.params),.c5 false (H2 c.o0),.c5 false (Proofs.YtgdoiokalfhjoaaDoor.loops c.loops),.own 3 0 c.b.length]],0⟩),(3,.live ⟨14,S9 c l i,0⟩),(4,.live ⟨14,[[.c5 false (j5 B.i),.v (.int .i64 B.t.kind),.v (.int .i64 B.t.sub),.v (.int .i64 B.t.d.k),.v (.int .i64 B.t.d.n),.v (.int .i32 B.t.d.v),.v (.int .i64 B.t.a.k),.v (.int .i64 B.t.a.n),.v (.int .i32 B.t.a.v),.v (.int .i64 B.t.b.k),.v (.int .i64 B.t.b.n),.v (.int .i32 B.t.b.v),.v (.int .i64 B.t.t0),.v (.int .i64 B.t.t1)]],0⟩),(5,.live ⟨4,[[.v (.map (some bs)),.v (.int .i64 c.regs),.c5 true [],.v (.map (some bn))]],0⟩),(6,.live ⟨15,[[.v (.int .i64 x.op),.v (.int .i64 x.sub),.v (.int .i64 x.n),.v (.int .i64 x.d.k),.v (.int .i64 x.d.n),.v (.int .i32 x.d.v),.v (.int .i64 x.a.k),.v (.int .i64 x.a.n),.v (.int .i32 x.a.v),.v (.int .i64 x.b.k),.v (.int .i64 x.b.n),.v (.int .i32 x.b.v),.v (.int .i64 x.c.k),.v (.int .i64 x.c.n),.v (.int .i32 x.c.v)]],0⟩),(7,.mp bs (.int .i64) (bE .i64 (slF l))),(8,.u3 1 [.ptr 0 0 0,.ptr 1 0 0,.ptr 2 0 0,.ptr 4 0 0,.ptr 5 0 0]),(9,.u3 2 [.mJ 61 [.ptr 5 0 0]]),(10,.u3 3 [.ptr 5 0 0,.ptr 6 0 0]),(11,.mp bn (.int .i64) (bE .i64 (nmF (A4 l ((w6 x).take j)) c.regs)))]else[(0,.live ⟨8,[[.v (.int .i64 c.group),.v (.int .i64 c.sub),.v (.int .i64 c.regs),.v (.int .i64 c.I2),.v (.int .i64 c.params),.c5 false (H2 c.o0),.c5 false (Proofs.YtgdoiokalfhjoaaDoor.loops c.loops),.c5 false (y6 c.b)]],0⟩),(1,.live ⟨8,[[.v (.int .i64 0),.v (.int .i64 0),.v (.int .i64 0),.v (.int .i64 0),.v (.int .i64 0),.c5 true [],.c5 true [],.c5 true []]],0⟩),(2,.live ⟨8,[[.v (.int .i64 c.group),.v (.int .i64 c.sub),.v (.int .i64 (c.regs+3)),.v (.int .i64 l.length),.v (.int .i64 c.params),.c5 false (H2 c.o0),.c5 false (Proofs.YtgdoiokalfhjoaaDoor.loops c.loops),.own 3 0 c.b.length]],0⟩),(3,.live ⟨14,S9 c l i,0⟩),(4,.live ⟨14,[[.c5 false (j5 B.i),.v (.int .i64 B.t.kind),.v (.int .i64 B.t.sub),.v (.int .i64 B.t.d.k),.v (.int .i64 B.t.d.n),.v (.int .i32 B.t.d.v),.v (.int .i64 B.t.a.k),.v (.int .i64 B.t.a.n),.v (.int .i32 B.t.a.v),.v (.int .i64 B.t.b.k),.v (.int .i64 B.t.b.n),.v (.int .i32 B.t.b.v),.v (.int .i64 B.t.t0),.v (.int .i64 B.t.t1)]],0⟩),(5,.live ⟨4,[[.v (.map (some bs)),.v (.int .i64 c.regs),.own 7 0 (P5 l (A4 l ((w6 x).take j)) c.regs).length,.v (.map (some bn))]],0⟩),(6,.live ⟨15,[[.v (.int .i64 x.op),.v (.int .i64 x.sub),.v (.int .i64 x.n),.v (.int .i64 x.d.k),.v (.int .i64 x.d.n),.v (.int .i32 x.d.v),.v (.int .i64 x.a.k),.v (.int .i64 x.a.n),.v (.int .i32 x.a.v),.v (.int .i64 x.b.k),.v (.int .i64 x.b.n),.v (.int .i32 x.b.v),.v (.int .i64 x.c.k),.v (.int .i64 x.c.n),.v (.int .i32 x.c.v)]],0⟩),(7,.live ⟨15,j5 (P5 l (A4 l ((w6 x).take j)) c.regs),0⟩),(8,.mp bs (.int .i64) (bE .i64 (slF l))),(9,.u3 1 [.ptr 0 0 0,.ptr 1 0 0,.ptr 2 0 0,.ptr 4 0 0,.ptr 5 0 0]),(10,.u3 2 [.mJ 61 [.ptr 5 0 0]]),(11,.u3 3 [.ptr 5 0 0,.ptr 6 0 0]),(12,.mp bn (.int .i64) (bE .i64 (nmF (A4 l ((w6 x).take j)) c.regs)))]),(if(A4 l ((w6 x).take j))=[]then 12 else 13)⟩) (w6 x).length (Zw [0,12,13,14] [0,1,2,3,4,5,72] (Zq o5.d (Zq hx (Zq hB2 (Zq hzl (Zq o6 (Zq o7 (Zq o8 (Zq e6 (Zq c9 (Zq c6 (Zq b9 (Zq a6 (Zq b5 (Zq b7 a7)))))))))))))) ?_) ?_
         ·rfl
         ·intro j hj
          have hKn:=gX (l:=l) (u:=(w6 x).take j) (hsu.sublist (List.take_sublist _ _))
          have hml:=a08 (regs:=c.regs) hKn
          have hkl:(A4 l ((w6 x).take j)).length≤3:=Nat.le_trans (bZ _ _) (by rw[List.length_take];omega)
          obtain⟨K,hK⟩:∃K,(A4 l ((w6 x).take j))=K:=⟨_,rfl⟩
          rw[hK]at hKn hml hkl⊢
          by_cases hlj:j<(w6 x).length
          ·have hKf:=gW (l:=l) hsu hlj
           rw[hK]at hKf
           by_cases hK0:K=[]
           ·subst hK0
            rw[if_pos rfl,if_pos rfl]
            repeat' (first|refine Zl ?_|(with_reducible constructor<;>first|intro N hN mk hmk|intro N hN|intro h)|(refine v8 2 [1] Tryd.func61 rfl (by kernel_rfl) (by simp only[e9,ne_eq,Nat.reduceEqDiff,not_false_eq_true,and_self]) ?_;rw[D5 Tryd.ntmps61];refine w5 ?_)|(refine v8 3 [0,3] Tryd.func62 rfl (by kernel_rfl) (by simp only[e9,ne_eq,Nat.reduceEqDiff,not_false_eq_true,and_self]) ?_;rw[D5 Tryd.ntmps62];refine w5 ?_)|refine Zc (aC _) ?_|(clear hN N)|refine Zt (Zq o5.d (Zq hb1 (Zq hb2 (Zq hml (Zq hx (Zq hB2 (Zq hzl (Zq o6 (Zq o7 (Zq o8 (Zq e6 (Zq c9 (Zq c6 (Zq b9 (Zq a6 (Zq b5 (Zq b7 a7))))))))))))))))) ?_|fail)
            ·have e1:=fX hlj (by assumption)
             rw[hK,List.nil_append]at e1
             have e2:=kD (regs:=c.regs) hKf
             have hn1:¬[(w6 x).getD j 0]=[]:=by simp
             rw[e1,if_neg hn1,if_neg hn1]
             simp only[List.length_nil]at e2
             rw[e2,if_pos (by assumption)]
             refine Zw [0,12,13,14] [0,1,2,3,4,5,6,372] (Zq o5.d (Zq hb1 (Zq hb2 (Zq hml (Zq hx (Zq hB2 (Zq hzl (Zq o6 (Zq o7 (Zq o8 (Zq e6 (Zq c9 (Zq c6 (Zq b9 (Zq a6 (Zq b5 (Zq b7 a7))))))))))))))))) ?_
             rfl
            ·have e1:=jY hlj (by assumption)
             rw[hK]at e1
             rw[e1,if_pos rfl,if_pos rfl]
             refine Zw [0,12,13,14] [0,1,2,3,4,5,6] (Zq o5.d (Zq hb1 (Zq hb2 (Zq hml (Zq hx (Zq hB2 (Zq hzl (Zq o6 (Zq o7 (Zq o8 (Zq e6 (Zq c9 (Zq c6 (Zq b9 (Zq a6 (Zq b5 (Zq b7 a7))))))))))))))))) ?_
             rfl
           ·rw[if_neg hK0,if_neg hK0]
            obtain⟨G,hG⟩:∃G,G=P5 l K c.regs:=⟨_,rfl⟩
            have hGl:G.length≤3:=by rw[hG,bY];exact hkl
            rw[←hG]
            repeat' (first|refine Zl ?_|(with_reducible constructor<;>first|intro N hN mk hmk|intro N hN|intro h)|(refine v8 2 [1] Tryd.func61 rfl (by kernel_rfl) (by simp only[e9,ne_eq,Nat.reduceEqDiff,not_false_eq_true,and_self]) ?_;rw[D5 Tryd.ntmps61];refine w5 ?_)|(refine v8 3 [0,3] Tryd.func62 rfl (by kernel_rfl) (by simp only[e9,ne_eq,Nat.reduceEqDiff,not_false_eq_true,and_self]) ?_;rw[D5 Tryd.ntmps62];refine w5 ?_)|refine Zc (aC _) ?_|(clear hN N)|refine Zt (Zq o5.d (Zq hb1 (Zq hb2 (Zq hml (Zq hx (Zq hB2 (Zq hzl (Zq o6 (Zq o7 (Zq o8 (Zq e6 (Zq c9 (Zq c6 (Zq b9 (Zq a6 (Zq b5 (Zq b7 a7))))))))))))))))) ?_|fail)
            ·have e1:=fX hlj (by assumption)
             rw[hK]at e1
             have e2:=kD (regs:=c.regs) hKf
             have hn1:¬K++[(w6 x).getD j 0]=[]:=by simp
             rw[e1,if_neg hn1,if_neg hn1,e2,if_pos (by assumption)]
             refine Zw [0,12,13,14] [0,1,2,3,4,5,6,373] (Zq o5.d (Zq hb1 (Zq hb2 (Zq hml (Zq hx (Zq hB2 (Zq hzl (Zq o6 (Zq o7 (Zq o8 (Zq e6 (Zq c9 (Zq c6 (Zq b9 (Zq a6 (Zq b5 (Zq b7 a7))))))))))))))))) ?_
             rw[jU,List.length_append,←hG];rfl
            ·have e1:=jY hlj (by assumption)
             rw[hK]at e1
             rw[e1,if_neg hK0,if_neg hK0,←hG]
             refine Zw [0,12,13,14] [0,1,2,3,4,5,6,7] (Zq o5.d (Zq hb1 (Zq hb2 (Zq hml (Zq hx (Zq hB2 (Zq hzl (Zq o6 (Zq o7 (Zq o8 (Zq e6 (Zq c9 (Zq c6 (Zq b9 (Zq a6 (Zq b5 (Zq b7 a7))))))))))))))))) ?_
             rfl
          ·obtain rfl:j=(w6 x).length:=by omega
           rw[List.take_length]at hK
           by_cases hK0:K=[]
           ·subst hK0
            rw[if_pos rfl,if_pos rfl]
            by_cases hdl:Q7 x∈l
            all_goals first|have hdd:=eq_false hdl|have hdd:=eq_true hdl
            all_goals repeat' (first|refine Za ?_|(with_reducible constructor<;>first|intro N hN mk hmk|intro N hN|intro h)|(refine v8 2 [1] Tryd.func61 rfl (by kernel_rfl) (by simp only[e9,ne_eq,Nat.reduceEqDiff,not_false_eq_true,and_self]) ?_;rw[D5 Tryd.ntmps61];refine w5 ?_)|(refine v8 3 [0,3] Tryd.func62 rfl (by kernel_rfl) (by simp only[e9,ne_eq,Nat.reduceEqDiff,not_false_eq_true,and_self]) ?_;rw[D5 Tryd.ntmps62];refine w5 ?_)|refine Zc (aC _) ?_|refine Zc C2 ?_|(refine L5 (idm:=11) (C3 [] [] bn x.a) ?_ rfl rfl rfl ?_;(next=>(simp (disch:=omega) only[o5.d,hdd,hb1,hb2,hml,hx,hB2,hzl,o6,o7,o8,e6,c9,c6,b9,a6,b5,b7,a7,B7,Nat.reduceBEq,AV.plain,Nat.reduceAdd,Nat.reduceLeDiff,Nat.reduceLT,↓reduceIte,sF]<;>first|done|rfl)))|(refine I4 (idm:=11) (C3 [] [] bn x.a) ?_ rfl rfl rfl ?_;(next=>(simp (disch:=omega) only[o5.d,hdd,hb1,hb2,hml,hx,hB2,hzl,o6,o7,o8,e6,c9,c6,b9,a6,b5,b7,a7,B7,Nat.reduceBEq,AV.plain,Nat.reduceAdd,Nat.reduceLeDiff,Nat.reduceLT,↓reduceIte,sF]<;>first|done|rfl)))|(refine L5 (idm:=11) (C3 [] [] bn x.b) ?_ rfl rfl rfl ?_;(next=>(simp (disch:=omega) only[o5.d,hdd,hb1,hb2,hml,hx,hB2,hzl,o6,o7,o8,e6,c9,c6,b9,a6,b5,b7,a7,B7,Nat.reduceBEq,AV.plain,Nat.reduceAdd,Nat.reduceLeDiff,Nat.reduceLT,↓reduceIte,sF]<;>first|done|rfl)))|(refine I4 (idm:=11) (C3 [] [] bn x.b) ?_ rfl rfl rfl ?_;(next=>(simp (disch:=omega) only[o5.d,hdd,hb1,hb2,hml,hx,hB2,hzl,o6,o7,o8,e6,c9,c6,b9,a6,b5,b7,a7,B7,Nat.reduceBEq,AV.plain,Nat.reduceAdd,Nat.reduceLeDiff,Nat.reduceLT,↓reduceIte,sF]<;>first|done|rfl)))|(refine L5 (idm:=11) (C3 [] [] bn x.c) ?_ rfl rfl rfl ?_;(next=>(simp (disch:=omega) only[o5.d,hdd,hb1,hb2,hml,hx,hB2,hzl,o6,o7,o8,e6,c9,c6,b9,a6,b5,b7,a7,B7,Nat.reduceBEq,AV.plain,Nat.reduceAdd,Nat.reduceLeDiff,Nat.reduceLT,↓reduceIte,sF]<;>first|done|rfl)))|(refine I4 (idm:=11) (C3 [] [] bn x.c) ?_ rfl rfl rfl ?_;(next=>(simp (disch:=omega) only[o5.d,hdd,hb1,hb2,hml,hx,hB2,hzl,o6,o7,o8,e6,c9,c6,b9,a6,b5,b7,a7,B7,Nat.reduceBEq,AV.plain,Nat.reduceAdd,Nat.reduceLeDiff,Nat.reduceLT,↓reduceIte,sF]<;>first|done|rfl)))|(clear hN N)|refine Zt (Zq o5.d (Zq hdd (Zq hb1 (Zq hb2 (Zq hml (Zq hx (Zq hB2 (Zq hzl (Zq o6 (Zq o7 (Zq o8 (Zq e6 (Zq c9 (Zq c6 (Zq b9 (Zq a6 (Zq b5 (Zq b7 a7)))))))))))))))))) ?_|fail)
            ·refine O7 (aI (id:=11) rfl) ?_
             simp only[Z7,Nat.reduceEqDiff,if_true,if_false,↓reduceIte,List.modify_zero_cons,List.set_cons_succ,List.set_cons_zero]
             refine O7 (cS (id:=5) (i:=0) (j:=3) rfl) ?_
             simp only[Z7,Nat.reduceEqDiff,if_true,if_false,↓reduceIte,List.modify_zero_cons,List.set_cons_succ,List.set_cons_zero]
             skip
             refine Zw [1,6,7,8] [0,1,2,3,4,5,532] (Zq o5.d (Zq hdd (Zq hb1 (Zq hb2 (Zq hml (Zq hx (Zq hB2 (Zq hzl (Zq o6 (Zq o7 (Zq o8 (Zq e6 (Zq c9 (Zq c6 (Zq b9 (Zq a6 (Zq b5 (Zq b7 a7)))))))))))))))))) ?_
             rw[hs,hO,oZ hdl,hK,rR hdl]
             try simp only[←List.append_assoc,List.nil_append,List.length_append,List.length_cons,List.length_nil,Nat.zero_add]
             rfl
            ·refine O7 (aI (id:=11) rfl) ?_
             simp only[Z7,Nat.reduceEqDiff,if_true,if_false,↓reduceIte,List.modify_zero_cons,List.set_cons_succ,List.set_cons_zero]
             refine O7 (cS (id:=5) (i:=0) (j:=3) rfl) ?_
             simp only[Z7,Nat.reduceEqDiff,if_true,if_false,↓reduceIte,List.modify_zero_cons,List.set_cons_succ,List.set_cons_zero]
             skip
             refine Zw [1,6,7,8] [0,1,2,3,4,5,332] (Zq o5.d (Zq hdd (Zq hb1 (Zq hb2 (Zq hml (Zq hx (Zq hB2 (Zq hzl (Zq o6 (Zq o7 (Zq o8 (Zq e6 (Zq c9 (Zq c6 (Zq b9 (Zq a6 (Zq b5 (Zq b7 a7)))))))))))))))))) ?_
             rw[hs,hO,tT hdl,hK]
             try simp only[←List.append_assoc,List.nil_append,List.length_append,List.length_cons,List.length_nil,Nat.zero_add]
             rfl
           ·rw[if_neg hK0,if_neg hK0]
            obtain⟨G,hG⟩:∃G,G=P5 l K c.regs:=⟨_,rfl⟩
            have hGl:G.length≤3:=by rw[hG,bY];exact hkl
            rw[←hG]
            by_cases hdl:Q7 x∈l
            all_goals first|have hdd:=eq_false hdl|have hdd:=eq_true hdl
            all_goals repeat' (first|refine Za ?_|(with_reducible constructor<;>first|intro N hN mk hmk|intro N hN|intro h)|(refine v8 2 [1] Tryd.func61 rfl (by kernel_rfl) (by simp only[e9,ne_eq,Nat.reduceEqDiff,not_false_eq_true,and_self]) ?_;rw[D5 Tryd.ntmps61];refine w5 ?_)|(refine v8 3 [0,3] Tryd.func62 rfl (by kernel_rfl) (by simp only[e9,ne_eq,Nat.reduceEqDiff,not_false_eq_true,and_self]) ?_;rw[D5 Tryd.ntmps62];refine w5 ?_)|refine Zc (aC _) ?_|refine Zc C2 ?_|(refine L5 (idm:=12) (C3 K G bn x.a) ?_ rfl rfl rfl ?_;(next=>(simp (disch:=omega) only[o5.d,hdd,hb1,hb2,hml,hx,hB2,hzl,o6,o7,o8,e6,c9,c6,b9,a6,b5,b7,a7,B7,Nat.reduceBEq,AV.plain,Nat.reduceAdd,Nat.reduceLeDiff,Nat.reduceLT,↓reduceIte,sF]<;>first|done|rfl)))|(refine I4 (idm:=12) (C3 K G bn x.a) ?_ rfl rfl rfl ?_;(next=>(simp (disch:=omega) only[o5.d,hdd,hb1,hb2,hml,hx,hB2,hzl,o6,o7,o8,e6,c9,c6,b9,a6,b5,b7,a7,B7,Nat.reduceBEq,AV.plain,Nat.reduceAdd,Nat.reduceLeDiff,Nat.reduceLT,↓reduceIte,sF]<;>first|done|rfl)))|(refine L5 (idm:=12) (C3 K G bn x.b) ?_ rfl rfl rfl ?_;(next=>(simp (disch:=omega) only[o5.d,hdd,hb1,hb2,hml,hx,hB2,hzl,o6,o7,o8,e6,c9,c6,b9,a6,b5,b7,a7,B7,Nat.reduceBEq,AV.plain,Nat.reduceAdd,Nat.reduceLeDiff,Nat.reduceLT,↓reduceIte,sF]<;>first|done|rfl)))|(refine I4 (idm:=12) (C3 K G bn x.b) ?_ rfl rfl rfl ?_;(next=>(simp (disch:=omega) only[o5.d,hdd,hb1,hb2,hml,hx,hB2,hzl,o6,o7,o8,e6,c9,c6,b9,a6,b5,b7,a7,B7,Nat.reduceBEq,AV.plain,Nat.reduceAdd,Nat.reduceLeDiff,Nat.reduceLT,↓reduceIte,sF]<;>first|done|rfl)))|(refine L5 (idm:=12) (C3 K G bn x.c) ?_ rfl rfl rfl ?_;(next=>(simp (disch:=omega) only[o5.d,hdd,hb1,hb2,hml,hx,hB2,hzl,o6,o7,o8,e6,c9,c6,b9,a6,b5,b7,a7,B7,Nat.reduceBEq,AV.plain,Nat.reduceAdd,Nat.reduceLeDiff,Nat.reduceLT,↓reduceIte,sF]<;>first|done|rfl)))|(refine I4 (idm:=12) (C3 K G bn x.c) ?_ rfl rfl rfl ?_;(next=>(simp (disch:=omega) only[o5.d,hdd,hb1,hb2,hml,hx,hB2,hzl,o6,o7,o8,e6,c9,c6,b9,a6,b5,b7,a7,B7,Nat.reduceBEq,AV.plain,Nat.reduceAdd,Nat.reduceLeDiff,Nat.reduceLT,↓reduceIte,sF]<;>first|done|rfl)))|(clear hN N)|refine Zt (Zq o5.d (Zq hdd (Zq hb1 (Zq hb2 (Zq hml (Zq hx (Zq hB2 (Zq hzl (Zq o6 (Zq o7 (Zq o8 (Zq e6 (Zq c9 (Zq c6 (Zq b9 (Zq a6 (Zq b5 (Zq b7 a7)))))))))))))))))) ?_|fail)
            ·refine O7 (aI (id:=12) rfl) ?_
             simp only[Z7,Nat.reduceEqDiff,if_true,if_false,↓reduceIte,List.modify_zero_cons,List.set_cons_succ,List.set_cons_zero]
             refine O7 (cS (id:=5) (i:=0) (j:=3) rfl) ?_
             simp only[Z7,Nat.reduceEqDiff,if_true,if_false,↓reduceIte,List.modify_zero_cons,List.set_cons_succ,List.set_cons_zero]
             skip
             refine Zw [1,6,7,8] [0,1,2,3,4,5,533] (Zq o5.d (Zq hdd (Zq hb1 (Zq hb2 (Zq hml (Zq hx (Zq hB2 (Zq hzl (Zq o6 (Zq o7 (Zq o8 (Zq e6 (Zq c9 (Zq c6 (Zq b9 (Zq a6 (Zq b5 (Zq b7 a7)))))))))))))))))) ?_
             rw[hs,hO,oZ hdl,hK,←hG,rR hdl]
             try simp only[←List.append_assoc,List.nil_append,List.length_append,List.length_cons,List.length_nil,Nat.zero_add]
             rfl
            ·refine O7 (aI (id:=12) rfl) ?_
             simp only[Z7,Nat.reduceEqDiff,if_true,if_false,↓reduceIte,List.modify_zero_cons,List.set_cons_succ,List.set_cons_zero]
             refine O7 (cS (id:=5) (i:=0) (j:=3) rfl) ?_
             simp only[Z7,Nat.reduceEqDiff,if_true,if_false,↓reduceIte,List.modify_zero_cons,List.set_cons_succ,List.set_cons_zero]
             skip
             refine Zw [1,6,7,8] [0,1,2,3,4,5,333] (Zq o5.d (Zq hdd (Zq hb1 (Zq hb2 (Zq hml (Zq hx (Zq hB2 (Zq hzl (Zq o6 (Zq o7 (Zq o8 (Zq e6 (Zq c9 (Zq c6 (Zq b9 (Zq a6 (Zq b5 (Zq b7 a7)))))))))))))))))) ?_
             rw[hs,hO,tT hdl,hK,←hG]
             try simp only[←List.append_assoc,List.nil_append,List.length_append,List.length_cons,List.length_nil,Nat.zero_add]
             rfl
        ·rw[if_neg hO,if_neg hO]
         obtain⟨O,hOO⟩:∃O,O=kQ l c.regs B.i k:=⟨_,rfl⟩
         rw[←hOO]at hO hok hs
         rw[←hOO]
         repeat' (first|refine Za ?_|(with_reducible constructor<;>first|intro N hN mk hmk|intro N hN|intro h)|(refine v8 2 [1] Tryd.func61 rfl (by kernel_rfl) (by simp only[e9,ne_eq,Nat.reduceEqDiff,not_false_eq_true,and_self]) ?_;rw[D5 Tryd.ntmps61];refine w5 ?_)|(refine v8 3 [0,3] Tryd.func62 rfl (by kernel_rfl) (by simp only[e9,ne_eq,Nat.reduceEqDiff,not_false_eq_true,and_self]) ?_;rw[D5 Tryd.ntmps62];refine w5 ?_)|refine Zc C1 ?_|(clear hN N)|refine Zt (Zq o5.d (Zq hx (Zq hB2 (Zq hzl (Zq o6 (Zq o7 (Zq o8 (Zq e6 (Zq c9 (Zq c6 (Zq b9 (Zq a6 (Zq b5 (Zq b7 a7)))))))))))))) ?_|fail)
         intro bn
         repeat' (first|refine Za ?_|(with_reducible constructor<;>first|intro N hN mk hmk|intro N hN|intro h)|(refine v8 2 [1] Tryd.func61 rfl (by kernel_rfl) (by simp only[e9,ne_eq,Nat.reduceEqDiff,not_false_eq_true,and_self]) ?_;rw[D5 Tryd.ntmps61];refine w5 ?_)|(refine v8 3 [0,3] Tryd.func62 rfl (by kernel_rfl) (by simp only[e9,ne_eq,Nat.reduceEqDiff,not_false_eq_true,and_self]) ?_;rw[D5 Tryd.ntmps62];refine w5 ?_)|refine Zc C1 ?_|(clear hN N)|refine Zt (Zq o5.d (Zq hx (Zq hB2 (Zq hzl (Zq o6 (Zq o7 (Zq o8 (Zq e6 (Zq c9 (Zq c6 (Zq b9 (Zq a6 (Zq b5 (Zq b7 a7)))))))))))))) ?_|fail)
         refine rA 7 121 (b1:=bs) (b2:=bn) rfl rfl (fun h=>by cases h) (.int .i64 q0) hq0s rfl fun hbn=>?_
         have hb1:=eq_false hbn
         have hb2:=eq_false (Ne.symm hbn)
         rw[a09 c.regs]
         refine v7 (fun j=>⟨[.ptr 5 0 0,.Z,.Z,.Z,.Z,.Z,.Z,.Z,.Z,.Z,.Z,.Z,.c5 false (m8 (w6 x)),.v (.int .i64 (w6 x).length),.v (.int .i64 j),.Z,.Z,.Z,.Z,.Z,.Z,.Z,.Z,.Z,.Z,.Z,.Z,.Z,.Z,.Z,.Z,.Z,.Z,.Z,.Z,.Z,.Z,.Z,.Z,.Z,.Z,.Z,.Z,.Z,.Z,.Z,.Z,.Z,.Z,.Z,.Z,.Z,.Z,.Z,.Z,.Z,.Z,.Z,.Z,.Z,.Z,.Z],[(0,.live ⟨8,[[.v (.int .i64 c.group),.v (.int .i64 c.sub),.v (.int .i64 c.regs),.v (.int .i64 c.I2),.v (.int .i64 c.params),.c5 false (H2 c.o0),.c5 false (Proofs.YtgdoiokalfhjoaaDoor.loops c.loops),.c5 false (y6 c.b)]],0⟩),(1,.live ⟨8,[[.v (.int .i64 0),.v (.int .i64 0),.v (.int .i64 0),.v (.int .i64 0),.v (.int .i64 0),.c5 true [],.c5 true [],.c5 true []]],0⟩),(2,.live ⟨8,[[.v (.int .i64 c.group),.v (.int .i64 c.sub),.v (.int .i64 (c.regs+3)),.v (.int .i64 l.length),.v (.int .i64 c.params),.c5 false (H2 c.o0),.c5 false (Proofs.YtgdoiokalfhjoaaDoor.loops c.loops),.own 3 0 c.b.length]],0⟩),(3,.live ⟨14,S9 c l i,0⟩),(4,.live ⟨14,[[.c5 false (j5 B.i),.v (.int .i64 B.t.kind),.v (.int .i64 B.t.sub),.v (.int .i64 B.t.d.k),.v (.int .i64 B.t.d.n),.v (.int .i32 B.t.d.v),.v (.int .i64 B.t.a.k),.v (.int .i64 B.t.a.n),.v (.int .i32 B.t.a.v),.v (.int .i64 B.t.b.k),.v (.int .i64 B.t.b.n),.v (.int .i32 B.t.b.v),.v (.int .i64 B.t.t0),.v (.int .i64 B.t.t1)]],0⟩),(5,.live ⟨4,[[.v (.map (some bs)),.v (.int .i64 c.regs),.own 7 0 (O++P5 l (A4 l ((w6 x).take j)) c.regs).length,.v (.map (some bn))]],0⟩),(6,.live ⟨15,[[.v (.int .i64 x.op),.v (.int .i64 x.sub),.v (.int .i64 x.n),.v (.int .i64 x.d.k),.v (.int .i64 x.d.n),.v (.int .i32 x.d.v),.v (.int .i64 x.a.k),.v (.int .i64 x.a.n),.v (.int .i32 x.a.v),.v (.int .i64 x.b.k),.v (.int .i64 x.b.n),.v (.int .i32 x.b.v),.v (.int .i64 x.c.k),.v (.int .i64 x.c.n),.v (.int .i32 x.c.v)]],0⟩),(7,.live ⟨15,j5 (O++P5 l (A4 l ((w6 x).take j)) c.regs),0⟩),(8,.mp bs (.int .i64) (bE .i64 (slF l))),(9,.u3 1 [.ptr 0 0 0,.ptr 1 0 0,.ptr 2 0 0,.ptr 4 0 0,.ptr 5 0 0]),(10,.u3 2 [.mJ 61 [.ptr 5 0 0]]),(11,.u3 3 [.ptr 5 0 0,.ptr 6 0 0]),(12,.mp bn (.int .i64) (bE .i64 (nmF (A4 l ((w6 x).take j)) c.regs)))],13⟩) (w6 x).length (Zw [0,12,13,14] [0,1,2,3,4,5,73,6] (Zq o5.d (Zq hx (Zq hB2 (Zq hzl (Zq o6 (Zq o7 (Zq o8 (Zq e6 (Zq c9 (Zq c6 (Zq b9 (Zq a6 (Zq b5 (Zq b7 a7)))))))))))))) ?_) ?_
         ·have e:O++P5 l (A4 l ((w6 x).take 0)) c.regs=O:=by simp [A4,P5]
          rw[e];rfl
         ·intro j hj
          have hKn:=gX (l:=l) (u:=(w6 x).take j) (hsu.sublist (List.take_sublist _ _))
          have hml:=a08 (regs:=c.regs) hKn
          have hkl:(A4 l ((w6 x).take j)).length≤3:=Nat.le_trans (bZ _ _) (by rw[List.length_take];omega)
          obtain⟨K,hK⟩:∃K,(A4 l ((w6 x).take j))=K:=⟨_,rfl⟩
          rw[hK]at hKn hml hkl⊢
          by_cases hlj:j<(w6 x).length
          ·have hKf:=gW (l:=l) hsu hlj
           rw[hK]at hKf
           obtain⟨G,hG⟩:∃G,G=P5 l K c.regs:=⟨_,rfl⟩
           have hGl:G.length≤3:=by rw[hG,bY];exact hkl
           rw[←hG]
           repeat' (first|refine Zl ?_|(with_reducible constructor<;>first|intro N hN mk hmk|intro N hN|intro h)|(refine v8 2 [1] Tryd.func61 rfl (by kernel_rfl) (by simp only[e9,ne_eq,Nat.reduceEqDiff,not_false_eq_true,and_self]) ?_;rw[D5 Tryd.ntmps61];refine w5 ?_)|(refine v8 3 [0,3] Tryd.func62 rfl (by kernel_rfl) (by simp only[e9,ne_eq,Nat.reduceEqDiff,not_false_eq_true,and_self]) ?_;rw[D5 Tryd.ntmps62];refine w5 ?_)|refine Zc (aC _) ?_|(clear hN N)|refine Zt (Zq o5.d (Zq hb1 (Zq hb2 (Zq hml (Zq hx (Zq hB2 (Zq hzl (Zq o6 (Zq o7 (Zq o8 (Zq e6 (Zq c9 (Zq c6 (Zq b9 (Zq a6 (Zq b5 (Zq b7 a7))))))))))))))))) ?_|fail)
           ·have e1:=fX hlj (by assumption)
            rw[hK]at e1
            have e2:=kD (regs:=c.regs) hKf
            rw[e1,e2,if_pos (by assumption)]
            refine Zw [0,12,13,14] [0,1,2,3,4,5,6,373] (Zq o5.d (Zq hb1 (Zq hb2 (Zq hml (Zq hx (Zq hB2 (Zq hzl (Zq o6 (Zq o7 (Zq o8 (Zq e6 (Zq c9 (Zq c6 (Zq b9 (Zq a6 (Zq b5 (Zq b7 a7))))))))))))))))) ?_
            rw[jU,←hG,←List.append_assoc,List.length_append];rfl
           ·have e1:=jY hlj (by assumption)
            rw[hK]at e1
            rw[e1,←hG]
            refine Zw [0,12,13,14] [0,1,2,3,4,5,6,7] (Zq o5.d (Zq hb1 (Zq hb2 (Zq hml (Zq hx (Zq hB2 (Zq hzl (Zq o6 (Zq o7 (Zq o8 (Zq e6 (Zq c9 (Zq c6 (Zq b9 (Zq a6 (Zq b5 (Zq b7 a7))))))))))))))))) ?_
            rfl
          ·obtain rfl:j=(w6 x).length:=by omega
           rw[List.take_length]at hK
           obtain⟨G,hG⟩:∃G,G=P5 l K c.regs:=⟨_,rfl⟩
           have hGl:G.length≤3:=by rw[hG,bY];exact hkl
           rw[←hG]
           by_cases hdl:Q7 x∈l
           all_goals first|have hdd:=eq_false hdl|have hdd:=eq_true hdl
           all_goals repeat' (first|refine Za ?_|(with_reducible constructor<;>first|intro N hN mk hmk|intro N hN|intro h)|(refine v8 2 [1] Tryd.func61 rfl (by kernel_rfl) (by simp only[e9,ne_eq,Nat.reduceEqDiff,not_false_eq_true,and_self]) ?_;rw[D5 Tryd.ntmps61];refine w5 ?_)|(refine v8 3 [0,3] Tryd.func62 rfl (by kernel_rfl) (by simp only[e9,ne_eq,Nat.reduceEqDiff,not_false_eq_true,and_self]) ?_;rw[D5 Tryd.ntmps62];refine w5 ?_)|refine Zc (aC _) ?_|refine Zc C2 ?_|(refine L5 (idm:=12) (C3 K (O++G) bn x.a) ?_ rfl rfl rfl ?_;(next=>(simp (disch:=omega) only[o5.d,hdd,hb1,hb2,hml,hx,hB2,hzl,o6,o7,o8,e6,c9,c6,b9,a6,b5,b7,a7,B7,Nat.reduceBEq,AV.plain,Nat.reduceAdd,Nat.reduceLeDiff,Nat.reduceLT,↓reduceIte,sF]<;>first|done|rfl)))|(refine I4 (idm:=12) (C3 K (O++G) bn x.a) ?_ rfl rfl rfl ?_;(next=>(simp (disch:=omega) only[o5.d,hdd,hb1,hb2,hml,hx,hB2,hzl,o6,o7,o8,e6,c9,c6,b9,a6,b5,b7,a7,B7,Nat.reduceBEq,AV.plain,Nat.reduceAdd,Nat.reduceLeDiff,Nat.reduceLT,↓reduceIte,sF]<;>first|done|rfl)))|(refine L5 (idm:=12) (C3 K (O++G) bn x.b) ?_ rfl rfl rfl ?_;(next=>(simp (disch:=omega) only[o5.d,hdd,hb1,hb2,hml,hx,hB2,hzl,o6,o7,o8,e6,c9,c6,b9,a6,b5,b7,a7,B7,Nat.reduceBEq,AV.plain,Nat.reduceAdd,Nat.reduceLeDiff,Nat.reduceLT,↓reduceIte,sF]<;>first|done|rfl)))|(refine I4 (idm:=12) (C3 K (O++G) bn x.b) ?_ rfl rfl rfl ?_;(next=>(simp (disch:=omega) only[o5.d,hdd,hb1,hb2,hml,hx,hB2,hzl,o6,o7,o8,e6,c9,c6,b9,a6,b5,b7,a7,B7,Nat.reduceBEq,AV.plain,Nat.reduceAdd,Nat.reduceLeDiff,Nat.reduceLT,↓reduceIte,sF]<;>first|done|rfl)))|(refine L5 (idm:=12) (C3 K (O++G) bn x.c) ?_ rfl rfl rfl ?_;(next=>(simp (disch:=omega) only[o5.d,hdd,hb1,hb2,hml,hx,hB2,hzl,o6,o7,o8,e6,c9,c6,b9,a6,b5,b7,a7,B7,Nat.reduceBEq,AV.plain,Nat.reduceAdd,Nat.reduceLeDiff,Nat.reduceLT,↓reduceIte,sF]<;>first|done|rfl)))|(refine I4 (idm:=12) (C3 K (O++G) bn x.c) ?_ rfl rfl rfl ?_;(next=>(simp (disch:=omega) only[o5.d,hdd,hb1,hb2,hml,hx,hB2,hzl,o6,o7,o8,e6,c9,c6,b9,a6,b5,b7,a7,B7,Nat.reduceBEq,AV.plain,Nat.reduceAdd,Nat.reduceLeDiff,Nat.reduceLT,↓reduceIte,sF]<;>first|done|rfl)))|(clear hN N)|refine Zt (Zq o5.d (Zq hdd (Zq hb1 (Zq hb2 (Zq hml (Zq hx (Zq hB2 (Zq hzl (Zq o6 (Zq o7 (Zq o8 (Zq e6 (Zq c9 (Zq c6 (Zq b9 (Zq a6 (Zq b5 (Zq b7 a7)))))))))))))))))) ?_|fail)
           ·refine O7 (aI (id:=12) rfl) ?_
            simp only[Z7,Nat.reduceEqDiff,if_true,if_false,↓reduceIte,List.modify_zero_cons,List.set_cons_succ,List.set_cons_zero]
            refine O7 (cS (id:=5) (i:=0) (j:=3) rfl) ?_
            simp only[Z7,Nat.reduceEqDiff,if_true,if_false,↓reduceIte,List.modify_zero_cons,List.set_cons_succ,List.set_cons_zero]
            skip
            refine Zw [1,6,7,8] [0,1,2,3,4,5,533] (Zq o5.d (Zq hdd (Zq hb1 (Zq hb2 (Zq hml (Zq hx (Zq hB2 (Zq hzl (Zq o6 (Zq o7 (Zq o8 (Zq e6 (Zq c9 (Zq c6 (Zq b9 (Zq a6 (Zq b5 (Zq b7 a7)))))))))))))))))) ?_
            rw[hs,oZ hdl,hK,←hG,rR hdl]
            try simp only[←List.append_assoc,List.nil_append,List.length_append,List.length_cons,List.length_nil,Nat.zero_add]
            rfl
           ·refine O7 (aI (id:=12) rfl) ?_
            simp only[Z7,Nat.reduceEqDiff,if_true,if_false,↓reduceIte,List.modify_zero_cons,List.set_cons_succ,List.set_cons_zero]
            refine O7 (cS (id:=5) (i:=0) (j:=3) rfl) ?_
            simp only[Z7,Nat.reduceEqDiff,if_true,if_false,↓reduceIte,List.modify_zero_cons,List.set_cons_succ,List.set_cons_zero]
            skip
            refine Zw [1,6,7,8] [0,1,2,3,4,5,333] (Zq o5.d (Zq hdd (Zq hb1 (Zq hb2 (Zq hml (Zq hx (Zq hB2 (Zq hzl (Zq o6 (Zq o7 (Zq o8 (Zq e6 (Zq c9 (Zq c6 (Zq b9 (Zq a6 (Zq b5 (Zq b7 a7)))))))))))))))))) ?_
            rw[hs,tT hdl,hK,←hG]
            try simp only[←List.append_assoc,List.nil_append,List.length_append,List.length_cons,List.length_nil,Nat.zero_add]
            rfl
       ·obtain rfl:k=B.i.length:=by omega
        have huT:=gB B.t
        have hsu:=a9r B.t
        have C1:=oU B.t
        simp only[w4.av]at C1
        have C3:=fun(K:List Int) (O:List l0) (bn:Nat) (o:H8)=>a3S o K c.regs c.regs (.map (some bs)) O bn
        simp only[H8.av]at C3
        obtain⟨O,hOO⟩:∃O,O=kQ l c.regs B.i B.i.length:=⟨_,rfl⟩
        rw[←hOO]at hok⊢
        have hOf:O=B.i.flatMap (cI l c.regs):=by rw[hOO];unfold kQ;rw[List.take_length]
        by_cases hO:O=[]
        ·rw[if_pos hO,if_pos hO]
         repeat' (first|refine Za ?_|(with_reducible constructor<;>first|intro N hN mk hmk|intro N hN|intro h)|(refine v8 4 [2,4,8,10,11] Tryd.func62 rfl (by kernel_rfl) (by simp only[e9,ne_eq,Nat.reduceEqDiff,not_false_eq_true,and_self]) ?_;rw[D5 Tryd.ntmps62];refine w5 ?_)|refine Zc C1 ?_|(clear hN N)|refine Zt (Zq o5.d (Zq hB2 (Zq hzl (Zq o6 (Zq o7 (Zq o8 (Zq e6 (Zq c9 (Zq c6 (Zq b9 (Zq a6 (Zq b5 (Zq b7 a7))))))))))))) ?_|fail)
         intro bn
         repeat' (first|refine Za ?_|(with_reducible constructor<;>first|intro N hN mk hmk|intro N hN|intro h)|(refine v8 4 [2,4,8,10,11] Tryd.func62 rfl (by kernel_rfl) (by simp only[e9,ne_eq,Nat.reduceEqDiff,not_false_eq_true,and_self]) ?_;rw[D5 Tryd.ntmps62];refine w5 ?_)|refine Zc C1 ?_|(clear hN N)|refine Zt (Zq o5.d (Zq hB2 (Zq hzl (Zq o6 (Zq o7 (Zq o8 (Zq e6 (Zq c9 (Zq c6 (Zq b9 (Zq a6 (Zq b5 (Zq b7 a7))))))))))))) ?_|fail)
         refine rA 6 64 (b1:=bs) (b2:=bn) rfl rfl (fun h=>by cases h) (.int .i64 q0) hq0s rfl fun hbn=>?_
         have hb1:=eq_false hbn
         have hb2:=eq_false (Ne.symm hbn)
         rw[a09 c.regs]
         refine v7 (fun j=>⟨[.ptr 5 0 0,.Z,.Z,.Z,.Z,.Z,.Z,.Z,.Z,.Z,.Z,.Z,.c5 false (m8 (u9 B.t)),.v (.int .i64 (u9 B.t).length),.v (.int .i64 j),.Z,.Z,.Z,.Z,.Z,.Z,.Z,.Z,.Z,.Z,.Z,.Z,.Z,.Z,.Z,.Z,.Z,.Z,.Z,.Z,.Z,.Z,.Z,.Z,.Z,.Z,.Z,.Z,.Z,.Z,.Z,.Z,.Z,.Z,.Z,.Z,.Z,.Z,.Z,.Z,.Z,.Z,.Z,.Z,.Z,.Z,.Z],(if(A4 l ((u9 B.t).take j))=[]then[(0,.live ⟨8,[[.v (.int .i64 c.group),.v (.int .i64 c.sub),.v (.int .i64 c.regs),.v (.int .i64 c.I2),.v (.int .i64 c.params),.c5 false (H2 c.o0),.c5 false (Proofs.YtgdoiokalfhjoaaDoor.loops c.loops),.c5 false (y6 c.b)]],0⟩),(1,.live ⟨8,[[.v (.int .i64 0),.v (.int .i64 0),.v (.int .i64 0),.v (.int .i64 0),.v (.int .i64 0),.c5 true [],.c5 true [],.c5 true []]],0⟩),(2,.live ⟨8,[[.v (.int .i64 c.group),.v (.int .i64 c.sub),.v (.int .i64 (c.regs+3)),.v (.int .i64 l.length),.v (.int .i64 c.params),.c5 false (H2 c.o0),.c5 false (Proofs.YtgdoiokalfhjoaaDoor.loops c.loops),.own 3 0 c.b.length]],0⟩),(3,.live ⟨14,S9 c l i,0⟩),(4,.live ⟨14,[[.c5 false (j5 B.i),.v (.int .i64 B.t.kind),.v (.int .i64 B.t.sub),.v (.int .i64 B.t.d.k),.v (.int .i64 B.t.d.n),.v (.int .i32 B.t.d.v),.v (.int .i64 B.t.a.k),.v (.int .i64 B.t.a.n),.v (.int .i32 B.t.a.v),.v (.int .i64 B.t.b.k),.v (.int .i64 B.t.b.n),.v (.int .i32 B.t.b.v),.v (.int .i64 B.t.t0),.v (.int .i64 B.t.t1)]],0⟩),(5,.live ⟨4,[[.v (.map (some bs)),.v (.int .i64 c.regs),.c5 true [],.v (.map (some bn))]],0⟩),(6,.mp bs (.int .i64) (bE .i64 (slF l))),(7,.u3 4 [.ptr 0 0 0,.ptr 1 0 0,.ptr 2 0 0,.ptr 4 0 0,.ptr 5 0 0]),(8,.mp bn (.int .i64) (bE .i64 (nmF (A4 l ((u9 B.t).take j)) c.regs)))]else[(0,.live ⟨8,[[.v (.int .i64 c.group),.v (.int .i64 c.sub),.v (.int .i64 c.regs),.v (.int .i64 c.I2),.v (.int .i64 c.params),.c5 false (H2 c.o0),.c5 false (Proofs.YtgdoiokalfhjoaaDoor.loops c.loops),.c5 false (y6 c.b)]],0⟩),(1,.live ⟨8,[[.v (.int .i64 0),.v (.int .i64 0),.v (.int .i64 0),.v (.int .i64 0),.v (.int .i64 0),.c5 true [],.c5 true [],.c5 true []]],0⟩),(2,.live ⟨8,[[.v (.int .i64 c.group),.v (.int .i64 c.sub),.v (.int .i64 (c.regs+3)),.v (.int .i64 l.length),.v (.int .i64 c.params),.c5 false (H2 c.o0),.c5 false (Proofs.YtgdoiokalfhjoaaDoor.loops c.loops),.own 3 0 c.b.length]],0⟩),(3,.live ⟨14,S9 c l i,0⟩),(4,.live ⟨14,[[.c5 false (j5 B.i),.v (.int .i64 B.t.kind),.v (.int .i64 B.t.sub),.v (.int .i64 B.t.d.k),.v (.int .i64 B.t.d.n),.v (.int .i32 B.t.d.v),.v (.int .i64 B.t.a.k),.v (.int .i64 B.t.a.n),.v (.int .i32 B.t.a.v),.v (.int .i64 B.t.b.k),.v (.int .i64 B.t.b.n),.v (.int .i32 B.t.b.v),.v (.int .i64 B.t.t0),.v (.int .i64 B.t.t1)]],0⟩),(5,.live ⟨4,[[.v (.map (some bs)),.v (.int .i64 c.regs),.own 6 0 (P5 l (A4 l ((u9 B.t).take j)) c.regs).length,.v (.map (some bn))]],0⟩),(6,.live ⟨15,j5 (P5 l (A4 l ((u9 B.t).take j)) c.regs),0⟩),(7,.mp bs (.int .i64) (bE .i64 (slF l))),(8,.u3 4 [.ptr 0 0 0,.ptr 1 0 0,.ptr 2 0 0,.ptr 4 0 0,.ptr 5 0 0]),(9,.mp bn (.int .i64) (bE .i64 (nmF (A4 l ((u9 B.t).take j)) c.regs)))]),(if(A4 l ((u9 B.t).take j))=[]then 9 else 10)⟩) (u9 B.t).length (Zw [0,12,13,14] [0,1,2,3,4,5] (Zq o5.d (Zq hB2 (Zq hzl (Zq o6 (Zq o7 (Zq o8 (Zq e6 (Zq c9 (Zq c6 (Zq b9 (Zq a6 (Zq b5 (Zq b7 a7))))))))))))) ?_) ?_
         ·rfl
         ·intro j hj
          have hKn:=gX (l:=l) (u:=(u9 B.t).take j) (hsu.sublist (List.take_sublist _ _))
          have hml:=a08 (regs:=c.regs) hKn
          have hkl:(A4 l ((u9 B.t).take j)).length≤2:=Nat.le_trans (bZ _ _) (by rw[List.length_take];omega)
          obtain⟨K,hK⟩:∃K,(A4 l ((u9 B.t).take j))=K:=⟨_,rfl⟩
          rw[hK]at hKn hml hkl⊢
          by_cases hlj:j<(u9 B.t).length
          ·have hKf:=gW (l:=l) hsu hlj
           rw[hK]at hKf
           by_cases hK0:K=[]
           ·subst hK0
            rw[if_pos rfl,if_pos rfl]
            repeat' (first|refine Zl ?_|(with_reducible constructor<;>first|intro N hN mk hmk|intro N hN|intro h)|(refine v8 4 [2,4,8,10,11] Tryd.func62 rfl (by kernel_rfl) (by simp only[e9,ne_eq,Nat.reduceEqDiff,not_false_eq_true,and_self]) ?_;rw[D5 Tryd.ntmps62];refine w5 ?_)|refine Zc (aC _) ?_|(clear hN N)|refine Zt (Zq o5.d (Zq hb1 (Zq hb2 (Zq hml (Zq hB2 (Zq hzl (Zq o6 (Zq o7 (Zq o8 (Zq e6 (Zq c9 (Zq c6 (Zq b9 (Zq a6 (Zq b5 (Zq b7 a7)))))))))))))))) ?_|fail)
            ·have e1:=fX hlj (by assumption)
             rw[hK,List.nil_append]at e1
             have e2:=kD (regs:=c.regs) hKf
             have hn1:¬[(u9 B.t).getD j 0]=[]:=by simp
             rw[e1,if_neg hn1,if_neg hn1]
             simp only[List.length_nil]at e2
             rw[e2,if_pos (by assumption)]
             refine Zw [0,12,13,14] [0,1,2,3,4,5,369] (Zq o5.d (Zq hb1 (Zq hb2 (Zq hml (Zq hB2 (Zq hzl (Zq o6 (Zq o7 (Zq o8 (Zq e6 (Zq c9 (Zq c6 (Zq b9 (Zq a6 (Zq b5 (Zq b7 a7)))))))))))))))) ?_
             rfl
            ·have e1:=jY hlj (by assumption)
             rw[hK]at e1
             rw[e1,if_pos rfl,if_pos rfl]
             refine Zw [0,12,13,14] [0,1,2,3,4,5] (Zq o5.d (Zq hb1 (Zq hb2 (Zq hml (Zq hB2 (Zq hzl (Zq o6 (Zq o7 (Zq o8 (Zq e6 (Zq c9 (Zq c6 (Zq b9 (Zq a6 (Zq b5 (Zq b7 a7)))))))))))))))) ?_
             rfl
           ·rw[if_neg hK0,if_neg hK0]
            obtain⟨G,hG⟩:∃G,G=P5 l K c.regs:=⟨_,rfl⟩
            have hGl:G.length≤2:=by rw[hG,bY];exact hkl
            rw[←hG]
            repeat' (first|refine Zl ?_|(with_reducible constructor<;>first|intro N hN mk hmk|intro N hN|intro h)|(refine v8 4 [2,4,8,10,11] Tryd.func62 rfl (by kernel_rfl) (by simp only[e9,ne_eq,Nat.reduceEqDiff,not_false_eq_true,and_self]) ?_;rw[D5 Tryd.ntmps62];refine w5 ?_)|refine Zc (aC _) ?_|(clear hN N)|refine Zt (Zq o5.d (Zq hb1 (Zq hb2 (Zq hml (Zq hB2 (Zq hzl (Zq o6 (Zq o7 (Zq o8 (Zq e6 (Zq c9 (Zq c6 (Zq b9 (Zq a6 (Zq b5 (Zq b7 a7)))))))))))))))) ?_|fail)
            ·have e1:=fX hlj (by assumption)
             rw[hK]at e1
             have e2:=kD (regs:=c.regs) hKf
             have hn1:¬K++[(u9 B.t).getD j 0]=[]:=by simp
             rw[e1,if_neg hn1,if_neg hn1,e2,if_pos (by assumption)]
             refine Zw [0,12,13,14] [0,1,2,3,4,5,370] (Zq o5.d (Zq hb1 (Zq hb2 (Zq hml (Zq hB2 (Zq hzl (Zq o6 (Zq o7 (Zq o8 (Zq e6 (Zq c9 (Zq c6 (Zq b9 (Zq a6 (Zq b5 (Zq b7 a7)))))))))))))))) ?_
             rw[jU,List.length_append,←hG];rfl
            ·have e1:=jY hlj (by assumption)
             rw[hK]at e1
             rw[e1,if_neg hK0,if_neg hK0,←hG]
             refine Zw [0,12,13,14] [0,1,2,3,4,5,6] (Zq o5.d (Zq hb1 (Zq hb2 (Zq hml (Zq hB2 (Zq hzl (Zq o6 (Zq o7 (Zq o8 (Zq e6 (Zq c9 (Zq c6 (Zq b9 (Zq a6 (Zq b5 (Zq b7 a7)))))))))))))))) ?_
             rfl
          ·obtain rfl:j=(u9 B.t).length:=by omega
           rw[List.take_length]at hK
           by_cases hK0:K=[]
           ·subst hK0
            rw[if_pos rfl,if_pos rfl]
            repeat' (first|refine Za ?_|(with_reducible constructor<;>first|intro N hN mk hmk|intro N hN|intro h)|(refine v8 4 [2,4,8,10,11] Tryd.func62 rfl (by kernel_rfl) (by simp only[e9,ne_eq,Nat.reduceEqDiff,not_false_eq_true,and_self]) ?_;rw[D5 Tryd.ntmps62];refine w5 ?_)|refine Zc (aC _) ?_|(refine L5 (idm:=8) (C3 [] [] bn B.t.a) ?_ rfl rfl rfl ?_;(next=>(simp (disch:=omega) only[o5.d,hb1,hb2,hml,hB2,hzl,o6,o7,o8,e6,c9,c6,b9,a6,b5,b7,a7,B7,Nat.reduceBEq,AV.plain,Nat.reduceAdd,Nat.reduceLeDiff,Nat.reduceLT,↓reduceIte,sF]<;>first|done|rfl)))|(refine I4 (idm:=8) (C3 [] [] bn B.t.a) ?_ rfl rfl rfl ?_;(next=>(simp (disch:=omega) only[o5.d,hb1,hb2,hml,hB2,hzl,o6,o7,o8,e6,c9,c6,b9,a6,b5,b7,a7,B7,Nat.reduceBEq,AV.plain,Nat.reduceAdd,Nat.reduceLeDiff,Nat.reduceLT,↓reduceIte,sF]<;>first|done|rfl)))|(refine L5 (idm:=8) (C3 [] [] bn B.t.b) ?_ rfl rfl rfl ?_;(next=>(simp (disch:=omega) only[o5.d,hb1,hb2,hml,hB2,hzl,o6,o7,o8,e6,c9,c6,b9,a6,b5,b7,a7,B7,Nat.reduceBEq,AV.plain,Nat.reduceAdd,Nat.reduceLeDiff,Nat.reduceLT,↓reduceIte,sF]<;>first|done|rfl)))|(refine I4 (idm:=8) (C3 [] [] bn B.t.b) ?_ rfl rfl rfl ?_;(next=>(simp (disch:=omega) only[o5.d,hb1,hb2,hml,hB2,hzl,o6,o7,o8,e6,c9,c6,b9,a6,b5,b7,a7,B7,Nat.reduceBEq,AV.plain,Nat.reduceAdd,Nat.reduceLeDiff,Nat.reduceLT,↓reduceIte,sF]<;>first|done|rfl)))|(clear hN N)|refine Zt (Zq o5.d (Zq hb1 (Zq hb2 (Zq hml (Zq hB2 (Zq hzl (Zq o6 (Zq o7 (Zq o8 (Zq e6 (Zq c9 (Zq c6 (Zq b9 (Zq a6 (Zq b5 (Zq b7 a7)))))))))))))))) ?_|fail)
            refine O7 (aI (id:=8) rfl) ?_
            simp only[Z7,Nat.reduceEqDiff,if_true,if_false,↓reduceIte,List.modify_zero_cons,List.set_cons_succ,List.set_cons_zero]
            have hbs:W7 l c.regs B=⟨[],{B.t with a:=K9 B.t.a [] c.regs,b:=K9 B.t.b [] c.regs}⟩:=by unfold W7;rw[hK,←hOf,hO];rfl
            have ep:=lX c l i hlt (.c5 true []) (.c5 false []) (w4.av {B.t with a:=K9 B.t.a [] c.regs,b:=K9 B.t.b [] c.regs}) rfl (by rw[hB2,hbs];rfl)
            simp only[w4.av]at ep
            refine O7 (kM 3 i 0 6 (.c5 true []) (.c5 false []) rfl (by rw[pU c l i hlt _ rfl];rfl) (by simp (maxSteps:=10000000) (disch:=omega) only[B7,o5.d,hb1,hb2,hml,hB2,hzl,o6,o7,o8,e6,c9,c6,b9,a6,b5,b7,a7,w9,bL,D7,L4,B6,x7,AV.kept,e9,u1,D8,N5,B9,B2,n4,AV.J6,x4,E6,AV.plain,rd,B7,b8,bK,stepC,AV.o3,AV.cF,AV.J5,AV.Z0,AV.scalar,cX,D0,M6,M9,N0,M8,A9,M4,cY,D3,M7,L1,s8,cV,u7,I9,I6,bS,K8,u4,TD.isRow,D6,u0,u6,s9,T1,Value.oneCell',↓reduceIte,Int.reduceNe,Int.reduceEq,Nat.reduceAdd,Nat.reduceLT,Nat.reduceLeDiff,Nat.reduceSub,Nat.reduceMul,Nat.reduceBEq,Nat.reduceEqDiff,reduceCtorEq,Int.reduceToNat,←decide_not,←Bool.decide_and,sA,sN]<;>first|done|rfl)) ?_
            simp (maxSteps:=10000000) (disch:=omega) only[b8,u1,E7,T1,o5.d,hb1,hb2,hml,hB2,hzl,o6,o7,o8,e6,c9,c6,b9,a6,b5,b7,a7,w9,bL,D7,L4,B6,x7,AV.kept,e9,u1,D8,N5,B9,B2,n4,AV.J6,x4,E6,AV.plain,rd,B7,b8,bK,stepC,AV.o3,AV.cF,AV.J5,AV.Z0,AV.scalar,cX,D0,M6,M9,N0,M8,A9,M4,cY,D3,M7,L1,s8,cV,u7,I9,I6,bS,K8,u4,TD.isRow,D6,u0,u6,s9,T1,Value.oneCell',↓reduceIte,Int.reduceNe,Int.reduceEq,Nat.reduceAdd,Nat.reduceLT,Nat.reduceLeDiff,Nat.reduceSub,Nat.reduceMul,Nat.reduceBEq,Nat.reduceEqDiff,reduceCtorEq,Int.reduceToNat,←decide_not,←Bool.decide_and,sA,sN]
            rw[ep]
            refine Zw [1,2,4,5,8,42,43,44] [0,1,2,3] (Zq o5.d (Zq hb1 (Zq hb2 (Zq hml (Zq hB2 (Zq hzl (Zq o6 (Zq o7 (Zq o8 (Zq e6 (Zq c9 (Zq c6 (Zq b9 (Zq a6 (Zq b5 (Zq b7 a7)))))))))))))))) ?_
            rfl
           ·rw[if_neg hK0,if_neg hK0]
            obtain⟨G,hG⟩:∃G,G=P5 l K c.regs:=⟨_,rfl⟩
            have hGl:G.length≤2:=by rw[hG,bY];exact hkl
            rw[←hG]
            repeat' (first|refine Za ?_|(with_reducible constructor<;>first|intro N hN mk hmk|intro N hN|intro h)|(refine v8 4 [2,4,8,10,11] Tryd.func62 rfl (by kernel_rfl) (by simp only[e9,ne_eq,Nat.reduceEqDiff,not_false_eq_true,and_self]) ?_;rw[D5 Tryd.ntmps62];refine w5 ?_)|refine Zc (aC _) ?_|(refine L5 (idm:=9) (C3 K G bn B.t.a) ?_ rfl rfl rfl ?_;(next=>(simp (disch:=omega) only[o5.d,hb1,hb2,hml,hB2,hzl,o6,o7,o8,e6,c9,c6,b9,a6,b5,b7,a7,B7,Nat.reduceBEq,AV.plain,Nat.reduceAdd,Nat.reduceLeDiff,Nat.reduceLT,↓reduceIte,sF]<;>first|done|rfl)))|(refine I4 (idm:=9) (C3 K G bn B.t.a) ?_ rfl rfl rfl ?_;(next=>(simp (disch:=omega) only[o5.d,hb1,hb2,hml,hB2,hzl,o6,o7,o8,e6,c9,c6,b9,a6,b5,b7,a7,B7,Nat.reduceBEq,AV.plain,Nat.reduceAdd,Nat.reduceLeDiff,Nat.reduceLT,↓reduceIte,sF]<;>first|done|rfl)))|(refine L5 (idm:=9) (C3 K G bn B.t.b) ?_ rfl rfl rfl ?_;(next=>(simp (disch:=omega) only[o5.d,hb1,hb2,hml,hB2,hzl,o6,o7,o8,e6,c9,c6,b9,a6,b5,b7,a7,B7,Nat.reduceBEq,AV.plain,Nat.reduceAdd,Nat.reduceLeDiff,Nat.reduceLT,↓reduceIte,sF]<;>first|done|rfl)))|(refine I4 (idm:=9) (C3 K G bn B.t.b) ?_ rfl rfl rfl ?_;(next=>(simp (disch:=omega) only[o5.d,hb1,hb2,hml,hB2,hzl,o6,o7,o8,e6,c9,c6,b9,a6,b5,b7,a7,B7,Nat.reduceBEq,AV.plain,Nat.reduceAdd,Nat.reduceLeDiff,Nat.reduceLT,↓reduceIte,sF]<;>first|done|rfl)))|(clear hN N)|refine Zt (Zq o5.d (Zq hb1 (Zq hb2 (Zq hml (Zq hB2 (Zq hzl (Zq o6 (Zq o7 (Zq o8 (Zq e6 (Zq c9 (Zq c6 (Zq b9 (Zq a6 (Zq b5 (Zq b7 a7)))))))))))))))) ?_|fail)
            refine O7 (aI (id:=9) rfl) ?_
            simp only[Z7,Nat.reduceEqDiff,if_true,if_false,↓reduceIte,List.modify_zero_cons,List.set_cons_succ,List.set_cons_zero]
            have hbs:W7 l c.regs B=⟨G,{B.t with a:=K9 B.t.a K c.regs,b:=K9 B.t.b K c.regs}⟩:=by unfold W7;rw[hK,←hOf,hO,←hG];rfl
            have ep:=lX c l i hlt (.own 6 0 G.length) (.c5 false (j5 G)) (w4.av {B.t with a:=K9 B.t.a K c.regs,b:=K9 B.t.b K c.regs}) rfl (by rw[hB2,hbs];rfl)
            simp only[w4.av]at ep
            refine O7 (kM 3 i 0 6 (.own 6 0 G.length) (.c5 false (j5 G)) rfl (by rw[pU c l i hlt _ rfl];rfl) (by simp (maxSteps:=10000000) (disch:=omega) only[B7,o5.d,hb1,hb2,hml,hB2,hzl,o6,o7,o8,e6,c9,c6,b9,a6,b5,b7,a7,w9,bL,D7,L4,B6,x7,AV.kept,e9,u1,D8,N5,B9,B2,n4,AV.J6,x4,E6,AV.plain,rd,B7,b8,bK,stepC,AV.o3,AV.cF,AV.J5,AV.Z0,AV.scalar,cX,D0,M6,M9,N0,M8,A9,M4,cY,D3,M7,L1,s8,cV,u7,I9,I6,bS,K8,u4,TD.isRow,D6,u0,u6,s9,T1,Value.oneCell',↓reduceIte,Int.reduceNe,Int.reduceEq,Nat.reduceAdd,Nat.reduceLT,Nat.reduceLeDiff,Nat.reduceSub,Nat.reduceMul,Nat.reduceBEq,Nat.reduceEqDiff,reduceCtorEq,Int.reduceToNat,←decide_not,←Bool.decide_and,sA,sN]<;>first|done|rfl)) ?_
            simp (maxSteps:=10000000) (disch:=omega) only[b8,u1,E7,T1,o5.d,hb1,hb2,hml,hB2,hzl,o6,o7,o8,e6,c9,c6,b9,a6,b5,b7,a7,w9,bL,D7,L4,B6,x7,AV.kept,e9,u1,D8,N5,B9,B2,n4,AV.J6,x4,E6,AV.plain,rd,B7,b8,bK,stepC,AV.o3,AV.cF,AV.J5,AV.Z0,AV.scalar,cX,D0,M6,M9,N0,M8,A9,M4,cY,D3,M7,L1,s8,cV,u7,I9,I6,bS,K8,u4,TD.isRow,D6,u0,u6,s9,T1,Value.oneCell',↓reduceIte,Int.reduceNe,Int.reduceEq,Nat.reduceAdd,Nat.reduceLT,Nat.reduceLeDiff,Nat.reduceSub,Nat.reduceMul,Nat.reduceBEq,Nat.reduceEqDiff,reduceCtorEq,Int.reduceToNat,←decide_not,←Bool.decide_and,sA,sN]
            rw[ep]
            refine Zw [1,2,4,5,8,42,43,44] [0,1,2,3] (Zq o5.d (Zq hb1 (Zq hb2 (Zq hml (Zq hB2 (Zq hzl (Zq o6 (Zq o7 (Zq o8 (Zq e6 (Zq c9 (Zq c6 (Zq b9 (Zq a6 (Zq b5 (Zq b7 a7)))))))))))))))) ?_
            rfl
        ·rw[if_neg hO,if_neg hO]
         repeat' (first|refine Za ?_|(with_reducible constructor<;>first|intro N hN mk hmk|intro N hN|intro h)|(refine v8 4 [2,4,8,10,11] Tryd.func62 rfl (by kernel_rfl) (by simp only[e9,ne_eq,Nat.reduceEqDiff,not_false_eq_true,and_self]) ?_;rw[D5 Tryd.ntmps62];refine w5 ?_)|refine Zc C1 ?_|(clear hN N)|refine Zt (Zq o5.d (Zq hB2 (Zq hzl (Zq o6 (Zq o7 (Zq o8 (Zq e6 (Zq c9 (Zq c6 (Zq b9 (Zq a6 (Zq b5 (Zq b7 a7))))))))))))) ?_|fail)
         intro bn
         repeat' (first|refine Za ?_|(with_reducible constructor<;>first|intro N hN mk hmk|intro N hN|intro h)|(refine v8 4 [2,4,8,10,11] Tryd.func62 rfl (by kernel_rfl) (by simp only[e9,ne_eq,Nat.reduceEqDiff,not_false_eq_true,and_self]) ?_;rw[D5 Tryd.ntmps62];refine w5 ?_)|refine Zc C1 ?_|(clear hN N)|refine Zt (Zq o5.d (Zq hB2 (Zq hzl (Zq o6 (Zq o7 (Zq o8 (Zq e6 (Zq c9 (Zq c6 (Zq b9 (Zq a6 (Zq b5 (Zq b7 a7))))))))))))) ?_|fail)
         refine rA 7 65 (b1:=bs) (b2:=bn) rfl rfl (fun h=>by cases h) (.int .i64 q0) hq0s rfl fun hbn=>?_
         have hb1:=eq_false hbn
         have hb2:=eq_false (Ne.symm hbn)
         rw[a09 c.regs]
         refine v7 (fun j=>⟨[.ptr 5 0 0,.Z,.Z,.Z,.Z,.Z,.Z,.Z,.Z,.Z,.Z,.Z,.c5 false (m8 (u9 B.t)),.v (.int .i64 (u9 B.t).length),.v (.int .i64 j),.Z,.Z,.Z,.Z,.Z,.Z,.Z,.Z,.Z,.Z,.Z,.Z,.Z,.Z,.Z,.Z,.Z,.Z,.Z,.Z,.Z,.Z,.Z,.Z,.Z,.Z,.Z,.Z,.Z,.Z,.Z,.Z,.Z,.Z,.Z,.Z,.Z,.Z,.Z,.Z,.Z,.Z,.Z,.Z,.Z,.Z,.Z],[(0,.live ⟨8,[[.v (.int .i64 c.group),.v (.int .i64 c.sub),.v (.int .i64 c.regs),.v (.int .i64 c.I2),.v (.int .i64 c.params),.c5 false (H2 c.o0),.c5 false (Proofs.YtgdoiokalfhjoaaDoor.loops c.loops),.c5 false (y6 c.b)]],0⟩),(1,.live ⟨8,[[.v (.int .i64 0),.v (.int .i64 0),.v (.int .i64 0),.v (.int .i64 0),.v (.int .i64 0),.c5 true [],.c5 true [],.c5 true []]],0⟩),(2,.live ⟨8,[[.v (.int .i64 c.group),.v (.int .i64 c.sub),.v (.int .i64 (c.regs+3)),.v (.int .i64 l.length),.v (.int .i64 c.params),.c5 false (H2 c.o0),.c5 false (Proofs.YtgdoiokalfhjoaaDoor.loops c.loops),.own 3 0 c.b.length]],0⟩),(3,.live ⟨14,S9 c l i,0⟩),(4,.live ⟨14,[[.c5 false (j5 B.i),.v (.int .i64 B.t.kind),.v (.int .i64 B.t.sub),.v (.int .i64 B.t.d.k),.v (.int .i64 B.t.d.n),.v (.int .i32 B.t.d.v),.v (.int .i64 B.t.a.k),.v (.int .i64 B.t.a.n),.v (.int .i32 B.t.a.v),.v (.int .i64 B.t.b.k),.v (.int .i64 B.t.b.n),.v (.int .i32 B.t.b.v),.v (.int .i64 B.t.t0),.v (.int .i64 B.t.t1)]],0⟩),(5,.live ⟨4,[[.v (.map (some bs)),.v (.int .i64 c.regs),.own 6 0 (O++P5 l (A4 l ((u9 B.t).take j)) c.regs).length,.v (.map (some bn))]],0⟩),(6,.live ⟨15,j5 (O++P5 l (A4 l ((u9 B.t).take j)) c.regs),0⟩),(7,.mp bs (.int .i64) (bE .i64 (slF l))),(8,.u3 4 [.ptr 0 0 0,.ptr 1 0 0,.ptr 2 0 0,.ptr 4 0 0,.ptr 5 0 0]),(9,.mp bn (.int .i64) (bE .i64 (nmF (A4 l ((u9 B.t).take j)) c.regs)))],10⟩) (u9 B.t).length (Zw [0,12,13,14] [0,1,2,3,4,5,6] (Zq o5.d (Zq hB2 (Zq hzl (Zq o6 (Zq o7 (Zq o8 (Zq e6 (Zq c9 (Zq c6 (Zq b9 (Zq a6 (Zq b5 (Zq b7 a7))))))))))))) ?_) ?_
         ·have e:O++P5 l (A4 l ((u9 B.t).take 0)) c.regs=O:=by simp [A4,P5]
          rw[e];rfl
         ·intro j hj
          have hKn:=gX (l:=l) (u:=(u9 B.t).take j) (hsu.sublist (List.take_sublist _ _))
          have hml:=a08 (regs:=c.regs) hKn
          have hkl:(A4 l ((u9 B.t).take j)).length≤2:=Nat.le_trans (bZ _ _) (by rw[List.length_take];omega)
          obtain⟨K,hK⟩:∃K,(A4 l ((u9 B.t).take j))=K:=⟨_,rfl⟩
          rw[hK]at hKn hml hkl⊢
          by_cases hlj:j<(u9 B.t).length
          ·have hKf:=gW (l:=l) hsu hlj
           rw[hK]at hKf
           obtain⟨G,hG⟩:∃G,G=P5 l K c.regs:=⟨_,rfl⟩
           have hGl:G.length≤2:=by rw[hG,bY];exact hkl
           rw[←hG]
           repeat' (first|refine Zl ?_|(with_reducible constructor<;>first|intro N hN mk hmk|intro N hN|intro h)|(refine v8 4 [2,4,8,10,11] Tryd.func62 rfl (by kernel_rfl) (by simp only[e9,ne_eq,Nat.reduceEqDiff,not_false_eq_true,and_self]) ?_;rw[D5 Tryd.ntmps62];refine w5 ?_)|refine Zc (aC _) ?_|(clear hN N)|refine Zt (Zq o5.d (Zq hb1 (Zq hb2 (Zq hml (Zq hB2 (Zq hzl (Zq o6 (Zq o7 (Zq o8 (Zq e6 (Zq c9 (Zq c6 (Zq b9 (Zq a6 (Zq b5 (Zq b7 a7)))))))))))))))) ?_|fail)
           ·have e1:=fX hlj (by assumption)
            rw[hK]at e1
            have e2:=kD (regs:=c.regs) hKf
            rw[e1,e2,if_pos (by assumption)]
            refine Zw [0,12,13,14] [0,1,2,3,4,5,370] (Zq o5.d (Zq hb1 (Zq hb2 (Zq hml (Zq hB2 (Zq hzl (Zq o6 (Zq o7 (Zq o8 (Zq e6 (Zq c9 (Zq c6 (Zq b9 (Zq a6 (Zq b5 (Zq b7 a7)))))))))))))))) ?_
            rw[jU,←hG,←List.append_assoc,List.length_append];rfl
           ·have e1:=jY hlj (by assumption)
            rw[hK]at e1
            rw[e1,←hG]
            refine Zw [0,12,13,14] [0,1,2,3,4,5,6] (Zq o5.d (Zq hb1 (Zq hb2 (Zq hml (Zq hB2 (Zq hzl (Zq o6 (Zq o7 (Zq o8 (Zq e6 (Zq c9 (Zq c6 (Zq b9 (Zq a6 (Zq b5 (Zq b7 a7)))))))))))))))) ?_
            rfl
          ·obtain rfl:j=(u9 B.t).length:=by omega
           rw[List.take_length]at hK
           obtain⟨G,hG⟩:∃G,G=P5 l K c.regs:=⟨_,rfl⟩
           have hGl:G.length≤2:=by rw[hG,bY];exact hkl
           rw[←hG]
           repeat' (first|refine Za ?_|(with_reducible constructor<;>first|intro N hN mk hmk|intro N hN|intro h)|(refine v8 4 [2,4,8,10,11] Tryd.func62 rfl (by kernel_rfl) (by simp only[e9,ne_eq,Nat.reduceEqDiff,not_false_eq_true,and_self]) ?_;rw[D5 Tryd.ntmps62];refine w5 ?_)|refine Zc (aC _) ?_|(refine L5 (idm:=9) (C3 K (O++G) bn B.t.a) ?_ rfl rfl rfl ?_;(next=>(simp (disch:=omega) only[o5.d,hb1,hb2,hml,hB2,hzl,o6,o7,o8,e6,c9,c6,b9,a6,b5,b7,a7,B7,Nat.reduceBEq,AV.plain,Nat.reduceAdd,Nat.reduceLeDiff,Nat.reduceLT,↓reduceIte,sF]<;>first|done|rfl)))|(refine I4 (idm:=9) (C3 K (O++G) bn B.t.a) ?_ rfl rfl rfl ?_;(next=>(simp (disch:=omega) only[o5.d,hb1,hb2,hml,hB2,hzl,o6,o7,o8,e6,c9,c6,b9,a6,b5,b7,a7,B7,Nat.reduceBEq,AV.plain,Nat.reduceAdd,Nat.reduceLeDiff,Nat.reduceLT,↓reduceIte,sF]<;>first|done|rfl)))|(refine L5 (idm:=9) (C3 K (O++G) bn B.t.b) ?_ rfl rfl rfl ?_;(next=>(simp (disch:=omega) only[o5.d,hb1,hb2,hml,hB2,hzl,o6,o7,o8,e6,c9,c6,b9,a6,b5,b7,a7,B7,Nat.reduceBEq,AV.plain,Nat.reduceAdd,Nat.reduceLeDiff,Nat.reduceLT,↓reduceIte,sF]<;>first|done|rfl)))|(refine I4 (idm:=9) (C3 K (O++G) bn B.t.b) ?_ rfl rfl rfl ?_;(next=>(simp (disch:=omega) only[o5.d,hb1,hb2,hml,hB2,hzl,o6,o7,o8,e6,c9,c6,b9,a6,b5,b7,a7,B7,Nat.reduceBEq,AV.plain,Nat.reduceAdd,Nat.reduceLeDiff,Nat.reduceLT,↓reduceIte,sF]<;>first|done|rfl)))|(clear hN N)|refine Zt (Zq o5.d (Zq hb1 (Zq hb2 (Zq hml (Zq hB2 (Zq hzl (Zq o6 (Zq o7 (Zq o8 (Zq e6 (Zq c9 (Zq c6 (Zq b9 (Zq a6 (Zq b5 (Zq b7 a7)))))))))))))))) ?_|fail)
           refine O7 (aI (id:=9) rfl) ?_
           simp only[Z7,Nat.reduceEqDiff,if_true,if_false,↓reduceIte,List.modify_zero_cons,List.set_cons_succ,List.set_cons_zero]
           have hbs:W7 l c.regs B=⟨(O++G),{B.t with a:=K9 B.t.a K c.regs,b:=K9 B.t.b K c.regs}⟩:=by unfold W7;rw[hK,←hOf,←hG]
           have ep:=lX c l i hlt (.own 6 0 (O.length+G.length)) (.c5 false (j5 (O++G))) (w4.av {B.t with a:=K9 B.t.a K c.regs,b:=K9 B.t.b K c.regs}) rfl (by rw[hB2,hbs];rfl)
           simp only[w4.av]at ep
           refine O7 (kM 3 i 0 6 (.own 6 0 (O.length+G.length)) (.c5 false (j5 (O++G))) rfl (by rw[pU c l i hlt _ rfl];rfl) (by simp (maxSteps:=10000000) (disch:=omega) only[B7,o5.d,hb1,hb2,hml,hB2,hzl,o6,o7,o8,e6,c9,c6,b9,a6,b5,b7,a7,w9,bL,D7,L4,B6,x7,AV.kept,e9,u1,D8,N5,B9,B2,n4,AV.J6,x4,E6,AV.plain,rd,B7,b8,bK,stepC,AV.o3,AV.cF,AV.J5,AV.Z0,AV.scalar,cX,D0,M6,M9,N0,M8,A9,M4,cY,D3,M7,L1,s8,cV,u7,I9,I6,bS,K8,u4,TD.isRow,D6,u0,u6,s9,T1,Value.oneCell',↓reduceIte,Int.reduceNe,Int.reduceEq,Nat.reduceAdd,Nat.reduceLT,Nat.reduceLeDiff,Nat.reduceSub,Nat.reduceMul,Nat.reduceBEq,Nat.reduceEqDiff,reduceCtorEq,Int.reduceToNat,←decide_not,←Bool.decide_and,sA,sN]<;>first|done|rfl)) ?_
           simp (maxSteps:=10000000) (disch:=omega) only[b8,u1,E7,T1,o5.d,hb1,hb2,hml,hB2,hzl,o6,o7,o8,e6,c9,c6,b9,a6,b5,b7,a7,w9,bL,D7,L4,B6,x7,AV.kept,e9,u1,D8,N5,B9,B2,n4,AV.J6,x4,E6,AV.plain,rd,B7,b8,bK,stepC,AV.o3,AV.cF,AV.J5,AV.Z0,AV.scalar,cX,D0,M6,M9,N0,M8,A9,M4,cY,D3,M7,L1,s8,cV,u7,I9,I6,bS,K8,u4,TD.isRow,D6,u0,u6,s9,T1,Value.oneCell',↓reduceIte,Int.reduceNe,Int.reduceEq,Nat.reduceAdd,Nat.reduceLT,Nat.reduceLeDiff,Nat.reduceSub,Nat.reduceMul,Nat.reduceBEq,Nat.reduceEqDiff,reduceCtorEq,Int.reduceToNat,←decide_not,←Bool.decide_and,sA,sN]
           rw[ep]
           refine Zw [1,2,4,5,8,42,43,44] [0,1,2,3] (Zq o5.d (Zq hb1 (Zq hb2 (Zq hml (Zq hB2 (Zq hzl (Zq o6 (Zq o7 (Zq o8 (Zq e6 (Zq c9 (Zq c6 (Zq b9 (Zq a6 (Zq b5 (Zq b7 a7)))))))))))))))) ?_
           rfl
     ·obtain rfl:i=c.b.length:=by omega
      have hres:p9 c l={c with I2:=l.length,regs:=c.regs+3,b:=c.b.map (W7 l c.regs)}:=by unfold p9;rw[if_neg hne]
      have hbl2:(c.b.map (W7 l c.regs)).length=c.b.length:=by simp
      rw[hres,a9z]
      obtain⟨M,hM⟩:∃M,M=c.b.map (W7 l c.regs):=⟨_,rfl⟩
      rw[←hM]at hbl2⊢
      rw[←hbl2]
      repeat' (first|refine Za ?_|(with_reducible constructor<;>first|intro N hN mk hmk|intro N hN|intro h)|(clear hN N)|refine Zt (Zq b6K.d (Zq o6 (Zq o7 (Zq o8 (Zq e6 (Zq c9 (Zq c6 (Zq b9 (Zq a6 (Zq b5 (Zq b7 a7))))))))))) ?_|fail)
      all_goals first|rfl
end Go.Proofs.YtgdoiokalfhjoaaDoor
end
