/- Own work (by an AI agent; no person has read it): part of a proof of the seat YtgdoiokalfhjoaaDoor. -/
import Derived.Test.YtgdoiokalfhjoaaDoorXf
import Derived.Test.YtgdoiokalfhjoaaDoorXg
set_option linter.unusedSimpArgs false
set_option linter.unusedVariables false
set_option maxRecDepth 100000
set_option maxHeartbeats 10000000
section
namespace Go.Proofs.YtgdoiokalfhjoaaDoor
open Go.Ab
theorem a8P{l:List Int}(h:∀x∈l,0≤x∧x<15)(sl:N1 l):(((List.range 15).filter fun k=>(E1 l).testBit k).length)=l.length:=by
 have e:(((List.range 15).filter fun k=>(E1 l).testBit k).map fun k:Nat=>(k:Int))=l:=by
  refine N1.ext ?_ sl fun x=>?_
  ·exact List.pairwise_map.2 ((List.pairwise_lt_range (n:=15)).filter _|>.imp fun hab=>by omega)
  ·simp only[List.mem_map,List.mem_filter,List.mem_range,Z4]
   constructor
   ·rintro⟨k,⟨_,y,h1,h2⟩,rfl⟩
    have:=h y h1
    have:y=(k:Int):=by omega
    rw[←this];exact h1
   ·intro hx
    have:=h x hx
    exact⟨x.toNat,⟨by omega,x,hx,rfl⟩,by omega⟩
 have:=congrArg List.length e
 simpa using this
theorem a7h:∀{l:List Int},(∀x∈l,0≤x∧x<15)→E1 l<32768
 |[],_=>by simp [E1]
 |x::l,h=>by
  have h1:=h x (by simp)
  have:(2:Nat)^x.toNat<2^15:=Nat.pow_lt_pow_right (by decide) (by omega)
  exact Nat.or_lt_two_pow (n:=15) this (a7h fun y hy=>h y (by simp [hy]))
theorem b3E{l:List Int}(h:∀x∈l,0≤x∧x<15)(sl:N1 l):ocF (E1 l)=(l.length:Int):=by rw[b7c _ (a7h h),a8P h sl]
theorem b7N:ocF 0=0:=by decide+kernel
def a9Z:=ZZ.mk (Zq @N4.eq_1 (Zq @Int.zero_add (Zq @Int.add_zero (Zq @j0 (Zq @j3 @X0)))))
theorem tC(l:List Int)(h:∀x∈l,0≤x∧x<15)(sl:N1 l)(hn:l.length≤1000):n5 Tryd.prog 23 [N4 l] (fun _=> .v (.int .i64 l.length)) (fun _=>[]):=by
 have C1:=b4t (E1 l)
 have C2:=b4t 0
 rw[b3E h sl]at C1
 rw[b7N]at C2
 refine Zf Tryd.func23 Tryd.ntmps23 ?_;simp only[N4]
 repeat' (first|refine Za ?_|(with_reducible constructor<;>first|intro N hN mk hmk|intro N hN|intro h)|(guard_target=~ AK Tryd.prog _ _ _ _;refine y3 [(),(),(),(),()] ?_)|refine Zc C1 ?_|refine Zc C2 ?_|refine oG a9Z.d ?_|fail)
 all_goals rfl
theorem zV:E1 []=0:=rfl
theorem a3r{l:List Int}{i:Nat}(h:i<l.length):l.getD i 0∈l:=by
 rw[List.getD_eq_getElem?_getD,List.getElem?_eq_getElem h];exact List.getElem_mem h
theorem a8m{l:List Int}{i:Nat}(h:i<l.length):l.drop i=l.getD i 0::l.drop (i+1):=by
 rw[List.drop_eq_getElem_cons h,List.getD_eq_getElem?_getD,List.getElem?_eq_getElem h];rfl
theorem zP{l:List Int}(h:aW l)(sl:N1 l){i:Nat}(hi:i<l.length):
  (E1 (l.drop i):Int)≠0∧Lib.ctz 64 (E1 (l.drop i))=(l.getD i 0).toNat∧a7R .u64 (E1 (l.drop i)) (IntKind.u64.wrap ((E1 (l.drop i):Int)-1))=(E1 (l.drop (i+1)):Int):=by
 have e:=a8m hi
 have h1:aW (l.getD i 0::l.drop (i+1)):=by rw[←e];exact fun x hx=>h x (List.mem_of_mem_drop hx)
 have h2:N1 (l.getD i 0::l.drop (i+1)):=by rw[←e];exact sl.sublist (List.drop_sublist _ _)
 rw[e]
 exact⟨by have:=b1F (a:=l.getD i 0) (l:=l.drop (i+1));omega,b1D h1 h2,a5w h1 h2⟩
theorem b3e{l:List Int}{i:Nat}(h:i+1<l.length):List.take (i+1) (m8 (l.take (i+1)))++[[.v (.int .i64 (l.getD (i+1) 0))]]=m8 (l.take (i+1+1)):=by
 rw[G6 l (i+1) 0 h]
 unfold m8
 rw[List.map_append,List.take_of_length_le (by simp;omega)];rfl
def b7H:=ZZ.mk (Zq a9Z.d @zV)
def b5H:=ZZ.mk (Zq a9Z.d @Int.mul_zero)
def b5I:=ZZ.mk (Zq b5H.d (Zq @Q5 (Zq @List.length_take.{0} (Zq @Nat.min_eq_left (Zq @F9 (Zq @bF (Zq @j4 (Zq @A7 (Zq @aX @aE)))))))))
theorem a2W(l:List Int)(h:aW l)(sl:N1 l)(hn:l.length≤1000):n5 Tryd.prog 32 [N4 l] (fun _=> .c5 false (m8 l)) (fun _=>[]):=by
 by_cases hl:l=[]
 ·subst hl
  refine Zf Tryd.func32 Tryd.ntmps32 ?_;simp only[N4]
  repeat' (first|refine Za ?_|(with_reducible constructor<;>first|intro N hN mk hmk|intro N hN|intro h)|(guard_target=~ AK Tryd.prog _ _ _ _;refine y3 [(),(),(),(),()] ?_)|refine oG b7H.d ?_|fail)
  all_goals rfl
 ·have hp:0<l.length:=(List.length_pos_iff.2 hl)
  refine Zf Tryd.func32 Tryd.ntmps32 ?_;simp only[N4]
  repeat' (first|refine Za ?_|(with_reducible constructor<;>first|intro N hN mk hmk|intro N hN|intro h)|refine oG a9Z.d ?_|fail)
  refine y3 [(),(),(),(),()] ?_
  repeat' (first|refine Za ?_|(with_reducible constructor<;>first|intro N hN mk hmk|intro N hN|intro h)|refine oG a9Z.d ?_|fail)
  refine sT (fun i=>⟨[.Z,.ptr 0 0 0,.Z,.own 1 0 (i+1),.v (.int .i64 0),.v (.int .u64 (E1 (l.drop (i+1)))),.agg [.v (.int .u64 (E1 l)),.v (.int .u64 0),.v (.int .u64 0),.v (.int .u64 0)],.v (.int .i64 0),.Z,.Z,.Z,.Z,.Z,.Z,.Z,.Z,.Z,.Z,.Z,.Z,.Z,.Z,.Z,.Z,.Z,.Z,.Z],[(0,.live ⟨4,[[.v (.int .u64 (E1 l)),.v (.int .u64 0),.v (.int .u64 0),.v (.int .u64 0)]],0⟩),(1,.live ⟨1,m8 (l.take (i+1)),0⟩)],2⟩) (l.length-1) ?_ ?_
  ·obtain⟨s1,s2,s3⟩:=zP h sl hp
   simp only[List.drop_zero]at s1 s2 s3
   have hr:=h _ (a3r hp)
   have C:=b5v (E1 l) (dV h)
   rw[s2,show(((l.getD 0 0).toNat:Nat):Int)=l.getD 0 0 from by omega]at C
   repeat' (first|refine Za ?_|(with_reducible constructor<;>first|intro N hN mk hmk|intro N hN|intro h)|refine Zc C ?_|refine oG (Zq b5H.d (Zq s1 s3)) ?_|fail)
   refine Zw [1,3,4,5,6,7] [0,152] (Zq b5H.d (Zq s1 s3)) ?_
   rw[show l.take (0+1)=[l.getD 0 0]from by rw[G6 l 0 0 hp];rfl];rfl
  ·intro i hi
   by_cases hlt:i+1<l.length
   ·obtain⟨s1,s2,s3⟩:=zP h sl hlt
    have hr:=h _ (a3r hlt)
    have C:=b5v (E1 (l.drop (i+1))) (dV fun x hx=>h x (List.mem_of_mem_drop hx))
    rw[s2,show(((l.getD (i+1) 0).toNat:Nat):Int)=l.getD (i+1) 0 from by omega]at C
    have tk:=b3e hlt
    repeat' (first|refine Za ?_|(with_reducible constructor<;>first|intro N hN mk hmk|intro N hN|intro h)|refine Zc C ?_|refine oG (Zq b5I.d (Zq s1 (Zq s3 tk))) ?_|fail)
    refine Zw [1,3,4,5,6,7] [0,74] (Zq b5I.d (Zq s1 (Zq s3 tk))) ?_
    rfl
   ·have e:l.drop (i+1)=[]:=List.drop_eq_nil_of_le (by omega)
    have e2:l.take (i+1)=l:=List.take_of_length_le (by omega)
    have hi1:i+1=l.length:=by omega
    rw[e,e2,zV,hi1]
    repeat' (first|refine Za ?_|(with_reducible constructor<;>first|intro N hN mk hmk|intro N hN|intro h)|(guard_target=~ AK Tryd.prog _ _ _ _;refine y3 [(),(),(),(),()] ?_)|refine oG b5I.d ?_|fail)
def bR(l:List (List Int)):List (List AV):=l.map fun x=>[.v (.int .u64 (E1 x)),.v (.int .u64 0),.v (.int .u64 0),.v (.int .u64 0)]
theorem nN(l:List (List Int)):(bR l).length=l.length:=by simp [bR]
theorem a0k(l:List (List Int))(z:Nat)(h:z<l.length):(bR l)[z]?=some [.v (.int .u64 (E1 (l.getD z []))),.v (.int .u64 0),.v (.int .u64 0),.v (.int .u64 0)]:=by simp [bR,h,List.getD_eq_getElem?_getD]
theorem a5N(l:List (List Int)):(∀e∈bR l,e.length=4)=True:=by simp [bR]
theorem r9(l:List (List Int)):((bR l).all fun e=>e.all AV.plain)=true:=by simp [bR,AV.plain]
theorem jJ(l:List (List Int)):w7 (bR l)=true:=r9 l
theorem a9s(l:List (List Int)):(bR l).take l.length=bR l:=by rw[←nN,List.take_length]
def a9J(l:List (List Int)):Prop:=∀z,aW (l.getD z [])∧N1 (l.getD z [])
theorem a0j{inn:List (List Int)}(h:a9J inn)(l:List Int):aW (fK inn l)∧N1 (fK inn l):=by
 have:∀(l:List Int) (s:List Int),aW s∧N1 s→aW (l.foldl (fun s to=>E4 s (inn.getD to.toNat [])) s)∧N1 (l.foldl (fun s to=>E4 s (inn.getD to.toNat [])) s):=by
  intro l
  induction l with
  |nil=>intro s hs;exact hs
  |cons a l ih=>intro s hs;exact ih _ ⟨hs.1.union (h _).1,cR hs.2⟩
 exact this l [] ⟨aW.nil,N1.nil⟩
def a90:=ZZ.mk (Zq @N4.eq_1 (Zq @w4.av.eq_1 (Zq @nN (Zq @a0k (Zq @a5N (Zq @r9 (Zq @jJ (Zq @F9 (Zq @V1 (Zq @O4 (Zq @bF (Zq @j4 (Zq @A7 (Zq @aX (Zq @aE (Zq @Q5 (Zq @j0 @j3)))))))))))))))))
theorem a4L(t:w4)(inn:List (List Int))(hs:∀to∈o4 t,0≤to∧to<inn.length)(hl:inn.length≤1000)(hi:a9J inn)(hd:O3 t<64)(hu:aW (u9 t)):
  n5 Tryd.prog 30 [.agg t.av,.c5 false (bR inn)] (fun _=>N4 (cB t inn)) (fun _=>[]):=by
 have C1:=tD t
 have C2:=tA t
 have C3:=oU t
 have hl2:=uD t
 have hl4:=gB t
 obtain⟨g1,g2⟩:=a0j hi (o4 t)
 have C4:=qA (fK inn (o4 t)) (O3 t) g1 hd
 have C5:=a0B (u9 t) hu (by omega)
 have C6:=oT (S6 (fK inn (o4 t)) (O3 t)) (E4 [] (u9 t)) g1.iF (aW.nil.union hu)
 rw[a4t (fB g2 _)]at C6
 simp only[w4.av]at C1 C2 C3
 refine Zf Tryd.func30 Tryd.ntmps30 ?_;simp only[w4.av]
 repeat' (first|refine Za ?_|(with_reducible constructor<;>first|intro N hN mk hmk|intro N hN|intro h)|refine Zc C1 ?_|refine Zt a90.d ?_|fail)
 refine v7 (fun i=>⟨[.Z,.c5 false (bR inn),.ptr 0 0 0,.Z,.ptr 1 0 0,.ptr 2 0 0,.Z,.Z,.Z,.c5 false (m8 (o4 t)),.v (.int .i64 (o4 t).length),.v (.int .i64 i),.Z,.Z,.Z,.Z,.Z,.Z,.Z,.Z,.Z,.Z,.Z,.Z,.Z,.Z,.Z,.Z,.Z,.Z],[(0,.live ⟨13,[[.v (.int .i64 t.kind),.v (.int .i64 t.sub),.v (.int .i64 t.d.k),.v (.int .i64 t.d.n),.v (.int .i32 t.d.v),.v (.int .i64 t.a.k),.v (.int .i64 t.a.n),.v (.int .i32 t.a.v),.v (.int .i64 t.b.k),.v (.int .i64 t.b.n),.v (.int .i32 t.b.v),.v (.int .i64 t.t0),.v (.int .i64 t.t1)]],0⟩),(1,.live ⟨4,[[.v (.int .u64 0),.v (.int .u64 0),.v (.int .u64 0),.v (.int .u64 0)]],0⟩),(2,.live ⟨4,[[.v (.int .u64 (E1 (fK inn ((o4 t).take i)))),.v (.int .u64 0),.v (.int .u64 0),.v (.int .u64 0)]],0⟩)],3⟩) (o4 t).length (Zw [1,2,4,5,9,10,11] [0,8,16] a90.d ?_) ?_
 ·simp [fK,E1]
 ·intro i hi2
  by_cases hin:i<(o4 t).length
  ·have hto:=hs _ (V8 hin)
   obtain⟨k1,k2⟩:=a0j hi ((o4 t).take i)
   have C7:=oT (fK inn ((o4 t).take i)) (inn.getD ((o4 t).getD i 0).toNat []) k1 (hi _).1
   rw[←a5U inn (o4 t) i hin]at C7
   repeat' (first|refine Za ?_|(with_reducible constructor<;>first|intro N hN mk hmk|intro N hN|intro h)|refine Zc C7 ?_|refine Zt a90.d ?_|fail)
   refine Zw [1,2,4,5,9,10,11] [0,1,2] a90.d ?_
   rfl
  ·have e:(o4 t).take i=o4 t:=List.take_of_length_le (by omega)
   rw[e]
   repeat' (first|refine Za ?_|(with_reducible constructor<;>first|intro N hN mk hmk|intro N hN|intro h)|refine Zc C2 ?_|refine Zc C3 ?_|refine Zc C4 ?_|refine Zc C5 ?_|refine Zc C6 ?_|refine Zt a90.d ?_|fail)
   all_goals rfl
theorem vI(l:List Int):l=[]∨∃l' b,l=l'++[b]:=by
 rcases List.eq_nil_or_concat l with h|⟨l',b,h⟩
 ·exact .inl h
 ·exact .inr ⟨l',b,by simpa using h⟩
theorem zH(l:List Int)(b:Int):(l++[b]).getD l.length 0=b:=by simp [List.getD_eq_getElem?_getD]
theorem I1(n:Nat):((n+1:Nat):Int)-1=n:=by omega
theorem zN(l:List Int)(b:Int):(m8 (l++[b]))[l.length]?=some [.v (.int .i64 b)]:=by simp [m8]
theorem a3z(l:List Int)(b:Int):(m8 (l++[b])).take l.length=m8 l:=by simp [m8]
def rS(c:Code)(out:List Bool)(left:List Int):LS:=
 ⟨[.Z,.ptr 0 0 0,.Z,.own 1 0 c.b.length,.own 2 0 left.length]++List.replicate 50 .Z,[(0,.live ⟨8,[[.v (.int .i64 c.group),.v (.int .i64 c.sub),.v (.int .i64 c.regs),.v (.int .i64 c.I2),.v (.int .i64 c.params),.c5 false (H2 c.o0),.c5 false (loops c.loops),.c5 false (y6 c.b)]],0⟩),(1,.live ⟨1,F7 out,0⟩),(2,.live ⟨1,m8 left,0⟩)],3⟩
def pF(l:List Int)(out:List Bool)(left:List Int)(i:Nat):List Bool×List Int:=(l.take i).foldl dE (out,left)
theorem b3J{l:List Int}{out:List Bool}{left:List Int}{i:Nat}(h:i<l.length):pF l out left (i+1)=dE (pF l out left i) (l.getD i 0):=by
 unfold pF;rw[G6 l i 0 h,List.foldl_append];rfl
def b5J:=ZZ.mk (Zq @List.length_replicate.{0} (Zq @List.length_set.{0} (Zq @U8 (Zq @W8 (Zq @dS (Zq @P9 (Zq @M5 (Zq @fP (Zq @eQ (Zq @yV (Zq @w4.av.eq_1 (Zq @n3 (Zq @aA (Zq @W6 (Zq @l8 (Zq @e8.av.eq_1 (Zq @F9 (Zq @V1 (Zq @O4 (Zq @bF (Zq @j4 (Zq @A7 (Zq @aX (Zq @aE (Zq @Q5 (Zq @j0 @j3))))))))))))))))))))))))))
def a4z:=ZZ.mk (Zq b5J.d (Zq @List.length_append.{0} (Zq @List.length_cons.{0} @List.length_nil.{0})))
def b6R:=ZZ.mk (Zq a4z.d (Zq @or_true (Zq @and_true (Zq @Int.sub_zero (Zq @I1 (Zq @zH (Zq @zN @Int.toNat_natCast)))))))
theorem oS(c:Code)(hc:gJ c.b)(hn:c.b.length≤1000):n5 Tryd.prog 21 [.agg c.av] (fun _=> .c5 false (F7 (reachF c.b))) (fun _=>[]):=by
 have h1:=hc.1
 refine Zf Tryd.func21 Tryd.ntmps21 ?_;simp only[Code.av]
 repeat' (first|refine Za ?_|(with_reducible constructor<;>first|intro N hN mk hmk|intro N hN|intro h)|refine Zt b5J.d ?_|fail)
 refine A5 (s':=rS c (a1c c.b.length) [0]) (Zw [1,3,4] [0,40,80] b5J.d rfl) (mH (fun m s=>∃out left,DI c.b out left∧msr (out,left)≤2*c.b.length+1∧m=msr (out,left)∧s=rS c out left) (msr (a1c c.b.length,[0])) ⟨_,_,DI.zero hc,?_,rfl,rfl⟩ ?_)
 ·unfold msr;simp [a1c];omega
 ·rintro m s ⟨out,left,D,hm,rfl,rfl⟩
  have hol:out.length=c.b.length:=D.R.l
  rcases vI left with rfl|⟨l',b,rfl⟩
  ·simp only[rS,List.replicate_succ,List.replicate_zero,List.cons_append,List.nil_append,List.length_cons,List.length_nil,Nat.reduceAdd]
   have hd:out=reachF c.b:=D.done hc
   rw[←hd]
   have tb:List.take c.b.length (F7 out)=F7 out:=by rw[←hol];exact eQ _
   repeat' (first|refine Za ?_|(with_reducible constructor<;>first|intro N hN mk hmk|intro N hN|intro h)|refine Zt (Zq a4z.d (Zq tb hol)) ?_|fail)
  ·have hl':l'.length≤10000:=by
    rw[←a7i]at hm
    have:l'.length≤msr (out,l'):=Nat.le_add_left _ _
    omega
   obtain⟨hb0,hbm⟩:=D.m b (by simp)
   have hbl:b.toNat<c.b.length:=by
    rcases Nat.lt_or_ge b.toNat out.length with h|h
    ·omega
    ·rw[List.getD_eq_getElem?_getD,List.getElem?_eq_none h]at hbm;simp at hbm
   obtain⟨t,ht⟩:∃t,t=(I8 c.b b.toNat).t:=⟨_,rfl⟩
   have hs:∀to∈o4 t,0≤to∧to<c.b.length:=by rw[ht];exact hc.2 _ (bW hbl)
   have ht':(c.b.getD b.toNat B0).t=t:=ht.symm
   have C1:=tD t
   have hl2:=uD t
   simp only[w4.av]at C1
   simp only[rS,List.replicate_succ,List.replicate_zero,List.cons_append,List.nil_append,List.length_cons,List.length_nil,List.length_append,Nat.reduceAdd]
   repeat' (first|refine Za ?_|(with_reducible constructor<;>first|intro N hN mk hmk|intro N hN|intro h)|refine Zc C1 ?_|refine Zt (Zq b6R.d ht') ?_|fail)
   refine a92 2 l'.length rfl ?_
   simp only[wB,a3z,Nat.reduceEqDiff,if_true,if_false]
   have hD:=D.pop
   rw[←ht]at hD
   have hms:=a7i out l' b
   have hto:∀i,∀to∈(o4 t).take i,0≤to∧to<((out,l'):List Bool×List Int).1.length:=fun i to h=>by have:=hs to (List.mem_of_mem_take h);show 0≤to∧to<(out.length:Int);omega
   have hpl:∀i,msr (pF (o4 t) out l' i)≤msr (out,l')∧(pF (o4 t) out l' i).1.length=out.length:=fun i=>uR _ _ (hto i)
   refine v7 (fun i=>⟨[.Z,.ptr 0 0 0,.Z,.own 1 0 c.b.length,.own 2 0 (pF (o4 t) out l' i).2.length,.Z,.Z,.Z,.Z,.Z,.Z,.Z,.Z,.Z,.Z,.Z,.Z,.Z,.Z,.Z,.Z,.Z,.Z,.Z,.Z,.Z,.Z,.Z,.Z,.Z,.Z,.Z,.Z,.Z,.Z,.c5 false (m8 (o4 t)),.v (.int .i64 (o4 t).length),.v (.int .i64 i),.Z,.Z,.Z,.Z,.Z,.Z,.Z,.Z,.Z,.Z,.Z,.Z,.Z,.Z,.Z,.Z,.Z],[(0,.live ⟨8,[[.v (.int .i64 c.group),.v (.int .i64 c.sub),.v (.int .i64 c.regs),.v (.int .i64 c.I2),.v (.int .i64 c.params),.c5 false (H2 c.o0),.c5 false (loops c.loops),.c5 false (y6 c.b)]],0⟩),(1,.live ⟨1,F7 (pF (o4 t) out l' i).1,0⟩),(2,.live ⟨1,m8 (pF (o4 t) out l' i).2,0⟩)],3⟩) (o4 t).length (Zw [1,3,4,35,36,37] [0,1,2] (Zq b6R.d ht') ?_) ?_
   ·rfl
   ·intro i hi
    obtain⟨q1,q2⟩:=hpl i
    by_cases hin:i<(o4 t).length
    ·have hgo:=hs _ (V8 hin)
     have hps:=b3J (out:=out) (left:=l') hin
     obtain⟨q3,q4⟩:=hpl (i+1)
     generalize hp:pF (o4 t) out l' i=p at*
     obtain⟨po,pl⟩:=p
     have hq:po.length=c.b.length:=q2.trans hol
     have hpl':pl.length≤10000:=by
      have:pl.length≤msr (po,pl):=Nat.le_add_left _ _
      omega
     repeat' (first|refine Za ?_|(with_reducible constructor<;>first|intro N hN mk hmk|intro N hN|intro h)|refine Zt a4z.d ?_|fail)
     ·refine Zw [1,3,4,35,36,37] [0,1,131] a4z.d ?_
      rw[hps,show dE (po,pl) ((o4 t).getD i 0)=(po.set ((o4 t).getD i 0).toNat true,pl++[(o4 t).getD i 0])from by unfold dE;rw[if_neg (by simp_all)],List.length_append]
      rfl
     ·refine Zw [1,3,4,35,36,37] [0,1,2] a4z.d ?_
      rw[hps,show dE (po,pl) ((o4 t).getD i 0)=(po,pl)from by unfold dE;rw[if_pos (by simp_all)]]
      rfl
    ·have e:(o4 t).length≤i:=by omega
     have hp:pF (o4 t) out l' i=(o4 t).foldl dE (out,l'):=by unfold pF;rw[List.take_of_length_le e]
     have hrb:gI c.b b:=by have:=D.R.s b.toNat hbm;rwa [show((b.toNat:Nat):Int)=b by omega]at this
     have hdn:=(DP.b1V hrb hc (o4 t) (out,l') (fun x hx=>by rw[ht]at hx;exact hx) hD).done
     rw[←hp]at hdn
     repeat' (first|refine Za ?_|(with_reducible constructor<;>first|intro N hN mk hmk|intro N hN|intro h)|refine Zt a4z.d ?_|fail)
     refine⟨msr (pF (o4 t) out l' i),_,by omega,?_,_,_,hdn,(Nat.le_trans q1 (by omega):msr (pF (o4 t) out l' i)≤2*c.b.length+1),rfl,rfl⟩
     refine Zw [1,3,4] [0,1,2] a4z.d ?_
     rfl
theorem b3T(l:List (List Int)):(∀e∈bR l,∀x∈e,AV.one x=true)=True:=by
 simp only[eq_iff_iff,iff_true,bR,List.mem_map]
 rintro e ⟨_,_,rfl⟩ x hx
 simp only[List.mem_cons,List.not_mem_nil,or_false]at hx
 rcases hx with rfl|rfl|rfl|rfl<;>rfl
def a0e(l:List Int)(j:Nat):Int:=if j=0 then -1 else l.getD (j-1) 0
def okL(r:Int)(l:List Int):Prop:=∀k,k<l.length→a0e l k<l.getD k 0∧l.getD k 0<r
instance (r:Int) (l:List Int):Decidable (okL r l):=inferInstanceAs (Decidable (∀k,k<l.length→a0e l k<l.getD k 0∧l.getD k 0<r))
theorem a81(l:List Int)(j:Nat):a0e l (j+1)=l.getD j 0:=by unfold a0e;rw[if_neg (by omega)];rfl
theorem b4u{r:Int}{l:List Int}(h:okL r l):∀k,k<l.length→ -1<l.getD k 0∧∀i,i<k→l.getD i 0<l.getD k 0:=by
 intro k
 induction k with
 |zero=>intro hk;have:=(h 0 hk).1;exact⟨by simpa[a0e]using this,fun i hi=>by omega⟩
 |succ k ih=>
  intro hk
  have h1:=(h (k+1) hk).1
  rw[a81]at h1
  obtain⟨h2,h3⟩:=ih (by omega)
  refine⟨by omega,fun i hi=>?_⟩
  rcases Nat.lt_succ_iff_lt_or_eq.1 hi with h4|rfl
  ·have:=h3 i h4;omega
  ·exact h1
theorem jD{l:List Int}{i:Nat}(h:i<l.length):l.getD i 0=l[i]:=by rw[List.getD_eq_getElem?_getD,List.getElem?_eq_getElem h];rfl
theorem b51{r:Int}{l:List Int}(h:okL r l):N1 l:=by
 refine List.pairwise_iff_getElem.2 fun i j hi hj hij=>?_
 have:=(b4u h j hj).2 i hij
 rwa [jD hi,jD hj]at this
theorem b50{r:Int}{l:List Int}(h:okL r l):∀x∈l,0≤x∧x<r:=by
 intro x hx
 obtain⟨i,hi,rfl⟩:=List.mem_iff_getElem.1 hx
 have h1:=b4u h i hi
 have h2:=h i hi
 rw[jD hi]at h1 h2
 exact⟨by omega,h2.2⟩
theorem a0t{l:List Int}(h:N1 l):E4 [] l=l:=N1.ext (cR N1.nil) h fun x=>by rw[T6];simp
theorem a7A{r:Int}{ops:List H8}(h:∀o∈ops,L2 r o):∀x∈A3 ops,0≤x∧x<r:=by
 intro x hx
 obtain⟨o,h1,h2,rfl⟩:=cU.1 hx
 exact h o h1 h2
theorem zM{r:Int}{i:l0}(h:aK r i):∀x∈w6 i,0≤x∧x<r:=a7A fun o ho=>by
 simp only[List.mem_cons,List.not_mem_nil,or_false]at ho
 rcases ho with rfl|rfl|rfl
 ·exact h.a
 ·exact h.b
 ·exact h.c
theorem a0r{r n:Int}{t:w4}(h:W0 r n t):∀x∈u9 t,0≤x∧x<r:=a7A fun o ho=>by
 simp only[List.mem_cons,List.not_mem_nil,or_false]at ho
 rcases ho with rfl|rfl
 ·exact h.a
 ·exact h.b
theorem rI{r:Int}{o:H8}(h:L2 r o)(hr:0≤r): -1≤tJ o∧tJ o<r:=by
 unfold tJ
 split
 ·rename_i hk;have:=h hk;omega
 ·omega
theorem C8.blk{c:Code}(h:C8 c){b:Nat}(hb:b<c.b.length):dQ c.regs c.b.length (I8 c.b b):=h.b _ (bW hb)
theorem C8.b7I{c:Code}(h:C8 c){b:Nat}(hb:b<c.b.length):∀x∈(I8 c.b b).i,Q7 x<64∧aW (w6 x):=fun x hx=>by
 have h1:=(h.blk hb).i x hx
 have h2:=h.r
 have h3:=(rI h1.d h2.1).2
 exact⟨by show tJ x.d<64;omega,fun y hy=>by have:=zM h1 y hy;omega⟩
theorem C8.b67{c:Code}(h:C8 c){b:Nat}(hb:b<c.b.length):O3 (I8 c.b b).t<64∧aW (u9 (I8 c.b b).t):=by
 have h1:=(h.blk hb).t
 have h2:=h.r
 have h3:=(rI h1.d h2.1).2
 exact⟨by show tJ _<64;omega,fun y hy=>by have:=a0r h1 y hy;omega⟩
def a5C(r:Int)(L:List (List Int)):Prop:=∀i,i<L.length→okL r (L.getD i [])
theorem a3Y:plC Tryd.prog 67=some [.int .u64,.int .u64,.int .u64,.int .u64]:=by kernel_rfl
end Go.Proofs.YtgdoiokalfhjoaaDoor
end
