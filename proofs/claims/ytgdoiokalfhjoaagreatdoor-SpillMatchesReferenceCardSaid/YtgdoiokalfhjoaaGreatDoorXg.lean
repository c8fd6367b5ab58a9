/- Own work (by an AI agent; no person has read it): part of a proof of the seat YtgdoiokalfhjoaaGreatDoor. -/
import Derived.Test.YtgdoiokalfhjoaaGreatDoorXe
import Derived.Test.YtgdoiokalfhjoaaGreatDoorXf
set_option linter.unusedSimpArgs false
set_option linter.unusedVariables false
set_option maxRecDepth 100000
set_option maxHeartbeats 10000000
section
namespace Go.Proofs.YtgdoiokalfhjoaaGreatDoor
open Go.Ab
theorem b43{l:List Int}(h:∀x∈l,0≤x∧x<15)(sl:I5 l):(((List.range 15).filter fun k=>(B7 l).testBit k).length)=l.length:=by
 have e:(((List.range 15).filter fun k=>(B7 l).testBit k).map fun k:Nat=>(k:Int))=l:=by
  refine I5.ext ?_ sl fun x=>?_
  ·exact List.pairwise_map.2 ((List.pairwise_lt_range (n:=15)).filter _|>.imp fun hab=>by omega)
  ·simp only[List.mem_map,List.mem_filter,List.mem_range,Z6]
   constructor
   ·rintro⟨k,⟨_,y,h1,h2⟩,rfl⟩
    have:=h y h1
    have:y=(k:Int):=by omega
    rw[←this];exact h1
   ·intro hx
    have:=h x hx
    exact⟨x.toNat,⟨by omega,x,hx,rfl⟩,by omega⟩
 have:=congrArg List.length e
 simpa using this
theorem b3a:∀{l:List Int},(∀x∈l,0≤x∧x<15)→B7 l<32768
 |[],_=>by simp [B7]
 |x::l,h=>by
  have h1:=h x (by simp)
  have:(2:Nat)^x.toNat<2^15:=Nat.pow_lt_pow_right (by decide) (by omega)
  exact Nat.or_lt_two_pow (n:=15) this (b3a fun y hy=>h y (by simp [hy]))
theorem c17{l:List Int}(h:∀x∈l,0≤x∧x<15)(sl:I5 l):ocF (B7 l)=(l.length:Int):=by rw[c6j _ (b3a h),b43 h sl]
theorem c62:ocF 0=0:=by decide+kernel
def b6F:=ZZ.mk (Zq c5R.d (Zq @Int.zero_add @Int.add_zero))
theorem xY(l:List Int)(h:∀x∈l,0≤x∧x<15)(sl:I5 l)(hn:l.length≤1000):c9 Tryz.prog 82 [L8 l] (fun _=> .v (.int .i64 l.length)) (fun _=>[]):=by
 have C1:=c26 (B7 l)
 have C2:=c26 0
 rw[c17 h sl]at C1
 rw[c62]at C2
 refine Zf Tryz.func82 Tryz.ntmps82 ?_;simp only[L8]
 repeat' (first|refine Za ?_|(with_reducible constructor<;>first|intro N hN mk hmk|intro N hN|intro h)|(guard_target=~ AK Tryz.prog _ _ _ _;refine x9 [(),(),(),(),()] ?_)|refine Zc C1 ?_|refine Zc C2 ?_|refine qR b6F.d ?_|fail)
 all_goals rfl
theorem a4h:B7 []=0:=rfl
theorem a8V{l:List Int}{i:Nat}(h:i<l.length):l.getD i 0∈l:=by
 rw[List.getD_eq_getElem?_getD,List.getElem?_eq_getElem h];exact List.getElem_mem h
theorem b4s{l:List Int}{i:Nat}(h:i<l.length):l.drop i=l.getD i 0::l.drop (i+1):=by
 rw[List.drop_eq_getElem_cons h,List.getD_eq_getElem?_getD,List.getElem?_eq_getElem h];rfl
theorem a4a{l:List Int}(h:bG l)(sl:I5 l){i:Nat}(hi:i<l.length):
  (B7 (l.drop i):Int)≠0∧Lib.ctz 64 (B7 (l.drop i))=(l.getD i 0).toNat∧a4J .u64 (B7 (l.drop i)) (IntKind.u64.wrap ((B7 (l.drop i):Int)-1))=(B7 (l.drop (i+1)):Int):=by
 have e:=b4s hi
 have h1:bG (l.getD i 0::l.drop (i+1)):=by rw[←e];exact fun x hx=>h x (List.mem_of_mem_drop hx)
 have h2:I5 (l.getD i 0::l.drop (i+1)):=by rw[←e];exact sl.sublist (List.drop_sublist _ _)
 rw[e]
 exact⟨by have:=b8o (a:=l.getD i 0) (l:=l.drop (i+1));omega,b8m h1 h2,b1g h1 h2⟩
theorem c1H{l:List Int}{i:Nat}(h:i+1<l.length):List.take (i+1) (b7 (l.take (i+1)))++[[.v (.int .i64 (l.getD (i+1) 0))]]=b7 (l.take (i+1+1)):=by
 rw[w4 l (i+1) 0 h]
 unfold b7
 rw[List.map_append,List.take_of_length_le (by simp;omega)];rfl
def c6U:=ZZ.mk (Zq b6F.d @a4h)
def c4B:=ZZ.mk (Zq b6F.d @Int.mul_zero)
def c4C:=ZZ.mk (Zq c4B.d (Zq @U8 (Zq @List.length_take.{0} (Zq @Nat.min_eq_left (Zq @H3 (Zq @fH (Zq @j8 (Zq @y9 (Zq @dH @dA)))))))))
theorem a8w(l:List Int)(h:bG l)(sl:I5 l)(hn:l.length≤1000):c9 Tryz.prog 87 [L8 l] (fun _=> .a6 false (b7 l)) (fun _=>[]):=by
 by_cases hl:l=[]
 ·subst hl
  refine Zf Tryz.func87 Tryz.ntmps87 ?_;simp only[L8]
  repeat' (first|refine Za ?_|(with_reducible constructor<;>first|intro N hN mk hmk|intro N hN|intro h)|(guard_target=~ AK Tryz.prog _ _ _ _;refine x9 [(),(),(),(),()] ?_)|refine qR c6U.d ?_|fail)
  all_goals rfl
 ·have hp:0<l.length:=(List.length_pos_iff.2 hl)
  refine Zf Tryz.func87 Tryz.ntmps87 ?_;simp only[L8]
  repeat' (first|refine Za ?_|(with_reducible constructor<;>first|intro N hN mk hmk|intro N hN|intro h)|refine qR b6F.d ?_|fail)
  refine x9 [(),(),(),(),()] ?_
  repeat' (first|refine Za ?_|(with_reducible constructor<;>first|intro N hN mk hmk|intro N hN|intro h)|refine qR b6F.d ?_|fail)
  refine nS (fun i=>⟨[.Z,.ptr 0 0 0,.Z,.own 1 0 (i+1),.v (.int .i64 0),.v (.int .u64 (B7 (l.drop (i+1)))),.agg [.v (.int .u64 (B7 l)),.v (.int .u64 0),.v (.int .u64 0),.v (.int .u64 0)],.v (.int .i64 0),.Z,.Z,.Z,.Z,.Z,.Z,.Z,.Z,.Z,.Z,.Z,.Z,.Z,.Z,.Z,.Z,.Z,.Z,.Z],[(0,.live ⟨4,[[.v (.int .u64 (B7 l)),.v (.int .u64 0),.v (.int .u64 0),.v (.int .u64 0)]],0⟩),(1,.live ⟨1,b7 (l.take (i+1)),0⟩)],2⟩) (l.length-1) ?_ ?_
  ·obtain⟨s1,s2,s3⟩:=a4a h sl hp
   simp only[List.drop_zero]at s1 s2 s3
   have hr:=h _ (a8V hp)
   have C:=c4o (B7 l) (eQ h)
   rw[s2,show(((l.getD 0 0).toNat:Nat):Int)=l.getD 0 0 from by omega]at C
   repeat' (first|refine Za ?_|(with_reducible constructor<;>first|intro N hN mk hmk|intro N hN|intro h)|refine Zc C ?_|refine qR (Zq c4B.d (Zq s1 s3)) ?_|fail)
   refine Zw [1,3,4,5,6,7] [0,152] (Zq c4B.d (Zq s1 s3)) ?_
   rw[show l.take (0+1)=[l.getD 0 0]from by rw[w4 l 0 0 hp];rfl];rfl
  ·intro i hi
   by_cases hlt:i+1<l.length
   ·obtain⟨s1,s2,s3⟩:=a4a h sl hlt
    have hr:=h _ (a8V hlt)
    have C:=c4o (B7 (l.drop (i+1))) (eQ fun x hx=>h x (List.mem_of_mem_drop hx))
    rw[s2,show(((l.getD (i+1) 0).toNat:Nat):Int)=l.getD (i+1) 0 from by omega]at C
    have tk:=c1H hlt
    repeat' (first|refine Za ?_|(with_reducible constructor<;>first|intro N hN mk hmk|intro N hN|intro h)|refine Zc C ?_|refine qR (Zq c4C.d (Zq s1 (Zq s3 tk))) ?_|fail)
    refine Zw [1,3,4,5,6,7] [0,74] (Zq c4C.d (Zq s1 (Zq s3 tk))) ?_
    rfl
   ·have e:l.drop (i+1)=[]:=List.drop_eq_nil_of_le (by omega)
    have e2:l.take (i+1)=l:=List.take_of_length_le (by omega)
    have hi1:i+1=l.length:=by omega
    rw[e,e2,a4h,hi1]
    repeat' (first|refine Za ?_|(with_reducible constructor<;>first|intro N hN mk hmk|intro N hN|intro h)|(guard_target=~ AK Tryz.prog _ _ _ _;refine x9 [(),(),(),(),()] ?_)|refine qR c4C.d ?_|fail)
def cB(l:List (List Int)):List (List AV):=l.map fun x=>[.v (.int .u64 (B7 x)),.v (.int .u64 0),.v (.int .u64 0),.v (.int .u64 0)]
theorem lN(l:List (List Int)):(cB l).length=l.length:=by simp [cB]
theorem sG(l:List (List Int))(z:Nat)(h:z<l.length):(cB l)[z]?=some [.v (.int .u64 (B7 (l.getD z []))),.v (.int .u64 0),.v (.int .u64 0),.v (.int .u64 0)]:=by simp [cB,h,List.getD_eq_getElem?_getD]
theorem a5E(l:List (List Int)):(∀e∈cB l,e.length=4)=True:=by simp [cB]
theorem r6(l:List (List Int)):((cB l).all fun e=>e.all AV.plain)=true:=by simp [cB,AV.plain]
theorem gX(l:List (List Int)):v7 (cB l)=true:=r6 l
theorem b5D(l:List (List Int)):(cB l).take l.length=cB l:=by rw[←lN,List.take_length]
def b5V(l:List (List Int)):Prop:=∀z,bG (l.getD z [])∧I5 (l.getD z [])
theorem a4v{inn:List (List Int)}(h:b5V inn)(l:List Int):bG (aC inn l)∧I5 (aC inn l):=by
 have:∀(l:List Int) (s:List Int),bG s∧I5 s→bG (l.foldl (fun s to=>w9 s (inn.getD to.toNat [])) s)∧I5 (l.foldl (fun s to=>w9 s (inn.getD to.toNat [])) s):=by
  intro l
  induction l with
  |nil=>intro s hs;exact hs
  |cons a l ih=>intro s hs;exact ih _ ⟨hs.1.union (h _).1,dD hs.2⟩
 exact this l [] ⟨bG.nil,I5.nil⟩
def b6G:=ZZ.mk (Zq P8.d (Zq @L8.eq_1 (Zq @o6.av.eq_1 (Zq @lN (Zq @sG (Zq @a5E (Zq @r6 @gX)))))))
theorem b0u(t:o6)(inn:List (List Int))(hs:∀to∈e9 t,0≤to∧to<inn.length)(hl:inn.length≤1000)(hi:b5V inn)(hd:B8 t<64)(hu:bG (j6 t)):
  c9 Tryz.prog 126 [.agg t.av,.a6 false (cB inn)] (fun _=>L8 (O1 t inn)) (fun _=>[]):=by
 have C1:=xZ t
 have C2:=xW t
 have C3:=rG t
 have hl2:=lD t
 have hl4:=X7 t
 obtain⟨g1,g2⟩:=a4v hi (e9 t)
 have C4:=tD (aC inn (e9 t)) (B8 t) g1 hd
 have C5:=a4O (j6 t) hu (by omega)
 have C6:=rF (A8 (aC inn (e9 t)) (B8 t)) (w9 [] (j6 t)) g1.kD (bG.nil.union hu)
 rw[a99 (gY g2 _)]at C6
 simp only[o6.av]at C1 C2 C3
 refine Zf Tryz.func126 Tryz.ntmps126 ?_;simp only[o6.av]
 repeat' (first|refine Za ?_|(with_reducible constructor<;>first|intro N hN mk hmk|intro N hN|intro h)|refine Zc C1 ?_|refine Zt b6G.d ?_|fail)
 refine c8 (fun i=>⟨[.Z,.a6 false (cB inn),.ptr 0 0 0,.Z,.ptr 1 0 0,.ptr 2 0 0,.Z,.Z,.Z,.a6 false (b7 (e9 t)),.v (.int .i64 (e9 t).length),.v (.int .i64 i),.Z,.Z,.Z,.Z,.Z,.Z,.Z,.Z,.Z,.Z,.Z,.Z,.Z,.Z,.Z,.Z,.Z,.Z],[(0,.live ⟨13,[[.v (.int .i64 t.kind),.v (.int .i64 t.sub),.v (.int .i64 t.d.k),.v (.int .i64 t.d.n),.v (.int .i32 t.d.v),.v (.int .i64 t.a.k),.v (.int .i64 t.a.n),.v (.int .i32 t.a.v),.v (.int .i64 t.b.k),.v (.int .i64 t.b.n),.v (.int .i32 t.b.v),.v (.int .i64 t.t0),.v (.int .i64 t.t1)]],0⟩),(1,.live ⟨4,[[.v (.int .u64 0),.v (.int .u64 0),.v (.int .u64 0),.v (.int .u64 0)]],0⟩),(2,.live ⟨4,[[.v (.int .u64 (B7 (aC inn ((e9 t).take i)))),.v (.int .u64 0),.v (.int .u64 0),.v (.int .u64 0)]],0⟩)],3⟩) (e9 t).length (Zw [1,2,4,5,9,10,11] [0,8,16] b6G.d ?_) ?_
 ·simp [aC,B7]
 ·intro i hi2
  by_cases hin:i<(e9 t).length
  ·have hto:=hs _ (F6 hin)
   obtain⟨k1,k2⟩:=a4v hi ((e9 t).take i)
   have C7:=rF (aC inn ((e9 t).take i)) (inn.getD ((e9 t).getD i 0).toNat []) k1 (hi _).1
   rw[←a0v inn (e9 t) i hin]at C7
   repeat' (first|refine Za ?_|(with_reducible constructor<;>first|intro N hN mk hmk|intro N hN|intro h)|refine Zc C7 ?_|refine Zt b6G.d ?_|fail)
   refine Zw [1,2,4,5,9,10,11] [0,1,2] b6G.d ?_
   rfl
  ·have e:(e9 t).take i=e9 t:=List.take_of_length_le (by omega)
   rw[e]
   repeat' (first|refine Za ?_|(with_reducible constructor<;>first|intro N hN mk hmk|intro N hN|intro h)|refine Zc C2 ?_|refine Zc C3 ?_|refine Zc C4 ?_|refine Zc C5 ?_|refine Zc C6 ?_|refine Zt b6G.d ?_|fail)
   all_goals rfl
theorem a0n(l:List Int):l=[]∨∃l' b,l=l'++[b]:=by
 rcases List.eq_nil_or_concat l with h|⟨l',b,h⟩
 ·exact .inl h
 ·exact .inr ⟨l',b,by simpa using h⟩
theorem a3T(l:List Int)(b:Int):(l++[b]).getD l.length 0=b:=by simp [List.getD_eq_getElem?_getD]
theorem b2K(n:Nat):((n+1:Nat):Int)-1=n:=by omega
theorem a32(l:List Int)(b:Int):(b7 (l++[b]))[l.length]?=some [.v (.int .i64 b)]:=by simp [b7]
theorem a89(l:List Int)(b:Int):(b7 (l++[b])).take l.length=b7 l:=by simp [b7]
def rS(c:Code)(out:List Bool)(left:List Int):LS:=
 ⟨[.Z,.ptr 0 0 0,.Z,.own 1 0 c.b.length,.own 2 0 left.length]++List.replicate 50 .Z,[(0,.live ⟨8,[[.v (.int .i64 c.group),.v (.int .i64 c.sub),.v (.int .i64 c.regs),.v (.int .i64 c.u7),.v (.int .i64 c.params),.a6 false (w6 c.c6),.a6 false (loops c.loops),.a6 false (p7 c.b)]],0⟩),(1,.live ⟨1,o8 out,0⟩),(2,.live ⟨1,b7 left,0⟩)],3⟩
def pF(l:List Int)(out:List Bool)(left:List Int)(i:Nat):List Bool×List Int:=(l.take i).foldl dT (out,left)
theorem c2f{l:List Int}{out:List Bool}{left:List Int}{i:Nat}(h:i<l.length):pF l out left (i+1)=dT (pF l out left i) (l.getD i 0):=by
 unfold pF;rw[w4 l i 0 h,List.foldl_append];rfl
def c4D:=ZZ.mk (Zq P8.d (Zq nF.d (Zq @List.length_replicate.{0} (Zq @List.length_set.{0} (Zq @K7 (Zq @K6 (Zq @aG (Zq @lW (Zq @aD (Zq @lX (Zq @o6.av.eq_1 (Zq @y7 (Zq @I3 (Zq @H8 @b6.av.eq_1))))))))))))))
def b0i:=ZZ.mk (Zq c4D.d (Zq @List.length_append.{0} (Zq @List.length_cons.{0} @List.length_nil.{0})))
def c5S:=ZZ.mk (Zq b0i.d (Zq @or_true (Zq @and_true (Zq @Int.sub_zero (Zq @b2K (Zq @a3T (Zq @a32 @Int.toNat_natCast)))))))
theorem rE(c:Code)(hc:aT c.b)(hn:c.b.length≤1000):c9 Tryz.prog 26 [.agg c.av] (fun _=> .a6 false (o8 (reachF c.b))) (fun _=>[]):=by
 have h1:=hc.1
 refine Zf Tryz.func26 Tryz.ntmps26 ?_;simp only[Code.av]
 repeat' (first|refine Za ?_|(with_reducible constructor<;>first|intro N hN mk hmk|intro N hN|intro h)|refine Zt c4D.d ?_|fail)
 refine y4 (s':=rS c (Z8 c.b.length) [0]) (Zw [1,3,4] [0,40,80] c4D.d rfl) (lS (fun m s=>∃out left,DI c.b out left∧msr (out,left)≤2*c.b.length+1∧m=msr (out,left)∧s=rS c out left) (msr (Z8 c.b.length,[0])) ⟨_,_,DI.zero hc,?_,rfl,rfl⟩ ?_)
 ·unfold msr;simp [Z8];omega
 ·rintro m s ⟨out,left,D,hm,rfl,rfl⟩
  have hol:out.length=c.b.length:=D.R.l
  rcases a0n left with rfl|⟨l',b,rfl⟩
  ·simp only[rS,List.replicate_succ,List.replicate_zero,List.cons_append,List.nil_append,List.length_cons,List.length_nil,Nat.reduceAdd]
   have hd:out=reachF c.b:=D.done hc
   rw[←hd]
   have tb:List.take c.b.length (o8 out)=o8 out:=by rw[←hol];exact aD _
   repeat' (first|refine Za ?_|(with_reducible constructor<;>first|intro N hN mk hmk|intro N hN|intro h)|refine Zt (Zq b0i.d (Zq tb hol)) ?_|fail)
  ·have hl':l'.length≤10000:=by
    rw[←b3b]at hm
    have:l'.length≤msr (out,l'):=Nat.le_add_left _ _
    omega
   obtain⟨hb0,hbm⟩:=D.m b (by simp)
   have hbl:b.toNat<c.b.length:=by
    rcases Nat.lt_or_ge b.toNat out.length with h|h
    ·omega
    ·rw[List.getD_eq_getElem?_getD,List.getElem?_eq_none h]at hbm;simp at hbm
   obtain⟨t,ht⟩:∃t,t=(w7 c.b b.toNat).t:=⟨_,rfl⟩
   have hs:∀to∈e9 t,0≤to∧to<c.b.length:=by rw[ht];exact hc.2 _ (O8 hbl)
   have ht':(c.b.getD b.toNat B0).t=t:=ht.symm
   have C1:=xZ t
   have hl2:=lD t
   simp only[o6.av]at C1
   simp only[rS,List.replicate_succ,List.replicate_zero,List.cons_append,List.nil_append,List.length_cons,List.length_nil,List.length_append,Nat.reduceAdd]
   repeat' (first|refine Za ?_|(with_reducible constructor<;>first|intro N hN mk hmk|intro N hN|intro h)|refine Zc C1 ?_|refine Zt (Zq c5S.d ht') ?_|fail)
   refine b6J 2 l'.length rfl ?_
   simp only[a0M,a89,Nat.reduceEqDiff,if_true,if_false]
   have hD:=D.pop
   rw[←ht]at hD
   have hms:=b3b out l' b
   have hto:∀i,∀to∈(e9 t).take i,0≤to∧to<((out,l'):List Bool×List Int).1.length:=fun i to h=>by have:=hs to (List.mem_of_mem_take h);show 0≤to∧to<(out.length:Int);omega
   have hpl:∀i,msr (pF (e9 t) out l' i)≤msr (out,l')∧(pF (e9 t) out l' i).1.length=out.length:=fun i=>zV _ _ (hto i)
   refine c8 (fun i=>⟨[.Z,.ptr 0 0 0,.Z,.own 1 0 c.b.length,.own 2 0 (pF (e9 t) out l' i).2.length,.Z,.Z,.Z,.Z,.Z,.Z,.Z,.Z,.Z,.Z,.Z,.Z,.Z,.Z,.Z,.Z,.Z,.Z,.Z,.Z,.Z,.Z,.Z,.Z,.Z,.Z,.Z,.Z,.Z,.Z,.a6 false (b7 (e9 t)),.v (.int .i64 (e9 t).length),.v (.int .i64 i),.Z,.Z,.Z,.Z,.Z,.Z,.Z,.Z,.Z,.Z,.Z,.Z,.Z,.Z,.Z,.Z,.Z],[(0,.live ⟨8,[[.v (.int .i64 c.group),.v (.int .i64 c.sub),.v (.int .i64 c.regs),.v (.int .i64 c.u7),.v (.int .i64 c.params),.a6 false (w6 c.c6),.a6 false (loops c.loops),.a6 false (p7 c.b)]],0⟩),(1,.live ⟨1,o8 (pF (e9 t) out l' i).1,0⟩),(2,.live ⟨1,b7 (pF (e9 t) out l' i).2,0⟩)],3⟩) (e9 t).length (Zw [1,3,4,35,36,37] [0,1,2] (Zq c5S.d ht') ?_) ?_
   ·rfl
   ·intro i hi
    obtain⟨q1,q2⟩:=hpl i
    by_cases hin:i<(e9 t).length
    ·have hgo:=hs _ (F6 hin)
     have hps:=c2f (out:=out) (left:=l') hin
     obtain⟨q3,q4⟩:=hpl (i+1)
     generalize hp:pF (e9 t) out l' i=p at*
     obtain⟨po,pl⟩:=p
     have hq:po.length=c.b.length:=q2.trans hol
     have hpl':pl.length≤10000:=by
      have:pl.length≤msr (po,pl):=Nat.le_add_left _ _
      omega
     repeat' (first|refine Za ?_|(with_reducible constructor<;>first|intro N hN mk hmk|intro N hN|intro h)|refine Zt b0i.d ?_|fail)
     ·refine Zw [1,3,4,35,36,37] [0,1,131] b0i.d ?_
      rw[hps,show dT (po,pl) ((e9 t).getD i 0)=(po.set ((e9 t).getD i 0).toNat true,pl++[(e9 t).getD i 0])from by unfold dT;rw[if_neg (by simp_all)],List.length_append]
      rfl
     ·refine Zw [1,3,4,35,36,37] [0,1,2] b0i.d ?_
      rw[hps,show dT (po,pl) ((e9 t).getD i 0)=(po,pl)from by unfold dT;rw[if_pos (by simp_all)]]
      rfl
    ·have e:(e9 t).length≤i:=by omega
     have hp:pF (e9 t) out l' i=(e9 t).foldl dT (out,l'):=by unfold pF;rw[List.take_of_length_le e]
     have hrb:cR c.b b:=by have:=D.R.s b.toNat hbm;rwa [show((b.toNat:Nat):Int)=b by omega]at this
     have hdn:=(DP.b8K hrb hc (e9 t) (out,l') (fun x hx=>by rw[ht]at hx;exact hx) hD).done
     rw[←hp]at hdn
     repeat' (first|refine Za ?_|(with_reducible constructor<;>first|intro N hN mk hmk|intro N hN|intro h)|refine Zt b0i.d ?_|fail)
     refine⟨msr (pF (e9 t) out l' i),_,by omega,?_,_,_,hdn,(Nat.le_trans q1 (by omega):msr (pF (e9 t) out l' i)≤2*c.b.length+1),rfl,rfl⟩
     refine Zw [1,3,4] [0,1,2] b0i.d ?_
     rfl
theorem c2s(l:List (List Int)):(∀e∈cB l,∀x∈e,AV.one x=true)=True:=by
 simp only[eq_iff_iff,iff_true,cB,List.mem_map]
 rintro e ⟨_,_,rfl⟩ x hx
 simp only[List.mem_cons,List.not_mem_nil,or_false]at hx
 rcases hx with rfl|rfl|rfl|rfl<;>rfl
def a4q(l:List Int)(j:Nat):Int:=if j=0 then -1 else l.getD (j-1) 0
def okL(r:Int)(l:List Int):Prop:=∀k,k<l.length→a4q l k<l.getD k 0∧l.getD k 0<r
instance (r:Int) (l:List Int):Decidable (okL r l):=inferInstanceAs (Decidable (∀k,k<l.length→a4q l k<l.getD k 0∧l.getD k 0<r))
theorem b5d(l:List Int)(j:Nat):a4q l (j+1)=l.getD j 0:=by unfold a4q;rw[if_neg (by omega)];rfl
theorem c27{r:Int}{l:List Int}(h:okL r l):∀k,k<l.length→ -1<l.getD k 0∧∀i,i<k→l.getD i 0<l.getD k 0:=by
 intro k
 induction k with
 |zero=>intro hk;have:=(h 0 hk).1;exact⟨by simpa[a4q]using this,fun i hi=>by omega⟩
 |succ k ih=>
  intro hk
  have h1:=(h (k+1) hk).1
  rw[b5d]at h1
  obtain⟨h2,h3⟩:=ih (by omega)
  refine⟨by omega,fun i hi=>?_⟩
  rcases Nat.lt_succ_iff_lt_or_eq.1 hi with h4|rfl
  ·have:=h3 i h4;omega
  ·exact h1
theorem lA{l:List Int}{i:Nat}(h:i<l.length):l.getD i 0=l[i]:=by rw[List.getD_eq_getElem?_getD,List.getElem?_eq_getElem h];rfl
theorem c4X{r:Int}{l:List Int}(h:okL r l):I5 l:=by
 refine List.pairwise_iff_getElem.2 fun i j hi hj hij=>?_
 have:=(c27 h j hj).2 i hij
 rwa [lA hi,lA hj]at this
theorem c4W{r:Int}{l:List Int}(h:okL r l):∀x∈l,0≤x∧x<r:=by
 intro x hx
 obtain⟨i,hi,rfl⟩:=List.mem_iff_getElem.1 hx
 have h1:=c27 h i hi
 have h2:=h i hi
 rw[lA hi]at h1 h2
 exact⟨by omega,h2.2⟩
theorem a4E{l:List Int}(h:I5 l):w9 [] l=l:=I5.ext (dD I5.nil) h fun x=>by rw[Q7];simp
theorem b3v{r:Int}{ops:List E3}(h:∀o∈ops,I6 r o):∀x∈o5 ops,0≤x∧x<r:=by
 intro x hx
 obtain⟨o,h1,h2,rfl⟩:=L6.1 hx
 exact h o h1 h2
theorem a3Z{r:Int}{i:e8}(h:aS r i):∀x∈m7 i,0≤x∧x<r:=b3v fun o ho=>by
 simp only[List.mem_cons,List.not_mem_nil,or_false]at ho
 rcases ho with rfl|rfl|rfl
 ·exact h.a
 ·exact h.b
 ·exact h.c
theorem a4C{r n:Int}{t:o6}(h:V3 r n t):∀x∈j6 t,0≤x∧x<r:=b3v fun o ho=>by
 simp only[List.mem_cons,List.not_mem_nil,or_false]at ho
 rcases ho with rfl|rfl
 ·exact h.a
 ·exact h.b
theorem uP{r:Int}{o:E3}(h:I6 r o)(hr:0≤r): -1≤nX o∧nX o<r:=by
 unfold nX
 split
 ·rename_i hk;have:=h hk;omega
 ·omega
theorem u9.blk{c:Code}(h:u9 c){b:Nat}(hb:b<c.b.length):cC c.regs c.b.length (w7 c.b b):=h.b _ (O8 hb)
theorem u9.c6X{c:Code}(h:u9 c){b:Nat}(hb:b<c.b.length):∀x∈(w7 c.b b).i,z8 x<64∧bG (m7 x):=fun x hx=>by
 have h1:=(h.blk hb).i x hx
 have h2:=h.r
 have h3:=(uP h1.d h2.1).2
 exact⟨by show nX x.d<64;omega,fun y hy=>by have:=a3Z h1 y hy;omega⟩
theorem u9.c59{c:Code}(h:u9 c){b:Nat}(hb:b<c.b.length):B8 (w7 c.b b).t<64∧bG (j6 (w7 c.b b).t):=by
 have h1:=(h.blk hb).t
 have h2:=h.r
 have h3:=(uP h1.d h2.1).2
 exact⟨by show nX _<64;omega,fun y hy=>by have:=a4C h1 y hy;omega⟩
def a5s(r:Int)(L:List (List Int)):Prop:=∀i,i<L.length→okL r (L.getD i [])
theorem c43:plC Tryz.prog 168=some [.int .u64,.int .u64,.int .u64,.int .u64]:=by kernel_rfl
def c6V:=ZZ.mk (Zq nF.d (Zq @c43 (Zq @b6.av.eq_1 (Zq @L8.eq_1 (Zq @o6.av.eq_1 (Zq @lN (Zq @sG (Zq @a5E (Zq @r6 (Zq @gX (Zq @K7 (Zq @K6 (Zq @aG (Zq @y7 (Zq @I3 @H8)))))))))))))))
theorem c2o{l:List Int}(h:bG l)(sl:I5 l):l.length≤1000:=by
 have:∀(n:Nat) (l:List Int),I5 l→(∀x∈l,64-(n:Int)≤x∧x<64)→l.length≤n:=by
  intro n
  induction n with
  |zero=>intro l _ h;cases l with
   |nil=>simp
   |cons x l=>have:=h x (by simp);omega
  |succ n ih=>
   intro l sl h
   cases l with
   |nil=>simp
   |cons x l=>
    obtain⟨s1,s2⟩:=List.pairwise_cons.1 sl
    have:=ih l s2 fun y hy=>by
     have h1:=s1 y hy
     have h2:=h x (by simp)
     have h3:=h y (by simp [hy])
     omega
    simp;omega
 have:=this 64 l sl fun x hx=>by have:=h x hx;omega
 omega
end Go.Proofs.YtgdoiokalfhjoaaGreatDoor
end
