/- Own work (by an AI agent; no person has read it): part of a proof of the seat YtgdoiokalfhjoaaGreatDoor. -/
import Derived.Test.YtgdoiokalfhjoaaGreatDoorYe
import Derived.Test.YtgdoiokalfhjoaaGreatDoorYf
set_option linter.unusedSimpArgs false
set_option linter.unusedVariables false
set_option maxRecDepth 100000
set_option maxHeartbeats 10000000
section
namespace Go.Proofs.YtgdoiokalfhjoaaGreatDoor
open Go.Ab
theorem b3Z{l:List Int}(h:∀x∈l,0≤x∧x<15)(sl:I9 l):(((List.range 15).filter fun k=>(D3 l).testBit k).length)=l.length:=by
 have e:(((List.range 15).filter fun k=>(D3 l).testBit k).map fun k:Nat=>(k:Int))=l:=by
  refine I9.ext ?_ sl fun x=>?_
  ·exact List.pairwise_map.2 ((List.pairwise_lt_range (n:=15)).filter _|>.imp fun hab=>by omega)
  ·simp only[List.mem_map,List.mem_filter,List.mem_range,Z2]
   constructor
   ·rintro⟨k,⟨_,y,h1,h2⟩,rfl⟩
    have:=h y h1
    have:y=(k:Int):=by omega
    rw[←this];exact h1
   ·intro hx
    have:=h x hx
    exact⟨x.toNat,⟨by omega,x,hx,rfl⟩,by omega⟩
 have:=congrArg List.length e
 simpa using this
theorem b19:∀{l:List Int},(∀x∈l,0≤x∧x<15)→D3 l<32768
 |[],_=>by simp [D3]
 |x::l,h=>by
  have h1:=h x (by simp)
  have:(2:Nat)^x.toNat<2^15:=Nat.pow_lt_pow_right (by decide) (by omega)
  exact Nat.or_lt_two_pow (n:=15) this (b19 fun y hy=>h y (by simp [hy]))
theorem c1c{l:List Int}(h:∀x∈l,0≤x∧x<15)(sl:I9 l):ocF (D3 l)=(l.length:Int):=by rw[c5l _ (b19 h),b3Z h sl]
theorem c54:ocF 0=0:=by decide+kernel
def b5D:=ZZ.mk (Zq c4W.d (Zq @Int.zero_add @Int.add_zero))
theorem wM(l:List Int)(h:∀x∈l,0≤x∧x<15)(sl:I9 l)(hn:l.length≤1000):e8 Tryz.prog 82 [L4 l] (fun _=> .v (.int .i64 l.length)) (fun _=>[]):=by
 have C1:=c19 (D3 l)
 have C2:=c19 0
 rw[c1c h sl]at C1
 rw[c54]at C2
 refine Zf Tryz.func82 Tryz.ntmps82 ?_;simp only[L4]
 repeat' (first|refine Za ?_|(with_reducible constructor<;>first|intro N hN mk hmk|intro N hN|intro h)|(guard_target=~ AK Tryz.prog _ _ _ _;refine x9 [(),(),(),(),()] ?_)|refine Zc C1 ?_|refine Zc C2 ?_|refine oQ b5D.d ?_|fail)
 all_goals rfl
theorem a3g:D3 []=0:=rfl
theorem a7T{l:List Int}{i:Nat}(h:i<l.length):l.getD i 0∈l:=by
 rw[List.getD_eq_getElem?_getD,List.getElem?_eq_getElem h];exact List.getElem_mem h
theorem b3q{l:List Int}{i:Nat}(h:i<l.length):l.drop i=l.getD i 0::l.drop (i+1):=by
 rw[List.drop_eq_getElem_cons h,List.getD_eq_getElem?_getD,List.getElem?_eq_getElem h];rfl
theorem a28{l:List Int}(h:aY l)(sl:I9 l){i:Nat}(hi:i<l.length):
  (D3 (l.drop i):Int)≠0∧Lib.ctz 64 (D3 (l.drop i))=(l.getD i 0).toNat∧wB .u64 (D3 (l.drop i)) (IntKind.u64.wrap ((D3 (l.drop i):Int)-1))=(D3 (l.drop (i+1)):Int):=by
 have e:=b3q hi
 have h1:aY (l.getD i 0::l.drop (i+1)):=by rw[←e];exact fun x hx=>h x (List.mem_of_mem_drop hx)
 have h2:I9 (l.getD i 0::l.drop (i+1)):=by rw[←e];exact sl.sublist (List.drop_sublist _ _)
 rw[e]
 exact⟨by have:=b7p (a:=l.getD i 0) (l:=l.drop (i+1));omega,b7n h1 h2,b0d h1 h2⟩
theorem c0I{l:List Int}{i:Nat}(h:i+1<l.length):List.take (i+1) (c7 (l.take (i+1)))++[[.v (.int .i64 (l.getD (i+1) 0))]]=c7 (l.take (i+1+1)):=by
 rw[w9 l (i+1) 0 h]
 unfold c7
 rw[List.map_append,List.take_of_length_le (by simp;omega)];rfl
def c5W:=ZZ.mk (Zq b5D.d @a3g)
def c3F:=ZZ.mk (Zq b5D.d @Int.mul_zero)
def c3G:=ZZ.mk (Zq c3F.d (Zq @N1 (Zq @List.length_take.{0} (Zq @Nat.min_eq_left (Zq @I2 (Zq @iM (Zq @m9 (Zq @B4 (Zq @dA @cV)))))))))
theorem a7t(l:List Int)(h:aY l)(sl:I9 l)(hn:l.length≤1000):e8 Tryz.prog 87 [L4 l] (fun _=> .a8 false (c7 l)) (fun _=>[]):=by
 by_cases hl:l=[]
 ·subst hl
  refine Zf Tryz.func87 Tryz.ntmps87 ?_;simp only[L4]
  repeat' (first|refine Za ?_|(with_reducible constructor<;>first|intro N hN mk hmk|intro N hN|intro h)|(guard_target=~ AK Tryz.prog _ _ _ _;refine x9 [(),(),(),(),()] ?_)|refine oQ c5W.d ?_|fail)
  all_goals rfl
 ·have hp:0<l.length:=(List.length_pos_iff.2 hl)
  refine Zf Tryz.func87 Tryz.ntmps87 ?_;simp only[L4]
  repeat' (first|refine Za ?_|(with_reducible constructor<;>first|intro N hN mk hmk|intro N hN|intro h)|refine oQ b5D.d ?_|fail)
  refine x9 [(),(),(),(),()] ?_
  repeat' (first|refine Za ?_|(with_reducible constructor<;>first|intro N hN mk hmk|intro N hN|intro h)|refine oQ b5D.d ?_|fail)
  refine wA (fun i=>⟨[.Z,.ptr 0 0 0,.Z,.own 1 0 (i+1),.v (.int .i64 0),.v (.int .u64 (D3 (l.drop (i+1)))),.agg [.v (.int .u64 (D3 l)),.v (.int .u64 0),.v (.int .u64 0),.v (.int .u64 0)],.v (.int .i64 0),.Z,.Z,.Z,.Z,.Z,.Z,.Z,.Z,.Z,.Z,.Z,.Z,.Z,.Z,.Z,.Z,.Z,.Z,.Z],[(0,.live ⟨4,[[.v (.int .u64 (D3 l)),.v (.int .u64 0),.v (.int .u64 0),.v (.int .u64 0)]],0⟩),(1,.live ⟨1,c7 (l.take (i+1)),0⟩)],2⟩) (l.length-1) ?_ ?_
  ·obtain⟨s1,s2,s3⟩:=a28 h sl hp
   simp only[List.drop_zero]at s1 s2 s3
   have hr:=h _ (a7T hp)
   have C:=c3r (D3 l) (eE h)
   rw[s2,show(((l.getD 0 0).toNat:Nat):Int)=l.getD 0 0 from by omega]at C
   repeat' (first|refine Za ?_|(with_reducible constructor<;>first|intro N hN mk hmk|intro N hN|intro h)|refine Zc C ?_|refine oQ (Zq c3F.d (Zq s1 s3)) ?_|fail)
   refine Zw [1,3,4,5,6,7] [0,152] (Zq c3F.d (Zq s1 s3)) ?_
   rw[show l.take (0+1)=[l.getD 0 0]from by rw[w9 l 0 0 hp];rfl];rfl
  ·intro i hi
   by_cases hlt:i+1<l.length
   ·obtain⟨s1,s2,s3⟩:=a28 h sl hlt
    have hr:=h _ (a7T hlt)
    have C:=c3r (D3 (l.drop (i+1))) (eE fun x hx=>h x (List.mem_of_mem_drop hx))
    rw[s2,show(((l.getD (i+1) 0).toNat:Nat):Int)=l.getD (i+1) 0 from by omega]at C
    have tk:=c0I hlt
    repeat' (first|refine Za ?_|(with_reducible constructor<;>first|intro N hN mk hmk|intro N hN|intro h)|refine Zc C ?_|refine oQ (Zq c3G.d (Zq s1 (Zq s3 tk))) ?_|fail)
    refine Zw [1,3,4,5,6,7] [0,74] (Zq c3G.d (Zq s1 (Zq s3 tk))) ?_
    rfl
   ·have e:l.drop (i+1)=[]:=List.drop_eq_nil_of_le (by omega)
    have e2:l.take (i+1)=l:=List.take_of_length_le (by omega)
    have hi1:i+1=l.length:=by omega
    rw[e,e2,a3g,hi1]
    repeat' (first|refine Za ?_|(with_reducible constructor<;>first|intro N hN mk hmk|intro N hN|intro h)|(guard_target=~ AK Tryz.prog _ _ _ _;refine x9 [(),(),(),(),()] ?_)|refine oQ c3G.d ?_|fail)
def bR(l:List (List Int)):List (List AV):=l.map fun x=>[.v (.int .u64 (D3 x)),.v (.int .u64 0),.v (.int .u64 0),.v (.int .u64 0)]
theorem kC(l:List (List Int)):(bR l).length=l.length:=by simp [bR]
theorem qC(l:List (List Int))(z:Nat)(h:z<l.length):(bR l)[z]?=some [.v (.int .u64 (D3 (l.getD z []))),.v (.int .u64 0),.v (.int .u64 0),.v (.int .u64 0)]:=by simp [bR,h,List.getD_eq_getElem?_getD]
theorem a4B(l:List (List Int)):(∀e∈bR l,e.length=4)=True:=by simp [bR]
theorem r8(l:List (List Int)):((bR l).all fun e=>e.all AV.plain)=true:=by simp [bR,AV.plain]
theorem fS(l:List (List Int)):v7 (bR l)=true:=r8 l
theorem b4B(l:List (List Int)):(bR l).take l.length=bR l:=by rw[←kC,List.take_length]
def b4T(l:List (List Int)):Prop:=∀z,aY (l.getD z [])∧I9 (l.getD z [])
theorem a3s{inn:List (List Int)}(h:b4T inn)(l:List Int):aY (gC inn l)∧I9 (gC inn l):=by
 have:∀(l:List Int) (s:List Int),aY s∧I9 s→aY (l.foldl (fun s to=>D5 s (inn.getD to.toNat [])) s)∧I9 (l.foldl (fun s to=>D5 s (inn.getD to.toNat [])) s):=by
  intro l
  induction l with
  |nil=>intro s hs;exact hs
  |cons a l ih=>intro s hs;exact ih _ ⟨hs.1.union (h _).1,cW hs.2⟩
 exact this l [] ⟨aY.nil,I9.nil⟩
def b5E:=ZZ.mk (Zq fM.d (Zq @L4.eq_1 (Zq @q9.av.eq_1 (Zq @kC (Zq @qC (Zq @a4B (Zq @r8 @fS)))))))
theorem a9s(t:q9)(inn:List (List Int))(hs:∀to∈m7 t,0≤to∧to<inn.length)(hl:inn.length≤1000)(hi:b4T inn)(hd:F3 t<64)(hu:aY (n6 t)):
  e8 Tryz.prog 126 [.agg t.av,.a8 false (bR inn)] (fun _=>L4 (cE t inn)) (fun _=>[]):=by
 have C1:=wN t
 have C2:=wK t
 have C3:=pH t
 have hl2:=nZ t
 have hl4:=bN t
 obtain⟨g1,g2⟩:=a3s hi (m7 t)
 have C4:=qU (gC inn (m7 t)) (F3 t) g1 hd
 have C5:=a3K (n6 t) hu (by omega)
 have C6:=pG (P5 (gC inn (m7 t)) (F3 t)) (D5 [] (n6 t)) g1.iX (aY.nil.union hu)
 rw[a89 (fT g2 _)]at C6
 simp only[q9.av]at C1 C2 C3
 refine Zf Tryz.func126 Tryz.ntmps126 ?_;simp only[q9.av]
 repeat' (first|refine Za ?_|(with_reducible constructor<;>first|intro N hN mk hmk|intro N hN|intro h)|refine Zc C1 ?_|refine Zt b5E.d ?_|fail)
 refine l8 (fun i=>⟨[.Z,.a8 false (bR inn),.ptr 0 0 0,.Z,.ptr 1 0 0,.ptr 2 0 0,.Z,.Z,.Z,.a8 false (c7 (m7 t)),.v (.int .i64 (m7 t).length),.v (.int .i64 i),.Z,.Z,.Z,.Z,.Z,.Z,.Z,.Z,.Z,.Z,.Z,.Z,.Z,.Z,.Z,.Z,.Z,.Z],[(0,.live ⟨13,[[.v (.int .i64 t.kind),.v (.int .i64 t.sub),.v (.int .i64 t.d.k),.v (.int .i64 t.d.n),.v (.int .i32 t.d.v),.v (.int .i64 t.a.k),.v (.int .i64 t.a.n),.v (.int .i32 t.a.v),.v (.int .i64 t.b.k),.v (.int .i64 t.b.n),.v (.int .i32 t.b.v),.v (.int .i64 t.t0),.v (.int .i64 t.t1)]],0⟩),(1,.live ⟨4,[[.v (.int .u64 0),.v (.int .u64 0),.v (.int .u64 0),.v (.int .u64 0)]],0⟩),(2,.live ⟨4,[[.v (.int .u64 (D3 (gC inn ((m7 t).take i)))),.v (.int .u64 0),.v (.int .u64 0),.v (.int .u64 0)]],0⟩)],3⟩) (m7 t).length (Zw [1,2,4,5,9,10,11] [0,8,16] b5E.d ?_) ?_
 ·simp [gC,D3]
 ·intro i hi2
  by_cases hin:i<(m7 t).length
  ·have hto:=hs _ (L2 hin)
   obtain⟨k1,k2⟩:=a3s hi ((m7 t).take i)
   have C7:=pG (gC inn ((m7 t).take i)) (inn.getD ((m7 t).getD i 0).toNat []) k1 (hi _).1
   rw[←b0E inn (m7 t) i hin]at C7
   repeat' (first|refine Za ?_|(with_reducible constructor<;>first|intro N hN mk hmk|intro N hN|intro h)|refine Zc C7 ?_|refine Zt b5E.d ?_|fail)
   refine Zw [1,2,4,5,9,10,11] [0,1,2] b5E.d ?_
   rfl
  ·have e:(m7 t).take i=m7 t:=List.take_of_length_le (by omega)
   rw[e]
   repeat' (first|refine Za ?_|(with_reducible constructor<;>first|intro N hN mk hmk|intro N hN|intro h)|refine Zc C2 ?_|refine Zc C3 ?_|refine Zc C4 ?_|refine Zc C5 ?_|refine Zc C6 ?_|refine Zt b5E.d ?_|fail)
   all_goals rfl
theorem yR(l:List Int):l=[]∨∃l' b,l=l'++[b]:=by
 rcases List.eq_nil_or_concat l with h|⟨l',b,h⟩
 ·exact .inl h
 ·exact .inr ⟨l',b,by simpa using h⟩
theorem a2T(l:List Int)(b:Int):(l++[b]).getD l.length 0=b:=by simp [List.getD_eq_getElem?_getD]
theorem b1P(n:Nat):((n+1:Nat):Int)-1=n:=by omega
theorem a24(l:List Int)(b:Int):(c7 (l++[b]))[l.length]?=some [.v (.int .i64 b)]:=by simp [c7]
theorem a75(l:List Int)(b:Int):(c7 (l++[b])).take l.length=c7 l:=by simp [c7]
def rS(c:Code)(out:List Bool)(left:List Int):LS:=
 ⟨[.Z,.ptr 0 0 0,.Z,.own 1 0 c.b.length,.own 2 0 left.length]++List.replicate 50 .Z,[(0,.live ⟨8,[[.v (.int .i64 c.group),.v (.int .i64 c.sub),.v (.int .i64 c.regs),.v (.int .i64 c.w5),.v (.int .i64 c.params),.a8 false (y4 c.c9),.a8 false (loops c.loops),.a8 false (o0 c.b)]],0⟩),(1,.live ⟨1,u3 out,0⟩),(2,.live ⟨1,c7 left,0⟩)],3⟩
def pF(l:List Int)(out:List Bool)(left:List Int)(i:Nat):List Bool×List Int:=(l.take i).foldl dN (out,left)
theorem c1i{l:List Int}{out:List Bool}{left:List Int}{i:Nat}(h:i<l.length):pF l out left (i+1)=dN (pF l out left i) (l.getD i 0):=by
 unfold pF;rw[w9 l i 0 h,List.foldl_append];rfl
def c3H:=ZZ.mk (Zq fM.d (Zq vT.d (Zq @List.length_replicate.{0} (Zq @List.length_set.{0} (Zq @Q8 (Zq @T6 (Zq @cY (Zq @kJ (Zq @Z7 (Zq @kK (Zq @q9.av.eq_1 (Zq @D4 (Zq @Q7 (Zq @N7 @b6.av.eq_1))))))))))))))
def a9h:=ZZ.mk (Zq c3H.d (Zq @List.length_append.{0} (Zq @List.length_cons.{0} @List.length_nil.{0})))
def c4X:=ZZ.mk (Zq a9h.d (Zq @or_true (Zq @and_true (Zq @Int.sub_zero (Zq @b1P (Zq @a2T (Zq @a24 @Int.toNat_natCast)))))))
theorem pE(c:Code)(hc:bU c.b)(hn:c.b.length≤1000):e8 Tryz.prog 26 [.agg c.av] (fun _=> .a8 false (u3 (reachF c.b))) (fun _=>[]):=by
 have h1:=hc.1
 refine Zf Tryz.func26 Tryz.ntmps26 ?_;simp only[Code.av]
 repeat' (first|refine Za ?_|(with_reducible constructor<;>first|intro N hN mk hmk|intro N hN|intro h)|refine Zt c3H.d ?_|fail)
 refine u9 (s':=rS c (Z3 c.b.length) [0]) (Zw [1,3,4] [0,40,80] c3H.d rfl) (mZ (fun m s=>∃out left,DI c.b out left∧msr (out,left)≤2*c.b.length+1∧m=msr (out,left)∧s=rS c out left) (msr (Z3 c.b.length,[0])) ⟨_,_,DI.zero hc,?_,rfl,rfl⟩ ?_)
 ·unfold msr;simp [Z3];omega
 ·rintro m s ⟨out,left,D,hm,rfl,rfl⟩
  have hol:out.length=c.b.length:=D.R.l
  rcases yR left with rfl|⟨l',b,rfl⟩
  ·simp only[rS,List.replicate_succ,List.replicate_zero,List.cons_append,List.nil_append,List.length_cons,List.length_nil,Nat.reduceAdd]
   have hd:out=reachF c.b:=D.done hc
   rw[←hd]
   have tb:List.take c.b.length (u3 out)=u3 out:=by rw[←hol];exact Z7 _
   repeat' (first|refine Za ?_|(with_reducible constructor<;>first|intro N hN mk hmk|intro N hN|intro h)|refine Zt (Zq a9h.d (Zq tb hol)) ?_|fail)
  ·have hl':l'.length≤10000:=by
    rw[←b2a]at hm
    have:l'.length≤msr (out,l'):=Nat.le_add_left _ _
    omega
   obtain⟨hb0,hbm⟩:=D.m b (by simp)
   have hbl:b.toNat<c.b.length:=by
    rcases Nat.lt_or_ge b.toNat out.length with h|h
    ·omega
    ·rw[List.getD_eq_getElem?_getD,List.getElem?_eq_none h]at hbm;simp at hbm
   obtain⟨t,ht⟩:∃t,t=(B6 c.b b.toNat).t:=⟨_,rfl⟩
   have hs:∀to∈m7 t,0≤to∧to<c.b.length:=by rw[ht];exact hc.2 _ (S5 hbl)
   have ht':(c.b.getD b.toNat B0).t=t:=ht.symm
   have C1:=wN t
   have hl2:=nZ t
   simp only[q9.av]at C1
   simp only[rS,List.replicate_succ,List.replicate_zero,List.cons_append,List.nil_append,List.length_cons,List.length_nil,List.length_append,Nat.reduceAdd]
   repeat' (first|refine Za ?_|(with_reducible constructor<;>first|intro N hN mk hmk|intro N hN|intro h)|refine Zc C1 ?_|refine Zt (Zq c4X.d ht') ?_|fail)
   refine b5G 2 l'.length rfl ?_
   simp only[zQ,a75,Nat.reduceEqDiff,if_true,if_false]
   have hD:=D.pop
   rw[←ht]at hD
   have hms:=b2a out l' b
   have hto:∀i,∀to∈(m7 t).take i,0≤to∧to<((out,l'):List Bool×List Int).1.length:=fun i to h=>by have:=hs to (List.mem_of_mem_take h);show 0≤to∧to<(out.length:Int);omega
   have hpl:∀i,msr (pF (m7 t) out l' i)≤msr (out,l')∧(pF (m7 t) out l' i).1.length=out.length:=fun i=>yC _ _ (hto i)
   refine l8 (fun i=>⟨[.Z,.ptr 0 0 0,.Z,.own 1 0 c.b.length,.own 2 0 (pF (m7 t) out l' i).2.length,.Z,.Z,.Z,.Z,.Z,.Z,.Z,.Z,.Z,.Z,.Z,.Z,.Z,.Z,.Z,.Z,.Z,.Z,.Z,.Z,.Z,.Z,.Z,.Z,.Z,.Z,.Z,.Z,.Z,.Z,.a8 false (c7 (m7 t)),.v (.int .i64 (m7 t).length),.v (.int .i64 i),.Z,.Z,.Z,.Z,.Z,.Z,.Z,.Z,.Z,.Z,.Z,.Z,.Z,.Z,.Z,.Z,.Z],[(0,.live ⟨8,[[.v (.int .i64 c.group),.v (.int .i64 c.sub),.v (.int .i64 c.regs),.v (.int .i64 c.w5),.v (.int .i64 c.params),.a8 false (y4 c.c9),.a8 false (loops c.loops),.a8 false (o0 c.b)]],0⟩),(1,.live ⟨1,u3 (pF (m7 t) out l' i).1,0⟩),(2,.live ⟨1,c7 (pF (m7 t) out l' i).2,0⟩)],3⟩) (m7 t).length (Zw [1,3,4,35,36,37] [0,1,2] (Zq c4X.d ht') ?_) ?_
   ·rfl
   ·intro i hi
    obtain⟨q1,q2⟩:=hpl i
    by_cases hin:i<(m7 t).length
    ·have hgo:=hs _ (L2 hin)
     have hps:=c1i (out:=out) (left:=l') hin
     obtain⟨q3,q4⟩:=hpl (i+1)
     generalize hp:pF (m7 t) out l' i=p at*
     obtain⟨po,pl⟩:=p
     have hq:po.length=c.b.length:=q2.trans hol
     have hpl':pl.length≤10000:=by
      have:pl.length≤msr (po,pl):=Nat.le_add_left _ _
      omega
     repeat' (first|refine Za ?_|(with_reducible constructor<;>first|intro N hN mk hmk|intro N hN|intro h)|refine Zt a9h.d ?_|fail)
     ·refine Zw [1,3,4,35,36,37] [0,1,131] a9h.d ?_
      rw[hps,show dN (po,pl) ((m7 t).getD i 0)=(po.set ((m7 t).getD i 0).toNat true,pl++[(m7 t).getD i 0])from by unfold dN;rw[if_neg (by simp_all)],List.length_append]
      rfl
     ·refine Zw [1,3,4,35,36,37] [0,1,2] a9h.d ?_
      rw[hps,show dN (po,pl) ((m7 t).getD i 0)=(po,pl)from by unfold dN;rw[if_pos (by simp_all)]]
      rfl
    ·have e:(m7 t).length≤i:=by omega
     have hp:pF (m7 t) out l' i=(m7 t).foldl dN (out,l'):=by unfold pF;rw[List.take_of_length_le e]
     have hrb:fJ c.b b:=by have:=D.R.s b.toNat hbm;rwa [show((b.toNat:Nat):Int)=b by omega]at this
     have hdn:=(DP.b7K hrb hc (m7 t) (out,l') (fun x hx=>by rw[ht]at hx;exact hx) hD).done
     rw[←hp]at hdn
     repeat' (first|refine Za ?_|(with_reducible constructor<;>first|intro N hN mk hmk|intro N hN|intro h)|refine Zt a9h.d ?_|fail)
     refine⟨msr (pF (m7 t) out l' i),_,by omega,?_,_,_,hdn,(Nat.le_trans q1 (by omega):msr (pF (m7 t) out l' i)≤2*c.b.length+1),rfl,rfl⟩
     refine Zw [1,3,4] [0,1,2] a9h.d ?_
     rfl
theorem c1s(l:List (List Int)):(∀e∈bR l,∀x∈e,AV.one x=true)=True:=by
 simp only[eq_iff_iff,iff_true,bR,List.mem_map]
 rintro e ⟨_,_,rfl⟩ x hx
 simp only[List.mem_cons,List.not_mem_nil,or_false]at hx
 rcases hx with rfl|rfl|rfl|rfl<;>rfl
def a3m(l:List Int)(j:Nat):Int:=if j=0 then -1 else l.getD (j-1) 0
def okL(r:Int)(l:List Int):Prop:=∀k,k<l.length→a3m l k<l.getD k 0∧l.getD k 0<r
instance (r:Int) (l:List Int):Decidable (okL r l):=inferInstanceAs (Decidable (∀k,k<l.length→a3m l k<l.getD k 0∧l.getD k 0<r))
theorem b4b(l:List Int)(j:Nat):a3m l (j+1)=l.getD j 0:=by unfold a3m;rw[if_neg (by omega)];rfl
theorem c2a{r:Int}{l:List Int}(h:okL r l):∀k,k<l.length→ -1<l.getD k 0∧∀i,i<k→l.getD i 0<l.getD k 0:=by
 intro k
 induction k with
 |zero=>intro hk;have:=(h 0 hk).1;exact⟨by simpa[a3m]using this,fun i hi=>by omega⟩
 |succ k ih=>
  intro hk
  have h1:=(h (k+1) hk).1
  rw[b4b]at h1
  obtain⟨h2,h3⟩:=ih (by omega)
  refine⟨by omega,fun i hi=>?_⟩
  rcases Nat.lt_succ_iff_lt_or_eq.1 hi with h4|rfl
  ·have:=h3 i h4;omega
  ·exact h1
theorem jU{l:List Int}{i:Nat}(h:i<l.length):l.getD i 0=l[i]:=by rw[List.getD_eq_getElem?_getD,List.getElem?_eq_getElem h];rfl
theorem c3Z{r:Int}{l:List Int}(h:okL r l):I9 l:=by
 refine List.pairwise_iff_getElem.2 fun i j hi hj hij=>?_
 have:=(c2a h j hj).2 i hij
 rwa [jU hi,jU hj]at this
theorem c3Y{r:Int}{l:List Int}(h:okL r l):∀x∈l,0≤x∧x<r:=by
 intro x hx
 obtain⟨i,hi,rfl⟩:=List.mem_iff_getElem.1 hx
 have h1:=c2a h i hi
 have h2:=h i hi
 rw[jU hi]at h1 h2
 exact⟨by omega,h2.2⟩
theorem a3C{l:List Int}(h:I9 l):D5 [] l=l:=I9.ext (cW I9.nil) h fun x=>by rw[Q9];simp
theorem b2t{r:Int}{ops:List E3}(h:∀o∈ops,H7 r o):∀x∈u1 ops,0≤x∧x<r:=by
 intro x hx
 obtain⟨o,h1,h2,rfl⟩:=dB.1 hx
 exact h o h1 h2
theorem a2Y{r:Int}{i:e7}(h:aM r i):∀x∈o5 i,0≤x∧x<r:=b2t fun o ho=>by
 simp only[List.mem_cons,List.not_mem_nil,or_false]at ho
 rcases ho with rfl|rfl|rfl
 ·exact h.a
 ·exact h.b
 ·exact h.c
theorem a3A{r n:Int}{t:q9}(h:V8 r n t):∀x∈n6 t,0≤x∧x<r:=b2t fun o ho=>by
 simp only[List.mem_cons,List.not_mem_nil,or_false]at ho
 rcases ho with rfl|rfl
 ·exact h.a
 ·exact h.b
theorem sW{r:Int}{o:E3}(h:H7 r o)(hr:0≤r): -1≤pK o∧pK o<r:=by
 unfold pK
 split
 ·rename_i hk;have:=h hk;omega
 ·omega
theorem y3.blk{c:Code}(h:y3 c){b:Nat}(hb:b<c.b.length):bS c.regs c.b.length (B6 c.b b):=h.b _ (S5 hb)
theorem y3.c5Z{c:Code}(h:y3 c){b:Nat}(hb:b<c.b.length):∀x∈(B6 c.b b).i,E9 x<64∧aY (o5 x):=fun x hx=>by
 have h1:=(h.blk hb).i x hx
 have h2:=h.r
 have h3:=(sW h1.d h2.1).2
 exact⟨by show pK x.d<64;omega,fun y hy=>by have:=a2Y h1 y hy;omega⟩
theorem y3.c5c{c:Code}(h:y3 c){b:Nat}(hb:b<c.b.length):F3 (B6 c.b b).t<64∧aY (n6 (B6 c.b b).t):=by
 have h1:=(h.blk hb).t
 have h2:=h.r
 have h3:=(sW h1.d h2.1).2
 exact⟨by show pK _<64;omega,fun y hy=>by have:=a3A h1 y hy;omega⟩
def b0l(r:Int)(L:List (List Int)):Prop:=∀i,i<L.length→okL r (L.getD i [])
theorem c36:plC Tryz.prog 168=some [.int .u64,.int .u64,.int .u64,.int .u64]:=by kernel_rfl
def c5X:=ZZ.mk (Zq vT.d (Zq @c36 (Zq @b6.av.eq_1 (Zq @L4.eq_1 (Zq @q9.av.eq_1 (Zq @kC (Zq @qC (Zq @a4B (Zq @r8 (Zq @fS (Zq @Q8 (Zq @T6 (Zq @cY (Zq @D4 (Zq @Q7 @N7)))))))))))))))
theorem c1n{l:List Int}(h:aY l)(sl:I9 l):l.length≤1000:=by
 have:∀(n:Nat) (l:List Int),I9 l→(∀x∈l,64-(n:Int)≤x∧x<64)→l.length≤n:=by
  intro n
  induction n with
  |zero=>intro l _ h;cases l with
   |nil=>simp
   |cons x l=>have:=h x (by simp);omega
  |succ n ih=>
   intro l sl h
   cases l with
   |nil=>simp
   |cons x l=>
    obtain⟨s1,s2⟩:=List.pairwise_cons.1 sl
    have:=ih l s2 fun y hy=>by
     have h1:=s1 y hy
     have h2:=h x (by simp)
     have h3:=h y (by simp [hy])
     omega
    simp;omega
 have:=this 64 l sl fun x hx=>by have:=h x hx;omega
 omega
end Go.Proofs.YtgdoiokalfhjoaaGreatDoor
end
