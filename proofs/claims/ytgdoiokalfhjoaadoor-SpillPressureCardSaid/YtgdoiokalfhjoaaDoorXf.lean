/- Own work (by an AI agent; no person has read it): part of a proof of the seat YtgdoiokalfhjoaaDoor. -/
import Derived.Test.YtgdoiokalfhjoaaDoorXe
set_option linter.unusedSimpArgs false
set_option linter.unusedVariables false
set_option maxRecDepth 100000
set_option maxHeartbeats 10000000
section
namespace Go.Proofs.YtgdoiokalfhjoaaDoor
open Go.Ab
def a7Q:=ZZ.mk (Zq @H8.av.eq_1 (Zq @j0 @j3))
theorem tE(i:l0):n5 Tryd.prog 48 [.agg i.av] (fun _=> .c5 false (m8 (w6 i))) (fun _=>[]):=by
 have C:=a77 i.a i.b i.c
 simp only[iN,List.map_cons,List.map_nil,H8.av]at C
 refine Zf Tryd.func48 Tryd.ntmps48 ?_;simp only[l0.av]
 repeat' (first|refine Za ?_|(with_reducible constructor<;>first|intro N hN mk hmk|intro N hN|intro h)|(refine Y0 C ?_ rfl ?_ ?_;(next=>(simp (disch:=omega) only[a7Q.d,B7,Nat.reduceBEq,AV.plain,Nat.reduceAdd,Nat.reduceLeDiff,Nat.reduceLT,↓reduceIte,sF]<;>first|done|rfl));(next=>(simp only[apply_ite List.length,List.length_cons,List.length_nil]<;>(try split)<;>omega)))|(refine U3 C ?_ rfl ?_ ?_;(next=>(simp (disch:=omega) only[a7Q.d,B7,Nat.reduceBEq,AV.plain,Nat.reduceAdd,Nat.reduceLeDiff,Nat.reduceLT,↓reduceIte,sF]<;>first|done|rfl));(next=>(simp only[apply_ite List.length,List.length_cons,List.length_nil]<;>(try split)<;>omega)))|refine Zt a7Q.d ?_|fail)
 all_goals rfl
theorem oU(t:w4):n5 Tryd.prog 49 [.agg t.av] (fun _=> .c5 false (m8 (u9 t))) (fun _=>[]):=by
 have C:=a75 t.a t.b
 simp only[iN,List.map_cons,List.map_nil,H8.av]at C
 refine Zf Tryd.func49 Tryd.ntmps49 ?_;simp only[w4.av]
 repeat' (first|refine Za ?_|(with_reducible constructor<;>first|intro N hN mk hmk|intro N hN|intro h)|(refine Y0 C ?_ rfl ?_ ?_;(next=>(simp (disch:=omega) only[a7Q.d,B7,Nat.reduceBEq,AV.plain,Nat.reduceAdd,Nat.reduceLeDiff,Nat.reduceLT,↓reduceIte,sF]<;>first|done|rfl));(next=>(simp only[apply_ite List.length,List.length_cons,List.length_nil]<;>(try split)<;>omega)))|(refine U3 C ?_ rfl ?_ ?_;(next=>(simp (disch:=omega) only[a7Q.d,B7,Nat.reduceBEq,AV.plain,Nat.reduceAdd,Nat.reduceLeDiff,Nat.reduceLT,↓reduceIte,sF]<;>first|done|rfl));(next=>(simp only[apply_ite List.length,List.length_cons,List.length_nil]<;>(try split)<;>omega)))|refine Zt a7Q.d ?_|fail)
 all_goals rfl
def a4y:=ZZ.mk (Zq @N4.eq_1 (Zq @j0 @j3))
theorem tF(l:List Int)(n:Int)(hl:aW l)(hn:n<64):n5 Tryd.prog 25 [N4 l,.v (.int .i64 n)] (fun _=>N4 (bQ l n)) (fun _=>[]):=by
 by_cases h:0≤n
 ·have e1:Int.tdiv n 64=0:=Int.tdiv_eq_zero_of_lt h hn
  have e2:Int.tmod n 64=n:=Int.tmod_eq_of_lt h hn
  have e3:=b3I hl ⟨h,hn⟩
  have e4:bQ l n=F6 l n:=by unfold bQ;rw[if_neg (by omega)]
  refine Zf Tryd.func25 Tryd.ntmps25 ?_;simp only[N4]
  repeat' (first|refine Za ?_|(with_reducible constructor<;>first|intro N hN mk hmk|intro N hN|intro h)|refine Zt (Zq a4y.d (Zq e1 (Zq e2 (Zq e3 e4)))) ?_|fail)
  all_goals rfl
 ·have e4:bQ l n=l:=by unfold bQ;rw[if_pos (by omega)]
  refine Zf Tryd.func25 Tryd.ntmps25 ?_;simp only[N4]
  repeat' (first|refine Za ?_|(with_reducible constructor<;>first|intro N hN mk hmk|intro N hN|intro h)|refine Zt (Zq a4y.d e4) ?_|fail)
  all_goals rfl
theorem qA(l:List Int)(n:Int)(hl:aW l)(hn:n<64):n5 Tryd.prog 46 [N4 l,.v (.int .i64 n)] (fun _=>N4 (S6 l n)) (fun _=>[]):=by
 by_cases h:0≤n
 ·have e1:Int.tdiv n 64=0:=Int.tdiv_eq_zero_of_lt h hn
  have e2:Int.tmod n 64=n:=Int.tmod_eq_of_lt h hn
  have e3:=sU hl ⟨h,hn⟩
  refine Zf Tryd.func46 Tryd.ntmps46 ?_;simp only[N4]
  repeat' (first|refine Za ?_|(with_reducible constructor<;>first|intro N hN mk hmk|intro N hN|intro h)|refine Zt (Zq a4y.d (Zq e1 (Zq e2 e3))) ?_|fail)
  all_goals rfl
 ·have e4:S6 l n=l:=by
   unfold S6
   refine List.filter_eq_self.2 fun x hx=>?_
   have:=(hl x hx).1
   simp;omega
  refine Zf Tryd.func46 Tryd.ntmps46 ?_;simp only[N4]
  repeat' (first|refine Za ?_|(with_reducible constructor<;>first|intro N hN mk hmk|intro N hN|intro h)|refine Zt (Zq a4y.d e4) ?_|fail)
  all_goals rfl
def b7G:=ZZ.mk (Zq a4y.d @X0)
theorem oT(a b:List Int)(ha:aW a)(hb:aW b):n5 Tryd.prog 47 [N4 a,N4 b] (fun _=>N4 (E4 a b)) (fun _=>[]):=by
 have e3:=b1T ha hb
 have e4:=b7e
 refine Zf Tryd.func47 Tryd.ntmps47 ?_;simp only[N4]
 repeat' (first|refine Za ?_|(with_reducible constructor<;>first|intro N hN mk hmk|intro N hN|intro h)|(guard_target=~ AK Tryd.prog _ _ _ _;refine y3 [(),(),(),(),()] ?_)|refine oG (Zq b7G.d (Zq e3 e4)) ?_|fail)
 all_goals rfl
theorem b3G(l:List Int)(i:Nat)(h:i<l.length):E4 [] (l.take (i+1))=F6 (E4 [] (l.take i)) (l.getD i 0):=a5Y [] l i h
def a9Y:=ZZ.mk (Zq a4y.d (Zq @F9 (Zq @V1 (Zq @O4 (Zq @bF @j4)))))
theorem a0B(l:List Int)(hl:aW l)(hn:l.length≤100000):n5 Tryd.prog 22 [.c5 false (m8 l)] (fun _=>N4 (E4 [] l)) (fun _=>[]):=by
 refine Zf Tryd.func22 Tryd.ntmps22 ?_
 repeat' (first|refine Za ?_|(with_reducible constructor<;>first|intro N hN mk hmk|intro N hN|intro h)|refine Zt a9Y.d ?_|fail)
 refine v7 (fun i=>⟨[.c5 false (m8 l),.Z,.ptr 0 0 0,.ptr 1 0 0,.Z,.Z,.c5 false (m8 l),.v (.int .i64 l.length),.v (.int .i64 i),.Z,.Z,.Z,.Z,.Z,.Z,.Z,.Z],[(0,.live ⟨4,[[.v (.int .u64 0),.v (.int .u64 0),.v (.int .u64 0),.v (.int .u64 0)]],0⟩),(1,.live ⟨4,[[.v (.int .u64 (E1 (E4 [] (l.take i)))),.v (.int .u64 0),.v (.int .u64 0),.v (.int .u64 0)]],0⟩)],2⟩) l.length (Zw [0,2,3,6,7,8] [0,8] a9Y.d ?_) ?_
 ·simp [E4,E1]
 ·intro i hi
  by_cases hlt:i<l.length
  ·have hm:l.getD i 0∈l:=by rw[List.getD_eq_getElem?_getD,List.getElem?_eq_getElem hlt];exact List.getElem_mem hlt
   have hr:=hl _ hm
   have hu:aW (E4 [] (l.take i)):=aW.nil.union fun x hx=>hl x (List.mem_of_mem_take hx)
   have C:=tF (E4 [] (l.take i)) (l.getD i 0) hu hr.2
   rw[show bQ (E4 [] (l.take i)) (l.getD i 0)=E4 [] (l.take (i+1))from by rw[b3G l i hlt,bQ,if_neg (by omega)]]at C
   repeat' (first|refine Za ?_|(with_reducible constructor<;>first|intro N hN mk hmk|intro N hN|intro h)|refine Zc C ?_|refine Zt a9Y.d ?_|fail)
   refine Zw [0,2,3,6,7,8] [0,1] a9Y.d ?_
   rfl
  ·obtain rfl:i=l.length:=by omega
   repeat' (first|refine Za ?_|(with_reducible constructor<;>first|intro N hN mk hmk|intro N hN|intro h)|refine Zt a9Y.d ?_|fail)
   rw[List.take_length]
theorem a4t{a l:List Int}(ha:N1 a):E4 a (E4 [] l)=E4 a l:=by
 refine N1.ext (cR ha) (cR ha) fun x=>?_
 rw[T6,T6,T6];simp
theorem sZ(x:l0)(l:List Int)(hl:aW l)(sl:N1 l)(hd:Q7 x<64)(hu:aW (w6 x)):n5 Tryd.prog 27 [.agg x.av,N4 l] (fun _=>N4 (U4 x l)) (fun _=>[]):=by
 have C1:=rG x
 have C2:=tE x
 have h1:=fZ x
 have C3:=qA l (Q7 x) hl hd
 have C5:=a0B (w6 x) hu (by omega)
 have C4:=oT (S6 l (Q7 x)) (E4 [] (w6 x)) hl.iF (aW.nil.union hu)
 rw[a4t (fB sl _)]at C4
 simp only[l0.av]at C1 C2
 refine Zf Tryd.func27 Tryd.ntmps27 ?_;simp only[l0.av,N4]
 repeat' (first|refine Za ?_|(with_reducible constructor<;>first|intro N hN mk hmk|intro N hN|intro h)|refine Zc C1 ?_|refine Zc C2 ?_|refine Zc C3 ?_|refine Zc C5 ?_|refine Zc C4 ?_|refine Zt a4y.d ?_|fail)
 all_goals rfl
def b6Q:=ZZ.mk (Zq @j0 @j3)
theorem b4e(L:List l0):n5 Tryd.prog 24 [.c5 false (j5 L)] (fun n=> .fn 44 [.ptr n 0 0]) (fun n=>[⟨1,[[.c5 false (j5 L)]],0⟩]):=by
 (refine iY Tryd.func24 rfl (by kernel_rfl) ?_;rw[mV Tryd.ntmps24];simp only[List.replicate_succ,List.replicate_zero,List.cons_append,List.nil_append,List.length_cons,List.length_nil,Nat.reduceAdd,Nat.reduceSub];refine w5 ?_)
 repeat' (first|refine Za ?_|(with_reducible constructor<;>first|intro N hN mk hmk|intro N hN|intro h)|refine Zt b6Q.d ?_|fail)
 exact⟨[0],by decide,fun nid=>⟨by simp only[c8,n7,b6,e7,n6,y5,AV.plain,Nat.reduceBEq,↓reduceIte,Nat.reduceEqDiff,Nat.reduceAdd,sC],by simp only[c8,n7,b6,e7,n6,y5,AV.plain,Nat.reduceBEq,↓reduceIte,Nat.reduceEqDiff,Nat.reduceAdd,sC]⟩⟩
theorem a0K(L:List l0)(out:List Int):(bX L.length L.length).foldl (fun s i=>U4 (L.getD i I0) s) out=L.foldr U4 out:=by
 have:∀k,k≤L.length→(bX L.length k).foldl (fun s i=>U4 (L.getD i I0) s) out=(L.drop (L.length-k)).foldr U4 out:=by
  intro k
  induction k with
  |zero=>intro _;simp [bX]
  |succ k ih=>
   intro hk
   rw[qF,List.foldl_append,ih (by omega),show L.length-k=(L.length-(k+1))+1 from by omega,List.drop_eq_getElem_cons (i:=L.length-(k+1)) (by omega),List.foldr_cons]
   simp only[List.foldl_cons,List.foldl_nil]
   rw[show L.length-1-k=L.length-(k+1)from by omega,List.getD_eq_getElem?_getD,List.getElem?_eq_getElem (by omega)]
   rfl
 rw[this _ (Nat.le_refl _),Nat.sub_self,List.drop_zero]
theorem a5k(l:List l0)(i:Nat):List.take ((l.length:Int)-i).toNat (List.drop i (j5 l))=j5 (l.drop i):=by
 unfold j5
 rw[←List.map_drop,←List.map_take]
 rw[List.take_of_length_le (by simp)]
def dO(L:List l0)(out:List Int)(pre:List Nat):List Int:=pre.foldl (fun s i=>U4 (L.getD i I0) s) out
theorem sX(L:List l0)(out:List Int)(pre:List Nat)(x:Nat):dO L out (pre++[x])=U4 (L.getD x I0) (dO L out pre):=by
 unfold dO;rw[List.foldl_append];rfl
theorem b0h{L:List l0}(hg:∀x,Q7 (L.getD x I0)<64∧aW (w6 (L.getD x I0))):∀{out:List Int},aW out→N1 out→∀pre:List Nat,aW (dO L out pre)∧N1 (dO L out pre):=by
 intro out ho so pre
 induction pre generalizing out with
 |nil=>exact⟨ho,so⟩
 |cons x pre ih=>exact ih (aW.union ho.iF (hg x).2) (lV so)
theorem a8z{L:List l0}(h:∀x∈L,Q7 x<64∧aW (w6 x))(x:Nat):Q7 (L.getD x I0)<64∧aW (w6 (L.getD x I0)):=by
 by_cases hx:x<L.length
 ·rw[List.getD_eq_getElem?_getD,List.getElem?_eq_getElem hx];exact h _ (List.getElem_mem hx)
 ·rw[List.getD_eq_getElem?_getD,List.getElem?_eq_none (by omega)]
  exact⟨by decide,aW.nil⟩
def vZ:=ZZ.mk (Zq b6Q.d (Zq @w8 (Zq @a5k @p0)))
theorem b0q(b:e8)(out:List Int)(i:Nat)(hi:i≤b.i.length)(hn:b.i.length≤1000)(ho:aW out)(so:N1 out)(hr:∀x∈b.i,Q7 x<64∧aW (w6 x)):
  n5 Tryd.prog 31 [.agg b.av,N4 out,.v (.int .i64 i)] (fun _=>N4 (atF b out i)) (fun _=>[]):=by
 have CB:=b4e (b.i.drop i)
 refine Zf Tryd.func31 Tryd.ntmps31 ?_;simp only[e8.av,w4.av,N4,List.cons_append]
 repeat' (first|refine Za ?_|(with_reducible constructor<;>first|intro N hN mk hmk|intro N hN|intro h)|(refine Y0 CB ?_ rfl ?_ ?_;(next=>(simp (disch:=omega) only[vZ.d,B7,Nat.reduceBEq,AV.plain,Nat.reduceAdd,Nat.reduceLeDiff,Nat.reduceLT,↓reduceIte,sF]<;>first|done|rfl));(next=>(simp only[apply_ite List.length,List.length_cons,List.length_nil]<;>(try split)<;>omega)))|(refine U3 CB ?_ rfl ?_ ?_;(next=>(simp (disch:=omega) only[vZ.d,B7,Nat.reduceBEq,AV.plain,Nat.reduceAdd,Nat.reduceLeDiff,Nat.reduceLT,↓reduceIte,sF]<;>first|done|rfl));(next=>(simp only[apply_ite List.length,List.length_cons,List.length_nil]<;>(try split)<;>omega)))|refine Zt vZ.d ?_|fail)
 refine a4C 13 (y:= .fn 44 [.Z9 [[.c5 false (j5 (b.i.drop i))]] 0 0]) (by simp (maxSteps:=10000000) (disch:=omega) only[vZ.d,w9,bL,D7,L4,B6,x7,AV.kept,e9,u1,D8,N5,B9,B2,n4,AV.J6,x4,E6,AV.plain,rd,B7,b8,bK,stepC,AV.o3,AV.cF,AV.J5,AV.Z0,AV.scalar,cX,D0,M6,M9,N0,M8,A9,M4,cY,D3,M7,L1,s8,cV,u7,I9,I6,bS,K8,u4,TD.isRow,D6,u0,u6,s9,T1,Value.oneCell',↓reduceIte,Int.reduceNe,Int.reduceEq,Nat.reduceAdd,Nat.reduceLT,Nat.reduceLeDiff,Nat.reduceSub,Nat.reduceMul,Nat.reduceBEq,Nat.reduceEqDiff,reduceCtorEq,Int.reduceToNat,←decide_not,←Bool.decide_and,sA,sN]<;>first|done|rfl) rfl ?_;simp (maxSteps:=10000000) (disch:=omega) only[b8,u1,E7,vZ.d,w9,bL,D7,L4,B6,x7,AV.kept,e9,u1,D8,N5,B9,B2,n4,AV.J6,x4,E6,AV.plain,rd,B7,b8,bK,stepC,AV.o3,AV.cF,AV.J5,AV.Z0,AV.scalar,cX,D0,M6,M9,N0,M8,A9,M4,cY,D3,M7,L1,s8,cV,u7,I9,I6,bS,K8,u4,TD.isRow,D6,u0,u6,s9,T1,Value.oneCell',↓reduceIte,Int.reduceNe,Int.reduceEq,Nat.reduceAdd,Nat.reduceLT,Nat.reduceLeDiff,Nat.reduceSub,Nat.reduceMul,Nat.reduceBEq,Nat.reduceEqDiff,reduceCtorEq,Int.reduceToNat,←decide_not,←Bool.decide_and,sA,sN]
 have hg:=a8z (L:=b.i.drop i) fun x hx=>hr x (List.mem_of_mem_drop hx)
 generalize hLd:b.i.drop i=L at*
 refine a6M rfl L (fun pre=>⟨[.Z,.Z,.Z,.Z,.ptr 0 0 0,.Z,.ptr 1 0 0,.Z,.Z,.Z,.Z,.Z,.Z,.fn 44 [.Z9 [[.c5 false (j5 L)]] 0 0],.Z,.Z,.Z,.Z,.Z,.Z],[(0,.live ⟨4,[[.v (.int .u64 (E1 (dO L out pre))),.v (.int .u64 0),.v (.int .u64 0),.v (.int .u64 0)]],0⟩),(1,.live ⟨4,[[.v (.int .u64 0),.v (.int .u64 0),.v (.int .u64 0),.v (.int .u64 0)]],0⟩)],2⟩) 7 [4,6] (by rw[←hLd];simp;omega) rfl (Zw [4,6,13] [8,16] vZ.d rfl) (fun _=>⟨by simp,by simp⟩) (fun _=>rfl) (fun _=>by simp [e9]) (fun pre x hlt=>?_) ?_
 ·obtain⟨h1,h2⟩:=b0h hg ho so pre
  have C:=sZ (L.getD x I0) (dO L out pre) h1 h2 (hg x).1 (hg x).2
  rw[←sX]at C
  generalize L.getD x I0=y at*
  simp only[l0.av,N4]at C
  simp only[b14,LS.tf,List.map_cons,List.map_nil,l0.av]
  repeat' (first|refine Za ?_|(with_reducible constructor<;>first|intro N hN mk hmk|intro N hN|intro h)|refine Zs vZ.d ?_|fail)
  refine⟨rfl,?_⟩
  repeat' (first|refine Za ?_|(with_reducible constructor<;>first|intro N hN mk hmk|intro N hN|intro h)|refine Zc C ?_|refine Zs vZ.d ?_|fail)
  refine a7B 2 rfl ?_ ?_ ?_
  ·simp [e9,C9]
  ·rfl
  ·refine fD (keep:=[4,6,13]) (ids:=[0,1]) (s':=_) (by simp only[C9,x7,Y7,AV.kept,List.map_cons,List.map_nil,List.all_cons,List.all_nil,if_true,if_false,Nat.reduceEqDiff,LS.tf,vZ.d,c8,n7,b6,e7,n6,y5,AV.plain,Nat.reduceBEq,↓reduceIte,Nat.reduceEqDiff,Nat.reduceAdd,sC];rfl) rfl
 ·repeat' (first|refine Za ?_|(with_reducible constructor<;>first|intro N hN mk hmk|intro N hN|intro h)|refine Zt vZ.d ?_|fail)
  rw[show dO L out (bX L.length L.length)=atF b out i from(a0K L out).trans (by rw[←hLd];rfl)]
end Go.Proofs.YtgdoiokalfhjoaaDoor
end
