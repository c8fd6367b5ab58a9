/- Own work (by an AI agent; no person has read it): part of a proof of the seat YtgdoiokalfhjoaaGreatDoor. -/
import Derived.Test.YtgdoiokalfhjoaaGreatDoorYbi
set_option linter.unusedSimpArgs false
set_option linter.unusedVariables false
set_option maxRecDepth 100000
set_option maxHeartbeats 10000000
section
namespace Go.Proofs.YtgdoiokalfhjoaaGreatDoor
open Go.Ab
theorem b0H(a:List Int)(x:Int):(c7 (a++[x])).take (a.length+1)=c7 (a++[x]):=by rw[show a.length+1=(a++[x]).length by simp,N1]
theorem b0F(a:List Int)(x:Int):(c7 (x::a)).take (a.length+1)=c7 (x::a):=N1 (x::a)
theorem b0G(a:List Int)(x:Int):(c7 (x::a)).take (1+a.length)=c7 (x::a):=by rw[Nat.add_comm];exact N1 (x::a)
theorem b3U(a:List Int)(x:Int):(a++[x]).length=a.length+1:=by simp
theorem c0F(x:e7):x.av.drop 2= .v (.int .i64 x.n)::x.av.drop 3:=rfl
theorem b3K(a:Int)(l:List Int):[.v (.int .i64 a)]::c7 l=c7 (a::l):=rfl
theorem b27(B:List b6)(b:Nat)(x:AV):(o0 B).modify b (fun e=>o6 e 0 [x])=dD B b x:=rfl
theorem b3J(I:List e7)(i:Nat)(n:Int):(c6 I).modify i (fun e=>o6 e 2 [.v (.int .i64 n)])=c6 (I.set i {I.getD i I0 with n:=n}):=by
 apply List.ext_getElem?
 intro j
 unfold c6
 rw[List.getElem?_modify,List.getElem?_map,List.getElem?_map,List.getElem?_set]
 by_cases h:i=j
 ·subst h
  by_cases h2:i<I.length
  ·simp [h2,o6,e7.av]
  ·simp [h2]
 ·simp [h]
theorem c39(D:Code)(b:Nat)(I:List e7):(D.put b I).av=[.v (.int .i64 D.group),.v (.int .i64 D.sub),.v (.int .i64 D.regs),.v (.int .i64 D.w5),.v (.int .i64 D.params),.a8 false (y4 D.c9),.a8 false (Proofs.YtgdoiokalfhjoaaGreatDoor.loops D.loops),.a8 false (o0 (D.b.set b ⟨I,(D.b.getD b B0).t⟩))]:=rfl
def aR:=ZZ.mk (Zq a2w.d (Zq a67.d (Zq @c0F (Zq @b3J (Zq @b0H (Zq @b0F (Zq @b0G (Zq @b3U (Zq @a2Z (Zq @b3K (Zq @eP (Zq @B4 (Zq @dA (Zq @cV (Zq @N1 (Zq @a7o (Zq @sS (Zq @eX (Zq @cB (Zq @nQ @fH))))))))))))))))))))
def a64:=ZZ.mk (Zq aR.d (Zq @b53 @b51))
def a2y:=ZZ.mk (Zq a64.d (Zq @e7.av.eq_1 (Zq @lY @b27)))
def mW:=ZZ.mk (Zq a2y.d @aB)
theorem b4u(L:List Int)(c:Code)(hT:jJ c)(hs0:c.w5=0)(CE:e8 Tryz.prog 41 [] (fun _=> .v (.bool true)) (fun _=>[]))(CM:e8 Tryz.prog 42 [.agg [.a8 false (eR L)]] (fun _=> .agg c.av) (fun _=>[]))(n:Int)(hn:0≤n∧n<65536)(w0 w1 w2:Int)(h0:0≤w0∧w0<256)(h1:0≤w1∧w1<256)(h2:0≤w2∧w2<256):
  e8 Tryz.prog 12 [.agg [.a8 false (eR L)],.v (.int .u16 n),.agg [.v (.int .u8 w0),.v (.int .u8 w1),.v (.int .u8 w2)]] (fun _=> .v (.bool true)) (fun _=>[]):=by
 have ho:=hT.s.ok
 have hn18:=ho.n
 have hr:=ho.r
 have hr12:=hT.s.r
 have hsl:=hT.s.l
 obtain⟨j,hj⟩:∃j:Nat,Int.tmod w0 6=(j:Int):=⟨(Int.tmod w0 6).toNat,by rw[cH _ _ h0.1];omega⟩
 have hj6:j<6:=by rw[cH _ _ h0.1]at hj;omega
 have wj:IntKind.u64.wrap (j:Int)=(j:Int):=Z9 (by omega)
 have hSm:=b2z ho n
 have hSm':=b2z ho (qN .u16 n (kE .u16 1 (j:Int)))
 have M1:=a8A c n ho
 have M3:=a8A c (qN .u16 n (kE .u16 1 (j:Int))) ho
 have hlen:someF c n≠someF c (qN .u16 n (kE .u16 1 (j:Int)))→_:=a8P hn (show j<16 by omega) (show c.regs.toNat≤16 by omega)
 obtain⟨l,hS⟩:∃l,l=someF c n:=⟨_,rfl⟩
 obtain⟨l',hS'⟩:∃l',l'=someF c (qN .u16 n (kE .u16 1 (j:Int))):=⟨_,rfl⟩
 rw[←hS,←hS']at hlen
 rw[←hS]at hSm M1
 rw[←hS']at hSm' M3
 have hlen:l≠l'→l.length≠l'.length:=fun q=>by have:=hlen q;rw[hS,hS'];exact this
 clear hS hS'
 have hSl:=hSm.len ho
 have hSl':=hSm'.len ho
 have M2:=a8B c l (by omega) hT.a hT.l (fun b hb=>by have:=hsl b hb;omega) (by omega) (by omega) (fun q hq=>(hSm.r q hq).1)
 have hDR:=hT.a4E l
 have hck:=bX (d:=n8 c l) hSm
 rw[if_pos rfl]at hck
 have k1:l≠l'→checkF c (n8 c l) l'=100:=fun q=>by rw[bX hSm',if_neg (yV hs0 (hlen q))]
 have k2:0<l.length→checkF c (n8 c l) (l++[l.getD 0 0])=100:=fun q=>pJ (b5Y q)
 have k3:0<l.length→checkF c (n8 c l) (l.drop 1)=100:=fun q=>by rw[bX (c1A hSm),if_neg (yV hs0 (by rw[List.length_drop];omega))]
 have k4:checkF c (n8 c l) (-1::l)=100:=pJ (c0j l)
 have k5:∀d,¬n8 c l=d→checkF c d l=100:=fun d q=>by rw[bX hSm,if_neg q]
 obtain⟨d1,d2,d3⟩:=mC hT.s l
 obtain⟨q1,q2⟩:=rL c l
 have hdl:(n8 c l).b.length=c.b.length:=by unfold n8;split<;>simp
 have ha:=hT.a
 have hlo:=hT.l
 rw[←q1]at ha
 rw[←q2]at hlo
 obtain⟨D,hD⟩:∃D,n8 c l=D:=⟨_,rfl⟩
 rw[hD]at M2 hDR hck k1 k2 k3 k4 d3 hdl ha hlo
 simp only[hD]at k5
 have P0:=O1 c D l hT hDR (by omega)
 rw[hck]at P0
 have P1:=O1 c D l' hT hDR (by omega)
 have P2:=O1 c D (l++[l.getD 0 0]) hT hDR (by simp;omega)
 have P3:=O1 c D (l.drop 1) hT hDR (by simp;omega)
 have P4:=O1 c D (-1::l) hT hDR (by simp;omega)
 rw[k4]at P4
 have K8:=b7N l l' (by omega)
 obtain⟨b,hb⟩:∃b:Nat,Int.tmod w1 (D.b.length:Int)=(b:Int):=⟨(Int.tmod w1 (D.b.length:Int)).toNat,by rw[cH _ _ h1.1];have:=Int.emod_nonneg w1 (show(D.b.length:Int)≠0 by omega);omega⟩
 have hbl:b<D.b.length:=by rw[cH _ _ h1.1]at hb;have:=Int.emod_lt_of_pos w1 (show(0:Int)<(D.b.length:Int) by omega);omega
 have hIl:=d3 (D.b.getD b B0) (by rw[List.getD_eq_getElem?_getD,List.getElem?_eq_getElem hbl];exact List.getElem_mem hbl)
 have C1:=b4c D b hbl (by omega) ha hlo (fun x hx=>by have:=d3 x hx;omega)
 have C2:=a8z D (by omega) ha hlo (fun x hx=>by have:=d3 x hx;omega)
 have k6:∀I,I≠(D.b.getD b B0).i→I.length≤1000→e8 Tryz.prog 49 [.agg c.av,.agg (D.put b I).av,.agg [.a8 false (c7 l)]] (fun _=> .v (.int .i64 100)) (fun _=>[]):=fun I q1 q2=>by
  have:=O1 c (D.put b I) l hT (c5p hDR (by omega)) (by omega)
  rw[k5 _ (c4a hbl q1)]at this
  exact this
 obtain⟨I,hI⟩:∃I,I=(D.b.getD b B0).i:=⟨_,rfl⟩
 rw[←hI]at hIl k6 C1
 have hIe:=hI.symm
 have hz2:(1+l.length≤l.length+1)=True:=eq_true (by omega)
 clear d3 k5 hD q1 q2 d1 d2
 by_cases hI0:I=[]
 ·have hIz:((I.length:Int)=0)=True:=eq_true (by rw[hI0];rfl)
  simp only[Code.av]at CM M1 M2 M3 P0 P1 P2 P3 P4
  by_cases hll:l=l'
  all_goals by_cases hl0:0<l.length
  all_goals
   first|(rw[show a8L l l'=true from decide_eq_true hll]at K8)|(rw[show a8L l l'=false from decide_eq_false hll,k1 hll]at*)
   first|(rw[k2 hl0]at P2;rw[k3 hl0]at P3;have hz:((0:Int)<l.length)=True:=eq_true (by omega);have htk:List.take ((l.length:Int)-1).toNat (c7 (l.drop 1))=c7 (l.drop 1):=List.take_of_length_le (by rw[I2,List.length_drop];omega))|(have hz:((0:Int)<l.length)=False:=eq_false (by omega);have htk:=trivial)
   refine Zf Tryz.func12 Tryz.ntmps12 ?_
   repeat' (first|refine Za ?_|(with_reducible constructor<;>first|intro N hN mk hmk|intro N hN|intro h)|refine Zc CE ?_|refine Zc CM ?_|refine Zc M1 ?_|refine Zc M2 ?_|refine Zc M3 ?_|refine Zc K8 ?_|refine Zc P0 ?_|refine Zc P1 ?_|(refine cS P2 rfl ?_ rfl ?_;(next=>(simp (disch:=omega) only[aR.d,hIz,hj,wj,hb,hz,hz2,htk,hIe,u6,Nat.reduceBEq,AV.plain,Nat.reduceAdd,Nat.reduceLeDiff,Nat.reduceLT,↓reduceIte,sF]<;>first|done|rfl)))|(refine bL P2 rfl ?_ rfl ?_;(next=>(simp (disch:=omega) only[aR.d,hIz,hj,wj,hb,hz,hz2,htk,hIe,u6,Nat.reduceBEq,AV.plain,Nat.reduceAdd,Nat.reduceLeDiff,Nat.reduceLT,↓reduceIte,sF]<;>first|done|rfl)))|refine Zc P3 ?_|(refine cS P4 rfl ?_ rfl ?_;(next=>(simp (disch:=omega) only[aR.d,hIz,hj,wj,hb,hz,hz2,htk,hIe,u6,Nat.reduceBEq,AV.plain,Nat.reduceAdd,Nat.reduceLeDiff,Nat.reduceLT,↓reduceIte,sF]<;>first|done|rfl)))|(refine bL P4 rfl ?_ rfl ?_;(next=>(simp (disch:=omega) only[aR.d,hIz,hj,wj,hb,hz,hz2,htk,hIe,u6,Nat.reduceBEq,AV.plain,Nat.reduceAdd,Nat.reduceLeDiff,Nat.reduceLT,↓reduceIte,sF]<;>first|done|rfl)))|refine Zt (Zq aR.d (Zq hIz (Zq hj (Zq wj (Zq hb (Zq hz (Zq hz2 (Zq htk hIe)))))))) ?_|fail)
   all_goals first|exact absurd trivial (by assumption)|exact absurd rfl (by assumption)|skip
 ·have hIp:0<I.length:=List.length_pos_iff.2 hI0
  obtain⟨i,hi⟩:∃i:Nat,Int.tmod w2 (I.length:Int)=(i:Int):=⟨(Int.tmod w2 (I.length:Int)).toNat,by rw[cH _ _ h2.1];have:=Int.emod_nonneg w2 (show(I.length:Int)≠0 by omega);omega⟩
  have hil:i<I.length:=by rw[cH _ _ h2.1]at hi;have:=Int.emod_lt_of_pos w2 (show(0:Int)<(I.length:Int) by omega);omega
  have Q1:=k6 _ (c3V hil) (by rw[List.length_set];omega)
  have Q2:=k6 _ (b9V (I.getD i I0)) (by rw[List.length_append];simp;omega)
  rw[c39]at Q1 Q2
  simp only[Code.av]at CM M1 M2 M3 P0 P1 P2 P3 P4 C1 C2 Q1 Q2
  by_cases hll:l=l'
  all_goals by_cases hl0:0<l.length
  all_goals
   first|(rw[show a8L l l'=true from decide_eq_true hll]at K8)|(rw[show a8L l l'=false from decide_eq_false hll,k1 hll]at*)
   first|(rw[k2 hl0]at P2;rw[k3 hl0]at P3;have hz:((0:Int)<l.length)=True:=eq_true (by omega);have htk:List.take ((l.length:Int)-1).toNat (c7 (l.drop 1))=c7 (l.drop 1):=List.take_of_length_le (by rw[I2,List.length_drop];omega))|(have hz:((0:Int)<l.length)=False:=eq_false (by omega);have htk:=trivial)
   refine Zf Tryz.func12 Tryz.ntmps12 ?_
   repeat' (first|(guard_target=~ AK Tryz.prog (Go.Code.seq (Go.Code.region 18 _ _) _) _ _ _;(refine Go.Ab.W0.out ?_))|(guard_target=~ AK Tryz.prog (Go.Code.seq (Go.Code.region 12 _ _) _) _ _ _;(try refine Zs (Zq aR.d (Zq hj (Zq wj (Zq hb (Zq hi (Zq hz (Zq hz2 (Zq htk hIe)))))))) ?_);guard_target=~ AK Tryz.prog (Go.Code.seq (Go.Code.region 12 _ _) _) _ (Go.Ab.LS.mk _ _ 632) _;refine u9 (Zw [3,5,6,7,8,9,10] [0,8,72,144] (Zq aR.d (Zq hj (Zq wj (Zq hb (Zq hi (Zq hz (Zq hz2 (Zq htk hIe)))))))) rfl) ?_)|(guard_target=~ AK Tryz.prog (Go.Code.seq (Go.Code.region 12 _ _) _) _ _ _;(try refine Zs (Zq aR.d (Zq hj (Zq wj (Zq hb (Zq hi (Zq hz (Zq hz2 (Zq htk hIe)))))))) ?_);guard_target=~ AK Tryz.prog (Go.Code.seq (Go.Code.region 12 _ _) _) _ (Go.Ab.LS.mk _ _ 584) _;refine u9 (Zw [3,5,6,7,8,9,10] [0,8,72,144] (Zq aR.d (Zq hj (Zq wj (Zq hb (Zq hi (Zq hz (Zq hz2 (Zq htk hIe)))))))) rfl) ?_)|(guard_target=~ AK Tryz.prog (Go.Code.seq (Go.Code.region 12 _ _) _) _ _ _;(try refine Zs (Zq aR.d (Zq hj (Zq wj (Zq hb (Zq hi (Zq hz (Zq hz2 (Zq htk hIe)))))))) ?_);guard_target=~ AK Tryz.prog (Go.Code.seq (Go.Code.region 12 _ _) _) _ (Go.Ab.LS.mk _ _ 376) _;refine u9 (Zw [3,5,6,7,8,9,10] [0,8,72,144] (Zq aR.d (Zq hj (Zq wj (Zq hb (Zq hi (Zq hz (Zq hz2 (Zq htk hIe)))))))) rfl) ?_)|(guard_target=~ AK Tryz.prog (Go.Code.seq (Go.Code.region 12 _ _) _) _ _ _;(try refine Zs (Zq aR.d (Zq hj (Zq wj (Zq hb (Zq hi (Zq hz (Zq hz2 (Zq htk hIe)))))))) ?_);guard_target=~ AK Tryz.prog (Go.Code.seq (Go.Code.region 12 _ _) _) _ (Go.Ab.LS.mk _ _ 328) _;refine u9 (Zw [3,5,6,7,8,9,10] [0,8,72,144] (Zq aR.d (Zq hj (Zq wj (Zq hb (Zq hi (Zq hz (Zq hz2 (Zq htk hIe)))))))) rfl) ?_)|refine Za ?_|(with_reducible constructor<;>first|intro N hN mk hmk|intro N hN|intro h)|refine Zc CE ?_|refine Zc CM ?_|refine Zc M1 ?_|refine Zc M2 ?_|refine Zc M3 ?_|refine Zc K8 ?_|refine Zc P0 ?_|refine Zc P1 ?_|(refine cS P2 rfl ?_ rfl ?_;(next=>(simp (disch:=omega) only[aR.d,hj,wj,hb,hi,hz,hz2,htk,hIe,u6,Nat.reduceBEq,AV.plain,Nat.reduceAdd,Nat.reduceLeDiff,Nat.reduceLT,↓reduceIte,sF]<;>first|done|rfl)))|(refine bL P2 rfl ?_ rfl ?_;(next=>(simp (disch:=omega) only[aR.d,hj,wj,hb,hi,hz,hz2,htk,hIe,u6,Nat.reduceBEq,AV.plain,Nat.reduceAdd,Nat.reduceLeDiff,Nat.reduceLT,↓reduceIte,sF]<;>first|done|rfl)))|refine Zc P3 ?_|(refine cS P4 rfl ?_ rfl ?_;(next=>(simp (disch:=omega) only[aR.d,hj,wj,hb,hi,hz,hz2,htk,hIe,u6,Nat.reduceBEq,AV.plain,Nat.reduceAdd,Nat.reduceLeDiff,Nat.reduceLT,↓reduceIte,sF]<;>first|done|rfl)))|(refine bL P4 rfl ?_ rfl ?_;(next=>(simp (disch:=omega) only[aR.d,hj,wj,hb,hi,hz,hz2,htk,hIe,u6,Nat.reduceBEq,AV.plain,Nat.reduceAdd,Nat.reduceLeDiff,Nat.reduceLT,↓reduceIte,sF]<;>first|done|rfl)))|(refine H5 C1 ?_ rfl ?_ ?_;(next=>(simp (disch:=omega) only[aR.d,hj,wj,hb,hi,hz,hz2,htk,hIe,u6,Nat.reduceBEq,AV.plain,Nat.reduceAdd,Nat.reduceLeDiff,Nat.reduceLT,↓reduceIte,sF]<;>first|done|rfl));(next=>(simp only[apply_ite List.length,List.length_cons,List.length_nil]<;>(try split)<;>omega)))|(refine F1 C1 ?_ rfl ?_ ?_;(next=>(simp (disch:=omega) only[aR.d,hj,wj,hb,hi,hz,hz2,htk,hIe,u6,Nat.reduceBEq,AV.plain,Nat.reduceAdd,Nat.reduceLeDiff,Nat.reduceLT,↓reduceIte,sF]<;>first|done|rfl));(next=>(simp only[apply_ite List.length,List.length_cons,List.length_nil]<;>(try split)<;>omega)))|refine Zt (Zq aR.d (Zq hj (Zq wj (Zq hb (Zq hi (Zq hz (Zq hz2 (Zq htk hIe)))))))) ?_|fail)
   all_goals first|exact absurd trivial (by assumption)|exact absurd rfl (by assumption)|skip
   all_goals
    refine⟨?_⟩
    obtain⟨I1,hI1⟩:∃I1,I1=I.set i {I.getD i I0 with n:=wrap ((I.getD i I0).n+1)}:=⟨_,rfl⟩
    have q1:List.take I.length (c6 I1)=c6 I1:=List.take_of_length_le (by rw[O3,hI1,List.length_set];exact Nat.le_refl _)
    have q2:∀y,List.take D.b.length (o0 (D.b.set b y))=o0 (D.b.set b y):=fun y=>List.take_of_length_le (by rw[D4,List.length_set];exact Nat.le_refl _)
    have q3:∀y,(D.b.set b y).length=D.b.length:=fun y=>List.length_set
    have q4:I1.length=I.length:=by rw[hI1,List.length_set]
    rw[←hI1]at Q1⊢
    clear hI1
    refine u9 (V3 236 b 0 6 (.own 237 0 I.length) (.a8 false (c6 I1)) rfl (by rw[sS _ _ _ hbl];rfl) (by simp (maxSteps:=10000000) (disch:=omega) only[u6,a64.d,q1,q2,q3,q4,hj,wj,hb,hi,hz,hz2,htk,hIe,l9,P7,s9,A2,p7,o3,AV.kept,b7,n4,u0,B3,p9,o9,b8,AV.y8,m8,v8,AV.plain,rd,u6,a6,P6,stepC,AV.e6,AV.S9,AV.w6,AV.L8,AV.scalar,T8,s6,A6,A9,B1,A8,o8,A5,U0,s7,A7,z8,j3,T7,l0,y7,y5,Q0,z6,j8,TD.isRow,s8,j7,j9,j6,F4,Value.oneCell',↓reduceIte,Int.reduceNe,Int.reduceEq,Nat.reduceAdd,Nat.reduceLT,Nat.reduceLeDiff,Nat.reduceSub,Nat.reduceMul,Nat.reduceBEq,Nat.reduceEqDiff,reduceCtorEq,Int.reduceToNat,←decide_not,←Bool.decide_and,sA,sN]<;>first|done|rfl)) ?_
    simp (maxSteps:=10000000) (disch:=omega) only[a6,n4,y0,F4,a64.d,q1,q2,q3,q4,hj,wj,hb,hi,hz,hz2,htk,hIe,l9,P7,s9,A2,p7,o3,AV.kept,b7,n4,u0,B3,p9,o9,b8,AV.y8,m8,v8,AV.plain,rd,u6,a6,P6,stepC,AV.e6,AV.S9,AV.w6,AV.L8,AV.scalar,T8,s6,A6,A9,B1,A8,o8,A5,U0,s7,A7,z8,j3,T7,l0,y7,y5,Q0,z6,j8,TD.isRow,s8,j7,j9,j6,F4,Value.oneCell',↓reduceIte,Int.reduceNe,Int.reduceEq,Nat.reduceAdd,Nat.reduceLT,Nat.reduceLeDiff,Nat.reduceSub,Nat.reduceMul,Nat.reduceBEq,Nat.reduceEqDiff,reduceCtorEq,Int.reduceToNat,←decide_not,←Bool.decide_and,sA,sN]
    refine u9 (V3 244 0 7 6 (.own 236 0 D.b.length) (.a8 false (o0 (D.b.set b ⟨I1,(D.b.getD b B0).t⟩))) rfl rfl (by simp (maxSteps:=10000000) (disch:=omega) only[u6,a64.d,q1,q2,q3,q4,hj,wj,hb,hi,hz,hz2,htk,hIe,l9,P7,s9,A2,p7,o3,AV.kept,b7,n4,u0,B3,p9,o9,b8,AV.y8,m8,v8,AV.plain,rd,u6,a6,P6,stepC,AV.e6,AV.S9,AV.w6,AV.L8,AV.scalar,T8,s6,A6,A9,B1,A8,o8,A5,U0,s7,A7,z8,j3,T7,l0,y7,y5,Q0,z6,j8,TD.isRow,s8,j7,j9,j6,F4,Value.oneCell',↓reduceIte,Int.reduceNe,Int.reduceEq,Nat.reduceAdd,Nat.reduceLT,Nat.reduceLeDiff,Nat.reduceSub,Nat.reduceMul,Nat.reduceBEq,Nat.reduceEqDiff,reduceCtorEq,Int.reduceToNat,←decide_not,←Bool.decide_and,sA,sN]<;>first|done|rfl)) ?_
    simp (maxSteps:=10000000) (disch:=omega) only[a6,n4,y0,F4,a64.d,q1,q2,q3,q4,hj,wj,hb,hi,hz,hz2,htk,hIe,l9,P7,s9,A2,p7,o3,AV.kept,b7,n4,u0,B3,p9,o9,b8,AV.y8,m8,v8,AV.plain,rd,u6,a6,P6,stepC,AV.e6,AV.S9,AV.w6,AV.L8,AV.scalar,T8,s6,A6,A9,B1,A8,o8,A5,U0,s7,A7,z8,j3,T7,l0,y7,y5,Q0,z6,j8,TD.isRow,s8,j7,j9,j6,F4,Value.oneCell',↓reduceIte,Int.reduceNe,Int.reduceEq,Nat.reduceAdd,Nat.reduceLT,Nat.reduceLeDiff,Nat.reduceSub,Nat.reduceMul,Nat.reduceBEq,Nat.reduceEqDiff,reduceCtorEq,Int.reduceToNat,←decide_not,←Bool.decide_and,sA,sN]
    repeat' (first|(guard_target=~ AK Tryz.prog (Go.Code.seq (Go.Code.region 20 _ _) _) _ _ _;(refine Go.Ab.W0.out ?_))|(guard_target=~ AK Tryz.prog (Go.Code.seq (Go.Code.region 18 _ _) _) _ _ _;(try refine Zs (Zq a2y.d (Zq q1 (Zq q2 (Zq q3 (Zq q4 (Zq hj (Zq wj (Zq hb (Zq hi (Zq hz (Zq hz2 (Zq htk hIe)))))))))))) ?_);guard_target=~ AK Tryz.prog (Go.Code.seq (Go.Code.region 18 _ _) _) _ (Go.Ab.LS.mk _ _ 372) _;refine u9 (Zw [3,5,6,7,8,9,10,12,13,14] [0,1,2,3,244] (Zq a2y.d (Zq q1 (Zq q2 (Zq q3 (Zq q4 (Zq hj (Zq wj (Zq hb (Zq hi (Zq hz (Zq hz2 (Zq htk hIe)))))))))))) rfl) ?_)|refine Za ?_|(with_reducible constructor<;>first|intro N hN mk hmk|intro N hN|intro h)|(refine H5 C2 ?_ rfl ?_ ?_;(next=>(simp (disch:=omega) only[a2y.d,q1,q2,q3,q4,hj,wj,hb,hi,hz,hz2,htk,hIe,u6,Nat.reduceBEq,AV.plain,Nat.reduceAdd,Nat.reduceLeDiff,Nat.reduceLT,↓reduceIte,sF]<;>first|done|rfl));(next=>(simp only[apply_ite List.length,List.length_cons,List.length_nil]<;>(try split)<;>omega)))|(refine F1 C2 ?_ rfl ?_ ?_;(next=>(simp (disch:=omega) only[a2y.d,q1,q2,q3,q4,hj,wj,hb,hi,hz,hz2,htk,hIe,u6,Nat.reduceBEq,AV.plain,Nat.reduceAdd,Nat.reduceLeDiff,Nat.reduceLT,↓reduceIte,sF]<;>first|done|rfl));(next=>(simp only[apply_ite List.length,List.length_cons,List.length_nil]<;>(try split)<;>omega)))|refine Zt (Zq a2y.d (Zq q1 (Zq q2 (Zq q3 (Zq q4 (Zq hj (Zq wj (Zq hb (Zq hi (Zq hz (Zq hz2 (Zq htk hIe)))))))))))) ?_|fail)
    refine⟨?_⟩
    have q5:∀x,List.take (I.length+1) (c6 (I++[x]))=c6 (I++[x]):=fun x=>List.take_of_length_le (by rw[O3,List.length_append];exact Nat.le_refl _)
    have q6:∀x:e7,(I++[x]).length=I.length+1:=fun x=>by simp
    refine u9 (V3 13 b 0 6 (.own 205 0 (I.length+1)) (.a8 false (c6 (I++[I.getD i I0]))) rfl (by rw[sS _ _ _ hbl];rfl) (by simp (maxSteps:=10000000) (disch:=omega) only[u6,mW.d,q5,q6,q1,q2,q3,q4,hj,wj,hb,hi,hz,hz2,htk,hIe,l9,P7,s9,A2,p7,o3,AV.kept,b7,n4,u0,B3,p9,o9,b8,AV.y8,m8,v8,AV.plain,rd,u6,a6,P6,stepC,AV.e6,AV.S9,AV.w6,AV.L8,AV.scalar,T8,s6,A6,A9,B1,A8,o8,A5,U0,s7,A7,z8,j3,T7,l0,y7,y5,Q0,z6,j8,TD.isRow,s8,j7,j9,j6,F4,Value.oneCell',↓reduceIte,Int.reduceNe,Int.reduceEq,Nat.reduceAdd,Nat.reduceLT,Nat.reduceLeDiff,Nat.reduceSub,Nat.reduceMul,Nat.reduceBEq,Nat.reduceEqDiff,reduceCtorEq,Int.reduceToNat,←decide_not,←Bool.decide_and,sA,sN]<;>first|done|rfl)) ?_
    simp (maxSteps:=10000000) (disch:=omega) only[a6,n4,y0,F4,mW.d,q5,q6,q1,q2,q3,q4,hj,wj,hb,hi,hz,hz2,htk,hIe,l9,P7,s9,A2,p7,o3,AV.kept,b7,n4,u0,B3,p9,o9,b8,AV.y8,m8,v8,AV.plain,rd,u6,a6,P6,stepC,AV.e6,AV.S9,AV.w6,AV.L8,AV.scalar,T8,s6,A6,A9,B1,A8,o8,A5,U0,s7,A7,z8,j3,T7,l0,y7,y5,Q0,z6,j8,TD.isRow,s8,j7,j9,j6,F4,Value.oneCell',↓reduceIte,Int.reduceNe,Int.reduceEq,Nat.reduceAdd,Nat.reduceLT,Nat.reduceLeDiff,Nat.reduceSub,Nat.reduceMul,Nat.reduceBEq,Nat.reduceEqDiff,reduceCtorEq,Int.reduceToNat,←decide_not,←Bool.decide_and,sA,sN]
    refine u9 (V3 21 0 7 6 (.own 13 0 D.b.length) (.a8 false (o0 (D.b.set b ⟨I++[I.getD i I0],(D.b.getD b B0).t⟩))) rfl rfl (by simp (maxSteps:=10000000) (disch:=omega) only[u6,mW.d,q5,q6,q1,q2,q3,q4,hj,wj,hb,hi,hz,hz2,htk,hIe,l9,P7,s9,A2,p7,o3,AV.kept,b7,n4,u0,B3,p9,o9,b8,AV.y8,m8,v8,AV.plain,rd,u6,a6,P6,stepC,AV.e6,AV.S9,AV.w6,AV.L8,AV.scalar,T8,s6,A6,A9,B1,A8,o8,A5,U0,s7,A7,z8,j3,T7,l0,y7,y5,Q0,z6,j8,TD.isRow,s8,j7,j9,j6,F4,Value.oneCell',↓reduceIte,Int.reduceNe,Int.reduceEq,Nat.reduceAdd,Nat.reduceLT,Nat.reduceLeDiff,Nat.reduceSub,Nat.reduceMul,Nat.reduceBEq,Nat.reduceEqDiff,reduceCtorEq,Int.reduceToNat,←decide_not,←Bool.decide_and,sA,sN]<;>first|done|rfl)) ?_
    simp (maxSteps:=10000000) (disch:=omega) only[a6,n4,y0,F4,mW.d,q5,q6,q1,q2,q3,q4,hj,wj,hb,hi,hz,hz2,htk,hIe,l9,P7,s9,A2,p7,o3,AV.kept,b7,n4,u0,B3,p9,o9,b8,AV.y8,m8,v8,AV.plain,rd,u6,a6,P6,stepC,AV.e6,AV.S9,AV.w6,AV.L8,AV.scalar,T8,s6,A6,A9,B1,A8,o8,A5,U0,s7,A7,z8,j3,T7,l0,y7,y5,Q0,z6,j8,TD.isRow,s8,j7,j9,j6,F4,Value.oneCell',↓reduceIte,Int.reduceNe,Int.reduceEq,Nat.reduceAdd,Nat.reduceLT,Nat.reduceLeDiff,Nat.reduceSub,Nat.reduceMul,Nat.reduceBEq,Nat.reduceEqDiff,reduceCtorEq,Int.reduceToNat,←decide_not,←Bool.decide_and,sA,sN]
    repeat' (first|refine Za ?_|(with_reducible constructor<;>first|intro N hN mk hmk|intro N hN|intro h)|refine Zc Q1 ?_|refine Zc Q2 ?_|(refine H5 C2 ?_ rfl ?_ ?_;(next=>(simp (disch:=omega) only[mW.d,q5,q6,q1,q2,q3,q4,hj,wj,hb,hi,hz,hz2,htk,hIe,u6,Nat.reduceBEq,AV.plain,Nat.reduceAdd,Nat.reduceLeDiff,Nat.reduceLT,↓reduceIte,sF]<;>first|done|rfl));(next=>(simp only[apply_ite List.length,List.length_cons,List.length_nil]<;>(try split)<;>omega)))|(refine F1 C2 ?_ rfl ?_ ?_;(next=>(simp (disch:=omega) only[mW.d,q5,q6,q1,q2,q3,q4,hj,wj,hb,hi,hz,hz2,htk,hIe,u6,Nat.reduceBEq,AV.plain,Nat.reduceAdd,Nat.reduceLeDiff,Nat.reduceLT,↓reduceIte,sF]<;>first|done|rfl));(next=>(simp only[apply_ite List.length,List.length_cons,List.length_nil]<;>(try split)<;>omega)))|(refine cS P0 rfl ?_ rfl ?_;(next=>(simp (disch:=omega) only[mW.d,q5,q6,q1,q2,q3,q4,hj,wj,hb,hi,hz,hz2,htk,hIe,u6,Nat.reduceBEq,AV.plain,Nat.reduceAdd,Nat.reduceLeDiff,Nat.reduceLT,↓reduceIte,sF]<;>first|done|rfl)))|(refine bL P0 rfl ?_ rfl ?_;(next=>(simp (disch:=omega) only[mW.d,q5,q6,q1,q2,q3,q4,hj,wj,hb,hi,hz,hz2,htk,hIe,u6,Nat.reduceBEq,AV.plain,Nat.reduceAdd,Nat.reduceLeDiff,Nat.reduceLT,↓reduceIte,sF]<;>first|done|rfl)))|refine Zt (Zq mW.d (Zq q5 (Zq q6 (Zq q1 (Zq q2 (Zq q3 (Zq q4 (Zq hj (Zq wj (Zq hb (Zq hi (Zq hz (Zq hz2 (Zq htk hIe)))))))))))))) ?_|fail)
    all_goals first|exact absurd trivial (by assumption)|exact absurd rfl (by assumption)|skip
end Go.Proofs.YtgdoiokalfhjoaaGreatDoor
end
