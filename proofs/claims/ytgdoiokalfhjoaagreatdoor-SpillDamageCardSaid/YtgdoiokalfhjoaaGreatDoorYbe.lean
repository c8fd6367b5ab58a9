/- Own work (by an AI agent; no person has read it): part of a proof of the seat YtgdoiokalfhjoaaGreatDoor. -/
import Derived.Test.YtgdoiokalfhjoaaGreatDoorYbb
set_option linter.unusedSimpArgs false
set_option linter.unusedVariables false
set_option maxRecDepth 100000
set_option maxHeartbeats 10000000
section
namespace Go.Proofs.YtgdoiokalfhjoaaGreatDoor
open Go.Ab
def aO:=ZZ.mk (Zq H8.d (Zq @l7.eq_1 @A1))
theorem a97{K:Exit→LS→Prop}(S SA:MS){z:Int}(hL:y9 S.L)(h0:0≤S.at_∧S.at_≤900)(hb:S.bs.length≤800)(hSA:SA=S.fU)(hz: -1000≤z∧z≤1000):AK (md:=false) Tryz.prog (pD (cR Tryz.f42) [1,1,1,1,0,1,0,0,1,0,0,1,1]) [] ⟨[.Z,.Z,.ptr S.rows.length 0 0,.ptr 0 0 0,.Z,.v (.int .i64 z),.Z,.Z,.Z,.Z,.Z,.Z,.Z,.Z,.Z,.Z,.Z,.Z,.Z,.Z,.Z,.Z,.Z,.Z,.Z,.Z,.Z,.Z,.Z,.Z,.Z,.Z,.Z,.Z,.Z,.Z,.Z,.Z,.Z,.Z,.Z,.Z,.Z,.Z,.Z,.Z,.Z,.Z,.Z,.Z,.Z,.Z,.Z,.Z,.Z,.Z,.Z,.Z,.Z,.Z,.Z,.Z,.Z,.Z,.Z,.Z,.Z,.Z,.Z,.Z,.Z,.Z,.Z,.Z,.Z,.Z,.Z,.Z,.Z,.Z,.Z,.Z,.Z,.Z,.Z,.Z,.Z,.Z,.Z,.Z,.Z,.Z,.Z,.Z,.Z,.Z,.Z,.Z,.Z,.Z,.Z,.Z,.Z,.Z,.Z,.Z,.Z,.Z,.Z,.Z,.Z,.Z,.Z,.Z,.Z,.Z,.Z,.Z,.Z,.Z,.Z,.Z,.Z,.Z,.Z,.Z,.Z,.Z,.Z,.Z,.Z,.Z,.Z,.Z,.Z,.Z,.Z,.Z,.Z,.Z,.Z,.Z,.Z,.Z,.Z,.Z,.Z,.Z,.Z,.Z,.Z,.Z,.Z],e9 0 (S.rows++[l7]),S.rows.length+1⟩ (O9 (fun s'=>∃a:Unit,Go.Ab.W0 True∧N3 s' ⟨[.Z,.Z,.ptr SA.rows.length 0 0,.ptr 0 0 0,.Z,.v (.int .i64 z),.Z,.Z,.Z,.Z,.Z,.Z,.Z,.Z,.Z,.Z,.Z,.Z,.Z,.Z,.Z,.Z,.Z,.Z,.Z,.Z,.Z,.Z,.Z,.Z,.Z,.Z,.Z,.Z,.Z,.Z,.Z,.Z,.Z,.Z,.Z,.Z,.Z,.Z,.Z,.Z,.Z,.Z,.Z,.Z,.Z,.Z,.Z,.Z,.Z,.Z,.Z,.Z,.Z,.Z,.Z,.Z,.Z,.Z,.Z,.Z,.Z,.Z,.Z,.Z,.Z,.Z,.Z,.Z,.Z,.Z,.Z,.Z,.Z,.Z,.Z,.Z,.Z,.Z,.Z,.Z,.Z,.Z,.Z,.Z,.Z,.Z,.Z,.Z,.Z,.Z,.Z,.Z,.Z,.Z,.Z,.Z,.Z,.Z,.Z,.Z,.Z,.Z,.Z,.Z,.Z,.Z,.Z,.Z,.Z,.Z,.Z,.Z,.Z,.Z,.Z,.Z,.Z,.Z,.Z,.Z,.Z,.Z,.Z,.Z,.Z,.Z,.Z,.Z,.Z,.Z,.Z,.Z,.Z,.Z,.Z,.Z,.Z,.Z,.Z,.Z,.Z,.Z,.Z,.Z,.Z,.Z,.Z],e9 0 (SA.rows++[l7]),SA.rows.length+1⟩) K):=by
 conv in pD _ _=>whnf
 have hx:=j0 hL h0.1
 have hx1:=j0 hL (show 0≤S.at_+1 by omega)
 have CN:=p0 S.L S.at_ (by omega) hL
 have CN1:=p0 S.L (S.at_+1) (by omega) hL
 have CR:=X9 S.L (S.at_+1+1) (by omega) hL
 have CV:=dU S.L (S.at_+1+1+1) (by omega) hL
 have CV2:=dU S.L (S.at_+1+1+1+1) (by omega) hL
 have hA1:a7 S.L S.at_%3=0→SA=_:=fun hp=>hSA.trans (if_pos hp)
 have hA2:¬a7 S.L S.at_%3=0→SA=_:=fun hp=>hSA.trans (if_neg hp)
 clear hSA hL
 obtain⟨L',at',g,su,re,sl,pa,ar,lo,bs,ii,t⟩:=S
 simp only at CN CN1 CR CV CV2 hx hx1 hA1 hA2 h0 hb⊢
 generalize a7 L' at'=y at*
 generalize a7 L' (at'+1)=y1 at*
 generalize E7 L' (at'+1+1)=d at*
 generalize V5 L' (at'+1+1+1)=v at*
 generalize V5 L' (at'+1+1+1+1)=v2 at*
 obtain⟨dk,dn,dv⟩:=d
 obtain⟨vk,vn,vv⟩:=v
 obtain⟨uk,un,uv⟩:=v2
 simp only[E3.av]at CR CV CV2
 by_cases hp:y%3=0
 ·rw[hA1 hp]
  clear hA1 hA2
  cases lo<;>cases ii
  all_goals simp only[MS.rows,e9,b6f,O0,j4.cell,j4.rows,j4.l,j4.k,r9.cell,r9.rows,r9.l,List.cons_append,List.nil_append,List.append_nil,List.length_cons,List.length_nil,Nat.reduceAdd,List.cons_append,List.nil_append]at⊢
  ·repeat' (first|refine Zl ?_|(with_reducible constructor<;>first|intro N hN mk hmk|intro N hN|intro h)|refine Ze CN ?_|refine Ze CN1 ?_|refine Ze CR ?_|refine Ze CV ?_|refine Ze CV2 ?_|refine Zt (Zq aO.d hp) ?_|fail)
   refine n3 (keep:=[2,3,5]) (ids:=[0,1,2]) (s':=_) () (by simp only[aO.d,hp,c5,n9,b5,c8,n5,w8,AV.plain,Nat.reduceBEq,↓reduceIte,Nat.reduceEqDiff,Nat.reduceAdd,sC];rfl) ?_ trivial
   simp only[e9,l7,A1,List.cons_append,List.nil_append,List.length_cons,List.length_nil,Nat.reduceAdd,Nat.zero_add]
  ·repeat' (first|refine Zl ?_|(with_reducible constructor<;>first|intro N hN mk hmk|intro N hN|intro h)|refine Ze CN ?_|refine Ze CN1 ?_|refine Ze CR ?_|refine Ze CV ?_|refine Ze CV2 ?_|refine Zt (Zq aO.d hp) ?_|fail)
   refine n3 (keep:=[2,3,5]) (ids:=[0,1,2,3]) (s':=_) () (by simp only[aO.d,hp,c5,n9,b5,c8,n5,w8,AV.plain,Nat.reduceBEq,↓reduceIte,Nat.reduceEqDiff,Nat.reduceAdd,sC];rfl) ?_ trivial
   simp only[e9,l7,A1,List.cons_append,List.nil_append,List.length_cons,List.length_nil,Nat.reduceAdd,Nat.zero_add]
  ·repeat' (first|refine Zl ?_|(with_reducible constructor<;>first|intro N hN mk hmk|intro N hN|intro h)|refine Ze CN ?_|refine Ze CN1 ?_|refine Ze CR ?_|refine Ze CV ?_|refine Ze CV2 ?_|refine Zt (Zq aO.d hp) ?_|fail)
   refine n3 (keep:=[2,3,5]) (ids:=[0,1,2,3]) (s':=_) () (by simp only[aO.d,hp,c5,n9,b5,c8,n5,w8,AV.plain,Nat.reduceBEq,↓reduceIte,Nat.reduceEqDiff,Nat.reduceAdd,sC];rfl) ?_ trivial
   simp only[e9,l7,A1,List.cons_append,List.nil_append,List.length_cons,List.length_nil,Nat.reduceAdd,Nat.zero_add]
  ·repeat' (first|refine Zl ?_|(with_reducible constructor<;>first|intro N hN mk hmk|intro N hN|intro h)|refine Ze CN ?_|refine Ze CN1 ?_|refine Ze CR ?_|refine Ze CV ?_|refine Ze CV2 ?_|refine Zt (Zq aO.d hp) ?_|fail)
   refine n3 (keep:=[2,3,5]) (ids:=[0,1,2,3,4]) (s':=_) () (by simp only[aO.d,hp,c5,n9,b5,c8,n5,w8,AV.plain,Nat.reduceBEq,↓reduceIte,Nat.reduceEqDiff,Nat.reduceAdd,sC];rfl) ?_ trivial
   simp only[e9,l7,A1,List.cons_append,List.nil_append,List.length_cons,List.length_nil,Nat.reduceAdd,Nat.zero_add]
 ·rw[hA2 hp]
  clear hA1 hA2
  cases lo<;>cases ii
  all_goals simp only[MS.rows,e9,b5Z,O0,j4.cell,j4.rows,j4.l,j4.k,r9.cell,r9.rows,r9.l,List.cons_append,List.nil_append,List.append_nil,List.length_cons,List.length_nil,Nat.reduceAdd,List.cons_append,List.nil_append]at⊢
  ·repeat' (first|refine Zl ?_|(with_reducible constructor<;>first|intro N hN mk hmk|intro N hN|intro h)|refine Ze CN ?_|refine Zt (Zq aO.d hp) ?_|fail)
   refine n3 (keep:=[2,3,5]) (ids:=[0,1,2]) (s':=_) () (by simp only[aO.d,hp,c5,n9,b5,c8,n5,w8,AV.plain,Nat.reduceBEq,↓reduceIte,Nat.reduceEqDiff,Nat.reduceAdd,sC];rfl) ?_ trivial
   simp only[e9,l7,A1,List.cons_append,List.nil_append,List.length_cons,List.length_nil,Nat.reduceAdd,Nat.zero_add]
  ·repeat' (first|refine Zl ?_|(with_reducible constructor<;>first|intro N hN mk hmk|intro N hN|intro h)|refine Ze CN ?_|refine Zt (Zq aO.d hp) ?_|fail)
   refine n3 (keep:=[2,3,5]) (ids:=[0,1,2,3]) (s':=_) () (by simp only[aO.d,hp,c5,n9,b5,c8,n5,w8,AV.plain,Nat.reduceBEq,↓reduceIte,Nat.reduceEqDiff,Nat.reduceAdd,sC];rfl) ?_ trivial
   simp only[e9,l7,A1,List.cons_append,List.nil_append,List.length_cons,List.length_nil,Nat.reduceAdd,Nat.zero_add]
  ·repeat' (first|refine Zl ?_|(with_reducible constructor<;>first|intro N hN mk hmk|intro N hN|intro h)|refine Ze CN ?_|refine Zt (Zq aO.d hp) ?_|fail)
   refine n3 (keep:=[2,3,5]) (ids:=[0,1,2,3]) (s':=_) () (by simp only[aO.d,hp,c5,n9,b5,c8,n5,w8,AV.plain,Nat.reduceBEq,↓reduceIte,Nat.reduceEqDiff,Nat.reduceAdd,sC];rfl) ?_ trivial
   simp only[e9,l7,A1,List.cons_append,List.nil_append,List.length_cons,List.length_nil,Nat.reduceAdd,Nat.zero_add]
  ·repeat' (first|refine Zl ?_|(with_reducible constructor<;>first|intro N hN mk hmk|intro N hN|intro h)|refine Ze CN ?_|refine Zt (Zq aO.d hp) ?_|fail)
   refine n3 (keep:=[2,3,5]) (ids:=[0,1,2,3,4]) (s':=_) () (by simp only[aO.d,hp,c5,n9,b5,c8,n5,w8,AV.plain,Nat.reduceBEq,↓reduceIte,Nat.reduceEqDiff,Nat.reduceAdd,sC];rfl) ?_ trivial
   simp only[e9,l7,A1,List.cons_append,List.nil_append,List.length_cons,List.length_nil,Nat.reduceAdd,Nat.zero_add]
theorem sT(bs:List b6)(l:List e7)(t:q9):o0 bs++[AV.a8 false (c6 l)::t.av]=o0 (bs++[⟨l,t⟩]):=by simp [o0,b6.av]
theorem oN(bs:List b6)(b:b6):(o0 (bs++[b])).take (bs.length+1)=o0 (bs++[b]):=List.take_of_length_le (by rw[D4];simp)
theorem tB(bs:List b6)(b:b6):(o0 (bs++[b])).length=bs.length+1:=by rw[D4];simp
def U5:=ZZ.mk (Zq H8.d (Zq @l7.eq_1 @A1))
theorem b7k(S:MS)(hb:S.bs.length≤800):AK (md:=false) Tryz.prog (pD (cR Tryz.f42) [1,1,1,1,1,1,1]) [] ⟨[.Z,.Z,.ptr S.rows.length 0 0,.ptr 0 0 0,.Z,.Z,.Z,.Z,.Z,.Z,.Z,.Z,.Z,.Z,.Z,.Z,.Z,.Z,.Z,.Z,.Z,.Z,.Z,.Z,.Z,.Z,.Z,.Z,.Z,.Z,.Z,.Z,.Z,.Z,.Z,.Z,.Z,.Z,.Z,.Z,.Z,.Z,.Z,.Z,.Z,.Z,.Z,.Z,.Z,.Z,.Z,.Z,.Z,.Z,.Z,.Z,.Z,.Z,.Z,.Z,.Z,.Z,.Z,.Z,.Z,.Z,.Z,.Z,.Z,.Z,.Z,.Z,.Z,.Z,.Z,.Z,.Z,.Z,.Z,.Z,.Z,.Z,.Z,.Z,.Z,.Z,.Z,.Z,.Z,.Z,.Z,.Z,.Z,.Z,.Z,.Z,.Z,.Z,.Z,.Z,.Z,.Z,.Z,.Z,.Z,.Z,.Z,.Z,.Z,.Z,.Z,.Z,.Z,.Z,.Z,.Z,.Z,.Z,.Z,.Z,.Z,.Z,.Z,.Z,.Z,.Z,.Z,.Z,.Z,.Z,.Z,.Z,.Z,.Z,.Z,.Z,.Z,.Z,.Z,.Z,.Z,.Z,.Z,.Z,.Z,.Z,.Z,.Z,.Z,.Z,.Z,.Z,.Z],e9 0 (S.rows++[l7]),S.rows.length+1⟩ (a4u Tryz.prog Tryz.f42 (.agg (MS.code {S with t:=jS}).av)):=by
 conv in pD _ _=>whnf
 obtain⟨L',at',g,su,re,sl,pa,ar,lo,bs,ii,t⟩:=S
 simp only at hb⊢
 rcases lo with _|ll<;>rcases ii with _|li
 all_goals simp only[MS.rows,e9,jS,O0,j4.cell,j4.rows,j4.l,j4.k,r9.cell,r9.rows,r9.l,List.cons_append,List.nil_append,List.append_nil,MS.code,Code.av,List.length_cons,List.length_nil,Nat.reduceAdd,List.cons_append,List.nil_append]at⊢
 ·refine aZ 1 bs.length 0 (x:= .a8 true []) (y:= .a8 false (c6 [])) (ids:=[]) rfl (by simp only[U2];rfl) (by simp (maxSteps:=10000000) (disch:=omega) only[U5.d,l9,P7,s9,A2,p7,o3,AV.kept,b7,n4,u0,B3,p9,o9,b8,AV.y8,m8,v8,AV.plain,rd,u6,a6,P6,stepC,AV.e6,AV.S9,AV.w6,AV.L8,AV.scalar,T8,s6,A6,A9,B1,A8,o8,A5,U0,s7,A7,z8,j3,T7,l0,y7,y5,Q0,z6,j8,TD.isRow,s8,j7,j9,j6,F4,Value.oneCell',↓reduceIte,Int.reduceNe,Int.reduceEq,Nat.reduceAdd,Nat.reduceLT,Nat.reduceLeDiff,Nat.reduceSub,Nat.reduceMul,Nat.reduceBEq,Nat.reduceEqDiff,reduceCtorEq,Int.reduceToNat,←decide_not,←Bool.decide_and,sA,sN]<;>first|done|rfl) (by first|rfl|(simp (maxSteps:=10000000) (disch:=omega) only[a6,U5.d,l9,P7,s9,A2,p7,o3,AV.kept,b7,n4,u0,B3,p9,o9,b8,AV.y8,m8,v8,AV.plain,rd,u6,a6,P6,stepC,AV.e6,AV.S9,AV.w6,AV.L8,AV.scalar,T8,s6,A6,A9,B1,A8,o8,A5,U0,s7,A7,z8,j3,T7,l0,y7,y5,Q0,z6,j8,TD.isRow,s8,j7,j9,j6,F4,Value.oneCell',↓reduceIte,Int.reduceNe,Int.reduceEq,Nat.reduceAdd,Nat.reduceLT,Nat.reduceLeDiff,Nat.reduceSub,Nat.reduceMul,Nat.reduceBEq,Nat.reduceEqDiff,reduceCtorEq,Int.reduceToNat,←decide_not,←Bool.decide_and,sA,sN]<;>first|done|rfl)) ?_;simp (maxSteps:=10000000) (disch:=omega) only[n4,y0,F4,U5.d,l9,P7,s9,A2,p7,o3,AV.kept,b7,n4,u0,B3,p9,o9,b8,AV.y8,m8,v8,AV.plain,rd,u6,a6,P6,stepC,AV.e6,AV.S9,AV.w6,AV.L8,AV.scalar,T8,s6,A6,A9,B1,A8,o8,A5,U0,s7,A7,z8,j3,T7,l0,y7,y5,Q0,z6,j8,TD.isRow,s8,j7,j9,j6,F4,Value.oneCell',↓reduceIte,Int.reduceNe,Int.reduceEq,Nat.reduceAdd,Nat.reduceLT,Nat.reduceLeDiff,Nat.reduceSub,Nat.reduceMul,Nat.reduceBEq,Nat.reduceEqDiff,reduceCtorEq,Int.reduceToNat,←decide_not,←Bool.decide_and,sA,sN]
  repeat' (first|refine Zl ?_|(with_reducible constructor<;>first|intro N hN mk hmk|intro N hN|intro h)|refine Zt U5.d ?_|fail)
  all_goals(simp (maxSteps:=10000000) (disch:=omega) only[sT,oN,tB,M7,Z8,U5.d,l9,P7,s9,A2,p7,o3,AV.kept,b7,n4,u0,B3,p9,o9,b8,AV.y8,m8,v8,AV.plain,rd,u6,a6,P6,stepC,AV.e6,AV.S9,AV.w6,AV.L8,AV.scalar,T8,s6,A6,A9,B1,A8,o8,A5,U0,s7,A7,z8,j3,T7,l0,y7,y5,Q0,z6,j8,TD.isRow,s8,j7,j9,j6,F4,Value.oneCell',↓reduceIte,Int.reduceNe,Int.reduceEq,Nat.reduceAdd,Nat.reduceLT,Nat.reduceLeDiff,Nat.reduceSub,Nat.reduceMul,Nat.reduceBEq,Nat.reduceEqDiff,reduceCtorEq,Int.reduceToNat,←decide_not,←Bool.decide_and,sA,sN]<;>rfl)
 ·refine aZ 1 bs.length 0 (x:= .own 2 0 li.length) (y:= .a8 false (c6 li)) (ids:=[(2,li.length)]) rfl (by simp only[U2];rfl) (by simp (maxSteps:=10000000) (disch:=omega) only[U5.d,l9,P7,s9,A2,p7,o3,AV.kept,b7,n4,u0,B3,p9,o9,b8,AV.y8,m8,v8,AV.plain,rd,u6,a6,P6,stepC,AV.e6,AV.S9,AV.w6,AV.L8,AV.scalar,T8,s6,A6,A9,B1,A8,o8,A5,U0,s7,A7,z8,j3,T7,l0,y7,y5,Q0,z6,j8,TD.isRow,s8,j7,j9,j6,F4,Value.oneCell',↓reduceIte,Int.reduceNe,Int.reduceEq,Nat.reduceAdd,Nat.reduceLT,Nat.reduceLeDiff,Nat.reduceSub,Nat.reduceMul,Nat.reduceBEq,Nat.reduceEqDiff,reduceCtorEq,Int.reduceToNat,←decide_not,←Bool.decide_and,sA,sN]<;>first|done|rfl) (by first|rfl|(simp (maxSteps:=10000000) (disch:=omega) only[a6,U5.d,l9,P7,s9,A2,p7,o3,AV.kept,b7,n4,u0,B3,p9,o9,b8,AV.y8,m8,v8,AV.plain,rd,u6,a6,P6,stepC,AV.e6,AV.S9,AV.w6,AV.L8,AV.scalar,T8,s6,A6,A9,B1,A8,o8,A5,U0,s7,A7,z8,j3,T7,l0,y7,y5,Q0,z6,j8,TD.isRow,s8,j7,j9,j6,F4,Value.oneCell',↓reduceIte,Int.reduceNe,Int.reduceEq,Nat.reduceAdd,Nat.reduceLT,Nat.reduceLeDiff,Nat.reduceSub,Nat.reduceMul,Nat.reduceBEq,Nat.reduceEqDiff,reduceCtorEq,Int.reduceToNat,←decide_not,←Bool.decide_and,sA,sN]<;>first|done|rfl)) ?_;simp (maxSteps:=10000000) (disch:=omega) only[n4,y0,F4,U5.d,l9,P7,s9,A2,p7,o3,AV.kept,b7,n4,u0,B3,p9,o9,b8,AV.y8,m8,v8,AV.plain,rd,u6,a6,P6,stepC,AV.e6,AV.S9,AV.w6,AV.L8,AV.scalar,T8,s6,A6,A9,B1,A8,o8,A5,U0,s7,A7,z8,j3,T7,l0,y7,y5,Q0,z6,j8,TD.isRow,s8,j7,j9,j6,F4,Value.oneCell',↓reduceIte,Int.reduceNe,Int.reduceEq,Nat.reduceAdd,Nat.reduceLT,Nat.reduceLeDiff,Nat.reduceSub,Nat.reduceMul,Nat.reduceBEq,Nat.reduceEqDiff,reduceCtorEq,Int.reduceToNat,←decide_not,←Bool.decide_and,sA,sN]
  repeat' (first|refine Zl ?_|(with_reducible constructor<;>first|intro N hN mk hmk|intro N hN|intro h)|refine Zt U5.d ?_|fail)
  all_goals(simp (maxSteps:=10000000) (disch:=omega) only[sT,oN,tB,M7,Z8,U5.d,l9,P7,s9,A2,p7,o3,AV.kept,b7,n4,u0,B3,p9,o9,b8,AV.y8,m8,v8,AV.plain,rd,u6,a6,P6,stepC,AV.e6,AV.S9,AV.w6,AV.L8,AV.scalar,T8,s6,A6,A9,B1,A8,o8,A5,U0,s7,A7,z8,j3,T7,l0,y7,y5,Q0,z6,j8,TD.isRow,s8,j7,j9,j6,F4,Value.oneCell',↓reduceIte,Int.reduceNe,Int.reduceEq,Nat.reduceAdd,Nat.reduceLT,Nat.reduceLeDiff,Nat.reduceSub,Nat.reduceMul,Nat.reduceBEq,Nat.reduceEqDiff,reduceCtorEq,Int.reduceToNat,←decide_not,←Bool.decide_and,sA,sN]<;>rfl)
 ·refine aZ 1 bs.length 0 (x:= .a8 true []) (y:= .a8 false (c6 [])) (ids:=[]) rfl (by simp only[U2];rfl) (by simp (maxSteps:=10000000) (disch:=omega) only[U5.d,l9,P7,s9,A2,p7,o3,AV.kept,b7,n4,u0,B3,p9,o9,b8,AV.y8,m8,v8,AV.plain,rd,u6,a6,P6,stepC,AV.e6,AV.S9,AV.w6,AV.L8,AV.scalar,T8,s6,A6,A9,B1,A8,o8,A5,U0,s7,A7,z8,j3,T7,l0,y7,y5,Q0,z6,j8,TD.isRow,s8,j7,j9,j6,F4,Value.oneCell',↓reduceIte,Int.reduceNe,Int.reduceEq,Nat.reduceAdd,Nat.reduceLT,Nat.reduceLeDiff,Nat.reduceSub,Nat.reduceMul,Nat.reduceBEq,Nat.reduceEqDiff,reduceCtorEq,Int.reduceToNat,←decide_not,←Bool.decide_and,sA,sN]<;>first|done|rfl) (by first|rfl|(simp (maxSteps:=10000000) (disch:=omega) only[a6,U5.d,l9,P7,s9,A2,p7,o3,AV.kept,b7,n4,u0,B3,p9,o9,b8,AV.y8,m8,v8,AV.plain,rd,u6,a6,P6,stepC,AV.e6,AV.S9,AV.w6,AV.L8,AV.scalar,T8,s6,A6,A9,B1,A8,o8,A5,U0,s7,A7,z8,j3,T7,l0,y7,y5,Q0,z6,j8,TD.isRow,s8,j7,j9,j6,F4,Value.oneCell',↓reduceIte,Int.reduceNe,Int.reduceEq,Nat.reduceAdd,Nat.reduceLT,Nat.reduceLeDiff,Nat.reduceSub,Nat.reduceMul,Nat.reduceBEq,Nat.reduceEqDiff,reduceCtorEq,Int.reduceToNat,←decide_not,←Bool.decide_and,sA,sN]<;>first|done|rfl)) ?_;simp (maxSteps:=10000000) (disch:=omega) only[n4,y0,F4,U5.d,l9,P7,s9,A2,p7,o3,AV.kept,b7,n4,u0,B3,p9,o9,b8,AV.y8,m8,v8,AV.plain,rd,u6,a6,P6,stepC,AV.e6,AV.S9,AV.w6,AV.L8,AV.scalar,T8,s6,A6,A9,B1,A8,o8,A5,U0,s7,A7,z8,j3,T7,l0,y7,y5,Q0,z6,j8,TD.isRow,s8,j7,j9,j6,F4,Value.oneCell',↓reduceIte,Int.reduceNe,Int.reduceEq,Nat.reduceAdd,Nat.reduceLT,Nat.reduceLeDiff,Nat.reduceSub,Nat.reduceMul,Nat.reduceBEq,Nat.reduceEqDiff,reduceCtorEq,Int.reduceToNat,←decide_not,←Bool.decide_and,sA,sN]
  repeat' (first|refine Zl ?_|(with_reducible constructor<;>first|intro N hN mk hmk|intro N hN|intro h)|refine Zt U5.d ?_|fail)
  all_goals(simp (maxSteps:=10000000) (disch:=omega) only[sT,oN,tB,M7,Z8,U5.d,l9,P7,s9,A2,p7,o3,AV.kept,b7,n4,u0,B3,p9,o9,b8,AV.y8,m8,v8,AV.plain,rd,u6,a6,P6,stepC,AV.e6,AV.S9,AV.w6,AV.L8,AV.scalar,T8,s6,A6,A9,B1,A8,o8,A5,U0,s7,A7,z8,j3,T7,l0,y7,y5,Q0,z6,j8,TD.isRow,s8,j7,j9,j6,F4,Value.oneCell',↓reduceIte,Int.reduceNe,Int.reduceEq,Nat.reduceAdd,Nat.reduceLT,Nat.reduceLeDiff,Nat.reduceSub,Nat.reduceMul,Nat.reduceBEq,Nat.reduceEqDiff,reduceCtorEq,Int.reduceToNat,←decide_not,←Bool.decide_and,sA,sN]<;>rfl)
 ·refine aZ 1 bs.length 0 (x:= .own 2 0 li.length) (y:= .a8 false (c6 li)) (ids:=[(2,li.length)]) rfl (by simp only[U2];rfl) (by simp (maxSteps:=10000000) (disch:=omega) only[U5.d,l9,P7,s9,A2,p7,o3,AV.kept,b7,n4,u0,B3,p9,o9,b8,AV.y8,m8,v8,AV.plain,rd,u6,a6,P6,stepC,AV.e6,AV.S9,AV.w6,AV.L8,AV.scalar,T8,s6,A6,A9,B1,A8,o8,A5,U0,s7,A7,z8,j3,T7,l0,y7,y5,Q0,z6,j8,TD.isRow,s8,j7,j9,j6,F4,Value.oneCell',↓reduceIte,Int.reduceNe,Int.reduceEq,Nat.reduceAdd,Nat.reduceLT,Nat.reduceLeDiff,Nat.reduceSub,Nat.reduceMul,Nat.reduceBEq,Nat.reduceEqDiff,reduceCtorEq,Int.reduceToNat,←decide_not,←Bool.decide_and,sA,sN]<;>first|done|rfl) (by first|rfl|(simp (maxSteps:=10000000) (disch:=omega) only[a6,U5.d,l9,P7,s9,A2,p7,o3,AV.kept,b7,n4,u0,B3,p9,o9,b8,AV.y8,m8,v8,AV.plain,rd,u6,a6,P6,stepC,AV.e6,AV.S9,AV.w6,AV.L8,AV.scalar,T8,s6,A6,A9,B1,A8,o8,A5,U0,s7,A7,z8,j3,T7,l0,y7,y5,Q0,z6,j8,TD.isRow,s8,j7,j9,j6,F4,Value.oneCell',↓reduceIte,Int.reduceNe,Int.reduceEq,Nat.reduceAdd,Nat.reduceLT,Nat.reduceLeDiff,Nat.reduceSub,Nat.reduceMul,Nat.reduceBEq,Nat.reduceEqDiff,reduceCtorEq,Int.reduceToNat,←decide_not,←Bool.decide_and,sA,sN]<;>first|done|rfl)) ?_;simp (maxSteps:=10000000) (disch:=omega) only[n4,y0,F4,U5.d,l9,P7,s9,A2,p7,o3,AV.kept,b7,n4,u0,B3,p9,o9,b8,AV.y8,m8,v8,AV.plain,rd,u6,a6,P6,stepC,AV.e6,AV.S9,AV.w6,AV.L8,AV.scalar,T8,s6,A6,A9,B1,A8,o8,A5,U0,s7,A7,z8,j3,T7,l0,y7,y5,Q0,z6,j8,TD.isRow,s8,j7,j9,j6,F4,Value.oneCell',↓reduceIte,Int.reduceNe,Int.reduceEq,Nat.reduceAdd,Nat.reduceLT,Nat.reduceLeDiff,Nat.reduceSub,Nat.reduceMul,Nat.reduceBEq,Nat.reduceEqDiff,reduceCtorEq,Int.reduceToNat,←decide_not,←Bool.decide_and,sA,sN]
  repeat' (first|refine Zl ?_|(with_reducible constructor<;>first|intro N hN mk hmk|intro N hN|intro h)|refine Zt U5.d ?_|fail)
  all_goals(simp (maxSteps:=10000000) (disch:=omega) only[sT,oN,tB,M7,Z8,U5.d,l9,P7,s9,A2,p7,o3,AV.kept,b7,n4,u0,B3,p9,o9,b8,AV.y8,m8,v8,AV.plain,rd,u6,a6,P6,stepC,AV.e6,AV.S9,AV.w6,AV.L8,AV.scalar,T8,s6,A6,A9,B1,A8,o8,A5,U0,s7,A7,z8,j3,T7,l0,y7,y5,Q0,z6,j8,TD.isRow,s8,j7,j9,j6,F4,Value.oneCell',↓reduceIte,Int.reduceNe,Int.reduceEq,Nat.reduceAdd,Nat.reduceLT,Nat.reduceLeDiff,Nat.reduceSub,Nat.reduceMul,Nat.reduceBEq,Nat.reduceEqDiff,reduceCtorEq,Int.reduceToNat,←decide_not,←Bool.decide_and,sA,sN]<;>rfl)
end Go.Proofs.YtgdoiokalfhjoaaGreatDoor
end
