/- Own work (by an AI agent; no person has read it): part of a proof of the seat YtgdoiokalfhjoaaDoor. -/
import Derived.Test.YtgdoiokalfhjoaaDoorXbk
set_option linter.unusedSimpArgs false
set_option linter.unusedVariables false
set_option maxRecDepth 100000
set_option maxHeartbeats 10000000
section
namespace Go.Proofs.YtgdoiokalfhjoaaDoor
open Go.Ab
def x9:=ZZ.mk (Zq @l7.eq_1 (Zq @E3 (Zq @c7 (Zq @j0 (Zq @j3 (Zq @x6 (Zq @I1 (Zq @x8 (Zq @y7 (Zq @n3 (Zq @p0 (Zq @w8 (Zq @m7 (Zq @l8 (Zq @n9 (Zq @y8 (Zq @s6 (Zq @r8 (Zq @z8 (Zq @q9 (Zq @A2 (Zq @A1 (Zq @z7 (Zq @z6 (Zq @s5 (Zq @j0 (Zq @j3 (Zq @A6 (Zq @J8 (Zq @y4 (Zq @y0 @x6)))))))))))))))))))))))))))))))
def eV:=ZZ.mk (Zq @l7.eq_1 (Zq @j0 (Zq @j3 (Zq @x6 (Zq @I1 (Zq @x8 (Zq @y7 (Zq @n3 (Zq @p0 (Zq @w8 (Zq @m7 (Zq @l8 (Zq @n9 (Zq @y8 (Zq @s6 (Zq @r8 (Zq @z8 (Zq @q9 (Zq @A2 (Zq @A1 (Zq @z7 (Zq @z6 (Zq @s5 (Zq @j0 (Zq @j3 (Zq @A6 (Zq @J8 (Zq @y4 (Zq @y0 @x6)))))))))))))))))))))))))))))
theorem a5r{K:Exit→LS→Prop}(S SA:MS)(hL:B5 S.L)(h0:0≤S.at_∧S.at_≤900)(hok:fL {S with at_:=S.at_+1} 600000)(hb:S.bs.length≤800)(hlo:S.lo.l.length≤100)(hok2:fL (MS.block (MS.loop {S with at_:=S.at_+1})) 700000)(hSA:SA=S.iK):AK (md:=false) Tryd.prog (oR (cN Tryd.f5) [1,1,1,1,1,1,0]) [] ⟨[.Z,.Z,.ptr S.rows.length 0 0,.ptr 0 0 0,.Z,.Z,.Z,.Z,.Z,.Z,.Z,.Z,.Z,.Z,.Z,.Z,.Z,.Z,.Z,.Z,.Z,.Z,.Z,.Z,.Z,.Z,.Z,.Z,.Z,.Z,.Z,.Z,.Z,.Z,.Z,.Z,.Z,.Z,.Z,.Z,.Z,.Z,.Z,.Z,.Z,.Z,.Z,.Z,.Z,.Z,.Z,.Z,.Z,.Z,.Z,.Z,.Z,.Z,.Z,.Z,.Z,.Z,.Z,.Z,.Z,.Z,.Z,.Z,.Z,.Z,.Z,.Z,.Z,.Z,.Z,.Z,.Z,.Z,.Z,.Z,.Z,.Z,.Z,.Z,.Z,.Z,.Z,.Z,.Z,.Z,.Z,.Z,.Z,.Z,.Z,.Z,.Z,.Z,.Z,.Z,.Z,.Z,.Z,.Z,.Z,.Z,.Z,.Z,.Z,.Z,.Z,.Z,.Z,.Z,.Z,.Z,.Z,.Z,.Z,.Z,.Z,.Z,.Z,.Z,.Z,.Z,.Z,.Z,.Z,.Z,.Z,.Z,.Z,.Z,.Z,.Z,.Z,.Z,.Z,.Z,.Z,.Z,.Z,.Z,.Z,.Z,.Z,.Z,.Z,.Z,.Z,.Z,.Z],j7 0 (S.rows++[l7]),S.rows.length+1⟩ (S4 (fun s'=>∃a:Unit,Go.Ab.aP True∧O8 s' ⟨[.Z,.Z,.ptr SA.rows.length 0 0,.ptr 0 0 0,.Z,.Z,.Z,.Z,.Z,.Z,.Z,.Z,.Z,.Z,.Z,.Z,.Z,.Z,.Z,.Z,.Z,.Z,.Z,.Z,.Z,.Z,.Z,.Z,.Z,.Z,.Z,.Z,.Z,.Z,.Z,.Z,.Z,.Z,.Z,.Z,.Z,.Z,.Z,.Z,.Z,.Z,.Z,.Z,.Z,.Z,.Z,.Z,.Z,.Z,.Z,.Z,.Z,.Z,.Z,.Z,.Z,.Z,.Z,.Z,.Z,.Z,.Z,.Z,.Z,.Z,.Z,.Z,.Z,.Z,.Z,.Z,.Z,.Z,.Z,.Z,.Z,.Z,.Z,.Z,.Z,.Z,.Z,.Z,.Z,.Z,.Z,.Z,.Z,.Z,.Z,.Z,.Z,.Z,.Z,.Z,.Z,.Z,.Z,.Z,.Z,.Z,.Z,.Z,.Z,.Z,.Z,.Z,.Z,.Z,.Z,.Z,.Z,.Z,.Z,.Z,.Z,.Z,.Z,.Z,.Z,.Z,.Z,.Z,.Z,.Z,.Z,.Z,.Z,.Z,.Z,.Z,.Z,.Z,.Z,.Z,.Z,.Z,.Z,.Z,.Z,.Z,.Z,.Z,.Z,.Z,.Z,.Z,.Z],j7 0 (SA.rows++[l7]),SA.rows.length+1⟩) K):=by
 conv in oR _ _=>whnf
 have hx:=j6 hL h0.1
 have CN:=o9 S.L S.at_ (by omega) hL
 have CL:=a7d {S with at_:=S.at_+1} hok (by show S.bs.length≤800;omega) hlo
 obtain⟨a',re',ll2,bs3,l',t',e⟩:=uJ {S with at_:=S.at_+1} hL (by show 0≤S.at_+1;omega)
 have CB:=E9 (MS.loop {S with at_:=S.at_+1}) (by have:=hok2.bs;simp only[MS.block,List.length_append]at this;omega)
 have CI:=aU _ hok2
 have hL2:B5 (MS.block (MS.loop {S with at_:=S.at_+1})).L:=hok2.L
 obtain⟨a2,ii2,e2,_,_,_⟩:=J9 (MS.block (MS.loop {S with at_:=S.at_+1})) hL2 hok2.at_.1
 rw[e2]at CI
 have hA1:a8 S.L S.at_%3=0→SA=_:=fun hp=>hSA.trans (if_pos hp)
 have hA2:¬a8 S.L S.at_%3=0→SA=_:=fun hp=>hSA.trans (if_neg hp)
 rw[e2]at hA1
 rw[e]at CL CB hA1 CI
 clear hSA hok hL hb hlo hok2 e hL2 e2
 obtain⟨L',at',g,su,re,sl,pa,ar,lo,bs,ii,t⟩:=S
 simp only[MS.block]at CN CL CB hx hA1 hA2 h0 CI⊢
 generalize a8 L' at'=y at*
 by_cases hp:y%3=0
 ·rw[hA1 hp]
  clear hA1 hA2
  cases lo<;>cases ii<;>cases ii2
  all_goals simp only[MS.rows,j7,E3,c7,j8.cell,j8.rows,j8.l,j8.k,r6.cell,r6.rows,r6.l,List.cons_append,List.nil_append,List.append_nil,List.length_cons,List.length_nil,Nat.reduceAdd,List.cons_append,List.nil_append]at CL CB CI⊢
  ·repeat' (first|refine Za ?_|(with_reducible constructor<;>first|intro N hN mk hmk|intro N hN|intro h)|refine Ze CN ?_|(refine Zp CL [0,1] (Zq x9.d hp) ?_;with_reducible intro _ _)|(refine Zp CB [0,43,44,45] (Zq x9.d hp) ?_;with_reducible intro _ _)|(refine Zp CI [0,59,60] (Zq x9.d hp) ?_;with_reducible intro _ _)|refine Zt (Zq x9.d hp) ?_|fail)
   refine l9 (keep:=[2,3]) (ids:=[0,75,76,2]) (s':=_) () (by simp only[x9.d,hp,c8,n7,b6,e7,n6,y5,AV.plain,Nat.reduceBEq,↓reduceIte,Nat.reduceEqDiff,Nat.reduceAdd,sC];rfl) ?_ trivial
   simp only[j7,l7,c7,E3,List.cons_append,List.nil_append,List.length_cons,List.length_nil,Nat.reduceAdd,Nat.zero_add]
  ·repeat' (first|refine Za ?_|(with_reducible constructor<;>first|intro N hN mk hmk|intro N hN|intro h)|refine Ze CN ?_|(refine Zp CL [0,1] (Zq x9.d hp) ?_;with_reducible intro _ _)|(refine Zp CB [0,43,44,45] (Zq x9.d hp) ?_;with_reducible intro _ _)|(refine Zp CI [0,59,60] (Zq x9.d hp) ?_;with_reducible intro _ _)|refine Zt (Zq x9.d hp) ?_|fail)
   refine l9 (keep:=[2,3]) (ids:=[0,75,76,77,2]) (s':=_) () (by simp only[x9.d,hp,c8,n7,b6,e7,n6,y5,AV.plain,Nat.reduceBEq,↓reduceIte,Nat.reduceEqDiff,Nat.reduceAdd,sC];rfl) ?_ trivial
   simp only[j7,l7,c7,E3,List.cons_append,List.nil_append,List.length_cons,List.length_nil,Nat.reduceAdd,Nat.zero_add]
  ·repeat' (first|refine Za ?_|(with_reducible constructor<;>first|intro N hN mk hmk|intro N hN|intro h)|refine Ze CN ?_|(refine Zp CL [0,1,2] (Zq x9.d hp) ?_;with_reducible intro _ _)|(refine Zp CB [0,44,45,46] (Zq x9.d hp) ?_;with_reducible intro _ _)|(refine Zp CI [0,60,61] (Zq x9.d hp) ?_;with_reducible intro _ _)|refine Zt (Zq x9.d hp) ?_|fail)
   refine l9 (keep:=[2,3]) (ids:=[0,76,77,3]) (s':=_) () (by simp only[x9.d,hp,c8,n7,b6,e7,n6,y5,AV.plain,Nat.reduceBEq,↓reduceIte,Nat.reduceEqDiff,Nat.reduceAdd,sC];rfl) ?_ trivial
   simp only[j7,l7,c7,E3,List.cons_append,List.nil_append,List.length_cons,List.length_nil,Nat.reduceAdd,Nat.zero_add]
  ·repeat' (first|refine Za ?_|(with_reducible constructor<;>first|intro N hN mk hmk|intro N hN|intro h)|refine Ze CN ?_|(refine Zp CL [0,1,2] (Zq x9.d hp) ?_;with_reducible intro _ _)|(refine Zp CB [0,44,45,46] (Zq x9.d hp) ?_;with_reducible intro _ _)|(refine Zp CI [0,60,61] (Zq x9.d hp) ?_;with_reducible intro _ _)|refine Zt (Zq x9.d hp) ?_|fail)
   refine l9 (keep:=[2,3]) (ids:=[0,76,77,78,3]) (s':=_) () (by simp only[x9.d,hp,c8,n7,b6,e7,n6,y5,AV.plain,Nat.reduceBEq,↓reduceIte,Nat.reduceEqDiff,Nat.reduceAdd,sC];rfl) ?_ trivial
   simp only[j7,l7,c7,E3,List.cons_append,List.nil_append,List.length_cons,List.length_nil,Nat.reduceAdd,Nat.zero_add]
  ·repeat' (first|refine Za ?_|(with_reducible constructor<;>first|intro N hN mk hmk|intro N hN|intro h)|refine Ze CN ?_|(refine Zp CL [0,1,2] (Zq x9.d hp) ?_;with_reducible intro _ _)|(refine Zp CB [0,44,45,46] (Zq x9.d hp) ?_;with_reducible intro _ _)|(refine Zp CI [0,60,61] (Zq x9.d hp) ?_;with_reducible intro _ _)|refine Zt (Zq x9.d hp) ?_|fail)
   refine l9 (keep:=[2,3]) (ids:=[0,76,77,3]) (s':=_) () (by simp only[x9.d,hp,c8,n7,b6,e7,n6,y5,AV.plain,Nat.reduceBEq,↓reduceIte,Nat.reduceEqDiff,Nat.reduceAdd,sC];rfl) ?_ trivial
   simp only[j7,l7,c7,E3,List.cons_append,List.nil_append,List.length_cons,List.length_nil,Nat.reduceAdd,Nat.zero_add]
  ·repeat' (first|refine Za ?_|(with_reducible constructor<;>first|intro N hN mk hmk|intro N hN|intro h)|refine Ze CN ?_|(refine Zp CL [0,1,2] (Zq x9.d hp) ?_;with_reducible intro _ _)|(refine Zp CB [0,44,45,46] (Zq x9.d hp) ?_;with_reducible intro _ _)|(refine Zp CI [0,60,61] (Zq x9.d hp) ?_;with_reducible intro _ _)|refine Zt (Zq x9.d hp) ?_|fail)
   refine l9 (keep:=[2,3]) (ids:=[0,76,77,78,3]) (s':=_) () (by simp only[x9.d,hp,c8,n7,b6,e7,n6,y5,AV.plain,Nat.reduceBEq,↓reduceIte,Nat.reduceEqDiff,Nat.reduceAdd,sC];rfl) ?_ trivial
   simp only[j7,l7,c7,E3,List.cons_append,List.nil_append,List.length_cons,List.length_nil,Nat.reduceAdd,Nat.zero_add]
  ·repeat' (first|refine Za ?_|(with_reducible constructor<;>first|intro N hN mk hmk|intro N hN|intro h)|refine Ze CN ?_|(refine Zp CL [0,1,2,3] (Zq x9.d hp) ?_;with_reducible intro _ _)|(refine Zp CB [0,45,46,47] (Zq x9.d hp) ?_;with_reducible intro _ _)|(refine Zp CI [0,61,62] (Zq x9.d hp) ?_;with_reducible intro _ _)|refine Zt (Zq x9.d hp) ?_|fail)
   refine l9 (keep:=[2,3]) (ids:=[0,77,78,4]) (s':=_) () (by simp only[x9.d,hp,c8,n7,b6,e7,n6,y5,AV.plain,Nat.reduceBEq,↓reduceIte,Nat.reduceEqDiff,Nat.reduceAdd,sC];rfl) ?_ trivial
   simp only[j7,l7,c7,E3,List.cons_append,List.nil_append,List.length_cons,List.length_nil,Nat.reduceAdd,Nat.zero_add]
  ·repeat' (first|refine Za ?_|(with_reducible constructor<;>first|intro N hN mk hmk|intro N hN|intro h)|refine Ze CN ?_|(refine Zp CL [0,1,2,3] (Zq x9.d hp) ?_;with_reducible intro _ _)|(refine Zp CB [0,45,46,47] (Zq x9.d hp) ?_;with_reducible intro _ _)|(refine Zp CI [0,61,62] (Zq x9.d hp) ?_;with_reducible intro _ _)|refine Zt (Zq x9.d hp) ?_|fail)
   refine l9 (keep:=[2,3]) (ids:=[0,77,78,79,4]) (s':=_) () (by simp only[x9.d,hp,c8,n7,b6,e7,n6,y5,AV.plain,Nat.reduceBEq,↓reduceIte,Nat.reduceEqDiff,Nat.reduceAdd,sC];rfl) ?_ trivial
   simp only[j7,l7,c7,E3,List.cons_append,List.nil_append,List.length_cons,List.length_nil,Nat.reduceAdd,Nat.zero_add]
 ·rw[hA2 hp]
  clear hA1 hA2
  cases lo<;>cases ii
  all_goals simp only[MS.rows,j7,j8.cell,j8.rows,j8.l,j8.k,r6.cell,r6.rows,r6.l,List.cons_append,List.nil_append,List.append_nil,List.length_cons,List.length_nil,Nat.reduceAdd,List.cons_append,List.nil_append]at⊢
  ·repeat' (first|refine Za ?_|(with_reducible constructor<;>first|intro N hN mk hmk|intro N hN|intro h)|refine Ze CN ?_|refine Zt (Zq eV.d hp) ?_|fail)
   refine l9 (keep:=[2,3]) (ids:=[0,1,2]) (s':=_) () (by simp only[eV.d,hp,c8,n7,b6,e7,n6,y5,AV.plain,Nat.reduceBEq,↓reduceIte,Nat.reduceEqDiff,Nat.reduceAdd,sC];rfl) ?_ trivial
   simp only[j7,l7,List.cons_append,List.nil_append,List.length_cons,List.length_nil,Nat.reduceAdd,Nat.zero_add]
  ·repeat' (first|refine Za ?_|(with_reducible constructor<;>first|intro N hN mk hmk|intro N hN|intro h)|refine Ze CN ?_|refine Zt (Zq eV.d hp) ?_|fail)
   refine l9 (keep:=[2,3]) (ids:=[0,1,2,3]) (s':=_) () (by simp only[eV.d,hp,c8,n7,b6,e7,n6,y5,AV.plain,Nat.reduceBEq,↓reduceIte,Nat.reduceEqDiff,Nat.reduceAdd,sC];rfl) ?_ trivial
   simp only[j7,l7,List.cons_append,List.nil_append,List.length_cons,List.length_nil,Nat.reduceAdd,Nat.zero_add]
  ·repeat' (first|refine Za ?_|(with_reducible constructor<;>first|intro N hN mk hmk|intro N hN|intro h)|refine Ze CN ?_|refine Zt (Zq eV.d hp) ?_|fail)
   refine l9 (keep:=[2,3]) (ids:=[0,1,2,3]) (s':=_) () (by simp only[eV.d,hp,c8,n7,b6,e7,n6,y5,AV.plain,Nat.reduceBEq,↓reduceIte,Nat.reduceEqDiff,Nat.reduceAdd,sC];rfl) ?_ trivial
   simp only[j7,l7,List.cons_append,List.nil_append,List.length_cons,List.length_nil,Nat.reduceAdd,Nat.zero_add]
  ·repeat' (first|refine Za ?_|(with_reducible constructor<;>first|intro N hN mk hmk|intro N hN|intro h)|refine Ze CN ?_|refine Zt (Zq eV.d hp) ?_|fail)
   refine l9 (keep:=[2,3]) (ids:=[0,1,2,3,4]) (s':=_) () (by simp only[eV.d,hp,c8,n7,b6,e7,n6,y5,AV.plain,Nat.reduceBEq,↓reduceIte,Nat.reduceEqDiff,Nat.reduceAdd,sC];rfl) ?_ trivial
   simp only[j7,l7,List.cons_append,List.nil_append,List.length_cons,List.length_nil,Nat.reduceAdd,Nat.zero_add]
def aM:=ZZ.mk (Zq @l7.eq_1 (Zq @B1 (Zq @j0 (Zq @j3 (Zq @x6 (Zq @I1 (Zq @x8 (Zq @y7 (Zq @n3 (Zq @p0 (Zq @w8 (Zq @m7 (Zq @l8 (Zq @n9 (Zq @y8 (Zq @s6 (Zq @r8 (Zq @z8 (Zq @q9 (Zq @A2 (Zq @A1 (Zq @z7 (Zq @z6 (Zq @s5 (Zq @j0 (Zq @j3 (Zq @A6 (Zq @J8 (Zq @y4 (Zq @y0 @x6))))))))))))))))))))))))))))))
theorem a5q{K:Exit→LS→Prop}(S SA:MS){z:Int}(hL:B5 S.L)(h0:0≤S.at_∧S.at_≤900)(hb:S.bs.length≤800)(hSA:SA=S.fC)(hz: -1000≤z∧z≤1000):AK (md:=false) Tryd.prog (oR (cN Tryd.f5) [1,1,1,1,0,1,0,0,1,0,0,1,1]) [] ⟨[.Z,.Z,.ptr S.rows.length 0 0,.ptr 0 0 0,.Z,.v (.int .i64 z),.Z,.Z,.Z,.Z,.Z,.Z,.Z,.Z,.Z,.Z,.Z,.Z,.Z,.Z,.Z,.Z,.Z,.Z,.Z,.Z,.Z,.Z,.Z,.Z,.Z,.Z,.Z,.Z,.Z,.Z,.Z,.Z,.Z,.Z,.Z,.Z,.Z,.Z,.Z,.Z,.Z,.Z,.Z,.Z,.Z,.Z,.Z,.Z,.Z,.Z,.Z,.Z,.Z,.Z,.Z,.Z,.Z,.Z,.Z,.Z,.Z,.Z,.Z,.Z,.Z,.Z,.Z,.Z,.Z,.Z,.Z,.Z,.Z,.Z,.Z,.Z,.Z,.Z,.Z,.Z,.Z,.Z,.Z,.Z,.Z,.Z,.Z,.Z,.Z,.Z,.Z,.Z,.Z,.Z,.Z,.Z,.Z,.Z,.Z,.Z,.Z,.Z,.Z,.Z,.Z,.Z,.Z,.Z,.Z,.Z,.Z,.Z,.Z,.Z,.Z,.Z,.Z,.Z,.Z,.Z,.Z,.Z,.Z,.Z,.Z,.Z,.Z,.Z,.Z,.Z,.Z,.Z,.Z,.Z,.Z,.Z,.Z,.Z,.Z,.Z,.Z,.Z,.Z,.Z,.Z,.Z,.Z],j7 0 (S.rows++[l7]),S.rows.length+1⟩ (S4 (fun s'=>∃a:Unit,Go.Ab.aP True∧O8 s' ⟨[.Z,.Z,.ptr SA.rows.length 0 0,.ptr 0 0 0,.Z,.v (.int .i64 z),.Z,.Z,.Z,.Z,.Z,.Z,.Z,.Z,.Z,.Z,.Z,.Z,.Z,.Z,.Z,.Z,.Z,.Z,.Z,.Z,.Z,.Z,.Z,.Z,.Z,.Z,.Z,.Z,.Z,.Z,.Z,.Z,.Z,.Z,.Z,.Z,.Z,.Z,.Z,.Z,.Z,.Z,.Z,.Z,.Z,.Z,.Z,.Z,.Z,.Z,.Z,.Z,.Z,.Z,.Z,.Z,.Z,.Z,.Z,.Z,.Z,.Z,.Z,.Z,.Z,.Z,.Z,.Z,.Z,.Z,.Z,.Z,.Z,.Z,.Z,.Z,.Z,.Z,.Z,.Z,.Z,.Z,.Z,.Z,.Z,.Z,.Z,.Z,.Z,.Z,.Z,.Z,.Z,.Z,.Z,.Z,.Z,.Z,.Z,.Z,.Z,.Z,.Z,.Z,.Z,.Z,.Z,.Z,.Z,.Z,.Z,.Z,.Z,.Z,.Z,.Z,.Z,.Z,.Z,.Z,.Z,.Z,.Z,.Z,.Z,.Z,.Z,.Z,.Z,.Z,.Z,.Z,.Z,.Z,.Z,.Z,.Z,.Z,.Z,.Z,.Z,.Z,.Z,.Z,.Z,.Z,.Z],j7 0 (SA.rows++[l7]),SA.rows.length+1⟩) K):=by
 conv in oR _ _=>whnf
 have hx:=j6 hL h0.1
 have hx1:=j6 hL (show 0≤S.at_+1 by omega)
 have CN:=o9 S.L S.at_ (by omega) hL
 have CN1:=o9 S.L (S.at_+1) (by omega) hL
 have CR:=Y4 S.L (S.at_+1+1) (by omega) hL
 have CV:=dM S.L (S.at_+1+1+1) (by omega) hL
 have CV2:=dM S.L (S.at_+1+1+1+1) (by omega) hL
 have hA1:a8 S.L S.at_%3=0→SA=_:=fun hp=>hSA.trans (if_pos hp)
 have hA2:¬a8 S.L S.at_%3=0→SA=_:=fun hp=>hSA.trans (if_neg hp)
 clear hSA hL
 obtain⟨L',at',g,su,re,sl,pa,ar,lo,bs,ii,t⟩:=S
 simp only at CN CN1 CR CV CV2 hx hx1 hA1 hA2 h0 hb⊢
 generalize a8 L' at'=y at*
 generalize a8 L' (at'+1)=y1 at*
 generalize G9 L' (at'+1+1)=d at*
 generalize V6 L' (at'+1+1+1)=v at*
 generalize V6 L' (at'+1+1+1+1)=v2 at*
 obtain⟨dk,dn,dv⟩:=d
 obtain⟨vk,vn,vv⟩:=v
 obtain⟨uk,un,uv⟩:=v2
 simp only[H8.av]at CR CV CV2
 by_cases hp:y%3=0
 ·rw[hA1 hp]
  clear hA1 hA2
  cases lo<;>cases ii
  all_goals simp only[MS.rows,j7,b0u,O0,j8.cell,j8.rows,j8.l,j8.k,r6.cell,r6.rows,r6.l,List.cons_append,List.nil_append,List.append_nil,List.length_cons,List.length_nil,Nat.reduceAdd,List.cons_append,List.nil_append]at⊢
  ·repeat' (first|refine Zl ?_|(with_reducible constructor<;>first|intro N hN mk hmk|intro N hN|intro h)|refine Ze CN ?_|refine Ze CN1 ?_|refine Ze CR ?_|refine Ze CV ?_|refine Ze CV2 ?_|refine Zt (Zq aM.d hp) ?_|fail)
   refine l9 (keep:=[2,3,5]) (ids:=[0,1,2]) (s':=_) () (by simp only[aM.d,hp,c8,n7,b6,e7,n6,y5,AV.plain,Nat.reduceBEq,↓reduceIte,Nat.reduceEqDiff,Nat.reduceAdd,sC];rfl) ?_ trivial
   simp only[j7,l7,B1,List.cons_append,List.nil_append,List.length_cons,List.length_nil,Nat.reduceAdd,Nat.zero_add]
  ·repeat' (first|refine Zl ?_|(with_reducible constructor<;>first|intro N hN mk hmk|intro N hN|intro h)|refine Ze CN ?_|refine Ze CN1 ?_|refine Ze CR ?_|refine Ze CV ?_|refine Ze CV2 ?_|refine Zt (Zq aM.d hp) ?_|fail)
   refine l9 (keep:=[2,3,5]) (ids:=[0,1,2,3]) (s':=_) () (by simp only[aM.d,hp,c8,n7,b6,e7,n6,y5,AV.plain,Nat.reduceBEq,↓reduceIte,Nat.reduceEqDiff,Nat.reduceAdd,sC];rfl) ?_ trivial
   simp only[j7,l7,B1,List.cons_append,List.nil_append,List.length_cons,List.length_nil,Nat.reduceAdd,Nat.zero_add]
  ·repeat' (first|refine Zl ?_|(with_reducible constructor<;>first|intro N hN mk hmk|intro N hN|intro h)|refine Ze CN ?_|refine Ze CN1 ?_|refine Ze CR ?_|refine Ze CV ?_|refine Ze CV2 ?_|refine Zt (Zq aM.d hp) ?_|fail)
   refine l9 (keep:=[2,3,5]) (ids:=[0,1,2,3]) (s':=_) () (by simp only[aM.d,hp,c8,n7,b6,e7,n6,y5,AV.plain,Nat.reduceBEq,↓reduceIte,Nat.reduceEqDiff,Nat.reduceAdd,sC];rfl) ?_ trivial
   simp only[j7,l7,B1,List.cons_append,List.nil_append,List.length_cons,List.length_nil,Nat.reduceAdd,Nat.zero_add]
  ·repeat' (first|refine Zl ?_|(with_reducible constructor<;>first|intro N hN mk hmk|intro N hN|intro h)|refine Ze CN ?_|refine Ze CN1 ?_|refine Ze CR ?_|refine Ze CV ?_|refine Ze CV2 ?_|refine Zt (Zq aM.d hp) ?_|fail)
   refine l9 (keep:=[2,3,5]) (ids:=[0,1,2,3,4]) (s':=_) () (by simp only[aM.d,hp,c8,n7,b6,e7,n6,y5,AV.plain,Nat.reduceBEq,↓reduceIte,Nat.reduceEqDiff,Nat.reduceAdd,sC];rfl) ?_ trivial
   simp only[j7,l7,B1,List.cons_append,List.nil_append,List.length_cons,List.length_nil,Nat.reduceAdd,Nat.zero_add]
 ·rw[hA2 hp]
  clear hA1 hA2
  cases lo<;>cases ii
  all_goals simp only[MS.rows,j7,b0j,O0,j8.cell,j8.rows,j8.l,j8.k,r6.cell,r6.rows,r6.l,List.cons_append,List.nil_append,List.append_nil,List.length_cons,List.length_nil,Nat.reduceAdd,List.cons_append,List.nil_append]at⊢
  ·repeat' (first|refine Zl ?_|(with_reducible constructor<;>first|intro N hN mk hmk|intro N hN|intro h)|refine Ze CN ?_|refine Zt (Zq aM.d hp) ?_|fail)
   refine l9 (keep:=[2,3,5]) (ids:=[0,1,2]) (s':=_) () (by simp only[aM.d,hp,c8,n7,b6,e7,n6,y5,AV.plain,Nat.reduceBEq,↓reduceIte,Nat.reduceEqDiff,Nat.reduceAdd,sC];rfl) ?_ trivial
   simp only[j7,l7,B1,List.cons_append,List.nil_append,List.length_cons,List.length_nil,Nat.reduceAdd,Nat.zero_add]
  ·repeat' (first|refine Zl ?_|(with_reducible constructor<;>first|intro N hN mk hmk|intro N hN|intro h)|refine Ze CN ?_|refine Zt (Zq aM.d hp) ?_|fail)
   refine l9 (keep:=[2,3,5]) (ids:=[0,1,2,3]) (s':=_) () (by simp only[aM.d,hp,c8,n7,b6,e7,n6,y5,AV.plain,Nat.reduceBEq,↓reduceIte,Nat.reduceEqDiff,Nat.reduceAdd,sC];rfl) ?_ trivial
   simp only[j7,l7,B1,List.cons_append,List.nil_append,List.length_cons,List.length_nil,Nat.reduceAdd,Nat.zero_add]
  ·repeat' (first|refine Zl ?_|(with_reducible constructor<;>first|intro N hN mk hmk|intro N hN|intro h)|refine Ze CN ?_|refine Zt (Zq aM.d hp) ?_|fail)
   refine l9 (keep:=[2,3,5]) (ids:=[0,1,2,3]) (s':=_) () (by simp only[aM.d,hp,c8,n7,b6,e7,n6,y5,AV.plain,Nat.reduceBEq,↓reduceIte,Nat.reduceEqDiff,Nat.reduceAdd,sC];rfl) ?_ trivial
   simp only[j7,l7,B1,List.cons_append,List.nil_append,List.length_cons,List.length_nil,Nat.reduceAdd,Nat.zero_add]
  ·repeat' (first|refine Zl ?_|(with_reducible constructor<;>first|intro N hN mk hmk|intro N hN|intro h)|refine Ze CN ?_|refine Zt (Zq aM.d hp) ?_|fail)
   refine l9 (keep:=[2,3,5]) (ids:=[0,1,2,3,4]) (s':=_) () (by simp only[aM.d,hp,c8,n7,b6,e7,n6,y5,AV.plain,Nat.reduceBEq,↓reduceIte,Nat.reduceEqDiff,Nat.reduceAdd,sC];rfl) ?_ trivial
   simp only[j7,l7,B1,List.cons_append,List.nil_append,List.length_cons,List.length_nil,Nat.reduceAdd,Nat.zero_add]
theorem rF(bs:List e8)(l:List l0)(t:w4):y6 bs++[AV.c5 false (j5 l)::t.av]=y6 (bs++[⟨l,t⟩]):=by simp [y6,e8.av]
theorem oC(bs:List e8)(b:e8):(y6 (bs++[b])).take (bs.length+1)=y6 (bs++[b]):=List.take_of_length_le (by rw[n3];simp)
theorem rL(bs:List e8)(b:e8):(y6 (bs++[b])).length=bs.length+1:=by rw[n3];simp
def U7:=ZZ.mk (Zq @l7.eq_1 (Zq @B1 (Zq @j0 (Zq @j3 (Zq @x6 (Zq @I1 (Zq @x8 (Zq @y7 (Zq @n3 (Zq @p0 (Zq @w8 (Zq @m7 (Zq @l8 (Zq @n9 (Zq @y8 (Zq @s6 (Zq @r8 (Zq @z8 (Zq @q9 (Zq @A2 (Zq @A1 (Zq @z7 (Zq @z6 (Zq @s5 (Zq @j0 (Zq @j3 (Zq @A6 (Zq @J8 (Zq @y4 (Zq @y0 @x6))))))))))))))))))))))))))))))
theorem b1A(S:MS)(hb:S.bs.length≤800):AK (md:=false) Tryd.prog (oR (cN Tryd.f5) [1,1,1,1,1,1,1]) [] ⟨[.Z,.Z,.ptr S.rows.length 0 0,.ptr 0 0 0,.Z,.Z,.Z,.Z,.Z,.Z,.Z,.Z,.Z,.Z,.Z,.Z,.Z,.Z,.Z,.Z,.Z,.Z,.Z,.Z,.Z,.Z,.Z,.Z,.Z,.Z,.Z,.Z,.Z,.Z,.Z,.Z,.Z,.Z,.Z,.Z,.Z,.Z,.Z,.Z,.Z,.Z,.Z,.Z,.Z,.Z,.Z,.Z,.Z,.Z,.Z,.Z,.Z,.Z,.Z,.Z,.Z,.Z,.Z,.Z,.Z,.Z,.Z,.Z,.Z,.Z,.Z,.Z,.Z,.Z,.Z,.Z,.Z,.Z,.Z,.Z,.Z,.Z,.Z,.Z,.Z,.Z,.Z,.Z,.Z,.Z,.Z,.Z,.Z,.Z,.Z,.Z,.Z,.Z,.Z,.Z,.Z,.Z,.Z,.Z,.Z,.Z,.Z,.Z,.Z,.Z,.Z,.Z,.Z,.Z,.Z,.Z,.Z,.Z,.Z,.Z,.Z,.Z,.Z,.Z,.Z,.Z,.Z,.Z,.Z,.Z,.Z,.Z,.Z,.Z,.Z,.Z,.Z,.Z,.Z,.Z,.Z,.Z,.Z,.Z,.Z,.Z,.Z,.Z,.Z,.Z,.Z,.Z,.Z],j7 0 (S.rows++[l7]),S.rows.length+1⟩ (a1f Tryd.prog Tryd.f5 (.agg (MS.code {S with t:=jA}).av)):=by
 conv in oR _ _=>whnf
 obtain⟨L',at',g,su,re,sl,pa,ar,lo,bs,ii,t⟩:=S
 simp only at hb⊢
 rcases lo with _|ll<;>rcases ii with _|li
 all_goals simp only[MS.rows,j7,jA,O0,j8.cell,j8.rows,j8.l,j8.k,r6.cell,r6.rows,r6.l,List.cons_append,List.nil_append,List.append_nil,MS.code,Code.av,List.length_cons,List.length_nil,Nat.reduceAdd,List.cons_append,List.nil_append]at⊢
 ·refine eX 1 bs.length 0 (x:= .c5 true []) (y:= .c5 false (j5 [])) (ids:=[]) rfl (by simp only[x8];rfl) (by simp (maxSteps:=10000000) (disch:=omega) only[U7.d,w9,bL,D7,L4,B6,x7,AV.kept,e9,u1,D8,N5,B9,B2,n4,AV.J6,x4,E6,AV.plain,rd,B7,b8,bK,stepC,AV.o3,AV.cF,AV.J5,AV.Z0,AV.scalar,cX,D0,M6,M9,N0,M8,A9,M4,cY,D3,M7,L1,s8,cV,u7,I9,I6,bS,K8,u4,TD.isRow,D6,u0,u6,s9,T1,Value.oneCell',↓reduceIte,Int.reduceNe,Int.reduceEq,Nat.reduceAdd,Nat.reduceLT,Nat.reduceLeDiff,Nat.reduceSub,Nat.reduceMul,Nat.reduceBEq,Nat.reduceEqDiff,reduceCtorEq,Int.reduceToNat,←decide_not,←Bool.decide_and,sA,sN]<;>first|done|rfl) (by first|rfl|(simp (maxSteps:=10000000) (disch:=omega) only[b8,U7.d,w9,bL,D7,L4,B6,x7,AV.kept,e9,u1,D8,N5,B9,B2,n4,AV.J6,x4,E6,AV.plain,rd,B7,b8,bK,stepC,AV.o3,AV.cF,AV.J5,AV.Z0,AV.scalar,cX,D0,M6,M9,N0,M8,A9,M4,cY,D3,M7,L1,s8,cV,u7,I9,I6,bS,K8,u4,TD.isRow,D6,u0,u6,s9,T1,Value.oneCell',↓reduceIte,Int.reduceNe,Int.reduceEq,Nat.reduceAdd,Nat.reduceLT,Nat.reduceLeDiff,Nat.reduceSub,Nat.reduceMul,Nat.reduceBEq,Nat.reduceEqDiff,reduceCtorEq,Int.reduceToNat,←decide_not,←Bool.decide_and,sA,sN]<;>first|done|rfl)) ?_;simp (maxSteps:=10000000) (disch:=omega) only[u1,E7,T1,U7.d,w9,bL,D7,L4,B6,x7,AV.kept,e9,u1,D8,N5,B9,B2,n4,AV.J6,x4,E6,AV.plain,rd,B7,b8,bK,stepC,AV.o3,AV.cF,AV.J5,AV.Z0,AV.scalar,cX,D0,M6,M9,N0,M8,A9,M4,cY,D3,M7,L1,s8,cV,u7,I9,I6,bS,K8,u4,TD.isRow,D6,u0,u6,s9,T1,Value.oneCell',↓reduceIte,Int.reduceNe,Int.reduceEq,Nat.reduceAdd,Nat.reduceLT,Nat.reduceLeDiff,Nat.reduceSub,Nat.reduceMul,Nat.reduceBEq,Nat.reduceEqDiff,reduceCtorEq,Int.reduceToNat,←decide_not,←Bool.decide_and,sA,sN]
  repeat' (first|refine Zl ?_|(with_reducible constructor<;>first|intro N hN mk hmk|intro N hN|intro h)|refine Zt U7.d ?_|fail)
  all_goals(simp (maxSteps:=10000000) (disch:=omega) only[rF,oC,rL,V2,Z8,U7.d,w9,bL,D7,L4,B6,x7,AV.kept,e9,u1,D8,N5,B9,B2,n4,AV.J6,x4,E6,AV.plain,rd,B7,b8,bK,stepC,AV.o3,AV.cF,AV.J5,AV.Z0,AV.scalar,cX,D0,M6,M9,N0,M8,A9,M4,cY,D3,M7,L1,s8,cV,u7,I9,I6,bS,K8,u4,TD.isRow,D6,u0,u6,s9,T1,Value.oneCell',↓reduceIte,Int.reduceNe,Int.reduceEq,Nat.reduceAdd,Nat.reduceLT,Nat.reduceLeDiff,Nat.reduceSub,Nat.reduceMul,Nat.reduceBEq,Nat.reduceEqDiff,reduceCtorEq,Int.reduceToNat,←decide_not,←Bool.decide_and,sA,sN]<;>rfl)
 ·refine eX 1 bs.length 0 (x:= .own 2 0 li.length) (y:= .c5 false (j5 li)) (ids:=[(2,li.length)]) rfl (by simp only[x8];rfl) (by simp (maxSteps:=10000000) (disch:=omega) only[U7.d,w9,bL,D7,L4,B6,x7,AV.kept,e9,u1,D8,N5,B9,B2,n4,AV.J6,x4,E6,AV.plain,rd,B7,b8,bK,stepC,AV.o3,AV.cF,AV.J5,AV.Z0,AV.scalar,cX,D0,M6,M9,N0,M8,A9,M4,cY,D3,M7,L1,s8,cV,u7,I9,I6,bS,K8,u4,TD.isRow,D6,u0,u6,s9,T1,Value.oneCell',↓reduceIte,Int.reduceNe,Int.reduceEq,Nat.reduceAdd,Nat.reduceLT,Nat.reduceLeDiff,Nat.reduceSub,Nat.reduceMul,Nat.reduceBEq,Nat.reduceEqDiff,reduceCtorEq,Int.reduceToNat,←decide_not,←Bool.decide_and,sA,sN]<;>first|done|rfl) (by first|rfl|(simp (maxSteps:=10000000) (disch:=omega) only[b8,U7.d,w9,bL,D7,L4,B6,x7,AV.kept,e9,u1,D8,N5,B9,B2,n4,AV.J6,x4,E6,AV.plain,rd,B7,b8,bK,stepC,AV.o3,AV.cF,AV.J5,AV.Z0,AV.scalar,cX,D0,M6,M9,N0,M8,A9,M4,cY,D3,M7,L1,s8,cV,u7,I9,I6,bS,K8,u4,TD.isRow,D6,u0,u6,s9,T1,Value.oneCell',↓reduceIte,Int.reduceNe,Int.reduceEq,Nat.reduceAdd,Nat.reduceLT,Nat.reduceLeDiff,Nat.reduceSub,Nat.reduceMul,Nat.reduceBEq,Nat.reduceEqDiff,reduceCtorEq,Int.reduceToNat,←decide_not,←Bool.decide_and,sA,sN]<;>first|done|rfl)) ?_;simp (maxSteps:=10000000) (disch:=omega) only[u1,E7,T1,U7.d,w9,bL,D7,L4,B6,x7,AV.kept,e9,u1,D8,N5,B9,B2,n4,AV.J6,x4,E6,AV.plain,rd,B7,b8,bK,stepC,AV.o3,AV.cF,AV.J5,AV.Z0,AV.scalar,cX,D0,M6,M9,N0,M8,A9,M4,cY,D3,M7,L1,s8,cV,u7,I9,I6,bS,K8,u4,TD.isRow,D6,u0,u6,s9,T1,Value.oneCell',↓reduceIte,Int.reduceNe,Int.reduceEq,Nat.reduceAdd,Nat.reduceLT,Nat.reduceLeDiff,Nat.reduceSub,Nat.reduceMul,Nat.reduceBEq,Nat.reduceEqDiff,reduceCtorEq,Int.reduceToNat,←decide_not,←Bool.decide_and,sA,sN]
  repeat' (first|refine Zl ?_|(with_reducible constructor<;>first|intro N hN mk hmk|intro N hN|intro h)|refine Zt U7.d ?_|fail)
  all_goals(simp (maxSteps:=10000000) (disch:=omega) only[rF,oC,rL,V2,Z8,U7.d,w9,bL,D7,L4,B6,x7,AV.kept,e9,u1,D8,N5,B9,B2,n4,AV.J6,x4,E6,AV.plain,rd,B7,b8,bK,stepC,AV.o3,AV.cF,AV.J5,AV.Z0,AV.scalar,cX,D0,M6,M9,N0,M8,A9,M4,cY,D3,M7,L1,s8,cV,u7,I9,I6,bS,K8,u4,TD.isRow,D6,u0,u6,s9,T1,Value.oneCell',↓reduceIte,Int.reduceNe,Int.reduceEq,Nat.reduceAdd,Nat.reduceLT,Nat.reduceLeDiff,Nat.reduceSub,Nat.reduceMul,Nat.reduceBEq,Nat.reduceEqDiff,reduceCtorEq,Int.reduceToNat,←decide_not,←Bool.decide_and,sA,sN]<;>rfl)
 ·refine eX 1 bs.length 0 (x:= .c5 true []) (y:= .c5 false (j5 [])) (ids:=[]) rfl (by simp only[x8];rfl) (by simp (maxSteps:=10000000) (disch:=omega) only[U7.d,w9,bL,D7,L4,B6,x7,AV.kept,e9,u1,D8,N5,B9,B2,n4,AV.J6,x4,E6,AV.plain,rd,B7,b8,bK,stepC,AV.o3,AV.cF,AV.J5,AV.Z0,AV.scalar,cX,D0,M6,M9,N0,M8,A9,M4,cY,D3,M7,L1,s8,cV,u7,I9,I6,bS,K8,u4,TD.isRow,D6,u0,u6,s9,T1,Value.oneCell',↓reduceIte,Int.reduceNe,Int.reduceEq,Nat.reduceAdd,Nat.reduceLT,Nat.reduceLeDiff,Nat.reduceSub,Nat.reduceMul,Nat.reduceBEq,Nat.reduceEqDiff,reduceCtorEq,Int.reduceToNat,←decide_not,←Bool.decide_and,sA,sN]<;>first|done|rfl) (by first|rfl|(simp (maxSteps:=10000000) (disch:=omega) only[b8,U7.d,w9,bL,D7,L4,B6,x7,AV.kept,e9,u1,D8,N5,B9,B2,n4,AV.J6,x4,E6,AV.plain,rd,B7,b8,bK,stepC,AV.o3,AV.cF,AV.J5,AV.Z0,AV.scalar,cX,D0,M6,M9,N0,M8,A9,M4,cY,D3,M7,L1,s8,cV,u7,I9,I6,bS,K8,u4,TD.isRow,D6,u0,u6,s9,T1,Value.oneCell',↓reduceIte,Int.reduceNe,Int.reduceEq,Nat.reduceAdd,Nat.reduceLT,Nat.reduceLeDiff,Nat.reduceSub,Nat.reduceMul,Nat.reduceBEq,Nat.reduceEqDiff,reduceCtorEq,Int.reduceToNat,←decide_not,←Bool.decide_and,sA,sN]<;>first|done|rfl)) ?_;simp (maxSteps:=10000000) (disch:=omega) only[u1,E7,T1,U7.d,w9,bL,D7,L4,B6,x7,AV.kept,e9,u1,D8,N5,B9,B2,n4,AV.J6,x4,E6,AV.plain,rd,B7,b8,bK,stepC,AV.o3,AV.cF,AV.J5,AV.Z0,AV.scalar,cX,D0,M6,M9,N0,M8,A9,M4,cY,D3,M7,L1,s8,cV,u7,I9,I6,bS,K8,u4,TD.isRow,D6,u0,u6,s9,T1,Value.oneCell',↓reduceIte,Int.reduceNe,Int.reduceEq,Nat.reduceAdd,Nat.reduceLT,Nat.reduceLeDiff,Nat.reduceSub,Nat.reduceMul,Nat.reduceBEq,Nat.reduceEqDiff,reduceCtorEq,Int.reduceToNat,←decide_not,←Bool.decide_and,sA,sN]
  repeat' (first|refine Zl ?_|(with_reducible constructor<;>first|intro N hN mk hmk|intro N hN|intro h)|refine Zt U7.d ?_|fail)
  all_goals(simp (maxSteps:=10000000) (disch:=omega) only[rF,oC,rL,V2,Z8,U7.d,w9,bL,D7,L4,B6,x7,AV.kept,e9,u1,D8,N5,B9,B2,n4,AV.J6,x4,E6,AV.plain,rd,B7,b8,bK,stepC,AV.o3,AV.cF,AV.J5,AV.Z0,AV.scalar,cX,D0,M6,M9,N0,M8,A9,M4,cY,D3,M7,L1,s8,cV,u7,I9,I6,bS,K8,u4,TD.isRow,D6,u0,u6,s9,T1,Value.oneCell',↓reduceIte,Int.reduceNe,Int.reduceEq,Nat.reduceAdd,Nat.reduceLT,Nat.reduceLeDiff,Nat.reduceSub,Nat.reduceMul,Nat.reduceBEq,Nat.reduceEqDiff,reduceCtorEq,Int.reduceToNat,←decide_not,←Bool.decide_and,sA,sN]<;>rfl)
 ·refine eX 1 bs.length 0 (x:= .own 2 0 li.length) (y:= .c5 false (j5 li)) (ids:=[(2,li.length)]) rfl (by simp only[x8];rfl) (by simp (maxSteps:=10000000) (disch:=omega) only[U7.d,w9,bL,D7,L4,B6,x7,AV.kept,e9,u1,D8,N5,B9,B2,n4,AV.J6,x4,E6,AV.plain,rd,B7,b8,bK,stepC,AV.o3,AV.cF,AV.J5,AV.Z0,AV.scalar,cX,D0,M6,M9,N0,M8,A9,M4,cY,D3,M7,L1,s8,cV,u7,I9,I6,bS,K8,u4,TD.isRow,D6,u0,u6,s9,T1,Value.oneCell',↓reduceIte,Int.reduceNe,Int.reduceEq,Nat.reduceAdd,Nat.reduceLT,Nat.reduceLeDiff,Nat.reduceSub,Nat.reduceMul,Nat.reduceBEq,Nat.reduceEqDiff,reduceCtorEq,Int.reduceToNat,←decide_not,←Bool.decide_and,sA,sN]<;>first|done|rfl) (by first|rfl|(simp (maxSteps:=10000000) (disch:=omega) only[b8,U7.d,w9,bL,D7,L4,B6,x7,AV.kept,e9,u1,D8,N5,B9,B2,n4,AV.J6,x4,E6,AV.plain,rd,B7,b8,bK,stepC,AV.o3,AV.cF,AV.J5,AV.Z0,AV.scalar,cX,D0,M6,M9,N0,M8,A9,M4,cY,D3,M7,L1,s8,cV,u7,I9,I6,bS,K8,u4,TD.isRow,D6,u0,u6,s9,T1,Value.oneCell',↓reduceIte,Int.reduceNe,Int.reduceEq,Nat.reduceAdd,Nat.reduceLT,Nat.reduceLeDiff,Nat.reduceSub,Nat.reduceMul,Nat.reduceBEq,Nat.reduceEqDiff,reduceCtorEq,Int.reduceToNat,←decide_not,←Bool.decide_and,sA,sN]<;>first|done|rfl)) ?_;simp (maxSteps:=10000000) (disch:=omega) only[u1,E7,T1,U7.d,w9,bL,D7,L4,B6,x7,AV.kept,e9,u1,D8,N5,B9,B2,n4,AV.J6,x4,E6,AV.plain,rd,B7,b8,bK,stepC,AV.o3,AV.cF,AV.J5,AV.Z0,AV.scalar,cX,D0,M6,M9,N0,M8,A9,M4,cY,D3,M7,L1,s8,cV,u7,I9,I6,bS,K8,u4,TD.isRow,D6,u0,u6,s9,T1,Value.oneCell',↓reduceIte,Int.reduceNe,Int.reduceEq,Nat.reduceAdd,Nat.reduceLT,Nat.reduceLeDiff,Nat.reduceSub,Nat.reduceMul,Nat.reduceBEq,Nat.reduceEqDiff,reduceCtorEq,Int.reduceToNat,←decide_not,←Bool.decide_and,sA,sN]
  repeat' (first|refine Zl ?_|(with_reducible constructor<;>first|intro N hN mk hmk|intro N hN|intro h)|refine Zt U7.d ?_|fail)
  all_goals(simp (maxSteps:=10000000) (disch:=omega) only[rF,oC,rL,V2,Z8,U7.d,w9,bL,D7,L4,B6,x7,AV.kept,e9,u1,D8,N5,B9,B2,n4,AV.J6,x4,E6,AV.plain,rd,B7,b8,bK,stepC,AV.o3,AV.cF,AV.J5,AV.Z0,AV.scalar,cX,D0,M6,M9,N0,M8,A9,M4,cY,D3,M7,L1,s8,cV,u7,I9,I6,bS,K8,u4,TD.isRow,D6,u0,u6,s9,T1,Value.oneCell',↓reduceIte,Int.reduceNe,Int.reduceEq,Nat.reduceAdd,Nat.reduceLT,Nat.reduceLeDiff,Nat.reduceSub,Nat.reduceMul,Nat.reduceBEq,Nat.reduceEqDiff,reduceCtorEq,Int.reduceToNat,←decide_not,←Bool.decide_and,sA,sN]<;>rfl)
def mD:=ZZ.mk (Zq @l7.eq_1 (Zq @j0 (Zq @j3 (Zq @x6 (Zq @I1 (Zq @x8 (Zq @y7 (Zq @n3 (Zq @p0 (Zq @w8 (Zq @m7 (Zq @l8 (Zq @n9 (Zq @y8 (Zq @s6 (Zq @r8 (Zq @z8 (Zq @q9 (Zq @A2 (Zq @A1 (Zq @z7 (Zq @z6 (Zq @s5 (Zq @j0 (Zq @j3 (Zq @A6 (Zq @J8 (Zq @y4 (Zq @y0 @x6)))))))))))))))))))))))))))))
theorem b3q(L:List Int)(hL:B5 L):n5 Tryd.prog 5 [.agg [.c5 false (fF L)]] (fun _=> .agg (nH L).av) (fun _=>[]):=by
 have C0:=o9 L 0 (by omega) hL
 have C1:=o9 L 1 (by omega) hL
 have C2:=o9 L 2 (by omega) hL
 have h0:=j6 hL (show(0:Int)≤0 by omega)
 have h1:=j6 hL (show(0:Int)≤1 by omega)
 have h2:=j6 hL (show(0:Int)≤2 by omega)
 obtain⟨M0,hM⟩:∃M,M=X5 L:=⟨_,rfl⟩
 have hMK:=a7D L hL
 have hXM:=fun i=>a7O L hL i (a7D L hL i)
 obtain⟨Y,hY⟩:∃Y,Y=(fin (decide (0<(a8 L 2%3).toNat)) (iO (X5 L) (a8 L 2%3).toNat)).code:=⟨_,rfl⟩
 rw[show nH L=Y from hY.symm]
 rw[←hM]at hMK hY hXM
 unfold X5 at hM
 simp only[Int.zero_add,Int.reduceAdd]at C0 C1 C2
 generalize a8 L 0=x0 at*
 generalize a8 L 1=x1 at*
 generalize a8 L 2=x2 at*
 have hg:=b26 x0 h0.1
 have hgb:=b02 x0 h0.1
 obtain⟨z1,hz1⟩:∃z1,x1%3=z1:=⟨_,rfl⟩
 have hzb:0≤z1∧z1≤2:=by omega
 refine Zf Tryd.func5 Tryd.ntmps5 ?_
 repeat' (first|(guard_target=~ AK Tryd.prog _ _ _ _;refine a6O (x:=Go.Code.seq (Go.Code.region 3 _ _) _) ⟨[.Z,.Z,.ptr 1 0 0,.ptr 0 0 0,.Z,.Z,.Z,.Z,.Z,.Z,.Z,.Z,.Z,.Z,.Z,.Z,.Z,.Z,.Z,.Z,.Z,.Z,.Z,.Z,.Z,.Z,.Z,.Z,.Z,.Z,.Z,.Z,.Z,.Z,.Z,.Z,.Z,.Z,.Z,.Z,.Z,.Z,.Z,.Z,.Z,.Z,.Z,.Z,.Z,.Z,.Z,.Z,.Z,.Z,.Z,.Z,.Z,.Z,.Z,.Z,.Z,.Z,.Z,.Z,.Z,.Z,.Z,.Z,.Z,.Z,.Z,.Z,.Z,.Z,.Z,.Z,.Z,.Z,.Z,.Z,.Z,.Z,.Z,.Z,.Z,.Z,.Z,.Z,.Z,.Z,.Z,.Z,.Z,.Z,.Z,.Z,.Z,.Z,.Z,.Z,.Z,.Z,.Z,.Z,.Z,.Z,.Z,.Z,.Z,.Z,.Z,.Z,.Z,.Z,.Z,.Z,.Z,.Z,.Z,.Z,.Z,.Z,.Z,.Z,.Z,.Z,.Z,.Z,.Z,.Z,.Z,.Z,.Z,.Z,.Z,.Z,.Z,.Z,.Z,.Z,.Z,.Z,.Z,.Z,.Z,.Z,.Z,.Z,.Z,.Z,.Z,.Z,.Z],[(0,.live ⟨10,[[.c5 false (fF L),.v (.int .i64 2),.v (.int .i64 (V0 x0)),.v (.int .i64 (pQ (V0 x0) z1.toNat 1)),.v (.int .i64 6),.v (.int .i64 0),.v (.int .i64 3),.c5 false (H2 dN),.c5 true [],.c5 true []]],0⟩),(1,.live l7)],2⟩ ?_ ?_)|refine Zl ?_|(with_reducible constructor<;>first|intro N hN mk hmk|intro N hN|intro h)|refine Zc yT ?_|refine Ze C0 ?_|refine Ze C1 ?_|refine Ze C2 ?_|(refine Zw [2,3] [0,1] (Zq mD.d (Zq hg hz1)) ?_;first|rfl|(simp only[*,true_and,and_true,false_and,and_false,decide_true,decide_false,not_true_eq_false,not_false_eq_true];done)|(simp [*];done))|refine Zt (Zq mD.d (Zq hg hz1)) ?_|fail)
 ·refine T2 (fun i=>⟨[.Z,.Z,.ptr 1 0 0,.ptr 0 0 0,.v (.int .i64 (z1-i)),.Z,.Z,.Z,.Z,.Z,.Z,.Z,.Z,.Z,.Z,.Z,.Z,.Z,.Z,.Z,.Z,.Z,.Z,.Z,.Z,.Z,.Z,.Z,.Z,.Z,.Z,.Z,.Z,.Z,.Z,.Z,.Z,.Z,.Z,.Z,.Z,.Z,.Z,.Z,.Z,.Z,.Z,.Z,.Z,.Z,.Z,.Z,.Z,.Z,.Z,.Z,.Z,.Z,.Z,.Z,.Z,.Z,.Z,.Z,.Z,.Z,.Z,.Z,.Z,.Z,.Z,.Z,.Z,.Z,.Z,.Z,.Z,.Z,.Z,.Z,.Z,.Z,.Z,.Z,.Z,.Z,.Z,.Z,.Z,.Z,.Z,.Z,.Z,.Z,.Z,.Z,.Z,.Z,.Z,.Z,.Z,.Z,.Z,.Z,.Z,.Z,.Z,.Z,.Z,.Z,.Z,.Z,.Z,.Z,.Z,.Z,.Z,.Z,.Z,.Z,.Z,.Z,.Z,.Z,.Z,.Z,.Z,.Z,.Z,.Z,.Z,.Z,.Z,.Z,.Z,.Z,.Z,.Z,.Z,.Z,.Z,.Z,.Z,.Z,.Z,.Z,.Z,.Z,.Z,.Z,.Z,.Z,.Z],[(0,.live ⟨10,[[.c5 false (fF L),.v (.int .i64 2),.v (.int .i64 (V0 x0)),.v (.int .i64 (2^i)),.v (.int .i64 6),.v (.int .i64 0),.v (.int .i64 3),.c5 false (H2 dN),.c5 true [],.c5 true []]],0⟩),(1,.live l7)],2⟩) (fun ii=>Go.Ab.aP ((fun i=>pQ (V0 x0) z1.toNat 1=pQ (V0 x0) (z1.toNat-i) (2^i)) ii)) z1.toNat (Zw [2,3,4] [40,8] (Zq mD.d (Zq hg hz1)) ?_) ?_ ?_
  ·simp only[Int.natCast_zero,Int.sub_zero,Int.pow_zero,l7]
  ·exact⟨by simp⟩
  ·intro i hi hI
   have hI:pQ (V0 x0) z1.toNat 1=pQ (V0 x0) (z1.toNat-i) (2^i):=hI.out
   have hpb:=b3N i (by omega)
   obtain⟨p,hp⟩:∃p:Int,p=2^i:=⟨_,rfl⟩
   rw[Int.pow_succ,←hp]
   rw[←hp]at hpb hI
   repeat' (first|refine Zl ?_|(with_reducible constructor<;>first|intro N hN mk hmk|intro N hN|intro h)|refine Zc yT ?_|refine Ze C0 ?_|refine Ze C1 ?_|refine Ze C2 ?_|refine Zt (Zq mD.d (Zq hg hz1)) ?_|fail)
   ·refine⟨⟨?_⟩,?_⟩
    ·rw[hI,show z1.toNat-i=(z1.toNat-(i+1))+1 by omega,pQ,if_pos h,Int.pow_succ,←hp,Int.mul_comm]
    ·refine Zw [2,3,4] [0,1] (Zq mD.d (Zq hg hz1)) ?_
     simp only[show z1- ↑(i+1)=z1- ↑i-1 by omega,Int.mul_comm p 2]
   ·refine Zw [2,3] [0,1] (Zq mD.d (Zq hg hz1)) ?_
    rw[hI,a4o _ _ _ (.inr h)]
   ·refine Zw [2,3] [0,1] (Zq mD.d (Zq hg hz1)) ?_
    rw[hI,a4o _ _ _ (.inl (by omega))]
 ·obtain⟨z2,hz2⟩:∃z2,x2%3=z2:=⟨_,rfl⟩
  rw[hz2]at hY⊢
  have hzb2:0≤z2∧z2≤2:=by omega
  obtain⟨XR,hXR⟩:∃XR:Nat→List Row,XR=fun i=>a4w (decide (0<i)) (iO M0 i):=⟨_,rfl⟩
  clear C0 C1 C2
  refine v7 (fun i=>⟨[.Z,.Z,.ptr (XR i).length 0 0,.ptr 0 0 0,.Z,.v (.int .i64 (z2-i)),.Z,.Z,.Z,.Z,.Z,.Z,.Z,.Z,.Z,.Z,.Z,.Z,.Z,.Z,.Z,.Z,.Z,.Z,.Z,.Z,.Z,.Z,.Z,.Z,.Z,.Z,.Z,.Z,.Z,.Z,.Z,.Z,.Z,.Z,.Z,.Z,.Z,.Z,.Z,.Z,.Z,.Z,.Z,.Z,.Z,.Z,.Z,.Z,.Z,.Z,.Z,.Z,.Z,.Z,.Z,.Z,.Z,.Z,.Z,.Z,.Z,.Z,.Z,.Z,.Z,.Z,.Z,.Z,.Z,.Z,.Z,.Z,.Z,.Z,.Z,.Z,.Z,.Z,.Z,.Z,.Z,.Z,.Z,.Z,.Z,.Z,.Z,.Z,.Z,.Z,.Z,.Z,.Z,.Z,.Z,.Z,.Z,.Z,.Z,.Z,.Z,.Z,.Z,.Z,.Z,.Z,.Z,.Z,.Z,.Z,.Z,.Z,.Z,.Z,.Z,.Z,.Z,.Z,.Z,.Z,.Z,.Z,.Z,.Z,.Z,.Z,.Z,.Z,.Z,.Z,.Z,.Z,.Z,.Z,.Z,.Z,.Z,.Z,.Z,.Z,.Z,.Z,.Z,.Z,.Z,.Z,.Z],j7 0 (XR i++[l7]),((XR i).length+1)⟩) z2.toNat (Zw [2,3,5] [0,1] (Zq mD.d (Zq hg hz1)) ?_) ?_
  ·rw[hXR];simp only[iO,hM,a4w,X8,j7,l7,Nat.lt_irrefl,decide_false,Bool.false_eq_true,if_false,hz1,List.cons_append,List.nil_append,List.length_cons,List.length_nil,Nat.zero_add,Int.natCast_zero,Int.sub_zero]
  ·intro i hi
   obtain⟨S,hS⟩:∃S,S=iO M0 i:=⟨_,rfl⟩
   have hK:=hMK i
   rw[←hS]at hK
   obtain⟨XS,hXS⟩:∃XS,XS=XR i:=⟨_,rfl⟩
   obtain⟨XT,hXT⟩:∃XT,XT=XR (i+1):=⟨_,rfl⟩
   rw[←hXS,←hXT]
   obtain⟨SA,hSA⟩:∃SA,SA=bB (decide (0<i)) {S with at_:=S.at_+1} (a8 S.L S.at_%3):=⟨_,rfl⟩
   obtain⟨SB,hSB⟩:∃SB,SB=SA.iJ:=⟨_,rfl⟩
   obtain⟨SC,hSC⟩:∃SC,SC=SB.fC:=⟨_,rfl⟩
   obtain⟨SD,hSD⟩:∃SD,SD=SA.iK:=⟨_,rfl⟩
   have hKA:=hXM i
   rw[←hS,←hSA]at hKA
   clear hXM
   have hT:XT=SC.rows:=by rw[hXT,hXR,hSC,hSB,hSA,hS];simp only[a4w,show decide (0<i+1)=true from by simp,if_true];rfl
   have hKn:=hK.next
   have hka:=hK.at_
   have hkb:=hK.bs
   have hKB:MK SB (3+200*i+108+41) (6*i+3+3) (i+1):=by rw[hSB];exact hKA.iJ
   have hKAn:=hKA.next
   have hKal:=hKA.lo
   have hKab:=hKA.bs
   have hKBb:=hKB.bs
   have hKBa:=hKB.at_
   have hKAa:=hKA.at_
   have hok2:fL (MS.block (MS.loop {SA with at_:=SA.at_+1})) 700000:=(hKAn.loop.block).ok (by omega) (by omega) (by omega)
   have hKD:SD.bs.length≤800:=by
    rw[hSD];unfold MS.iK
    split
    ·have:=((hKAn.loop.block).j5 (by simp [MS.block,j8.l])).bs;omega
    ·show SA.bs.length≤800;omega
   have hRG:(0<i→XS=S.rows∧SA=MS.region {S with at_:=S.at_+1} (a8 S.L S.at_%3))∧(¬0<i→XS=X8 L 3 (V0 x0) (pQ (V0 x0) (x1%3).toNat 1) 6 0 3 dN∧SA=MS.eM ⟨L,3+1,V0 x0,pQ (V0 x0) (x1%3).toNat 1,6,0,3,dN,.nil,[],.nil,T0⟩ (a8 L 3%3)∧fL ⟨L,3+1,V0 x0,pQ (V0 x0) (x1%3).toNat 1,6,0,3,dN,.nil,[],.nil,T0⟩ 600000):=by
    refine⟨fun hi0=>⟨?_,?_⟩,fun hi0=>?_⟩
    ·rw[hXS,hXR];simp only[a4w,decide_eq_true hi0,if_true,←hS]
    ·rw[hSA];unfold bB;rw[if_pos (by simpa using hi0)]
    ·obtain rfl:i=0:=by omega
     have hS2:S=M0:=hS
     rw[hS2,hM]at hSA hKn
     refine⟨by rw[hXS,hXR];simp only[iO,a4w,Nat.lt_irrefl,decide_false,Bool.false_eq_true,if_false,hM],by rw[hSA];rfl,hKn.ok (by omega) (by omega) (by omega)⟩
   have G1:∀K:Exit→LS→Prop,AK (md:=false) Tryd.prog (oR (cN Tryd.f5) [1,1,1,1,0,1,0,0,1,0,0,0]) [] ⟨[.Z,.Z,.ptr XS.length 0 0,.ptr 0 0 0,.Z,.v (.int .i64 (z2-i)),.Z,.Z,.Z,.Z,.Z,.Z,.Z,.Z,.Z,.Z,.Z,.Z,.Z,.Z,.Z,.Z,.Z,.Z,.Z,.Z,.Z,.Z,.Z,.Z,.Z,.Z,.Z,.Z,.Z,.Z,.Z,.Z,.Z,.Z,.Z,.Z,.Z,.Z,.Z,.Z,.Z,.Z,.Z,.Z,.Z,.Z,.Z,.Z,.Z,.Z,.Z,.Z,.Z,.Z,.Z,.Z,.Z,.Z,.Z,.Z,.Z,.Z,.Z,.Z,.Z,.Z,.Z,.Z,.Z,.Z,.Z,.Z,.Z,.Z,.Z,.Z,.Z,.Z,.Z,.Z,.Z,.Z,.Z,.Z,.Z,.Z,.Z,.Z,.Z,.Z,.Z,.Z,.Z,.Z,.Z,.Z,.Z,.Z,.Z,.Z,.Z,.Z,.Z,.Z,.Z,.Z,.Z,.Z,.Z,.Z,.Z,.Z,.Z,.Z,.Z,.Z,.Z,.Z,.Z,.Z,.Z,.Z,.Z,.Z,.Z,.Z,.Z,.Z,.Z,.Z,.Z,.Z,.Z,.Z,.Z,.Z,.Z,.Z,.Z,.Z,.Z,.Z,.Z,.Z,.Z,.Z,.Z],j7 0 (XS++[l7]),XS.length+1+8+8⟩ (S4 (fun s'=>∃a:Unit,Go.Ab.aP True∧O8 s' ⟨[.Z,.Z,.ptr SA.rows.length 0 0,.ptr 0 0 0,.Z,.v (.int .i64 (z2-i)),.Z,.Z,.Z,.Z,.Z,.Z,.Z,.Z,.Z,.Z,.Z,.Z,.Z,.Z,.Z,.Z,.Z,.Z,.Z,.Z,.Z,.Z,.Z,.Z,.Z,.Z,.Z,.Z,.Z,.Z,.Z,.Z,.Z,.Z,.Z,.Z,.Z,.Z,.Z,.Z,.Z,.Z,.Z,.Z,.Z,.Z,.Z,.Z,.Z,.Z,.Z,.Z,.Z,.Z,.Z,.Z,.Z,.Z,.Z,.Z,.Z,.Z,.Z,.Z,.Z,.Z,.Z,.Z,.Z,.Z,.Z,.Z,.Z,.Z,.Z,.Z,.Z,.Z,.Z,.Z,.Z,.Z,.Z,.Z,.Z,.Z,.Z,.Z,.Z,.Z,.Z,.Z,.Z,.Z,.Z,.Z,.Z,.Z,.Z,.Z,.Z,.Z,.Z,.Z,.Z,.Z,.Z,.Z,.Z,.Z,.Z,.Z,.Z,.Z,.Z,.Z,.Z,.Z,.Z,.Z,.Z,.Z,.Z,.Z,.Z,.Z,.Z,.Z,.Z,.Z,.Z,.Z,.Z,.Z,.Z,.Z,.Z,.Z,.Z,.Z,.Z,.Z,.Z,.Z,.Z,.Z,.Z],j7 0 (SA.rows++[l7]),SA.rows.length+1⟩) K):=by
    intro K
    by_cases hi0:0<i
    ·rw[(hRG.1 hi0).1]
     exact a3K S SA hK.L (by omega) (hKn.ok (by omega) (by omega) (by omega)) (by omega) (hRG.1 hi0).2
    ·obtain⟨e1,e2,e3⟩:=hRG.2 hi0
     rw[e1]
     exact a01 L 3 _ _ 6 0 3 dN SA hL (by omega) e3 e2
   have G4:∀K:Exit→LS→Prop,AK (md:=false) Tryd.prog (oR (cN Tryd.f5) [1,1,1,1,1,0]) [] ⟨[.Z,.Z,.ptr XS.length 0 0,.ptr 0 0 0,.Z,.Z,.Z,.Z,.Z,.Z,.Z,.Z,.Z,.Z,.Z,.Z,.Z,.Z,.Z,.Z,.Z,.Z,.Z,.Z,.Z,.Z,.Z,.Z,.Z,.Z,.Z,.Z,.Z,.Z,.Z,.Z,.Z,.Z,.Z,.Z,.Z,.Z,.Z,.Z,.Z,.Z,.Z,.Z,.Z,.Z,.Z,.Z,.Z,.Z,.Z,.Z,.Z,.Z,.Z,.Z,.Z,.Z,.Z,.Z,.Z,.Z,.Z,.Z,.Z,.Z,.Z,.Z,.Z,.Z,.Z,.Z,.Z,.Z,.Z,.Z,.Z,.Z,.Z,.Z,.Z,.Z,.Z,.Z,.Z,.Z,.Z,.Z,.Z,.Z,.Z,.Z,.Z,.Z,.Z,.Z,.Z,.Z,.Z,.Z,.Z,.Z,.Z,.Z,.Z,.Z,.Z,.Z,.Z,.Z,.Z,.Z,.Z,.Z,.Z,.Z,.Z,.Z,.Z,.Z,.Z,.Z,.Z,.Z,.Z,.Z,.Z,.Z,.Z,.Z,.Z,.Z,.Z,.Z,.Z,.Z,.Z,.Z,.Z,.Z,.Z,.Z,.Z,.Z,.Z,.Z,.Z,.Z,.Z],j7 0 (XS++[l7]),XS.length+1+8+8⟩ (S4 (fun s'=>∃a:Unit,Go.Ab.aP True∧O8 s' ⟨[.Z,.Z,.ptr SA.rows.length 0 0,.ptr 0 0 0,.Z,.Z,.Z,.Z,.Z,.Z,.Z,.Z,.Z,.Z,.Z,.Z,.Z,.Z,.Z,.Z,.Z,.Z,.Z,.Z,.Z,.Z,.Z,.Z,.Z,.Z,.Z,.Z,.Z,.Z,.Z,.Z,.Z,.Z,.Z,.Z,.Z,.Z,.Z,.Z,.Z,.Z,.Z,.Z,.Z,.Z,.Z,.Z,.Z,.Z,.Z,.Z,.Z,.Z,.Z,.Z,.Z,.Z,.Z,.Z,.Z,.Z,.Z,.Z,.Z,.Z,.Z,.Z,.Z,.Z,.Z,.Z,.Z,.Z,.Z,.Z,.Z,.Z,.Z,.Z,.Z,.Z,.Z,.Z,.Z,.Z,.Z,.Z,.Z,.Z,.Z,.Z,.Z,.Z,.Z,.Z,.Z,.Z,.Z,.Z,.Z,.Z,.Z,.Z,.Z,.Z,.Z,.Z,.Z,.Z,.Z,.Z,.Z,.Z,.Z,.Z,.Z,.Z,.Z,.Z,.Z,.Z,.Z,.Z,.Z,.Z,.Z,.Z,.Z,.Z,.Z,.Z,.Z,.Z,.Z,.Z,.Z,.Z,.Z,.Z,.Z,.Z,.Z,.Z,.Z,.Z,.Z,.Z,.Z],j7 0 (SA.rows++[l7]),SA.rows.length+1⟩) K):=by
    intro K
    by_cases hi0:0<i
    ·rw[(hRG.1 hi0).1]
     exact a02 S SA hK.L (by omega) (hKn.ok (by omega) (by omega) (by omega)) (by omega) (hRG.1 hi0).2
    ·obtain⟨e1,e2,e3⟩:=hRG.2 hi0
     rw[e1]
     exact wH L 3 _ _ 6 0 3 dN SA hL (by omega) e3 e2
   have G2:∀K:Exit→LS→Prop,AK (md:=false) Tryd.prog (oR (cN Tryd.f5) [1,1,1,1,0,1,0,0,1,0,0,1,0]) [] ⟨[.Z,.Z,.ptr SA.rows.length 0 0,.ptr 0 0 0,.Z,.v (.int .i64 (z2-i)),.Z,.Z,.Z,.Z,.Z,.Z,.Z,.Z,.Z,.Z,.Z,.Z,.Z,.Z,.Z,.Z,.Z,.Z,.Z,.Z,.Z,.Z,.Z,.Z,.Z,.Z,.Z,.Z,.Z,.Z,.Z,.Z,.Z,.Z,.Z,.Z,.Z,.Z,.Z,.Z,.Z,.Z,.Z,.Z,.Z,.Z,.Z,.Z,.Z,.Z,.Z,.Z,.Z,.Z,.Z,.Z,.Z,.Z,.Z,.Z,.Z,.Z,.Z,.Z,.Z,.Z,.Z,.Z,.Z,.Z,.Z,.Z,.Z,.Z,.Z,.Z,.Z,.Z,.Z,.Z,.Z,.Z,.Z,.Z,.Z,.Z,.Z,.Z,.Z,.Z,.Z,.Z,.Z,.Z,.Z,.Z,.Z,.Z,.Z,.Z,.Z,.Z,.Z,.Z,.Z,.Z,.Z,.Z,.Z,.Z,.Z,.Z,.Z,.Z,.Z,.Z,.Z,.Z,.Z,.Z,.Z,.Z,.Z,.Z,.Z,.Z,.Z,.Z,.Z,.Z,.Z,.Z,.Z,.Z,.Z,.Z,.Z,.Z,.Z,.Z,.Z,.Z,.Z,.Z,.Z,.Z,.Z],j7 0 (SA.rows++[l7]),SA.rows.length+1⟩ (S4 (fun s'=>∃a:Unit,Go.Ab.aP True∧O8 s' ⟨[.Z,.Z,.ptr SB.rows.length 0 0,.ptr 0 0 0,.Z,.v (.int .i64 (z2-i)),.Z,.Z,.Z,.Z,.Z,.Z,.Z,.Z,.Z,.Z,.Z,.Z,.Z,.Z,.Z,.Z,.Z,.Z,.Z,.Z,.Z,.Z,.Z,.Z,.Z,.Z,.Z,.Z,.Z,.Z,.Z,.Z,.Z,.Z,.Z,.Z,.Z,.Z,.Z,.Z,.Z,.Z,.Z,.Z,.Z,.Z,.Z,.Z,.Z,.Z,.Z,.Z,.Z,.Z,.Z,.Z,.Z,.Z,.Z,.Z,.Z,.Z,.Z,.Z,.Z,.Z,.Z,.Z,.Z,.Z,.Z,.Z,.Z,.Z,.Z,.Z,.Z,.Z,.Z,.Z,.Z,.Z,.Z,.Z,.Z,.Z,.Z,.Z,.Z,.Z,.Z,.Z,.Z,.Z,.Z,.Z,.Z,.Z,.Z,.Z,.Z,.Z,.Z,.Z,.Z,.Z,.Z,.Z,.Z,.Z,.Z,.Z,.Z,.Z,.Z,.Z,.Z,.Z,.Z,.Z,.Z,.Z,.Z,.Z,.Z,.Z,.Z,.Z,.Z,.Z,.Z,.Z,.Z,.Z,.Z,.Z,.Z,.Z,.Z,.Z,.Z,.Z,.Z,.Z,.Z,.Z,.Z],j7 0 (SB.rows++[l7]),SB.rows.length+1⟩) K):=fun K=>a8N SA SB hKA.L (by omega) (hKAn.ok (by omega) (by omega) (by omega)) (by omega) (by omega) hok2 hSB
   have G5:∀K:Exit→LS→Prop,AK (md:=false) Tryd.prog (oR (cN Tryd.f5) [1,1,1,1,1,1,0]) [] ⟨[.Z,.Z,.ptr SA.rows.length 0 0,.ptr 0 0 0,.Z,.Z,.Z,.Z,.Z,.Z,.Z,.Z,.Z,.Z,.Z,.Z,.Z,.Z,.Z,.Z,.Z,.Z,.Z,.Z,.Z,.Z,.Z,.Z,.Z,.Z,.Z,.Z,.Z,.Z,.Z,.Z,.Z,.Z,.Z,.Z,.Z,.Z,.Z,.Z,.Z,.Z,.Z,.Z,.Z,.Z,.Z,.Z,.Z,.Z,.Z,.Z,.Z,.Z,.Z,.Z,.Z,.Z,.Z,.Z,.Z,.Z,.Z,.Z,.Z,.Z,.Z,.Z,.Z,.Z,.Z,.Z,.Z,.Z,.Z,.Z,.Z,.Z,.Z,.Z,.Z,.Z,.Z,.Z,.Z,.Z,.Z,.Z,.Z,.Z,.Z,.Z,.Z,.Z,.Z,.Z,.Z,.Z,.Z,.Z,.Z,.Z,.Z,.Z,.Z,.Z,.Z,.Z,.Z,.Z,.Z,.Z,.Z,.Z,.Z,.Z,.Z,.Z,.Z,.Z,.Z,.Z,.Z,.Z,.Z,.Z,.Z,.Z,.Z,.Z,.Z,.Z,.Z,.Z,.Z,.Z,.Z,.Z,.Z,.Z,.Z,.Z,.Z,.Z,.Z,.Z,.Z,.Z,.Z],j7 0 (SA.rows++[l7]),SA.rows.length+1⟩ (S4 (fun s'=>∃a:Unit,Go.Ab.aP True∧O8 s' ⟨[.Z,.Z,.ptr SD.rows.length 0 0,.ptr 0 0 0,.Z,.Z,.Z,.Z,.Z,.Z,.Z,.Z,.Z,.Z,.Z,.Z,.Z,.Z,.Z,.Z,.Z,.Z,.Z,.Z,.Z,.Z,.Z,.Z,.Z,.Z,.Z,.Z,.Z,.Z,.Z,.Z,.Z,.Z,.Z,.Z,.Z,.Z,.Z,.Z,.Z,.Z,.Z,.Z,.Z,.Z,.Z,.Z,.Z,.Z,.Z,.Z,.Z,.Z,.Z,.Z,.Z,.Z,.Z,.Z,.Z,.Z,.Z,.Z,.Z,.Z,.Z,.Z,.Z,.Z,.Z,.Z,.Z,.Z,.Z,.Z,.Z,.Z,.Z,.Z,.Z,.Z,.Z,.Z,.Z,.Z,.Z,.Z,.Z,.Z,.Z,.Z,.Z,.Z,.Z,.Z,.Z,.Z,.Z,.Z,.Z,.Z,.Z,.Z,.Z,.Z,.Z,.Z,.Z,.Z,.Z,.Z,.Z,.Z,.Z,.Z,.Z,.Z,.Z,.Z,.Z,.Z,.Z,.Z,.Z,.Z,.Z,.Z,.Z,.Z,.Z,.Z,.Z,.Z,.Z,.Z,.Z,.Z,.Z,.Z,.Z,.Z,.Z,.Z,.Z,.Z,.Z,.Z,.Z],j7 0 (SD.rows++[l7]),SD.rows.length+1⟩) K):=fun K=>a5r SA SD hKA.L (by omega) (hKAn.ok (by omega) (by omega) (by omega)) (by omega) (by omega) hok2 hSD
   have G3:∀K:Exit→LS→Prop,AK (md:=false) Tryd.prog (oR (cN Tryd.f5) [1,1,1,1,0,1,0,0,1,0,0,1,1]) [] ⟨[.Z,.Z,.ptr SB.rows.length 0 0,.ptr 0 0 0,.Z,.v (.int .i64 (z2-i)),.Z,.Z,.Z,.Z,.Z,.Z,.Z,.Z,.Z,.Z,.Z,.Z,.Z,.Z,.Z,.Z,.Z,.Z,.Z,.Z,.Z,.Z,.Z,.Z,.Z,.Z,.Z,.Z,.Z,.Z,.Z,.Z,.Z,.Z,.Z,.Z,.Z,.Z,.Z,.Z,.Z,.Z,.Z,.Z,.Z,.Z,.Z,.Z,.Z,.Z,.Z,.Z,.Z,.Z,.Z,.Z,.Z,.Z,.Z,.Z,.Z,.Z,.Z,.Z,.Z,.Z,.Z,.Z,.Z,.Z,.Z,.Z,.Z,.Z,.Z,.Z,.Z,.Z,.Z,.Z,.Z,.Z,.Z,.Z,.Z,.Z,.Z,.Z,.Z,.Z,.Z,.Z,.Z,.Z,.Z,.Z,.Z,.Z,.Z,.Z,.Z,.Z,.Z,.Z,.Z,.Z,.Z,.Z,.Z,.Z,.Z,.Z,.Z,.Z,.Z,.Z,.Z,.Z,.Z,.Z,.Z,.Z,.Z,.Z,.Z,.Z,.Z,.Z,.Z,.Z,.Z,.Z,.Z,.Z,.Z,.Z,.Z,.Z,.Z,.Z,.Z,.Z,.Z,.Z,.Z,.Z,.Z],j7 0 (SB.rows++[l7]),SB.rows.length+1⟩ (S4 (fun s'=>∃a:Unit,Go.Ab.aP True∧O8 s' ⟨[.Z,.Z,.ptr XT.length 0 0,.ptr 0 0 0,.Z,.v (.int .i64 (z2-i)),.Z,.Z,.Z,.Z,.Z,.Z,.Z,.Z,.Z,.Z,.Z,.Z,.Z,.Z,.Z,.Z,.Z,.Z,.Z,.Z,.Z,.Z,.Z,.Z,.Z,.Z,.Z,.Z,.Z,.Z,.Z,.Z,.Z,.Z,.Z,.Z,.Z,.Z,.Z,.Z,.Z,.Z,.Z,.Z,.Z,.Z,.Z,.Z,.Z,.Z,.Z,.Z,.Z,.Z,.Z,.Z,.Z,.Z,.Z,.Z,.Z,.Z,.Z,.Z,.Z,.Z,.Z,.Z,.Z,.Z,.Z,.Z,.Z,.Z,.Z,.Z,.Z,.Z,.Z,.Z,.Z,.Z,.Z,.Z,.Z,.Z,.Z,.Z,.Z,.Z,.Z,.Z,.Z,.Z,.Z,.Z,.Z,.Z,.Z,.Z,.Z,.Z,.Z,.Z,.Z,.Z,.Z,.Z,.Z,.Z,.Z,.Z,.Z,.Z,.Z,.Z,.Z,.Z,.Z,.Z,.Z,.Z,.Z,.Z,.Z,.Z,.Z,.Z,.Z,.Z,.Z,.Z,.Z,.Z,.Z,.Z,.Z,.Z,.Z,.Z,.Z,.Z,.Z,.Z,.Z,.Z,.Z],j7 0 (XT++[l7]),XT.length+1⟩) K):=fun K=>by
    rw[hT]
    exact a5q SB SC hKB.L (by omega) (by omega) hSC (by omega)
   have GE:=b1A SD hKD
   have hYD:i=z2.toNat→Y=MS.code {SD with t:=jA}:=fun e=>by
    rw[hY,hSD,hSA,hS,e];rfl
   clear hKD hok2 hRG hKAn hKn hT hKA hK hKB hSA hSB hSC hSD hXS hXT hXR hM hMK
   repeat' (first|(guard_target=~ AK Tryd.prog (Go.Code.seq (Go.Code.region 23 _ _) _) _ _ _;refine fM [2,3] ?_;exact(by rw[hYD (by omega)];exact GE))|(guard_target=~ AK Tryd.prog (Go.Code.seq (Go.Code.region 19 _ _) _) _ _ _;refine fM [2,3] ?_;refine iV (fun _:Unit=>_) (fun _=>Go.Ab.aP True) (G5 _) ?_;(with_reducible intro _ _))|(guard_target=~ AK Tryd.prog (Go.Code.region 18 _ _) _ _ _;refine fM [2,3] ?_;refine iV (fun _:Unit=>_) (fun _=>Go.Ab.aP True) (G4 _) ?_;(with_reducible intro _ _))|(guard_target=~ AK Tryd.prog (Go.Code.seq (Go.Code.region 14 _ _) _) _ _ _;refine fM [2,3,5] ?_;refine iV (fun _:Unit=>_) (fun _=>Go.Ab.aP True) (G3 _) ?_;(with_reducible intro _ _))|(guard_target=~ AK Tryd.prog (Go.Code.seq (Go.Code.region 11 _ _) _) _ _ _;refine fM [2,3,5] ?_;refine iV (fun _:Unit=>_) (fun _=>Go.Ab.aP True) (G2 _) ?_;(with_reducible intro _ _))|(guard_target=~ AK Tryd.prog (Go.Code.region 10 _ _) _ _ _;refine fM [2,3,5] ?_;refine iV (fun _:Unit=>_) (fun _=>Go.Ab.aP True) (G1 _) ?_;(with_reducible intro _ _))|refine Za ?_|(with_reducible constructor<;>first|intro N hN mk hmk|intro N hN|intro h)|refine Zt (Zq mD.d (Zq hg hz1)) ?_|fail)
   rw[show z2-((i+1:Nat):Int)=z2- ↑i-1 by omega]
   exact a5Z [2,3,5] (fun p hp=>by have:=a7j _ 0 p hp;simpa using this) rfl
end Go.Proofs.YtgdoiokalfhjoaaDoor
end
