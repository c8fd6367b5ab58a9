/- Own work (by an AI agent; no person has read it): part of a proof of the seat YtgdoiokalfhjoaaDoor. -/
import Derived.Test.YtgdoiokalfhjoaaDoorXbi
set_option linter.unusedSimpArgs false
set_option linter.unusedVariables false
set_option maxRecDepth 100000
set_option maxHeartbeats 10000000
section
namespace Go.Proofs.YtgdoiokalfhjoaaDoor
open Go.Ab
def oM:=ZZ.mk (Zq @l7.eq_1 (Zq @j0 (Zq @j3 (Zq @x6 (Zq @I1 (Zq @x8 (Zq @y7 (Zq @n3 (Zq @p0 (Zq @w8 (Zq @m7 (Zq @l8 (Zq @n9 (Zq @y8 (Zq @s6 (Zq @r8 (Zq @z8 (Zq @q9 (Zq @A2 (Zq @A1 (Zq @z7 (Zq @z6 (Zq @s5 (Zq @j0 (Zq @j3 (Zq @A6 (Zq @J8 (Zq @y4 (Zq @y0 @x6)))))))))))))))))))))))))))))
theorem a01{K:Exit→LS→Prop}(L:List Int)(at_ g su re sl pa:Int)(ar:List dG)(SA:MS){z:Int}(hL:B5 L)(h0:0≤at_∧at_≤900)(hok:fL ⟨L,at_+1,g,su,re,sl,pa,ar,.nil,[],.nil,T0⟩ 600000)(hSA:SA=MS.eM ⟨L,at_+1,g,su,re,sl,pa,ar,.nil,[],.nil,T0⟩ (a8 L at_%3)):AK (md:=false) Tryd.prog (oR (cN Tryd.f5) [1,1,1,1,0,1,0,0,1,0,0,0]) [] ⟨[.Z,.Z,.ptr (X8 L at_ g su re sl pa ar).length 0 0,.ptr 0 0 0,.Z,.v (.int .i64 z),.Z,.Z,.Z,.Z,.Z,.Z,.Z,.Z,.Z,.Z,.Z,.Z,.Z,.Z,.Z,.Z,.Z,.Z,.Z,.Z,.Z,.Z,.Z,.Z,.Z,.Z,.Z,.Z,.Z,.Z,.Z,.Z,.Z,.Z,.Z,.Z,.Z,.Z,.Z,.Z,.Z,.Z,.Z,.Z,.Z,.Z,.Z,.Z,.Z,.Z,.Z,.Z,.Z,.Z,.Z,.Z,.Z,.Z,.Z,.Z,.Z,.Z,.Z,.Z,.Z,.Z,.Z,.Z,.Z,.Z,.Z,.Z,.Z,.Z,.Z,.Z,.Z,.Z,.Z,.Z,.Z,.Z,.Z,.Z,.Z,.Z,.Z,.Z,.Z,.Z,.Z,.Z,.Z,.Z,.Z,.Z,.Z,.Z,.Z,.Z,.Z,.Z,.Z,.Z,.Z,.Z,.Z,.Z,.Z,.Z,.Z,.Z,.Z,.Z,.Z,.Z,.Z,.Z,.Z,.Z,.Z,.Z,.Z,.Z,.Z,.Z,.Z,.Z,.Z,.Z,.Z,.Z,.Z,.Z,.Z,.Z,.Z,.Z,.Z,.Z,.Z,.Z,.Z,.Z,.Z,.Z,.Z],j7 0 ((X8 L at_ g su re sl pa ar)++[l7]),(X8 L at_ g su re sl pa ar).length+1+8+8⟩ (S4 (fun s'=>∃a:Unit,Go.Ab.aP True∧O8 s' ⟨[.Z,.Z,.ptr SA.rows.length 0 0,.ptr 0 0 0,.Z,.v (.int .i64 z),.Z,.Z,.Z,.Z,.Z,.Z,.Z,.Z,.Z,.Z,.Z,.Z,.Z,.Z,.Z,.Z,.Z,.Z,.Z,.Z,.Z,.Z,.Z,.Z,.Z,.Z,.Z,.Z,.Z,.Z,.Z,.Z,.Z,.Z,.Z,.Z,.Z,.Z,.Z,.Z,.Z,.Z,.Z,.Z,.Z,.Z,.Z,.Z,.Z,.Z,.Z,.Z,.Z,.Z,.Z,.Z,.Z,.Z,.Z,.Z,.Z,.Z,.Z,.Z,.Z,.Z,.Z,.Z,.Z,.Z,.Z,.Z,.Z,.Z,.Z,.Z,.Z,.Z,.Z,.Z,.Z,.Z,.Z,.Z,.Z,.Z,.Z,.Z,.Z,.Z,.Z,.Z,.Z,.Z,.Z,.Z,.Z,.Z,.Z,.Z,.Z,.Z,.Z,.Z,.Z,.Z,.Z,.Z,.Z,.Z,.Z,.Z,.Z,.Z,.Z,.Z,.Z,.Z,.Z,.Z,.Z,.Z,.Z,.Z,.Z,.Z,.Z,.Z,.Z,.Z,.Z,.Z,.Z,.Z,.Z,.Z,.Z,.Z,.Z,.Z,.Z,.Z,.Z,.Z,.Z,.Z,.Z],j7 0 (SA.rows++[l7]),SA.rows.length+1⟩) K):=by
 conv in oR _ _=>whnf
 have hx:=j6 hL h0.1
 have hn:0≤a8 L at_%3∧a8 L at_%3≤2:=by omega
 have CN:=o9 L at_ (by omega) hL
 have CR:=vA L (at_+1) g su re sl pa ar (a8 L at_%3) hn hok
 obtain⟨a',ii',bs',e⟩:=pK ⟨L,at_+1,g,su,re,sl,pa,ar,.nil,[],.nil,T0⟩ hL (by show 0≤at_+1;omega) rfl rfl (a8 L at_%3)
 rw[←hSA]at e CR
 subst e
 simp only at CR
 clear hSA hok hL h0
 generalize a8 L at_=y at*
 cases ii'
 all_goals simp only[MS.rows,X8,j7,E3,j8.cell,j8.rows,j8.l,j8.k,r6.cell,r6.rows,r6.l,List.cons_append,List.nil_append,List.append_nil,List.length_cons,List.length_nil,Nat.reduceAdd,List.cons_append,List.nil_append]at CR⊢
 ·repeat' (first|refine Za ?_|(with_reducible constructor<;>first|intro N hN mk hmk|intro N hN|intro h)|refine Ze CN ?_|(refine Zp CR [0] oM.d ?_;with_reducible intro _ _)|refine Zt oM.d ?_|fail)
  refine l9 (keep:=[2,3,5]) (ids:=[0,50,1]) (s':=_) () (by simp only[oM.d,c8,n7,b6,e7,n6,y5,AV.plain,Nat.reduceBEq,↓reduceIte,Nat.reduceEqDiff,Nat.reduceAdd,sC];rfl) ?_ trivial
  simp only[j7,l7,List.cons_append,List.nil_append,List.length_cons,List.length_nil,Nat.reduceAdd,Nat.zero_add]
 ·repeat' (first|refine Za ?_|(with_reducible constructor<;>first|intro N hN mk hmk|intro N hN|intro h)|refine Ze CN ?_|(refine Zp CR [0] oM.d ?_;with_reducible intro _ _)|refine Zt oM.d ?_|fail)
  refine l9 (keep:=[2,3,5]) (ids:=[0,50,51,1]) (s':=_) () (by simp only[oM.d,c8,n7,b6,e7,n6,y5,AV.plain,Nat.reduceBEq,↓reduceIte,Nat.reduceEqDiff,Nat.reduceAdd,sC];rfl) ?_ trivial
  simp only[j7,l7,List.cons_append,List.nil_append,List.length_cons,List.length_nil,Nat.reduceAdd,Nat.zero_add]
def jO:=ZZ.mk (Zq @l7.eq_1 (Zq @j0 (Zq @j3 (Zq @x6 (Zq @I1 (Zq @x8 (Zq @y7 (Zq @n3 (Zq @p0 (Zq @w8 (Zq @m7 (Zq @l8 (Zq @n9 (Zq @y8 (Zq @s6 (Zq @r8 (Zq @z8 (Zq @q9 (Zq @A2 (Zq @A1 (Zq @z7 (Zq @z6 (Zq @s5 (Zq @j0 (Zq @j3 (Zq @A6 (Zq @J8 (Zq @y4 (Zq @y0 @x6)))))))))))))))))))))))))))))
theorem wH{K:Exit→LS→Prop}(L:List Int)(at_ g su re sl pa:Int)(ar:List dG)(SA:MS)(hL:B5 L)(h0:0≤at_∧at_≤900)(hok:fL ⟨L,at_+1,g,su,re,sl,pa,ar,.nil,[],.nil,T0⟩ 600000)(hSA:SA=MS.eM ⟨L,at_+1,g,su,re,sl,pa,ar,.nil,[],.nil,T0⟩ (a8 L at_%3)):AK (md:=false) Tryd.prog (oR (cN Tryd.f5) [1,1,1,1,1,0]) [] ⟨[.Z,.Z,.ptr (X8 L at_ g su re sl pa ar).length 0 0,.ptr 0 0 0,.Z,.Z,.Z,.Z,.Z,.Z,.Z,.Z,.Z,.Z,.Z,.Z,.Z,.Z,.Z,.Z,.Z,.Z,.Z,.Z,.Z,.Z,.Z,.Z,.Z,.Z,.Z,.Z,.Z,.Z,.Z,.Z,.Z,.Z,.Z,.Z,.Z,.Z,.Z,.Z,.Z,.Z,.Z,.Z,.Z,.Z,.Z,.Z,.Z,.Z,.Z,.Z,.Z,.Z,.Z,.Z,.Z,.Z,.Z,.Z,.Z,.Z,.Z,.Z,.Z,.Z,.Z,.Z,.Z,.Z,.Z,.Z,.Z,.Z,.Z,.Z,.Z,.Z,.Z,.Z,.Z,.Z,.Z,.Z,.Z,.Z,.Z,.Z,.Z,.Z,.Z,.Z,.Z,.Z,.Z,.Z,.Z,.Z,.Z,.Z,.Z,.Z,.Z,.Z,.Z,.Z,.Z,.Z,.Z,.Z,.Z,.Z,.Z,.Z,.Z,.Z,.Z,.Z,.Z,.Z,.Z,.Z,.Z,.Z,.Z,.Z,.Z,.Z,.Z,.Z,.Z,.Z,.Z,.Z,.Z,.Z,.Z,.Z,.Z,.Z,.Z,.Z,.Z,.Z,.Z,.Z,.Z,.Z,.Z],j7 0 ((X8 L at_ g su re sl pa ar)++[l7]),(X8 L at_ g su re sl pa ar).length+1+8+8⟩ (S4 (fun s'=>∃a:Unit,Go.Ab.aP True∧O8 s' ⟨[.Z,.Z,.ptr SA.rows.length 0 0,.ptr 0 0 0,.Z,.Z,.Z,.Z,.Z,.Z,.Z,.Z,.Z,.Z,.Z,.Z,.Z,.Z,.Z,.Z,.Z,.Z,.Z,.Z,.Z,.Z,.Z,.Z,.Z,.Z,.Z,.Z,.Z,.Z,.Z,.Z,.Z,.Z,.Z,.Z,.Z,.Z,.Z,.Z,.Z,.Z,.Z,.Z,.Z,.Z,.Z,.Z,.Z,.Z,.Z,.Z,.Z,.Z,.Z,.Z,.Z,.Z,.Z,.Z,.Z,.Z,.Z,.Z,.Z,.Z,.Z,.Z,.Z,.Z,.Z,.Z,.Z,.Z,.Z,.Z,.Z,.Z,.Z,.Z,.Z,.Z,.Z,.Z,.Z,.Z,.Z,.Z,.Z,.Z,.Z,.Z,.Z,.Z,.Z,.Z,.Z,.Z,.Z,.Z,.Z,.Z,.Z,.Z,.Z,.Z,.Z,.Z,.Z,.Z,.Z,.Z,.Z,.Z,.Z,.Z,.Z,.Z,.Z,.Z,.Z,.Z,.Z,.Z,.Z,.Z,.Z,.Z,.Z,.Z,.Z,.Z,.Z,.Z,.Z,.Z,.Z,.Z,.Z,.Z,.Z,.Z,.Z,.Z,.Z,.Z,.Z,.Z,.Z],j7 0 (SA.rows++[l7]),SA.rows.length+1⟩) K):=by
 conv in oR _ _=>whnf
 have hx:=j6 hL h0.1
 have hn:0≤a8 L at_%3∧a8 L at_%3≤2:=by omega
 have CN:=o9 L at_ (by omega) hL
 have CR:=vA L (at_+1) g su re sl pa ar (a8 L at_%3) hn hok
 obtain⟨a',ii',bs',e⟩:=pK ⟨L,at_+1,g,su,re,sl,pa,ar,.nil,[],.nil,T0⟩ hL (by show 0≤at_+1;omega) rfl rfl (a8 L at_%3)
 rw[←hSA]at e CR
 subst e
 simp only at CR
 clear hSA hok hL h0
 generalize a8 L at_=y at*
 cases ii'
 all_goals simp only[MS.rows,X8,j7,E3,j8.cell,j8.rows,j8.l,j8.k,r6.cell,r6.rows,r6.l,List.cons_append,List.nil_append,List.append_nil,List.length_cons,List.length_nil,Nat.reduceAdd,List.cons_append,List.nil_append]at CR⊢
 ·repeat' (first|refine Za ?_|(with_reducible constructor<;>first|intro N hN mk hmk|intro N hN|intro h)|refine Ze CN ?_|(refine Zp CR [0] jO.d ?_;with_reducible intro _ _)|refine Zt jO.d ?_|fail)
  refine l9 (keep:=[2,3]) (ids:=[0,50,1]) (s':=_) () (by simp only[jO.d,c8,n7,b6,e7,n6,y5,AV.plain,Nat.reduceBEq,↓reduceIte,Nat.reduceEqDiff,Nat.reduceAdd,sC];rfl) ?_ trivial
  simp only[j7,l7,List.cons_append,List.nil_append,List.length_cons,List.length_nil,Nat.reduceAdd,Nat.zero_add]
 ·repeat' (first|refine Za ?_|(with_reducible constructor<;>first|intro N hN mk hmk|intro N hN|intro h)|refine Ze CN ?_|(refine Zp CR [0] jO.d ?_;with_reducible intro _ _)|refine Zt jO.d ?_|fail)
  refine l9 (keep:=[2,3]) (ids:=[0,50,51,1]) (s':=_) () (by simp only[jO.d,c8,n7,b6,e7,n6,y5,AV.plain,Nat.reduceBEq,↓reduceIte,Nat.reduceEqDiff,Nat.reduceAdd,sC];rfl) ?_ trivial
  simp only[j7,l7,List.cons_append,List.nil_append,List.length_cons,List.length_nil,Nat.reduceAdd,Nat.zero_add]
def aL:=ZZ.mk (Zq @l7.eq_1 (Zq @E3 (Zq @c7 (Zq @j0 (Zq @j3 (Zq @x6 (Zq @I1 (Zq @x8 (Zq @y7 (Zq @n3 (Zq @p0 (Zq @w8 (Zq @m7 (Zq @l8 (Zq @n9 (Zq @y8 (Zq @s6 (Zq @r8 (Zq @z8 (Zq @q9 (Zq @A2 (Zq @A1 (Zq @z7 (Zq @z6 (Zq @s5 (Zq @j0 (Zq @j3 (Zq @A6 (Zq @J8 (Zq @y4 (Zq @y0 @x6)))))))))))))))))))))))))))))))
def iT:=ZZ.mk (Zq @l7.eq_1 (Zq @j0 (Zq @j3 (Zq @x6 (Zq @I1 (Zq @x8 (Zq @y7 (Zq @n3 (Zq @p0 (Zq @w8 (Zq @m7 (Zq @l8 (Zq @n9 (Zq @y8 (Zq @s6 (Zq @r8 (Zq @z8 (Zq @q9 (Zq @A2 (Zq @A1 (Zq @z7 (Zq @z6 (Zq @s5 (Zq @j0 (Zq @j3 (Zq @A6 (Zq @J8 (Zq @y4 (Zq @y0 @x6)))))))))))))))))))))))))))))
theorem a8N{K:Exit→LS→Prop}(S SA:MS){z:Int}(hL:B5 S.L)(h0:0≤S.at_∧S.at_≤900)(hok:fL {S with at_:=S.at_+1} 600000)(hb:S.bs.length≤800)(hlo:S.lo.l.length≤100)(hok2:fL (MS.block (MS.loop {S with at_:=S.at_+1})) 700000)(hSA:SA=S.iJ):AK (md:=false) Tryd.prog (oR (cN Tryd.f5) [1,1,1,1,0,1,0,0,1,0,0,1,0]) [] ⟨[.Z,.Z,.ptr S.rows.length 0 0,.ptr 0 0 0,.Z,.v (.int .i64 z),.Z,.Z,.Z,.Z,.Z,.Z,.Z,.Z,.Z,.Z,.Z,.Z,.Z,.Z,.Z,.Z,.Z,.Z,.Z,.Z,.Z,.Z,.Z,.Z,.Z,.Z,.Z,.Z,.Z,.Z,.Z,.Z,.Z,.Z,.Z,.Z,.Z,.Z,.Z,.Z,.Z,.Z,.Z,.Z,.Z,.Z,.Z,.Z,.Z,.Z,.Z,.Z,.Z,.Z,.Z,.Z,.Z,.Z,.Z,.Z,.Z,.Z,.Z,.Z,.Z,.Z,.Z,.Z,.Z,.Z,.Z,.Z,.Z,.Z,.Z,.Z,.Z,.Z,.Z,.Z,.Z,.Z,.Z,.Z,.Z,.Z,.Z,.Z,.Z,.Z,.Z,.Z,.Z,.Z,.Z,.Z,.Z,.Z,.Z,.Z,.Z,.Z,.Z,.Z,.Z,.Z,.Z,.Z,.Z,.Z,.Z,.Z,.Z,.Z,.Z,.Z,.Z,.Z,.Z,.Z,.Z,.Z,.Z,.Z,.Z,.Z,.Z,.Z,.Z,.Z,.Z,.Z,.Z,.Z,.Z,.Z,.Z,.Z,.Z,.Z,.Z,.Z,.Z,.Z,.Z,.Z,.Z],j7 0 (S.rows++[l7]),S.rows.length+1⟩ (S4 (fun s'=>∃a:Unit,Go.Ab.aP True∧O8 s' ⟨[.Z,.Z,.ptr SA.rows.length 0 0,.ptr 0 0 0,.Z,.v (.int .i64 z),.Z,.Z,.Z,.Z,.Z,.Z,.Z,.Z,.Z,.Z,.Z,.Z,.Z,.Z,.Z,.Z,.Z,.Z,.Z,.Z,.Z,.Z,.Z,.Z,.Z,.Z,.Z,.Z,.Z,.Z,.Z,.Z,.Z,.Z,.Z,.Z,.Z,.Z,.Z,.Z,.Z,.Z,.Z,.Z,.Z,.Z,.Z,.Z,.Z,.Z,.Z,.Z,.Z,.Z,.Z,.Z,.Z,.Z,.Z,.Z,.Z,.Z,.Z,.Z,.Z,.Z,.Z,.Z,.Z,.Z,.Z,.Z,.Z,.Z,.Z,.Z,.Z,.Z,.Z,.Z,.Z,.Z,.Z,.Z,.Z,.Z,.Z,.Z,.Z,.Z,.Z,.Z,.Z,.Z,.Z,.Z,.Z,.Z,.Z,.Z,.Z,.Z,.Z,.Z,.Z,.Z,.Z,.Z,.Z,.Z,.Z,.Z,.Z,.Z,.Z,.Z,.Z,.Z,.Z,.Z,.Z,.Z,.Z,.Z,.Z,.Z,.Z,.Z,.Z,.Z,.Z,.Z,.Z,.Z,.Z,.Z,.Z,.Z,.Z,.Z,.Z,.Z,.Z,.Z,.Z,.Z,.Z],j7 0 (SA.rows++[l7]),SA.rows.length+1⟩) K):=by
 conv in oR _ _=>whnf
 have hx:=j6 hL h0.1
 have CN:=o9 S.L S.at_ (by omega) hL
 have CL:=a7d {S with at_:=S.at_+1} hok (by show S.bs.length≤800;omega) hlo
 obtain⟨a',re',ll2,bs3,l',t',e⟩:=uJ {S with at_:=S.at_+1} hL (by show 0≤S.at_+1;omega)
 have CB:=E9 (MS.loop {S with at_:=S.at_+1}) (by have:=hok2.bs;simp only[MS.block,List.length_append]at this;omega)
 have hA1:a8 S.L S.at_%3=0→SA=_:=fun hp=>hSA.trans (if_pos hp)
 have hA2:¬a8 S.L S.at_%3=0→SA=_:=fun hp=>hSA.trans (if_neg hp)
 rw[e]at CL CB hA1
 clear hSA hok hL hb hlo hok2 e
 obtain⟨L',at',g,su,re,sl,pa,ar,lo,bs,ii,t⟩:=S
 simp only[MS.block]at CN CL CB hx hA1 hA2 h0⊢
 generalize a8 L' at'=y at*
 by_cases hp:y%3=0
 ·rw[hA1 hp]
  clear hA1 hA2
  cases lo<;>cases ii
  all_goals simp only[MS.rows,j7,E3,c7,j8.cell,j8.rows,j8.l,j8.k,r6.cell,r6.rows,r6.l,List.cons_append,List.nil_append,List.append_nil,List.length_cons,List.length_nil,Nat.reduceAdd,List.cons_append,List.nil_append]at CL CB⊢
  ·repeat' (first|refine Za ?_|(with_reducible constructor<;>first|intro N hN mk hmk|intro N hN|intro h)|refine Ze CN ?_|(refine Zp CL [0,1] (Zq aL.d hp) ?_;with_reducible intro _ _)|(refine Zp CB [0,43,44,45] (Zq aL.d hp) ?_;with_reducible intro _ _)|refine Zt (Zq aL.d hp) ?_|fail)
   refine l9 (keep:=[2,3,5]) (ids:=[0,59,60,2]) (s':=_) () (by simp only[aL.d,hp,c8,n7,b6,e7,n6,y5,AV.plain,Nat.reduceBEq,↓reduceIte,Nat.reduceEqDiff,Nat.reduceAdd,sC];rfl) ?_ trivial
   simp only[j7,l7,c7,E3,List.cons_append,List.nil_append,List.length_cons,List.length_nil,Nat.reduceAdd,Nat.zero_add]
  ·repeat' (first|refine Za ?_|(with_reducible constructor<;>first|intro N hN mk hmk|intro N hN|intro h)|refine Ze CN ?_|(refine Zp CL [0,1,2] (Zq aL.d hp) ?_;with_reducible intro _ _)|(refine Zp CB [0,44,45,46] (Zq aL.d hp) ?_;with_reducible intro _ _)|refine Zt (Zq aL.d hp) ?_|fail)
   refine l9 (keep:=[2,3,5]) (ids:=[0,60,61,3]) (s':=_) () (by simp only[aL.d,hp,c8,n7,b6,e7,n6,y5,AV.plain,Nat.reduceBEq,↓reduceIte,Nat.reduceEqDiff,Nat.reduceAdd,sC];rfl) ?_ trivial
   simp only[j7,l7,c7,E3,List.cons_append,List.nil_append,List.length_cons,List.length_nil,Nat.reduceAdd,Nat.zero_add]
  ·repeat' (first|refine Za ?_|(with_reducible constructor<;>first|intro N hN mk hmk|intro N hN|intro h)|refine Ze CN ?_|(refine Zp CL [0,1,2] (Zq aL.d hp) ?_;with_reducible intro _ _)|(refine Zp CB [0,44,45,46] (Zq aL.d hp) ?_;with_reducible intro _ _)|refine Zt (Zq aL.d hp) ?_|fail)
   refine l9 (keep:=[2,3,5]) (ids:=[0,60,61,3]) (s':=_) () (by simp only[aL.d,hp,c8,n7,b6,e7,n6,y5,AV.plain,Nat.reduceBEq,↓reduceIte,Nat.reduceEqDiff,Nat.reduceAdd,sC];rfl) ?_ trivial
   simp only[j7,l7,c7,E3,List.cons_append,List.nil_append,List.length_cons,List.length_nil,Nat.reduceAdd,Nat.zero_add]
  ·repeat' (first|refine Za ?_|(with_reducible constructor<;>first|intro N hN mk hmk|intro N hN|intro h)|refine Ze CN ?_|(refine Zp CL [0,1,2,3] (Zq aL.d hp) ?_;with_reducible intro _ _)|(refine Zp CB [0,45,46,47] (Zq aL.d hp) ?_;with_reducible intro _ _)|refine Zt (Zq aL.d hp) ?_|fail)
   refine l9 (keep:=[2,3,5]) (ids:=[0,61,62,4]) (s':=_) () (by simp only[aL.d,hp,c8,n7,b6,e7,n6,y5,AV.plain,Nat.reduceBEq,↓reduceIte,Nat.reduceEqDiff,Nat.reduceAdd,sC];rfl) ?_ trivial
   simp only[j7,l7,c7,E3,List.cons_append,List.nil_append,List.length_cons,List.length_nil,Nat.reduceAdd,Nat.zero_add]
 ·rw[hA2 hp]
  clear hA1 hA2
  cases lo<;>cases ii
  all_goals simp only[MS.rows,j7,j8.cell,j8.rows,j8.l,j8.k,r6.cell,r6.rows,r6.l,List.cons_append,List.nil_append,List.append_nil,List.length_cons,List.length_nil,Nat.reduceAdd,List.cons_append,List.nil_append]at⊢
  ·repeat' (first|refine Za ?_|(with_reducible constructor<;>first|intro N hN mk hmk|intro N hN|intro h)|refine Ze CN ?_|refine Zt (Zq iT.d hp) ?_|fail)
   refine l9 (keep:=[2,3,5]) (ids:=[0,1,2]) (s':=_) () (by simp only[iT.d,hp,c8,n7,b6,e7,n6,y5,AV.plain,Nat.reduceBEq,↓reduceIte,Nat.reduceEqDiff,Nat.reduceAdd,sC];rfl) ?_ trivial
   simp only[j7,l7,List.cons_append,List.nil_append,List.length_cons,List.length_nil,Nat.reduceAdd,Nat.zero_add]
  ·repeat' (first|refine Za ?_|(with_reducible constructor<;>first|intro N hN mk hmk|intro N hN|intro h)|refine Ze CN ?_|refine Zt (Zq iT.d hp) ?_|fail)
   refine l9 (keep:=[2,3,5]) (ids:=[0,1,2,3]) (s':=_) () (by simp only[iT.d,hp,c8,n7,b6,e7,n6,y5,AV.plain,Nat.reduceBEq,↓reduceIte,Nat.reduceEqDiff,Nat.reduceAdd,sC];rfl) ?_ trivial
   simp only[j7,l7,List.cons_append,List.nil_append,List.length_cons,List.length_nil,Nat.reduceAdd,Nat.zero_add]
  ·repeat' (first|refine Za ?_|(with_reducible constructor<;>first|intro N hN mk hmk|intro N hN|intro h)|refine Ze CN ?_|refine Zt (Zq iT.d hp) ?_|fail)
   refine l9 (keep:=[2,3,5]) (ids:=[0,1,2,3]) (s':=_) () (by simp only[iT.d,hp,c8,n7,b6,e7,n6,y5,AV.plain,Nat.reduceBEq,↓reduceIte,Nat.reduceEqDiff,Nat.reduceAdd,sC];rfl) ?_ trivial
   simp only[j7,l7,List.cons_append,List.nil_append,List.length_cons,List.length_nil,Nat.reduceAdd,Nat.zero_add]
  ·repeat' (first|refine Za ?_|(with_reducible constructor<;>first|intro N hN mk hmk|intro N hN|intro h)|refine Ze CN ?_|refine Zt (Zq iT.d hp) ?_|fail)
   refine l9 (keep:=[2,3,5]) (ids:=[0,1,2,3,4]) (s':=_) () (by simp only[iT.d,hp,c8,n7,b6,e7,n6,y5,AV.plain,Nat.reduceBEq,↓reduceIte,Nat.reduceEqDiff,Nat.reduceAdd,sC];rfl) ?_ trivial
   simp only[j7,l7,List.cons_append,List.nil_append,List.length_cons,List.length_nil,Nat.reduceAdd,Nat.zero_add]
end Go.Proofs.YtgdoiokalfhjoaaDoor
end
