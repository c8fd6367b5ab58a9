/- Own work (by an AI agent; no person has read it): part of a proof of the seat YtgdoiokalfhjoaaGreatDoor. -/
import Derived.Test.YtgdoiokalfhjoaaGreatDoorYbb
set_option linter.unusedSimpArgs false
set_option linter.unusedVariables false
set_option maxRecDepth 100000
set_option maxHeartbeats 10000000
section
namespace Go.Proofs.YtgdoiokalfhjoaaGreatDoor
open Go.Ab
def H0:=ZZ.mk (Zq H8.d @l7.eq_1)
theorem a4h{K:Exit→LS→Prop}(S SA:MS)(hL:y9 S.L)(h0:0≤S.at_∧S.at_≤900)(hok:gD {S with at_:=S.at_+1} 600000)(hb:S.bs.length≤800)(hSA:SA=MS.region {S with at_:=S.at_+1} (a7 S.L S.at_%3)):AK (md:=false) Tryz.prog (pD (cR Tryz.f42) [1,1,1,1,1,0]) [] ⟨[.Z,.Z,.ptr S.rows.length 0 0,.ptr 0 0 0,.Z,.Z,.Z,.Z,.Z,.Z,.Z,.Z,.Z,.Z,.Z,.Z,.Z,.Z,.Z,.Z,.Z,.Z,.Z,.Z,.Z,.Z,.Z,.Z,.Z,.Z,.Z,.Z,.Z,.Z,.Z,.Z,.Z,.Z,.Z,.Z,.Z,.Z,.Z,.Z,.Z,.Z,.Z,.Z,.Z,.Z,.Z,.Z,.Z,.Z,.Z,.Z,.Z,.Z,.Z,.Z,.Z,.Z,.Z,.Z,.Z,.Z,.Z,.Z,.Z,.Z,.Z,.Z,.Z,.Z,.Z,.Z,.Z,.Z,.Z,.Z,.Z,.Z,.Z,.Z,.Z,.Z,.Z,.Z,.Z,.Z,.Z,.Z,.Z,.Z,.Z,.Z,.Z,.Z,.Z,.Z,.Z,.Z,.Z,.Z,.Z,.Z,.Z,.Z,.Z,.Z,.Z,.Z,.Z,.Z,.Z,.Z,.Z,.Z,.Z,.Z,.Z,.Z,.Z,.Z,.Z,.Z,.Z,.Z,.Z,.Z,.Z,.Z,.Z,.Z,.Z,.Z,.Z,.Z,.Z,.Z,.Z,.Z,.Z,.Z,.Z,.Z,.Z,.Z,.Z,.Z,.Z,.Z,.Z],e9 0 (S.rows++[l7]),S.rows.length+1+8+8⟩ (O9 (fun s'=>∃a:Unit,Go.Ab.W0 True∧N3 s' ⟨[.Z,.Z,.ptr SA.rows.length 0 0,.ptr 0 0 0,.Z,.Z,.Z,.Z,.Z,.Z,.Z,.Z,.Z,.Z,.Z,.Z,.Z,.Z,.Z,.Z,.Z,.Z,.Z,.Z,.Z,.Z,.Z,.Z,.Z,.Z,.Z,.Z,.Z,.Z,.Z,.Z,.Z,.Z,.Z,.Z,.Z,.Z,.Z,.Z,.Z,.Z,.Z,.Z,.Z,.Z,.Z,.Z,.Z,.Z,.Z,.Z,.Z,.Z,.Z,.Z,.Z,.Z,.Z,.Z,.Z,.Z,.Z,.Z,.Z,.Z,.Z,.Z,.Z,.Z,.Z,.Z,.Z,.Z,.Z,.Z,.Z,.Z,.Z,.Z,.Z,.Z,.Z,.Z,.Z,.Z,.Z,.Z,.Z,.Z,.Z,.Z,.Z,.Z,.Z,.Z,.Z,.Z,.Z,.Z,.Z,.Z,.Z,.Z,.Z,.Z,.Z,.Z,.Z,.Z,.Z,.Z,.Z,.Z,.Z,.Z,.Z,.Z,.Z,.Z,.Z,.Z,.Z,.Z,.Z,.Z,.Z,.Z,.Z,.Z,.Z,.Z,.Z,.Z,.Z,.Z,.Z,.Z,.Z,.Z,.Z,.Z,.Z,.Z,.Z,.Z,.Z,.Z,.Z],e9 0 (SA.rows++[l7]),SA.rows.length+1⟩) K):=by
 conv in pD _ _=>whnf
 have hx:=j0 hL h0.1
 have hn:0≤a7 S.L S.at_%3∧a7 S.L S.at_%3≤2:=by omega
 have CN:=p0 S.L S.at_ (by omega) hL
 have CR:=a3o {S with at_:=S.at_+1} (a7 S.L S.at_%3) hn hok (by show S.bs.length≤800;omega)
 obtain⟨a',ii',bs',e⟩:=rJ {S with at_:=S.at_+1} hL (by show 0≤S.at_+1;omega) (a7 S.L S.at_%3)
 rw[←hSA]at e CR
 subst e
 simp only at CR
 clear hSA hok hL h0 hb
 obtain⟨L',at',g,su,re,sl,pa,ar,lo,bs,ii,t⟩:=S
 simp only at CN CR hx hn⊢
 generalize a7 L' at'=y at*
 cases lo<;>cases ii<;>cases ii'
 all_goals simp only[MS.rows,e9,E4,j4.cell,j4.rows,j4.l,j4.k,r9.cell,r9.rows,r9.l,List.cons_append,List.nil_append,List.append_nil,List.length_cons,List.length_nil,Nat.reduceAdd,List.cons_append,List.nil_append]at CR⊢
 ·repeat' (first|refine Za ?_|(with_reducible constructor<;>first|intro N hN mk hmk|intro N hN|intro h)|refine Ze CN ?_|(refine Zp CR [0,1] H0.d ?_;with_reducible intro _ _)|refine Zt H0.d ?_|fail)
  refine n3 (keep:=[2,3]) (ids:=[0,51,2]) (s':=_) () (by simp only[H0.d,c5,n9,b5,c8,n5,w8,AV.plain,Nat.reduceBEq,↓reduceIte,Nat.reduceEqDiff,Nat.reduceAdd,sC];rfl) ?_ trivial
  simp only[e9,l7,List.cons_append,List.nil_append,List.length_cons,List.length_nil,Nat.reduceAdd,Nat.zero_add]
 ·repeat' (first|refine Za ?_|(with_reducible constructor<;>first|intro N hN mk hmk|intro N hN|intro h)|refine Ze CN ?_|(refine Zp CR [0,1] H0.d ?_;with_reducible intro _ _)|refine Zt H0.d ?_|fail)
  refine n3 (keep:=[2,3]) (ids:=[0,51,52,2]) (s':=_) () (by simp only[H0.d,c5,n9,b5,c8,n5,w8,AV.plain,Nat.reduceBEq,↓reduceIte,Nat.reduceEqDiff,Nat.reduceAdd,sC];rfl) ?_ trivial
  simp only[e9,l7,List.cons_append,List.nil_append,List.length_cons,List.length_nil,Nat.reduceAdd,Nat.zero_add]
 ·repeat' (first|refine Za ?_|(with_reducible constructor<;>first|intro N hN mk hmk|intro N hN|intro h)|refine Ze CN ?_|(refine Zp CR [0,1,2] H0.d ?_;with_reducible intro _ _)|refine Zt H0.d ?_|fail)
  refine n3 (keep:=[2,3]) (ids:=[0,52,3]) (s':=_) () (by simp only[H0.d,c5,n9,b5,c8,n5,w8,AV.plain,Nat.reduceBEq,↓reduceIte,Nat.reduceEqDiff,Nat.reduceAdd,sC];rfl) ?_ trivial
  simp only[e9,l7,List.cons_append,List.nil_append,List.length_cons,List.length_nil,Nat.reduceAdd,Nat.zero_add]
 ·repeat' (first|refine Za ?_|(with_reducible constructor<;>first|intro N hN mk hmk|intro N hN|intro h)|refine Ze CN ?_|(refine Zp CR [0,1,2] H0.d ?_;with_reducible intro _ _)|refine Zt H0.d ?_|fail)
  refine n3 (keep:=[2,3]) (ids:=[0,52,53,3]) (s':=_) () (by simp only[H0.d,c5,n9,b5,c8,n5,w8,AV.plain,Nat.reduceBEq,↓reduceIte,Nat.reduceEqDiff,Nat.reduceAdd,sC];rfl) ?_ trivial
  simp only[e9,l7,List.cons_append,List.nil_append,List.length_cons,List.length_nil,Nat.reduceAdd,Nat.zero_add]
 ·repeat' (first|refine Za ?_|(with_reducible constructor<;>first|intro N hN mk hmk|intro N hN|intro h)|refine Ze CN ?_|(refine Zp CR [0,1,2] H0.d ?_;with_reducible intro _ _)|refine Zt H0.d ?_|fail)
  refine n3 (keep:=[2,3]) (ids:=[0,52,53,3]) (s':=_) () (by simp only[H0.d,c5,n9,b5,c8,n5,w8,AV.plain,Nat.reduceBEq,↓reduceIte,Nat.reduceEqDiff,Nat.reduceAdd,sC];rfl) ?_ trivial
  simp only[e9,l7,List.cons_append,List.nil_append,List.length_cons,List.length_nil,Nat.reduceAdd,Nat.zero_add]
 ·repeat' (first|refine Za ?_|(with_reducible constructor<;>first|intro N hN mk hmk|intro N hN|intro h)|refine Ze CN ?_|(refine Zp CR [0,1,2] H0.d ?_;with_reducible intro _ _)|refine Zt H0.d ?_|fail)
  refine n3 (keep:=[2,3]) (ids:=[0,52,53,54,3]) (s':=_) () (by simp only[H0.d,c5,n9,b5,c8,n5,w8,AV.plain,Nat.reduceBEq,↓reduceIte,Nat.reduceEqDiff,Nat.reduceAdd,sC];rfl) ?_ trivial
  simp only[e9,l7,List.cons_append,List.nil_append,List.length_cons,List.length_nil,Nat.reduceAdd,Nat.zero_add]
 ·repeat' (first|refine Za ?_|(with_reducible constructor<;>first|intro N hN mk hmk|intro N hN|intro h)|refine Ze CN ?_|(refine Zp CR [0,1,2,3] H0.d ?_;with_reducible intro _ _)|refine Zt H0.d ?_|fail)
  refine n3 (keep:=[2,3]) (ids:=[0,53,54,4]) (s':=_) () (by simp only[H0.d,c5,n9,b5,c8,n5,w8,AV.plain,Nat.reduceBEq,↓reduceIte,Nat.reduceEqDiff,Nat.reduceAdd,sC];rfl) ?_ trivial
  simp only[e9,l7,List.cons_append,List.nil_append,List.length_cons,List.length_nil,Nat.reduceAdd,Nat.zero_add]
 ·repeat' (first|refine Za ?_|(with_reducible constructor<;>first|intro N hN mk hmk|intro N hN|intro h)|refine Ze CN ?_|(refine Zp CR [0,1,2,3] H0.d ?_;with_reducible intro _ _)|refine Zt H0.d ?_|fail)
  refine n3 (keep:=[2,3]) (ids:=[0,53,54,55,4]) (s':=_) () (by simp only[H0.d,c5,n9,b5,c8,n5,w8,AV.plain,Nat.reduceBEq,↓reduceIte,Nat.reduceEqDiff,Nat.reduceAdd,sC];rfl) ?_ trivial
  simp only[e9,l7,List.cons_append,List.nil_append,List.length_cons,List.length_nil,Nat.reduceAdd,Nat.zero_add]
def oW:=ZZ.mk (Zq H8.d @l7.eq_1)
theorem a4g{K:Exit→LS→Prop}(L:List Int)(at_ g su re sl pa:Int)(ar:List cN)(SA:MS){z:Int}(hL:y9 L)(h0:0≤at_∧at_≤900)(hok:gD ⟨L,at_+1,g,su,re,sl,pa,ar,.nil,[],.nil,Q6⟩ 600000)(hSA:SA=MS.fD ⟨L,at_+1,g,su,re,sl,pa,ar,.nil,[],.nil,Q6⟩ (a7 L at_%3)):AK (md:=false) Tryz.prog (pD (cR Tryz.f42) [1,1,1,1,0,1,0,0,1,0,0,0]) [] ⟨[.Z,.Z,.ptr (X4 L at_ g su re sl pa ar).length 0 0,.ptr 0 0 0,.Z,.v (.int .i64 z),.Z,.Z,.Z,.Z,.Z,.Z,.Z,.Z,.Z,.Z,.Z,.Z,.Z,.Z,.Z,.Z,.Z,.Z,.Z,.Z,.Z,.Z,.Z,.Z,.Z,.Z,.Z,.Z,.Z,.Z,.Z,.Z,.Z,.Z,.Z,.Z,.Z,.Z,.Z,.Z,.Z,.Z,.Z,.Z,.Z,.Z,.Z,.Z,.Z,.Z,.Z,.Z,.Z,.Z,.Z,.Z,.Z,.Z,.Z,.Z,.Z,.Z,.Z,.Z,.Z,.Z,.Z,.Z,.Z,.Z,.Z,.Z,.Z,.Z,.Z,.Z,.Z,.Z,.Z,.Z,.Z,.Z,.Z,.Z,.Z,.Z,.Z,.Z,.Z,.Z,.Z,.Z,.Z,.Z,.Z,.Z,.Z,.Z,.Z,.Z,.Z,.Z,.Z,.Z,.Z,.Z,.Z,.Z,.Z,.Z,.Z,.Z,.Z,.Z,.Z,.Z,.Z,.Z,.Z,.Z,.Z,.Z,.Z,.Z,.Z,.Z,.Z,.Z,.Z,.Z,.Z,.Z,.Z,.Z,.Z,.Z,.Z,.Z,.Z,.Z,.Z,.Z,.Z,.Z,.Z,.Z,.Z],e9 0 ((X4 L at_ g su re sl pa ar)++[l7]),(X4 L at_ g su re sl pa ar).length+1+8+8⟩ (O9 (fun s'=>∃a:Unit,Go.Ab.W0 True∧N3 s' ⟨[.Z,.Z,.ptr SA.rows.length 0 0,.ptr 0 0 0,.Z,.v (.int .i64 z),.Z,.Z,.Z,.Z,.Z,.Z,.Z,.Z,.Z,.Z,.Z,.Z,.Z,.Z,.Z,.Z,.Z,.Z,.Z,.Z,.Z,.Z,.Z,.Z,.Z,.Z,.Z,.Z,.Z,.Z,.Z,.Z,.Z,.Z,.Z,.Z,.Z,.Z,.Z,.Z,.Z,.Z,.Z,.Z,.Z,.Z,.Z,.Z,.Z,.Z,.Z,.Z,.Z,.Z,.Z,.Z,.Z,.Z,.Z,.Z,.Z,.Z,.Z,.Z,.Z,.Z,.Z,.Z,.Z,.Z,.Z,.Z,.Z,.Z,.Z,.Z,.Z,.Z,.Z,.Z,.Z,.Z,.Z,.Z,.Z,.Z,.Z,.Z,.Z,.Z,.Z,.Z,.Z,.Z,.Z,.Z,.Z,.Z,.Z,.Z,.Z,.Z,.Z,.Z,.Z,.Z,.Z,.Z,.Z,.Z,.Z,.Z,.Z,.Z,.Z,.Z,.Z,.Z,.Z,.Z,.Z,.Z,.Z,.Z,.Z,.Z,.Z,.Z,.Z,.Z,.Z,.Z,.Z,.Z,.Z,.Z,.Z,.Z,.Z,.Z,.Z,.Z,.Z,.Z,.Z,.Z,.Z],e9 0 (SA.rows++[l7]),SA.rows.length+1⟩) K):=by
 conv in pD _ _=>whnf
 have hx:=j0 hL h0.1
 have hn:0≤a7 L at_%3∧a7 L at_%3≤2:=by omega
 have CN:=p0 L at_ (by omega) hL
 have CR:=yK L (at_+1) g su re sl pa ar (a7 L at_%3) hn hok
 obtain⟨a',ii',bs',e⟩:=qA ⟨L,at_+1,g,su,re,sl,pa,ar,.nil,[],.nil,Q6⟩ hL (by show 0≤at_+1;omega) rfl rfl (a7 L at_%3)
 rw[←hSA]at e CR
 subst e
 simp only at CR
 clear hSA hok hL h0
 generalize a7 L at_=y at*
 cases ii'
 all_goals simp only[MS.rows,X4,e9,E4,j4.cell,j4.rows,j4.l,j4.k,r9.cell,r9.rows,r9.l,List.cons_append,List.nil_append,List.append_nil,List.length_cons,List.length_nil,Nat.reduceAdd,List.cons_append,List.nil_append]at CR⊢
 ·repeat' (first|refine Za ?_|(with_reducible constructor<;>first|intro N hN mk hmk|intro N hN|intro h)|refine Ze CN ?_|(refine Zp CR [0] oW.d ?_;with_reducible intro _ _)|refine Zt oW.d ?_|fail)
  refine n3 (keep:=[2,3,5]) (ids:=[0,50,1]) (s':=_) () (by simp only[oW.d,c5,n9,b5,c8,n5,w8,AV.plain,Nat.reduceBEq,↓reduceIte,Nat.reduceEqDiff,Nat.reduceAdd,sC];rfl) ?_ trivial
  simp only[e9,l7,List.cons_append,List.nil_append,List.length_cons,List.length_nil,Nat.reduceAdd,Nat.zero_add]
 ·repeat' (first|refine Za ?_|(with_reducible constructor<;>first|intro N hN mk hmk|intro N hN|intro h)|refine Ze CN ?_|(refine Zp CR [0] oW.d ?_;with_reducible intro _ _)|refine Zt oW.d ?_|fail)
  refine n3 (keep:=[2,3,5]) (ids:=[0,50,51,1]) (s':=_) () (by simp only[oW.d,c5,n9,b5,c8,n5,w8,AV.plain,Nat.reduceBEq,↓reduceIte,Nat.reduceEqDiff,Nat.reduceAdd,sC];rfl) ?_ trivial
  simp only[e9,l7,List.cons_append,List.nil_append,List.length_cons,List.length_nil,Nat.reduceAdd,Nat.zero_add]
def kG:=ZZ.mk (Zq H8.d @l7.eq_1)
theorem zW{K:Exit→LS→Prop}(L:List Int)(at_ g su re sl pa:Int)(ar:List cN)(SA:MS)(hL:y9 L)(h0:0≤at_∧at_≤900)(hok:gD ⟨L,at_+1,g,su,re,sl,pa,ar,.nil,[],.nil,Q6⟩ 600000)(hSA:SA=MS.fD ⟨L,at_+1,g,su,re,sl,pa,ar,.nil,[],.nil,Q6⟩ (a7 L at_%3)):AK (md:=false) Tryz.prog (pD (cR Tryz.f42) [1,1,1,1,1,0]) [] ⟨[.Z,.Z,.ptr (X4 L at_ g su re sl pa ar).length 0 0,.ptr 0 0 0,.Z,.Z,.Z,.Z,.Z,.Z,.Z,.Z,.Z,.Z,.Z,.Z,.Z,.Z,.Z,.Z,.Z,.Z,.Z,.Z,.Z,.Z,.Z,.Z,.Z,.Z,.Z,.Z,.Z,.Z,.Z,.Z,.Z,.Z,.Z,.Z,.Z,.Z,.Z,.Z,.Z,.Z,.Z,.Z,.Z,.Z,.Z,.Z,.Z,.Z,.Z,.Z,.Z,.Z,.Z,.Z,.Z,.Z,.Z,.Z,.Z,.Z,.Z,.Z,.Z,.Z,.Z,.Z,.Z,.Z,.Z,.Z,.Z,.Z,.Z,.Z,.Z,.Z,.Z,.Z,.Z,.Z,.Z,.Z,.Z,.Z,.Z,.Z,.Z,.Z,.Z,.Z,.Z,.Z,.Z,.Z,.Z,.Z,.Z,.Z,.Z,.Z,.Z,.Z,.Z,.Z,.Z,.Z,.Z,.Z,.Z,.Z,.Z,.Z,.Z,.Z,.Z,.Z,.Z,.Z,.Z,.Z,.Z,.Z,.Z,.Z,.Z,.Z,.Z,.Z,.Z,.Z,.Z,.Z,.Z,.Z,.Z,.Z,.Z,.Z,.Z,.Z,.Z,.Z,.Z,.Z,.Z,.Z,.Z],e9 0 ((X4 L at_ g su re sl pa ar)++[l7]),(X4 L at_ g su re sl pa ar).length+1+8+8⟩ (O9 (fun s'=>∃a:Unit,Go.Ab.W0 True∧N3 s' ⟨[.Z,.Z,.ptr SA.rows.length 0 0,.ptr 0 0 0,.Z,.Z,.Z,.Z,.Z,.Z,.Z,.Z,.Z,.Z,.Z,.Z,.Z,.Z,.Z,.Z,.Z,.Z,.Z,.Z,.Z,.Z,.Z,.Z,.Z,.Z,.Z,.Z,.Z,.Z,.Z,.Z,.Z,.Z,.Z,.Z,.Z,.Z,.Z,.Z,.Z,.Z,.Z,.Z,.Z,.Z,.Z,.Z,.Z,.Z,.Z,.Z,.Z,.Z,.Z,.Z,.Z,.Z,.Z,.Z,.Z,.Z,.Z,.Z,.Z,.Z,.Z,.Z,.Z,.Z,.Z,.Z,.Z,.Z,.Z,.Z,.Z,.Z,.Z,.Z,.Z,.Z,.Z,.Z,.Z,.Z,.Z,.Z,.Z,.Z,.Z,.Z,.Z,.Z,.Z,.Z,.Z,.Z,.Z,.Z,.Z,.Z,.Z,.Z,.Z,.Z,.Z,.Z,.Z,.Z,.Z,.Z,.Z,.Z,.Z,.Z,.Z,.Z,.Z,.Z,.Z,.Z,.Z,.Z,.Z,.Z,.Z,.Z,.Z,.Z,.Z,.Z,.Z,.Z,.Z,.Z,.Z,.Z,.Z,.Z,.Z,.Z,.Z,.Z,.Z,.Z,.Z,.Z,.Z],e9 0 (SA.rows++[l7]),SA.rows.length+1⟩) K):=by
 conv in pD _ _=>whnf
 have hx:=j0 hL h0.1
 have hn:0≤a7 L at_%3∧a7 L at_%3≤2:=by omega
 have CN:=p0 L at_ (by omega) hL
 have CR:=yK L (at_+1) g su re sl pa ar (a7 L at_%3) hn hok
 obtain⟨a',ii',bs',e⟩:=qA ⟨L,at_+1,g,su,re,sl,pa,ar,.nil,[],.nil,Q6⟩ hL (by show 0≤at_+1;omega) rfl rfl (a7 L at_%3)
 rw[←hSA]at e CR
 subst e
 simp only at CR
 clear hSA hok hL h0
 generalize a7 L at_=y at*
 cases ii'
 all_goals simp only[MS.rows,X4,e9,E4,j4.cell,j4.rows,j4.l,j4.k,r9.cell,r9.rows,r9.l,List.cons_append,List.nil_append,List.append_nil,List.length_cons,List.length_nil,Nat.reduceAdd,List.cons_append,List.nil_append]at CR⊢
 ·repeat' (first|refine Za ?_|(with_reducible constructor<;>first|intro N hN mk hmk|intro N hN|intro h)|refine Ze CN ?_|(refine Zp CR [0] kG.d ?_;with_reducible intro _ _)|refine Zt kG.d ?_|fail)
  refine n3 (keep:=[2,3]) (ids:=[0,50,1]) (s':=_) () (by simp only[kG.d,c5,n9,b5,c8,n5,w8,AV.plain,Nat.reduceBEq,↓reduceIte,Nat.reduceEqDiff,Nat.reduceAdd,sC];rfl) ?_ trivial
  simp only[e9,l7,List.cons_append,List.nil_append,List.length_cons,List.length_nil,Nat.reduceAdd,Nat.zero_add]
 ·repeat' (first|refine Za ?_|(with_reducible constructor<;>first|intro N hN mk hmk|intro N hN|intro h)|refine Ze CN ?_|(refine Zp CR [0] kG.d ?_;with_reducible intro _ _)|refine Zt kG.d ?_|fail)
  refine n3 (keep:=[2,3]) (ids:=[0,50,51,1]) (s':=_) () (by simp only[kG.d,c5,n9,b5,c8,n5,w8,AV.plain,Nat.reduceBEq,↓reduceIte,Nat.reduceEqDiff,Nat.reduceAdd,sC];rfl) ?_ trivial
  simp only[e9,l7,List.cons_append,List.nil_append,List.length_cons,List.length_nil,Nat.reduceAdd,Nat.zero_add]
def aN:=ZZ.mk (Zq H8.d (Zq @l7.eq_1 (Zq @E4 @b9)))
def jL:=ZZ.mk (Zq H8.d @l7.eq_1)
theorem b3W{K:Exit→LS→Prop}(S SA:MS){z:Int}(hL:y9 S.L)(h0:0≤S.at_∧S.at_≤900)(hok:gD {S with at_:=S.at_+1} 600000)(hb:S.bs.length≤800)(hlo:S.lo.l.length≤100)(hok2:gD (MS.block (MS.loop {S with at_:=S.at_+1})) 700000)(hSA:SA=S.jC):AK (md:=false) Tryz.prog (pD (cR Tryz.f42) [1,1,1,1,0,1,0,0,1,0,0,1,0]) [] ⟨[.Z,.Z,.ptr S.rows.length 0 0,.ptr 0 0 0,.Z,.v (.int .i64 z),.Z,.Z,.Z,.Z,.Z,.Z,.Z,.Z,.Z,.Z,.Z,.Z,.Z,.Z,.Z,.Z,.Z,.Z,.Z,.Z,.Z,.Z,.Z,.Z,.Z,.Z,.Z,.Z,.Z,.Z,.Z,.Z,.Z,.Z,.Z,.Z,.Z,.Z,.Z,.Z,.Z,.Z,.Z,.Z,.Z,.Z,.Z,.Z,.Z,.Z,.Z,.Z,.Z,.Z,.Z,.Z,.Z,.Z,.Z,.Z,.Z,.Z,.Z,.Z,.Z,.Z,.Z,.Z,.Z,.Z,.Z,.Z,.Z,.Z,.Z,.Z,.Z,.Z,.Z,.Z,.Z,.Z,.Z,.Z,.Z,.Z,.Z,.Z,.Z,.Z,.Z,.Z,.Z,.Z,.Z,.Z,.Z,.Z,.Z,.Z,.Z,.Z,.Z,.Z,.Z,.Z,.Z,.Z,.Z,.Z,.Z,.Z,.Z,.Z,.Z,.Z,.Z,.Z,.Z,.Z,.Z,.Z,.Z,.Z,.Z,.Z,.Z,.Z,.Z,.Z,.Z,.Z,.Z,.Z,.Z,.Z,.Z,.Z,.Z,.Z,.Z,.Z,.Z,.Z,.Z,.Z,.Z],e9 0 (S.rows++[l7]),S.rows.length+1⟩ (O9 (fun s'=>∃a:Unit,Go.Ab.W0 True∧N3 s' ⟨[.Z,.Z,.ptr SA.rows.length 0 0,.ptr 0 0 0,.Z,.v (.int .i64 z),.Z,.Z,.Z,.Z,.Z,.Z,.Z,.Z,.Z,.Z,.Z,.Z,.Z,.Z,.Z,.Z,.Z,.Z,.Z,.Z,.Z,.Z,.Z,.Z,.Z,.Z,.Z,.Z,.Z,.Z,.Z,.Z,.Z,.Z,.Z,.Z,.Z,.Z,.Z,.Z,.Z,.Z,.Z,.Z,.Z,.Z,.Z,.Z,.Z,.Z,.Z,.Z,.Z,.Z,.Z,.Z,.Z,.Z,.Z,.Z,.Z,.Z,.Z,.Z,.Z,.Z,.Z,.Z,.Z,.Z,.Z,.Z,.Z,.Z,.Z,.Z,.Z,.Z,.Z,.Z,.Z,.Z,.Z,.Z,.Z,.Z,.Z,.Z,.Z,.Z,.Z,.Z,.Z,.Z,.Z,.Z,.Z,.Z,.Z,.Z,.Z,.Z,.Z,.Z,.Z,.Z,.Z,.Z,.Z,.Z,.Z,.Z,.Z,.Z,.Z,.Z,.Z,.Z,.Z,.Z,.Z,.Z,.Z,.Z,.Z,.Z,.Z,.Z,.Z,.Z,.Z,.Z,.Z,.Z,.Z,.Z,.Z,.Z,.Z,.Z,.Z,.Z,.Z,.Z,.Z,.Z,.Z],e9 0 (SA.rows++[l7]),SA.rows.length+1⟩) K):=by
 conv in pD _ _=>whnf
 have hx:=j0 hL h0.1
 have CN:=p0 S.L S.at_ (by omega) hL
 have CL:=b16 {S with at_:=S.at_+1} hok (by show S.bs.length≤800;omega) hlo
 obtain⟨a',re',ll2,bs3,l',t',e⟩:=xU {S with at_:=S.at_+1} hL (by show 0≤S.at_+1;omega)
 have CB:=D8 (MS.loop {S with at_:=S.at_+1}) (by have:=hok2.bs;simp only[MS.block,List.length_append]at this;omega)
 have hA1:a7 S.L S.at_%3=0→SA=_:=fun hp=>hSA.trans (if_pos hp)
 have hA2:¬a7 S.L S.at_%3=0→SA=_:=fun hp=>hSA.trans (if_neg hp)
 rw[e]at CL CB hA1
 clear hSA hok hL hb hlo hok2 e
 obtain⟨L',at',g,su,re,sl,pa,ar,lo,bs,ii,t⟩:=S
 simp only[MS.block]at CN CL CB hx hA1 hA2 h0⊢
 generalize a7 L' at'=y at*
 by_cases hp:y%3=0
 ·rw[hA1 hp]
  clear hA1 hA2
  cases lo<;>cases ii
  all_goals simp only[MS.rows,e9,E4,b9,j4.cell,j4.rows,j4.l,j4.k,r9.cell,r9.rows,r9.l,List.cons_append,List.nil_append,List.append_nil,List.length_cons,List.length_nil,Nat.reduceAdd,List.cons_append,List.nil_append]at CL CB⊢
  ·repeat' (first|refine Za ?_|(with_reducible constructor<;>first|intro N hN mk hmk|intro N hN|intro h)|refine Ze CN ?_|(refine Zp CL [0,1] (Zq aN.d hp) ?_;with_reducible intro _ _)|(refine Zp CB [0,43,44,45] (Zq aN.d hp) ?_;with_reducible intro _ _)|refine Zt (Zq aN.d hp) ?_|fail)
   refine n3 (keep:=[2,3,5]) (ids:=[0,59,60,2]) (s':=_) () (by simp only[aN.d,hp,c5,n9,b5,c8,n5,w8,AV.plain,Nat.reduceBEq,↓reduceIte,Nat.reduceEqDiff,Nat.reduceAdd,sC];rfl) ?_ trivial
   simp only[e9,l7,b9,E4,List.cons_append,List.nil_append,List.length_cons,List.length_nil,Nat.reduceAdd,Nat.zero_add]
  ·repeat' (first|refine Za ?_|(with_reducible constructor<;>first|intro N hN mk hmk|intro N hN|intro h)|refine Ze CN ?_|(refine Zp CL [0,1,2] (Zq aN.d hp) ?_;with_reducible intro _ _)|(refine Zp CB [0,44,45,46] (Zq aN.d hp) ?_;with_reducible intro _ _)|refine Zt (Zq aN.d hp) ?_|fail)
   refine n3 (keep:=[2,3,5]) (ids:=[0,60,61,3]) (s':=_) () (by simp only[aN.d,hp,c5,n9,b5,c8,n5,w8,AV.plain,Nat.reduceBEq,↓reduceIte,Nat.reduceEqDiff,Nat.reduceAdd,sC];rfl) ?_ trivial
   simp only[e9,l7,b9,E4,List.cons_append,List.nil_append,List.length_cons,List.length_nil,Nat.reduceAdd,Nat.zero_add]
  ·repeat' (first|refine Za ?_|(with_reducible constructor<;>first|intro N hN mk hmk|intro N hN|intro h)|refine Ze CN ?_|(refine Zp CL [0,1,2] (Zq aN.d hp) ?_;with_reducible intro _ _)|(refine Zp CB [0,44,45,46] (Zq aN.d hp) ?_;with_reducible intro _ _)|refine Zt (Zq aN.d hp) ?_|fail)
   refine n3 (keep:=[2,3,5]) (ids:=[0,60,61,3]) (s':=_) () (by simp only[aN.d,hp,c5,n9,b5,c8,n5,w8,AV.plain,Nat.reduceBEq,↓reduceIte,Nat.reduceEqDiff,Nat.reduceAdd,sC];rfl) ?_ trivial
   simp only[e9,l7,b9,E4,List.cons_append,List.nil_append,List.length_cons,List.length_nil,Nat.reduceAdd,Nat.zero_add]
  ·repeat' (first|refine Za ?_|(with_reducible constructor<;>first|intro N hN mk hmk|intro N hN|intro h)|refine Ze CN ?_|(refine Zp CL [0,1,2,3] (Zq aN.d hp) ?_;with_reducible intro _ _)|(refine Zp CB [0,45,46,47] (Zq aN.d hp) ?_;with_reducible intro _ _)|refine Zt (Zq aN.d hp) ?_|fail)
   refine n3 (keep:=[2,3,5]) (ids:=[0,61,62,4]) (s':=_) () (by simp only[aN.d,hp,c5,n9,b5,c8,n5,w8,AV.plain,Nat.reduceBEq,↓reduceIte,Nat.reduceEqDiff,Nat.reduceAdd,sC];rfl) ?_ trivial
   simp only[e9,l7,b9,E4,List.cons_append,List.nil_append,List.length_cons,List.length_nil,Nat.reduceAdd,Nat.zero_add]
 ·rw[hA2 hp]
  clear hA1 hA2
  cases lo<;>cases ii
  all_goals simp only[MS.rows,e9,j4.cell,j4.rows,j4.l,j4.k,r9.cell,r9.rows,r9.l,List.cons_append,List.nil_append,List.append_nil,List.length_cons,List.length_nil,Nat.reduceAdd,List.cons_append,List.nil_append]at⊢
  ·repeat' (first|refine Za ?_|(with_reducible constructor<;>first|intro N hN mk hmk|intro N hN|intro h)|refine Ze CN ?_|refine Zt (Zq jL.d hp) ?_|fail)
   refine n3 (keep:=[2,3,5]) (ids:=[0,1,2]) (s':=_) () (by simp only[jL.d,hp,c5,n9,b5,c8,n5,w8,AV.plain,Nat.reduceBEq,↓reduceIte,Nat.reduceEqDiff,Nat.reduceAdd,sC];rfl) ?_ trivial
   simp only[e9,l7,List.cons_append,List.nil_append,List.length_cons,List.length_nil,Nat.reduceAdd,Nat.zero_add]
  ·repeat' (first|refine Za ?_|(with_reducible constructor<;>first|intro N hN mk hmk|intro N hN|intro h)|refine Ze CN ?_|refine Zt (Zq jL.d hp) ?_|fail)
   refine n3 (keep:=[2,3,5]) (ids:=[0,1,2,3]) (s':=_) () (by simp only[jL.d,hp,c5,n9,b5,c8,n5,w8,AV.plain,Nat.reduceBEq,↓reduceIte,Nat.reduceEqDiff,Nat.reduceAdd,sC];rfl) ?_ trivial
   simp only[e9,l7,List.cons_append,List.nil_append,List.length_cons,List.length_nil,Nat.reduceAdd,Nat.zero_add]
  ·repeat' (first|refine Za ?_|(with_reducible constructor<;>first|intro N hN mk hmk|intro N hN|intro h)|refine Ze CN ?_|refine Zt (Zq jL.d hp) ?_|fail)
   refine n3 (keep:=[2,3,5]) (ids:=[0,1,2,3]) (s':=_) () (by simp only[jL.d,hp,c5,n9,b5,c8,n5,w8,AV.plain,Nat.reduceBEq,↓reduceIte,Nat.reduceEqDiff,Nat.reduceAdd,sC];rfl) ?_ trivial
   simp only[e9,l7,List.cons_append,List.nil_append,List.length_cons,List.length_nil,Nat.reduceAdd,Nat.zero_add]
  ·repeat' (first|refine Za ?_|(with_reducible constructor<;>first|intro N hN mk hmk|intro N hN|intro h)|refine Ze CN ?_|refine Zt (Zq jL.d hp) ?_|fail)
   refine n3 (keep:=[2,3,5]) (ids:=[0,1,2,3,4]) (s':=_) () (by simp only[jL.d,hp,c5,n9,b5,c8,n5,w8,AV.plain,Nat.reduceBEq,↓reduceIte,Nat.reduceEqDiff,Nat.reduceAdd,sC];rfl) ?_ trivial
   simp only[e9,l7,List.cons_append,List.nil_append,List.length_cons,List.length_nil,Nat.reduceAdd,Nat.zero_add]
def w7:=ZZ.mk (Zq H8.d (Zq @l7.eq_1 (Zq @E4 @b9)))
def S4:=ZZ.mk (Zq H8.d @l7.eq_1)
theorem a98{K:Exit→LS→Prop}(S SA:MS)(hL:y9 S.L)(h0:0≤S.at_∧S.at_≤900)(hok:gD {S with at_:=S.at_+1} 600000)(hb:S.bs.length≤800)(hlo:S.lo.l.length≤100)(hok2:gD (MS.block (MS.loop {S with at_:=S.at_+1})) 700000)(hSA:SA=S.jD):AK (md:=false) Tryz.prog (pD (cR Tryz.f42) [1,1,1,1,1,1,0]) [] ⟨[.Z,.Z,.ptr S.rows.length 0 0,.ptr 0 0 0,.Z,.Z,.Z,.Z,.Z,.Z,.Z,.Z,.Z,.Z,.Z,.Z,.Z,.Z,.Z,.Z,.Z,.Z,.Z,.Z,.Z,.Z,.Z,.Z,.Z,.Z,.Z,.Z,.Z,.Z,.Z,.Z,.Z,.Z,.Z,.Z,.Z,.Z,.Z,.Z,.Z,.Z,.Z,.Z,.Z,.Z,.Z,.Z,.Z,.Z,.Z,.Z,.Z,.Z,.Z,.Z,.Z,.Z,.Z,.Z,.Z,.Z,.Z,.Z,.Z,.Z,.Z,.Z,.Z,.Z,.Z,.Z,.Z,.Z,.Z,.Z,.Z,.Z,.Z,.Z,.Z,.Z,.Z,.Z,.Z,.Z,.Z,.Z,.Z,.Z,.Z,.Z,.Z,.Z,.Z,.Z,.Z,.Z,.Z,.Z,.Z,.Z,.Z,.Z,.Z,.Z,.Z,.Z,.Z,.Z,.Z,.Z,.Z,.Z,.Z,.Z,.Z,.Z,.Z,.Z,.Z,.Z,.Z,.Z,.Z,.Z,.Z,.Z,.Z,.Z,.Z,.Z,.Z,.Z,.Z,.Z,.Z,.Z,.Z,.Z,.Z,.Z,.Z,.Z,.Z,.Z,.Z,.Z,.Z],e9 0 (S.rows++[l7]),S.rows.length+1⟩ (O9 (fun s'=>∃a:Unit,Go.Ab.W0 True∧N3 s' ⟨[.Z,.Z,.ptr SA.rows.length 0 0,.ptr 0 0 0,.Z,.Z,.Z,.Z,.Z,.Z,.Z,.Z,.Z,.Z,.Z,.Z,.Z,.Z,.Z,.Z,.Z,.Z,.Z,.Z,.Z,.Z,.Z,.Z,.Z,.Z,.Z,.Z,.Z,.Z,.Z,.Z,.Z,.Z,.Z,.Z,.Z,.Z,.Z,.Z,.Z,.Z,.Z,.Z,.Z,.Z,.Z,.Z,.Z,.Z,.Z,.Z,.Z,.Z,.Z,.Z,.Z,.Z,.Z,.Z,.Z,.Z,.Z,.Z,.Z,.Z,.Z,.Z,.Z,.Z,.Z,.Z,.Z,.Z,.Z,.Z,.Z,.Z,.Z,.Z,.Z,.Z,.Z,.Z,.Z,.Z,.Z,.Z,.Z,.Z,.Z,.Z,.Z,.Z,.Z,.Z,.Z,.Z,.Z,.Z,.Z,.Z,.Z,.Z,.Z,.Z,.Z,.Z,.Z,.Z,.Z,.Z,.Z,.Z,.Z,.Z,.Z,.Z,.Z,.Z,.Z,.Z,.Z,.Z,.Z,.Z,.Z,.Z,.Z,.Z,.Z,.Z,.Z,.Z,.Z,.Z,.Z,.Z,.Z,.Z,.Z,.Z,.Z,.Z,.Z,.Z,.Z,.Z,.Z],e9 0 (SA.rows++[l7]),SA.rows.length+1⟩) K):=by
 conv in pD _ _=>whnf
 have hx:=j0 hL h0.1
 have CN:=p0 S.L S.at_ (by omega) hL
 have CL:=b16 {S with at_:=S.at_+1} hok (by show S.bs.length≤800;omega) hlo
 obtain⟨a',re',ll2,bs3,l',t',e⟩:=xU {S with at_:=S.at_+1} hL (by show 0≤S.at_+1;omega)
 have CB:=D8 (MS.loop {S with at_:=S.at_+1}) (by have:=hok2.bs;simp only[MS.block,List.length_append]at this;omega)
 have CI:=aW _ hok2
 have hL2:y9 (MS.block (MS.loop {S with at_:=S.at_+1})).L:=hok2.L
 obtain⟨a2,ii2,e2,_,_,_⟩:=H2 (MS.block (MS.loop {S with at_:=S.at_+1})) hL2 hok2.at_.1
 rw[e2]at CI
 have hA1:a7 S.L S.at_%3=0→SA=_:=fun hp=>hSA.trans (if_pos hp)
 have hA2:¬a7 S.L S.at_%3=0→SA=_:=fun hp=>hSA.trans (if_neg hp)
 rw[e2]at hA1
 rw[e]at CL CB hA1 CI
 clear hSA hok hL hb hlo hok2 e hL2 e2
 obtain⟨L',at',g,su,re,sl,pa,ar,lo,bs,ii,t⟩:=S
 simp only[MS.block]at CN CL CB hx hA1 hA2 h0 CI⊢
 generalize a7 L' at'=y at*
 by_cases hp:y%3=0
 ·rw[hA1 hp]
  clear hA1 hA2
  cases lo<;>cases ii<;>cases ii2
  all_goals simp only[MS.rows,e9,E4,b9,j4.cell,j4.rows,j4.l,j4.k,r9.cell,r9.rows,r9.l,List.cons_append,List.nil_append,List.append_nil,List.length_cons,List.length_nil,Nat.reduceAdd,List.cons_append,List.nil_append]at CL CB CI⊢
  ·repeat' (first|refine Za ?_|(with_reducible constructor<;>first|intro N hN mk hmk|intro N hN|intro h)|refine Ze CN ?_|(refine Zp CL [0,1] (Zq w7.d hp) ?_;with_reducible intro _ _)|(refine Zp CB [0,43,44,45] (Zq w7.d hp) ?_;with_reducible intro _ _)|(refine Zp CI [0,59,60] (Zq w7.d hp) ?_;with_reducible intro _ _)|refine Zt (Zq w7.d hp) ?_|fail)
   refine n3 (keep:=[2,3]) (ids:=[0,75,76,2]) (s':=_) () (by simp only[w7.d,hp,c5,n9,b5,c8,n5,w8,AV.plain,Nat.reduceBEq,↓reduceIte,Nat.reduceEqDiff,Nat.reduceAdd,sC];rfl) ?_ trivial
   simp only[e9,l7,b9,E4,List.cons_append,List.nil_append,List.length_cons,List.length_nil,Nat.reduceAdd,Nat.zero_add]
  ·repeat' (first|refine Za ?_|(with_reducible constructor<;>first|intro N hN mk hmk|intro N hN|intro h)|refine Ze CN ?_|(refine Zp CL [0,1] (Zq w7.d hp) ?_;with_reducible intro _ _)|(refine Zp CB [0,43,44,45] (Zq w7.d hp) ?_;with_reducible intro _ _)|(refine Zp CI [0,59,60] (Zq w7.d hp) ?_;with_reducible intro _ _)|refine Zt (Zq w7.d hp) ?_|fail)
   refine n3 (keep:=[2,3]) (ids:=[0,75,76,77,2]) (s':=_) () (by simp only[w7.d,hp,c5,n9,b5,c8,n5,w8,AV.plain,Nat.reduceBEq,↓reduceIte,Nat.reduceEqDiff,Nat.reduceAdd,sC];rfl) ?_ trivial
   simp only[e9,l7,b9,E4,List.cons_append,List.nil_append,List.length_cons,List.length_nil,Nat.reduceAdd,Nat.zero_add]
  ·repeat' (first|refine Za ?_|(with_reducible constructor<;>first|intro N hN mk hmk|intro N hN|intro h)|refine Ze CN ?_|(refine Zp CL [0,1,2] (Zq w7.d hp) ?_;with_reducible intro _ _)|(refine Zp CB [0,44,45,46] (Zq w7.d hp) ?_;with_reducible intro _ _)|(refine Zp CI [0,60,61] (Zq w7.d hp) ?_;with_reducible intro _ _)|refine Zt (Zq w7.d hp) ?_|fail)
   refine n3 (keep:=[2,3]) (ids:=[0,76,77,3]) (s':=_) () (by simp only[w7.d,hp,c5,n9,b5,c8,n5,w8,AV.plain,Nat.reduceBEq,↓reduceIte,Nat.reduceEqDiff,Nat.reduceAdd,sC];rfl) ?_ trivial
   simp only[e9,l7,b9,E4,List.cons_append,List.nil_append,List.length_cons,List.length_nil,Nat.reduceAdd,Nat.zero_add]
  ·repeat' (first|refine Za ?_|(with_reducible constructor<;>first|intro N hN mk hmk|intro N hN|intro h)|refine Ze CN ?_|(refine Zp CL [0,1,2] (Zq w7.d hp) ?_;with_reducible intro _ _)|(refine Zp CB [0,44,45,46] (Zq w7.d hp) ?_;with_reducible intro _ _)|(refine Zp CI [0,60,61] (Zq w7.d hp) ?_;with_reducible intro _ _)|refine Zt (Zq w7.d hp) ?_|fail)
   refine n3 (keep:=[2,3]) (ids:=[0,76,77,78,3]) (s':=_) () (by simp only[w7.d,hp,c5,n9,b5,c8,n5,w8,AV.plain,Nat.reduceBEq,↓reduceIte,Nat.reduceEqDiff,Nat.reduceAdd,sC];rfl) ?_ trivial
   simp only[e9,l7,b9,E4,List.cons_append,List.nil_append,List.length_cons,List.length_nil,Nat.reduceAdd,Nat.zero_add]
  ·repeat' (first|refine Za ?_|(with_reducible constructor<;>first|intro N hN mk hmk|intro N hN|intro h)|refine Ze CN ?_|(refine Zp CL [0,1,2] (Zq w7.d hp) ?_;with_reducible intro _ _)|(refine Zp CB [0,44,45,46] (Zq w7.d hp) ?_;with_reducible intro _ _)|(refine Zp CI [0,60,61] (Zq w7.d hp) ?_;with_reducible intro _ _)|refine Zt (Zq w7.d hp) ?_|fail)
   refine n3 (keep:=[2,3]) (ids:=[0,76,77,3]) (s':=_) () (by simp only[w7.d,hp,c5,n9,b5,c8,n5,w8,AV.plain,Nat.reduceBEq,↓reduceIte,Nat.reduceEqDiff,Nat.reduceAdd,sC];rfl) ?_ trivial
   simp only[e9,l7,b9,E4,List.cons_append,List.nil_append,List.length_cons,List.length_nil,Nat.reduceAdd,Nat.zero_add]
  ·repeat' (first|refine Za ?_|(with_reducible constructor<;>first|intro N hN mk hmk|intro N hN|intro h)|refine Ze CN ?_|(refine Zp CL [0,1,2] (Zq w7.d hp) ?_;with_reducible intro _ _)|(refine Zp CB [0,44,45,46] (Zq w7.d hp) ?_;with_reducible intro _ _)|(refine Zp CI [0,60,61] (Zq w7.d hp) ?_;with_reducible intro _ _)|refine Zt (Zq w7.d hp) ?_|fail)
   refine n3 (keep:=[2,3]) (ids:=[0,76,77,78,3]) (s':=_) () (by simp only[w7.d,hp,c5,n9,b5,c8,n5,w8,AV.plain,Nat.reduceBEq,↓reduceIte,Nat.reduceEqDiff,Nat.reduceAdd,sC];rfl) ?_ trivial
   simp only[e9,l7,b9,E4,List.cons_append,List.nil_append,List.length_cons,List.length_nil,Nat.reduceAdd,Nat.zero_add]
  ·repeat' (first|refine Za ?_|(with_reducible constructor<;>first|intro N hN mk hmk|intro N hN|intro h)|refine Ze CN ?_|(refine Zp CL [0,1,2,3] (Zq w7.d hp) ?_;with_reducible intro _ _)|(refine Zp CB [0,45,46,47] (Zq w7.d hp) ?_;with_reducible intro _ _)|(refine Zp CI [0,61,62] (Zq w7.d hp) ?_;with_reducible intro _ _)|refine Zt (Zq w7.d hp) ?_|fail)
   refine n3 (keep:=[2,3]) (ids:=[0,77,78,4]) (s':=_) () (by simp only[w7.d,hp,c5,n9,b5,c8,n5,w8,AV.plain,Nat.reduceBEq,↓reduceIte,Nat.reduceEqDiff,Nat.reduceAdd,sC];rfl) ?_ trivial
   simp only[e9,l7,b9,E4,List.cons_append,List.nil_append,List.length_cons,List.length_nil,Nat.reduceAdd,Nat.zero_add]
  ·repeat' (first|refine Za ?_|(with_reducible constructor<;>first|intro N hN mk hmk|intro N hN|intro h)|refine Ze CN ?_|(refine Zp CL [0,1,2,3] (Zq w7.d hp) ?_;with_reducible intro _ _)|(refine Zp CB [0,45,46,47] (Zq w7.d hp) ?_;with_reducible intro _ _)|(refine Zp CI [0,61,62] (Zq w7.d hp) ?_;with_reducible intro _ _)|refine Zt (Zq w7.d hp) ?_|fail)
   refine n3 (keep:=[2,3]) (ids:=[0,77,78,79,4]) (s':=_) () (by simp only[w7.d,hp,c5,n9,b5,c8,n5,w8,AV.plain,Nat.reduceBEq,↓reduceIte,Nat.reduceEqDiff,Nat.reduceAdd,sC];rfl) ?_ trivial
   simp only[e9,l7,b9,E4,List.cons_append,List.nil_append,List.length_cons,List.length_nil,Nat.reduceAdd,Nat.zero_add]
 ·rw[hA2 hp]
  clear hA1 hA2
  cases lo<;>cases ii
  all_goals simp only[MS.rows,e9,j4.cell,j4.rows,j4.l,j4.k,r9.cell,r9.rows,r9.l,List.cons_append,List.nil_append,List.append_nil,List.length_cons,List.length_nil,Nat.reduceAdd,List.cons_append,List.nil_append]at⊢
  ·repeat' (first|refine Za ?_|(with_reducible constructor<;>first|intro N hN mk hmk|intro N hN|intro h)|refine Ze CN ?_|refine Zt (Zq S4.d hp) ?_|fail)
   refine n3 (keep:=[2,3]) (ids:=[0,1,2]) (s':=_) () (by simp only[S4.d,hp,c5,n9,b5,c8,n5,w8,AV.plain,Nat.reduceBEq,↓reduceIte,Nat.reduceEqDiff,Nat.reduceAdd,sC];rfl) ?_ trivial
   simp only[e9,l7,List.cons_append,List.nil_append,List.length_cons,List.length_nil,Nat.reduceAdd,Nat.zero_add]
  ·repeat' (first|refine Za ?_|(with_reducible constructor<;>first|intro N hN mk hmk|intro N hN|intro h)|refine Ze CN ?_|refine Zt (Zq S4.d hp) ?_|fail)
   refine n3 (keep:=[2,3]) (ids:=[0,1,2,3]) (s':=_) () (by simp only[S4.d,hp,c5,n9,b5,c8,n5,w8,AV.plain,Nat.reduceBEq,↓reduceIte,Nat.reduceEqDiff,Nat.reduceAdd,sC];rfl) ?_ trivial
   simp only[e9,l7,List.cons_append,List.nil_append,List.length_cons,List.length_nil,Nat.reduceAdd,Nat.zero_add]
  ·repeat' (first|refine Za ?_|(with_reducible constructor<;>first|intro N hN mk hmk|intro N hN|intro h)|refine Ze CN ?_|refine Zt (Zq S4.d hp) ?_|fail)
   refine n3 (keep:=[2,3]) (ids:=[0,1,2,3]) (s':=_) () (by simp only[S4.d,hp,c5,n9,b5,c8,n5,w8,AV.plain,Nat.reduceBEq,↓reduceIte,Nat.reduceEqDiff,Nat.reduceAdd,sC];rfl) ?_ trivial
   simp only[e9,l7,List.cons_append,List.nil_append,List.length_cons,List.length_nil,Nat.reduceAdd,Nat.zero_add]
  ·repeat' (first|refine Za ?_|(with_reducible constructor<;>first|intro N hN mk hmk|intro N hN|intro h)|refine Ze CN ?_|refine Zt (Zq S4.d hp) ?_|fail)
   refine n3 (keep:=[2,3]) (ids:=[0,1,2,3,4]) (s':=_) () (by simp only[S4.d,hp,c5,n9,b5,c8,n5,w8,AV.plain,Nat.reduceBEq,↓reduceIte,Nat.reduceEqDiff,Nat.reduceAdd,sC];rfl) ?_ trivial
   simp only[e9,l7,List.cons_append,List.nil_append,List.length_cons,List.length_nil,Nat.reduceAdd,Nat.zero_add]
end Go.Proofs.YtgdoiokalfhjoaaGreatDoor
end
