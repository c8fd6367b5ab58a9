/- Own work (by an AI agent; no person has read it): part of a proof of the seat YtgdoiokalfhjoaaGreatDoor. -/
import Derived.Test.YtgdoiokalfhjoaaGreatDoorYy
set_option linter.unusedSimpArgs false
set_option linter.unusedVariables false
set_option maxRecDepth 100000
set_option maxHeartbeats 10000000
section
namespace Go.Proofs.YtgdoiokalfhjoaaGreatDoor
open Go.Ab
def K7:=ZZ.mk (Zq H8.d (Zq @M7 (Zq @fP (Zq @jW (Zq @Z8 (Zq @qM (Zq @zE (Zq @E4 (Zq @A1 (Zq @b9 (Zq @jP (Zq @nA (Zq @gJ (Zq @kI (Zq @iY (Zq @b1Q @E3.av.eq_1))))))))))))))))
theorem c0S(L:List Int)(at_ g su re sl pa:Int)(ar:List cN)(ll:List Loop)(bs:List b6)(t:q9)(h:gD ⟨L,at_,g,su,re,sl,pa,ar,(.own ll),bs,.nil,t⟩ 600000)(hb:bs.length≤800)(hl:ll.length≤100):y6 Tryz.prog 109 [.ptr 0 0 0] (MS.rows ⟨L,at_,g,su,re,sl,pa,ar,(.own ll),bs,.nil,t⟩) 1 (fun _:Unit=>True) (fun _=> .O2 []) (fun _=>MS.jA ⟨L,at_,g,su,re,sl,pa,ar,(.own ll),bs,.nil,t⟩):=by
 obtain⟨hL,h0,hb0,hi,ha,hal⟩:=h
 simp only[j4.l]at hL h0 hi ha hal
 clear hb0
 have hx:=j0 hL h0.1
 have CN:=p0 L at_ (by omega) hL
 obtain⟨n,hn⟩:∃n:Int,n=6+2*(ll.length:Int):=⟨_,rfl⟩
 obtain⟨R,hR⟩:∃R,R=MS.jA ⟨L,at_,g,su,re,sl,pa,ar,(.own ll),bs,.nil,t⟩:=⟨_,rfl⟩
 rw[←hR]
 simp only[MS.jA,MS.loop,MS.V7,MS.gU,MS.xS,MS.block,MS.put,MS.H6,MS.cD,MS.eZ,j4.cell,j4.rows,j4.l,j4.k,r9.cell,r9.rows,r9.l,List.cons_append,List.nil_append,List.append_nil]at hR
 simp only[←hn]at hR
 obtain⟨hh,hhh⟩:∃hh:Int,hh=((bs.length+1:Nat):Int):=⟨_,rfl⟩
 obtain⟨bo,hbo⟩:∃bo:Int,bo=1+a7 L at_%3:=⟨_,rfl⟩
 obtain⟨b1,hb1⟩:∃b1:b6,b1=⟨[li1 n],O6 ((bs.length+1:Nat):Int)⟩:=⟨_,rfl⟩
 obtain⟨b2,hb2⟩:∃b2:b6,b2=⟨[li2 n (1+a7 L at_%3)],D6 (L7 (n+1)) (((bs.length+1:Nat):Int)+1) (((bs.length+1:Nat):Int)+2)⟩:=⟨_,rfl⟩
 obtain⟨ll2,hll2⟩:∃ll2:List Loop,ll2=ll++[⟨((bs.length+1:Nat):Int),n,1+a7 L at_%3⟩]:=⟨_,rfl⟩
 have CP1:=O8 ⟨L,at_+1,g,su,n+2,sl,pa,ar,(.own ll),bs,.nil,t⟩ (li1 n) (by show bs.length≤1000;omega) (by show([]:List e7).length≤1000000;(try simp only[List.length_nil]);omega)
 have CB1:=D8 ⟨L,at_+1,g,su,n+2,sl,pa,ar,.own ll2,bs,.own ([li1 n]),O6 ((bs.length+1:Nat):Int)⟩ (by show bs.length≤1000;omega)
 have CP2:=O8 ⟨L,at_+1,g,su,n+2,sl,pa,ar,.own ll2,bs++[b1],.nil,Q6⟩ (li2 n (1+a7 L at_%3)) (by show(bs++[b1]).length≤1000;rw[b9];omega) (by show([]:List e7).length≤1000000;simp)
 have CB2:=D8 ⟨L,at_+1,g,su,n+2,sl,pa,ar,.own ll2,bs++[b1],.own [li2 n (1+a7 L at_%3)],D6 (L7 (n+1)) (((bs.length+1:Nat):Int)+1) (((bs.length+1:Nat):Int)+2)⟩ (by show(bs++[b1]).length≤1000;rw[b9];omega)
 have CP3:=O8 ⟨L,at_+1,g,su,n+2,sl,pa,ar,.own ll2,bs++[b1]++[b2],.nil,Q6⟩ (lK n) (by show(bs++[b1]++[b2]).length≤1000;rw[b9,b9];omega) (by show([]:List e7).length≤1000000;simp)
 have CI:=aW ⟨L,at_+1,g,su,n+2,sl,pa,ar,.own ll2,bs++[b1]++[b2],.own [lK n],Q6⟩ ⟨hL,by show 0≤at_+1∧at_+1≤_;omega,by show(bs++[b1]++[b2]).length≤_;rw[b9,b9];omega,by show(([lK n]:List e7).length:Int)≤_;simp,ha,hal⟩
 obtain⟨a,l,f,f1,f2,f3⟩:=gS ⟨L,at_+1,g,su,n+2,sl,pa,ar,.own ll2,bs++[b1]++[b2],.own [lK n],Q6⟩ [lK n] rfl hL (by show 0≤at_+1;omega)
 have f1:at_+1+1≤a:=f1
 have f2:a≤at_+1+33:=f2
 rw[f]at CI
 rw[←hll2,←hb1,←hb2,f]at hR
 clear f f3
 have CN2:=p0 L a (by omega) hL
 have CR:=X9 L (a+1) (by omega) hL
 have hy:=j0 hL (show 0≤a by omega)
 have RN:=dC n
 have RN1:=dC (n+1)
 have RC0:=M8 0
 have RC1:=M8 1
 have RCb:=M8 (1+a7 L at_%3)
 simp only[MS.xT]at hR
 have hR1:¬a7 L a%3=0→R=_:=fun hp=>hR.trans (congrArg MS.rows (if_neg hp))
 have hR2:a7 L a%3=0→R=_:=fun hp=>hR.trans (congrArg MS.rows (if_pos hp))
 simp only[MS.rows,MS.put,MS.block,j4.cell,j4.rows,j4.l,j4.k,r9.cell,r9.rows,r9.l,List.cons_append,List.nil_append,List.append_nil]at CP1 CB1 CP2 CB2 CP3 CI hR1 hR2
 rw[←hb1]at CB1
 rw[←hb2]at CB2
 have hnb:6≤n∧n≤206:=by omega
 have hn2:6+2*((ll.length:Nat):Int)=n:=hn.symm
 have hl2:loops ll++[[.v (.int .i64 ((bs.length+1:Nat):Int)),.v (.int .i64 n),.v (.int .i64 (1+a7 L at_%3))]]=loops ll2:=by rw[hll2];rw[xV]
 have hl3:ll2.length=ll.length+1:=by rw[hll2];simp
 clear hR f1 f2 hhh hbo hb1 hb2 hll2
 generalize a7 L at_=x at*
 generalize a7 L a=y at*
 generalize E7 L (a+1)=d at*
 obtain⟨dk,dn,dv⟩:=d
 simp only[hl3]at CB1 CP2 CB2 CP3 CI hR1 hR2
 simp only[a4c,a4d,a4e,E4,kR,iE,L7,A3,E3.av,b9,List.length_append,List.length_cons,List.length_nil,Nat.zero_add,Nat.reduceAdd,iY]at CP1 CB1 CP2 CB2 CP3 CI RN RN1 RC0 RC1 RCb CR
 simp only[E4,nS,iF,b9,List.length_append,List.length_cons,List.length_nil,Nat.zero_add,Nat.reduceAdd,iY]at hR1 hR2
 simp only[MS.rows,j4.cell,j4.rows,j4.l,j4.k,r9.cell,r9.rows,r9.l,List.cons_append,List.nil_append,List.append_nil];refine Zf Tryz.func109 Tryz.ntmps109 ?_
 repeat' (first|(guard_target=~ AK Tryz.prog (Go.Code.seq (Go.Code.region 13 _ _) _) _ _ _;(try refine Zs (Zq K7.d (Zq hn2 hl2)) ?_);guard_target=~ AK Tryz.prog (Go.Code.seq (Go.Code.region 13 _ _) _) _ (Go.Ab.LS.mk _ _ 21) _;refine u9 (Zw [0,4] [0,13,14,15] (Zq K7.d (Zq hn2 hl2)) rfl) ?_)|(guard_target=~ AK Tryz.prog (Go.Code.seq (Go.Code.region 12 _ _) _) _ _ _;(try refine Zs (Zq K7.d (Zq hn2 hl2)) ?_);guard_target=~ AK Tryz.prog (Go.Code.seq (Go.Code.region 12 _ _) _) _ (Go.Ab.LS.mk _ _ 68) _;refine u9 (Zw [0,4] [0,60,61,62] (Zq K7.d (Zq hn2 hl2)) rfl) ?_)|(guard_target=~ AK Tryz.prog (Go.Code.seq (Go.Code.region 11 _ _) _) _ _ _;(try refine Zs (Zq K7.d (Zq hn2 hl2)) ?_);guard_target=~ AK Tryz.prog (Go.Code.seq (Go.Code.region 11 _ _) _) _ (Go.Ab.LS.mk _ _ 165) _;refine u9 (Zw [0,2,4] [0,157,158] (Zq K7.d (Zq hn2 hl2)) rfl) ?_)|(guard_target=~ AK Tryz.prog (Go.Code.seq (Go.Code.region 9 _ _) _) _ _ _;(try refine Zs (Zq K7.d (Zq hn2 hl2)) ?_);guard_target=~ AK Tryz.prog (Go.Code.seq (Go.Code.region 9 _ _) _) _ (Go.Ab.LS.mk _ _ 92) _;refine u9 (Zw [0,2,4] [0,84,85,86] (Zq K7.d (Zq hn2 hl2)) rfl) ?_)|(guard_target=~ AK Tryz.prog (Go.Code.seq (Go.Code.region 8 _ _) _) _ _ _;(try refine Zs (Zq K7.d (Zq hn2 hl2)) ?_);guard_target=~ AK Tryz.prog (Go.Code.seq (Go.Code.region 8 _ _) _) _ (Go.Ab.LS.mk _ _ 253) _;refine u9 (Zw [0,2,3,4] [0,245,246] (Zq K7.d (Zq hn2 hl2)) rfl) ?_)|(guard_target=~ AK Tryz.prog (Go.Code.seq (Go.Code.region 5 _ _) _) _ _ _;(try refine Zs (Zq K7.d (Zq hn2 hl2)) ?_);guard_target=~ AK Tryz.prog (Go.Code.seq (Go.Code.region 5 _ _) _) _ (Go.Ab.LS.mk _ _ 280) _;refine u9 (Zw [0,2,3,4] [0,272,273,274] (Zq K7.d (Zq hn2 hl2)) rfl) ?_)|refine Zl ?_|(with_reducible constructor<;>first|intro N hN mk hmk|intro N hN|intro h)|refine Ze CN ?_|refine Zc RN ?_|refine Zc RN1 ?_|refine Zc RC0 ?_|refine Zc RC1 ?_|refine Zc RCb ?_|refine Ze CN2 ?_|refine Ze CR ?_|(refine Zp CP1 [0,1,2] (Zq K7.d (Zq hn2 hl2)) ?_;with_reducible intro _ _)|(refine Zp CB1 [0,1,2,197] (Zq K7.d (Zq hn2 hl2)) ?_;with_reducible intro _ _)|(refine Zp CP2 [0,1,2] (Zq K7.d (Zq hn2 hl2)) ?_;with_reducible intro _ _)|(refine Zp CB2 [0,1,2,3] (Zq K7.d (Zq hn2 hl2)) ?_;with_reducible intro _ _)|(refine Zp CP3 [0,1,2] (Zq K7.d (Zq hn2 hl2)) ?_;with_reducible intro _ _)|(refine Zp CI [0,1,2,3] (Zq K7.d (Zq hn2 hl2)) ?_;with_reducible intro _ _)|refine Zt (Zq K7.d (Zq hn2 hl2)) ?_|fail)
 ·rw[hR2 (by assumption)]
  refine Zr (()) [0,1,2,3] (Zq K7.d (Zq hn2 hl2)) ?_
  trivial
 ·rw[hR1 (by assumption)]
  refine Zr (()) [0,1,2,3] (Zq K7.d (Zq hn2 hl2)) ?_
  trivial
end Go.Proofs.YtgdoiokalfhjoaaGreatDoor
end
