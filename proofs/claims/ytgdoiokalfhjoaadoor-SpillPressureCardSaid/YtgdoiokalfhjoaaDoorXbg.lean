/- Own work (by an AI agent; no person has read it): part of a proof of the seat YtgdoiokalfhjoaaDoor. -/
import Derived.Test.YtgdoiokalfhjoaaDoorXbd
set_option linter.unusedSimpArgs false
set_option linter.unusedVariables false
set_option maxRecDepth 100000
set_option maxHeartbeats 10000000
section
namespace Go.Proofs.YtgdoiokalfhjoaaDoor
open Go.Ab
def M2:=ZZ.mk (Zq @V2 (Zq @kC (Zq @nG (Zq @Z8 (Zq @pT (Zq @vQ (Zq @E3 (Zq @B1 (Zq @c7 (Zq @iX (Zq @mI (Zq @fO (Zq @jQ (Zq @iG (Zq @I1 (Zq @a6W (Zq @H8.av.eq_1 (Zq @I1 (Zq @x8 (Zq @y7 (Zq @n3 (Zq @p0 (Zq @w8 (Zq @m7 (Zq @l8 (Zq @n9 (Zq @y8 (Zq @s6 (Zq @r8 (Zq @z8 (Zq @q9 (Zq @A2 (Zq @A1 (Zq @z7 (Zq @z6 (Zq @s5 (Zq @j0 (Zq @j3 (Zq @A6 (Zq @J8 (Zq @y4 (Zq @y0 @x6))))))))))))))))))))))))))))))))))))))))))
theorem b3o(L:List Int)(at_ g su re sl pa:Int)(ar:List dG)(ll:List Loop)(bs:List e8)(t:w4)(h:fL ⟨L,at_,g,su,re,sl,pa,ar,(.own ll),bs,.nil,t⟩ 600000)(hb:bs.length≤800)(hl:ll.length≤100):y9 Tryd.prog 16 [.ptr 0 0 0] (MS.rows ⟨L,at_,g,su,re,sl,pa,ar,(.own ll),bs,.nil,t⟩) 1 (fun _:Unit=>True) (fun _=> .Q0 []) (fun _=>MS.iI ⟨L,at_,g,su,re,sl,pa,ar,(.own ll),bs,.nil,t⟩):=by
 obtain⟨hL,h0,hb0,hi,ha,hal⟩:=h
 simp only[j8.l]at hL h0 hi ha hal
 clear hb0
 have hx:=j6 hL h0.1
 have CN:=o9 L at_ (by omega) hL
 obtain⟨n,hn⟩:∃n:Int,n=6+2*(ll.length:Int):=⟨_,rfl⟩
 obtain⟨R,hR⟩:∃R,R=MS.iI ⟨L,at_,g,su,re,sl,pa,ar,(.own ll),bs,.nil,t⟩:=⟨_,rfl⟩
 rw[←hR]
 simp only[MS.iI,MS.loop,MS.V9,MS.gC,MS.uH,MS.block,MS.put,MS.K7,MS.cA,MS.eJ,j8.cell,j8.rows,j8.l,j8.k,r6.cell,r6.rows,r6.l,List.cons_append,List.nil_append,List.append_nil]at hR
 simp only[←hn]at hR
 obtain⟨hh,hhh⟩:∃hh:Int,hh=((bs.length+1:Nat):Int):=⟨_,rfl⟩
 obtain⟨bo,hbo⟩:∃bo:Int,bo=1+a8 L at_%3:=⟨_,rfl⟩
 obtain⟨b1,hb1⟩:∃b1:e8,b1=⟨[li1 n],Q8 ((bs.length+1:Nat):Int)⟩:=⟨_,rfl⟩
 obtain⟨b2,hb2⟩:∃b2:e8,b2=⟨[li2 n (1+a8 L at_%3)],E5 (N7 (n+1)) (((bs.length+1:Nat):Int)+1) (((bs.length+1:Nat):Int)+2)⟩:=⟨_,rfl⟩
 obtain⟨ll2,hll2⟩:∃ll2:List Loop,ll2=ll++[⟨((bs.length+1:Nat):Int),n,1+a8 L at_%3⟩]:=⟨_,rfl⟩
 have CP1:=S3 ⟨L,at_+1,g,su,n+2,sl,pa,ar,(.own ll),bs,.nil,t⟩ (li1 n) (by show bs.length≤1000;omega) (by show([]:List l0).length≤1000000;(try simp only[List.length_nil]);omega)
 have CB1:=E9 ⟨L,at_+1,g,su,n+2,sl,pa,ar,.own ll2,bs,.own ([li1 n]),Q8 ((bs.length+1:Nat):Int)⟩ (by show bs.length≤1000;omega)
 have CP2:=S3 ⟨L,at_+1,g,su,n+2,sl,pa,ar,.own ll2,bs++[b1],.nil,T0⟩ (li2 n (1+a8 L at_%3)) (by show(bs++[b1]).length≤1000;rw[c7];omega) (by show([]:List l0).length≤1000000;simp)
 have CB2:=E9 ⟨L,at_+1,g,su,n+2,sl,pa,ar,.own ll2,bs++[b1],.own [li2 n (1+a8 L at_%3)],E5 (N7 (n+1)) (((bs.length+1:Nat):Int)+1) (((bs.length+1:Nat):Int)+2)⟩ (by show(bs++[b1]).length≤1000;rw[c7];omega)
 have CP3:=S3 ⟨L,at_+1,g,su,n+2,sl,pa,ar,.own ll2,bs++[b1]++[b2],.nil,T0⟩ (kU n) (by show(bs++[b1]++[b2]).length≤1000;rw[c7,c7];omega) (by show([]:List l0).length≤1000000;simp)
 have CI:=aU ⟨L,at_+1,g,su,n+2,sl,pa,ar,.own ll2,bs++[b1]++[b2],.own [kU n],T0⟩ ⟨hL,by show 0≤at_+1∧at_+1≤_;omega,by show(bs++[b1]++[b2]).length≤_;rw[c7,c7];omega,by show(([kU n]:List l0).length:Int)≤_;simp,ha,hal⟩
 obtain⟨a,l,f,f1,f2,f3⟩:=fW ⟨L,at_+1,g,su,n+2,sl,pa,ar,.own ll2,bs++[b1]++[b2],.own [kU n],T0⟩ [kU n] rfl hL (by show 0≤at_+1;omega)
 have f1:at_+1+1≤a:=f1
 have f2:a≤at_+1+33:=f2
 rw[f]at CI
 rw[←hll2,←hb1,←hb2,f]at hR
 clear f f3
 have CN2:=o9 L a (by omega) hL
 have CR:=Y4 L (a+1) (by omega) hL
 have hy:=j6 hL (show 0≤a by omega)
 have RN:=cW n
 have RN1:=cW (n+1)
 have RC0:=O5 0
 have RC1:=O5 1
 have RCb:=O5 (1+a8 L at_%3)
 simp only[MS.uI]at hR
 have hR1:¬a8 L a%3=0→R=_:=fun hp=>hR.trans (congrArg MS.rows (if_neg hp))
 have hR2:a8 L a%3=0→R=_:=fun hp=>hR.trans (congrArg MS.rows (if_pos hp))
 simp only[MS.rows,MS.put,MS.block,j8.cell,j8.rows,j8.l,j8.k,r6.cell,r6.rows,r6.l,List.cons_append,List.nil_append,List.append_nil]at CP1 CB1 CP2 CB2 CP3 CI hR1 hR2
 rw[←hb1]at CB1
 rw[←hb2]at CB2
 have hnb:6≤n∧n≤206:=by omega
 have hn2:6+2*((ll.length:Nat):Int)=n:=hn.symm
 have hl2:loops ll++[[.v (.int .i64 ((bs.length+1:Nat):Int)),.v (.int .i64 n),.v (.int .i64 (1+a8 L at_%3))]]=loops ll2:=by rw[hll2];rw[uK]
 have hl3:ll2.length=ll.length+1:=by rw[hll2];simp
 clear hR f1 f2 hhh hbo hb1 hb2 hll2
 generalize a8 L at_=x at*
 generalize a8 L a=y at*
 generalize G9 L (a+1)=d at*
 obtain⟨dk,dn,dv⟩:=d
 simp only[hl3]at CB1 CP2 CB2 CP3 CI hR1 hR2
 simp only[a0W,a0X,a0Y,E3,jX,gM,N7,B3,H8.av,c7,List.length_append,List.length_cons,List.length_nil,Nat.zero_add,Nat.reduceAdd,iG]at CP1 CB1 CP2 CB2 CP3 CI RN RN1 RC0 RC1 RCb CR
 simp only[E3,mY,gN,c7,List.length_append,List.length_cons,List.length_nil,Nat.zero_add,Nat.reduceAdd,iG]at hR1 hR2
 simp only[MS.rows,j8.cell,j8.rows,j8.l,j8.k,r6.cell,r6.rows,r6.l,List.cons_append,List.nil_append,List.append_nil];refine Zf Tryd.func16 Tryd.ntmps16 ?_
 repeat' (first|(guard_target=~ AK Tryd.prog (Go.Code.seq (Go.Code.region 13 _ _) _) _ _ _;(try refine Zs (Zq M2.d (Zq hn2 hl2)) ?_);guard_target=~ AK Tryd.prog (Go.Code.seq (Go.Code.region 13 _ _) _) _ (Go.Ab.LS.mk _ _ 21) _;refine A5 (Zw [0,4] [0,13,14,15] (Zq M2.d (Zq hn2 hl2)) rfl) ?_)|(guard_target=~ AK Tryd.prog (Go.Code.seq (Go.Code.region 12 _ _) _) _ _ _;(try refine Zs (Zq M2.d (Zq hn2 hl2)) ?_);guard_target=~ AK Tryd.prog (Go.Code.seq (Go.Code.region 12 _ _) _) _ (Go.Ab.LS.mk _ _ 68) _;refine A5 (Zw [0,4] [0,60,61,62] (Zq M2.d (Zq hn2 hl2)) rfl) ?_)|(guard_target=~ AK Tryd.prog (Go.Code.seq (Go.Code.region 11 _ _) _) _ _ _;(try refine Zs (Zq M2.d (Zq hn2 hl2)) ?_);guard_target=~ AK Tryd.prog (Go.Code.seq (Go.Code.region 11 _ _) _) _ (Go.Ab.LS.mk _ _ 165) _;refine A5 (Zw [0,2,4] [0,157,158] (Zq M2.d (Zq hn2 hl2)) rfl) ?_)|(guard_target=~ AK Tryd.prog (Go.Code.seq (Go.Code.region 9 _ _) _) _ _ _;(try refine Zs (Zq M2.d (Zq hn2 hl2)) ?_);guard_target=~ AK Tryd.prog (Go.Code.seq (Go.Code.region 9 _ _) _) _ (Go.Ab.LS.mk _ _ 92) _;refine A5 (Zw [0,2,4] [0,84,85,86] (Zq M2.d (Zq hn2 hl2)) rfl) ?_)|(guard_target=~ AK Tryd.prog (Go.Code.seq (Go.Code.region 8 _ _) _) _ _ _;(try refine Zs (Zq M2.d (Zq hn2 hl2)) ?_);guard_target=~ AK Tryd.prog (Go.Code.seq (Go.Code.region 8 _ _) _) _ (Go.Ab.LS.mk _ _ 253) _;refine A5 (Zw [0,2,3,4] [0,245,246] (Zq M2.d (Zq hn2 hl2)) rfl) ?_)|(guard_target=~ AK Tryd.prog (Go.Code.seq (Go.Code.region 5 _ _) _) _ _ _;(try refine Zs (Zq M2.d (Zq hn2 hl2)) ?_);guard_target=~ AK Tryd.prog (Go.Code.seq (Go.Code.region 5 _ _) _) _ (Go.Ab.LS.mk _ _ 280) _;refine A5 (Zw [0,2,3,4] [0,272,273,274] (Zq M2.d (Zq hn2 hl2)) rfl) ?_)|refine Zl ?_|(with_reducible constructor<;>first|intro N hN mk hmk|intro N hN|intro h)|refine Ze CN ?_|refine Zc RN ?_|refine Zc RN1 ?_|refine Zc RC0 ?_|refine Zc RC1 ?_|refine Zc RCb ?_|refine Ze CN2 ?_|refine Ze CR ?_|(refine Zp CP1 [0,1,2] (Zq M2.d (Zq hn2 hl2)) ?_;with_reducible intro _ _)|(refine Zp CB1 [0,1,2,197] (Zq M2.d (Zq hn2 hl2)) ?_;with_reducible intro _ _)|(refine Zp CP2 [0,1,2] (Zq M2.d (Zq hn2 hl2)) ?_;with_reducible intro _ _)|(refine Zp CB2 [0,1,2,3] (Zq M2.d (Zq hn2 hl2)) ?_;with_reducible intro _ _)|(refine Zp CP3 [0,1,2] (Zq M2.d (Zq hn2 hl2)) ?_;with_reducible intro _ _)|(refine Zp CI [0,1,2,3] (Zq M2.d (Zq hn2 hl2)) ?_;with_reducible intro _ _)|refine Zt (Zq M2.d (Zq hn2 hl2)) ?_|fail)
 ·rw[hR2 (by assumption)]
  refine Zr (()) [0,1,2,3] (Zq M2.d (Zq hn2 hl2)) ?_
  trivial
 ·rw[hR1 (by assumption)]
  refine Zr (()) [0,1,2,3] (Zq M2.d (Zq hn2 hl2)) ?_
  trivial
end Go.Proofs.YtgdoiokalfhjoaaDoor
end
