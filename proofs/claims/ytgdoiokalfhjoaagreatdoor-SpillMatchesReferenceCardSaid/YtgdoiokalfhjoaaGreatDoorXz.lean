/- Own work (by an AI agent; no person has read it): part of a proof of the seat YtgdoiokalfhjoaaGreatDoor. -/
import Derived.Test.YtgdoiokalfhjoaaGreatDoorXq
set_option linter.unusedSimpArgs false
set_option linter.unusedVariables false
set_option maxRecDepth 100000
set_option maxHeartbeats 10000000
section
namespace Go.Proofs.YtgdoiokalfhjoaaGreatDoor
open Go.Ab
def li1(n:Int):e8:=⟨1,0,0,M3 n,A1 0,O0,O0⟩
def li2(n b:Int):e8:=⟨3,26,0,M3 (n+1),M3 n,A1 b,O0⟩
def nJ(n:Int):e8:=⟨3,10,0,M3 n,M3 n,A1 1,O0⟩
def MS.I4(S:MS):Int:=6+2*S.lo.l.length
def MS.cJ(S:MS):Int:=((S.bs.length+1:Nat):Int)
def MS.fJ(S:MS):Int:=1+a7 S.L S.at_%3
def MS.V2(S:MS):MS:={S with at_:=S.at_+1,re:=S.I4+2,lo:=r7.own (S.lo.l++[(⟨S.cJ,S.I4,S.fJ⟩:Loop)]),i:=j7.own (S.i.l++[li1 S.I4]),t:=O9 S.cJ}.block
def MS.iX(S:MS)(h n b:Int):MS:={S with i:=j7.own (S.i.l++[li2 n b]),t:=D6 (M3 (n+1)) (h+1) (h+2)}.block
def MS.zK(S:MS)(n:Int):MS:=(S.put (nJ n)).e7
def MS.zL(S:MS)(h:Int):MS:=if a7 S.L S.at_%3=0 then{S with at_:=S.at_+1+1,t:=D6 (E8 S.L (S.at_+1)) h (h+2)}else{S with at_:=S.at_+1,t:=O9 h}
def MS.loop(S:MS):MS:=((S.V2.iX S.cJ S.I4 S.fJ).zK S.I4).zL S.cJ
def MS.kH(S:MS):List Row:=S.loop.rows
theorem b8c(S:MS)(l:List e8)(h:S.i= .own l):∀i:Nat,∃l',(S.iter i).i= .own l':=by
 intro i
 cases i with
 |zero=>exact⟨l,h⟩
 |succ i=>
  obtain⟨_,l',e,_⟩:=rL (S.iter i)
  exact⟨l',by show(S.iter i).inst.i=_;rw[e]⟩
theorem iU(S:MS)(l:List e8)(hi:S.i= .own l)(hL:y8 S.L)(h0:0≤S.at_):∃a l',S.e7=⟨S.L,a,S.g,S.su,S.re,S.sl,S.pa,S.ar,S.lo,S.bs,.own l',S.t⟩∧S.at_+1≤a∧a≤S.at_+33∧l'.length≤l.length+8:=by
 obtain⟨a,ii,e,h1,h2,h3⟩:=I1 S hL h0
 obtain⟨l',e'⟩:=b8c {S with at_:=S.at_+1} l hi (a7 S.L S.at_%5).toNat
 have e2:S.e7.i= .own l':=e'
 rw[e]at e2
 cases e2
 rw[hi]at h3
 exact⟨a,l',e,h1,h2,h3⟩
theorem kW(l:List b6)(b:b6)(e:List AV):(p7 (l++[b])++[e])[l.length+1]?=some e:=by rw[←b9 l b,Y3]
theorem pA(l:List b6)(b c:b6)(e:List AV):(p7 (l++[b]++[c])++[e])[l.length+1+1]?=some e:=by rw[←b9 l b,kW]
theorem iM(l:List b6)(b:b6)(e:List AV)(f:List AV→List AV):(p7 (l++[b])++[e]).modify (l.length+1) f=p7 (l++[b])++[f e]:=by rw[←b9 l b,xT]
theorem lV(l:List b6)(b c:b6)(e:List AV)(f:List AV→List AV):(p7 (l++[b]++[c])++[e]).modify (l.length+1+1) f=p7 (l++[b]++[c])++[f e]:=by rw[←b9 l b,iM]
theorem a5d(n:Int):(li1 n).av=[.v (.int .i64 1),.v (.int .i64 0),.v (.int .i64 0),.v (.int .i64 2),.v (.int .i64 n),.v (.int .i32 0),.v (.int .i64 1),.v (.int .i64 0),.v (.int .i32 0),.v (.int .i64 0),.v (.int .i64 0),.v (.int .i32 0),.v (.int .i64 0),.v (.int .i64 0),.v (.int .i32 0)]:=rfl
theorem a5e(n b:Int):(li2 n b).av=[.v (.int .i64 3),.v (.int .i64 26),.v (.int .i64 0),.v (.int .i64 2),.v (.int .i64 (n+1)),.v (.int .i32 0),.v (.int .i64 2),.v (.int .i64 n),.v (.int .i32 0),.v (.int .i64 1),.v (.int .i64 0),.v (.int .i32 b),.v (.int .i64 0),.v (.int .i64 0),.v (.int .i32 0)]:=rfl
theorem a5f(n:Int):(nJ n).av=[.v (.int .i64 3),.v (.int .i64 10),.v (.int .i64 0),.v (.int .i64 2),.v (.int .i64 n),.v (.int .i32 0),.v (.int .i64 2),.v (.int .i64 n),.v (.int .i32 0),.v (.int .i64 1),.v (.int .i64 0),.v (.int .i32 1),.v (.int .i64 0),.v (.int .i64 0),.v (.int .i32 0)]:=rfl
theorem mH(h:Int):(O9 h).av=(⟨1,0,⟨0,0,0⟩,⟨0,0,0⟩,⟨0,0,0⟩,h,0⟩:o6).av:=rfl
theorem pP(h:Int):(O9 h).av=[.v (.int .i64 1),.v (.int .i64 0),.v (.int .i64 0),.v (.int .i64 0),.v (.int .i32 0),.v (.int .i64 0),.v (.int .i64 0),.v (.int .i32 0),.v (.int .i64 0),.v (.int .i64 0),.v (.int .i32 0),.v (.int .i64 h),.v (.int .i64 0)]:=rfl
theorem jI(n x y:Int):(D6 (M3 n) x y).av=[.v (.int .i64 2),.v (.int .i64 0),.v (.int .i64 0),.v (.int .i64 0),.v (.int .i32 0),.v (.int .i64 2),.v (.int .i64 n),.v (.int .i32 0),.v (.int .i64 0),.v (.int .i64 0),.v (.int .i32 0),.v (.int .i64 x),.v (.int .i64 y)]:=rfl
theorem jJ(d:E3)(x y:Int):(D6 d x y).av=[.v (.int .i64 2),.v (.int .i64 0),.v (.int .i64 0),.v (.int .i64 0),.v (.int .i32 0),.v (.int .i64 d.k),.v (.int .i64 d.n),.v (.int .i32 d.v),.v (.int .i64 0),.v (.int .i64 0),.v (.int .i32 0),.v (.int .i64 x),.v (.int .i64 y)]:=rfl
theorem kF(n:Nat):(n:Int)+1=((n+1:Nat):Int):=rfl
theorem b2L(n:Nat):((n+1+1:Nat):Int)-1=((n+1:Nat):Int):=by omega
def L2:=ZZ.mk (Zq I7.d (Zq @M9 (Zq @gS (Zq @lE (Zq @aE (Zq @sT (Zq @a0A (Zq @E4 (Zq @z7 (Zq @b9 (Zq @kW (Zq @pA (Zq @iM (Zq @lV (Zq @kF (Zq @b2L @E3.av.eq_1))))))))))))))))
theorem c1O(L:List Int)(at_ g su re sl pa:Int)(ar:List cQ)(bs:List b6)(t:o6)(h:iI ⟨L,at_,g,su,re,sl,pa,ar,.nil,bs,.nil,t⟩ 600000)(hb:bs.length≤800)(hl:([]:List Loop).length≤100):y0 Tryz.prog 109 [.ptr 0 0 0] (MS.rows ⟨L,at_,g,su,re,sl,pa,ar,.nil,bs,.nil,t⟩) 1 (fun _:Unit=>True) (fun _=> .O4 []) (fun _=>MS.kH ⟨L,at_,g,su,re,sl,pa,ar,.nil,bs,.nil,t⟩):=by
 obtain⟨hL,h0,hb0,hi,ha,hal⟩:=h
 simp only[j7.l]at hL h0 hi ha hal
 clear hb0
 have hx:=j4 hL h0.1
 have CN:=p0 L at_ (by omega) hL
 obtain⟨n,hn⟩:∃n:Int,n=6+2*(([]:List Loop).length:Int):=⟨_,rfl⟩
 obtain⟨R,hR⟩:∃R,R=MS.kH ⟨L,at_,g,su,re,sl,pa,ar,.nil,bs,.nil,t⟩:=⟨_,rfl⟩
 rw[←hR]
 simp only[MS.kH,MS.loop,MS.V2,MS.iX,MS.zK,MS.block,MS.put,MS.I4,MS.cJ,MS.fJ,j7.cell,j7.rows,j7.l,j7.k,r7.cell,r7.rows,r7.l,List.cons_append,List.nil_append,List.append_nil]at hR
 simp only[←hn]at hR
 obtain⟨hh,hhh⟩:∃hh:Int,hh=((bs.length+1:Nat):Int):=⟨_,rfl⟩
 obtain⟨bo,hbo⟩:∃bo:Int,bo=1+a7 L at_%3:=⟨_,rfl⟩
 obtain⟨b1,hb1⟩:∃b1:b6,b1=⟨[li1 n],O9 ((bs.length+1:Nat):Int)⟩:=⟨_,rfl⟩
 obtain⟨b2,hb2⟩:∃b2:b6,b2=⟨[li2 n (1+a7 L at_%3)],D6 (M3 (n+1)) (((bs.length+1:Nat):Int)+1) (((bs.length+1:Nat):Int)+2)⟩:=⟨_,rfl⟩
 obtain⟨ll2,hll2⟩:∃ll2:List Loop,ll2=[⟨((bs.length+1:Nat):Int),n,1+a7 L at_%3⟩]:=⟨_,rfl⟩
 have CP1:=P4 ⟨L,at_+1,g,su,n+2,sl,pa,ar,.nil,bs,.nil,t⟩ (li1 n) (by show bs.length≤1000;omega) (by show([]:List e8).length≤1000000;(try simp only[List.length_nil]);omega)
 have CB1:=D8 ⟨L,at_+1,g,su,n+2,sl,pa,ar,.own ll2,bs,.own ([li1 n]),O9 ((bs.length+1:Nat):Int)⟩ (by show bs.length≤1000;omega)
 have CP2:=P4 ⟨L,at_+1,g,su,n+2,sl,pa,ar,.own ll2,bs++[b1],.nil,Q5⟩ (li2 n (1+a7 L at_%3)) (by show(bs++[b1]).length≤1000;rw[b9];omega) (by show([]:List e8).length≤1000000;simp)
 have CB2:=D8 ⟨L,at_+1,g,su,n+2,sl,pa,ar,.own ll2,bs++[b1],.own [li2 n (1+a7 L at_%3)],D6 (M3 (n+1)) (((bs.length+1:Nat):Int)+1) (((bs.length+1:Nat):Int)+2)⟩ (by show(bs++[b1]).length≤1000;rw[b9];omega)
 have CP3:=P4 ⟨L,at_+1,g,su,n+2,sl,pa,ar,.own ll2,bs++[b1]++[b2],.nil,Q5⟩ (nJ n) (by show(bs++[b1]++[b2]).length≤1000;rw[b9,b9];omega) (by show([]:List e8).length≤1000000;simp)
 have CI:=bD ⟨L,at_+1,g,su,n+2,sl,pa,ar,.own ll2,bs++[b1]++[b2],.own [nJ n],Q5⟩ ⟨hL,by show 0≤at_+1∧at_+1≤_;omega,by show(bs++[b1]++[b2]).length≤_;rw[b9,b9];omega,by show(([nJ n]:List e8).length:Int)≤_;simp,ha,hal⟩
 obtain⟨a,l,f,f1,f2,f3⟩:=iU ⟨L,at_+1,g,su,n+2,sl,pa,ar,.own ll2,bs++[b1]++[b2],.own [nJ n],Q5⟩ [nJ n] rfl hL (by show 0≤at_+1;omega)
 have f1:at_+1+1≤a:=f1
 have f2:a≤at_+1+33:=f2
 rw[f]at CI
 rw[←hll2,←hb1,←hb2,f]at hR
 clear f f3
 have CN2:=p0 L a (by omega) hL
 have CR:=Y0 L (a+1) (by omega) hL
 have hy:=j4 hL (show 0≤a by omega)
 have RN:=dI n
 have RN1:=dI (n+1)
 have RC0:=N1 0
 have RC1:=N1 1
 have RCb:=N1 (1+a7 L at_%3)
 simp only[MS.zL]at hR
 have hR1:¬a7 L a%3=0→R=_:=fun hp=>hR.trans (congrArg MS.rows (if_neg hp))
 have hR2:a7 L a%3=0→R=_:=fun hp=>hR.trans (congrArg MS.rows (if_pos hp))
 simp only[MS.rows,MS.put,MS.block,j7.cell,j7.rows,j7.l,j7.k,r7.cell,r7.rows,r7.l,List.cons_append,List.nil_append,List.append_nil]at CP1 CB1 CP2 CB2 CP3 CI hR1 hR2
 rw[←hb1]at CB1
 rw[←hb2]at CB2
 have hnb:6≤n∧n≤206:=by omega
 have hn2:6+2*((0:Nat):Int)=n:=hn.symm
 have hl2:[[.v (.int .i64 ((bs.length+1:Nat):Int)),.v (.int .i64 n),.v (.int .i64 (1+a7 L at_%3))]]=loops ll2:=by rw[hll2];rfl
 have hl3:ll2.length=1:=by rw[hll2];simp
 clear hR f1 f2 hhh hbo hb1 hb2 hll2
 generalize a7 L at_=x at*
 generalize a7 L a=y at*
 generalize E8 L (a+1)=d at*
 obtain⟨dk,dn,dv⟩:=d
 simp only[hl3,←hl2]at CB1 CP2 CB2 CP3 CI hR1 hR2
 simp only[a5d,a5e,a5f,E4,mH,jI,M3,A1,E3.av,b9,List.length_append,List.length_cons,List.length_nil,Nat.zero_add,Nat.reduceAdd,kF]at CP1 CB1 CP2 CB2 CP3 CI RN RN1 RC0 RC1 RCb CR
 simp only[E4,pP,jJ,b9,List.length_append,List.length_cons,List.length_nil,Nat.zero_add,Nat.reduceAdd,kF]at hR1 hR2
 simp only[MS.rows,j7.cell,j7.rows,j7.l,j7.k,r7.cell,r7.rows,r7.l,List.cons_append,List.nil_append,List.append_nil];refine Zf Tryz.func109 Tryz.ntmps109 ?_
 repeat' (first|(guard_target=~ AK Tryz.prog (Go.Code.seq (Go.Code.region 13 _ _) _) _ _ _;(try refine Zs (Zq L2.d hn2) ?_);guard_target=~ AK Tryz.prog (Go.Code.seq (Go.Code.region 13 _ _) _) _ (Go.Ab.LS.mk _ _ 21) _;refine y4 (Zw [0,4] [0,13,14,15] (Zq L2.d hn2) rfl) ?_)|(guard_target=~ AK Tryz.prog (Go.Code.seq (Go.Code.region 12 _ _) _) _ _ _;(try refine Zs (Zq L2.d hn2) ?_);guard_target=~ AK Tryz.prog (Go.Code.seq (Go.Code.region 12 _ _) _) _ (Go.Ab.LS.mk _ _ 68) _;refine y4 (Zw [0,4] [0,60,61,62] (Zq L2.d hn2) rfl) ?_)|(guard_target=~ AK Tryz.prog (Go.Code.seq (Go.Code.region 11 _ _) _) _ _ _;(try refine Zs (Zq L2.d hn2) ?_);guard_target=~ AK Tryz.prog (Go.Code.seq (Go.Code.region 11 _ _) _) _ (Go.Ab.LS.mk _ _ 165) _;refine y4 (Zw [0,2,4] [0,157,158] (Zq L2.d hn2) rfl) ?_)|(guard_target=~ AK Tryz.prog (Go.Code.seq (Go.Code.region 9 _ _) _) _ _ _;(try refine Zs (Zq L2.d hn2) ?_);guard_target=~ AK Tryz.prog (Go.Code.seq (Go.Code.region 9 _ _) _) _ (Go.Ab.LS.mk _ _ 92) _;refine y4 (Zw [0,2,4] [0,84,85,86] (Zq L2.d hn2) rfl) ?_)|(guard_target=~ AK Tryz.prog (Go.Code.seq (Go.Code.region 8 _ _) _) _ _ _;(try refine Zs (Zq L2.d hn2) ?_);guard_target=~ AK Tryz.prog (Go.Code.seq (Go.Code.region 8 _ _) _) _ (Go.Ab.LS.mk _ _ 252) _;refine y4 (Zw [0,2,3,4] [0,244,245] (Zq L2.d hn2) rfl) ?_)|(guard_target=~ AK Tryz.prog (Go.Code.seq (Go.Code.region 5 _ _) _) _ _ _;(try refine Zs (Zq L2.d hn2) ?_);guard_target=~ AK Tryz.prog (Go.Code.seq (Go.Code.region 5 _ _) _) _ (Go.Ab.LS.mk _ _ 280) _;refine y4 (Zw [0,2,3,4] [0,272,273] (Zq L2.d hn2) rfl) ?_)|refine Zl ?_|(with_reducible constructor<;>first|intro N hN mk hmk|intro N hN|intro h)|refine Ze CN ?_|refine Zc RN ?_|refine Zc RN1 ?_|refine Zc RC0 ?_|refine Zc RC1 ?_|refine Zc RCb ?_|refine Ze CN2 ?_|refine Ze CR ?_|(refine Zp CP1 [0,1] (Zq L2.d hn2) ?_;with_reducible intro _ _)|(refine Zp CB1 [0,1,2,196] (Zq L2.d hn2) ?_;with_reducible intro _ _)|(refine Zp CP2 [0,1,2] (Zq L2.d hn2) ?_;with_reducible intro _ _)|(refine Zp CB2 [0,1,2,3] (Zq L2.d hn2) ?_;with_reducible intro _ _)|(refine Zp CP3 [0,1,2] (Zq L2.d hn2) ?_;with_reducible intro _ _)|(refine Zp CI [0,1,2,3] (Zq L2.d hn2) ?_;with_reducible intro _ _)|refine Zt (Zq L2.d hn2) ?_|fail)
 ·rw[hR2 (by assumption)]
  refine Zr (()) [0,1,2,3] (Zq L2.d hn2) ?_
  trivial
 ·rw[hR1 (by assumption)]
  refine Zr (()) [0,1,2,3] (Zq L2.d hn2) ?_
  trivial
end Go.Proofs.YtgdoiokalfhjoaaGreatDoor
end
