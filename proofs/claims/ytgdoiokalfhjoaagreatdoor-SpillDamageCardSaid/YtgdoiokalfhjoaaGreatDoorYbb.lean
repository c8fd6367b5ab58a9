/- Own work (by an AI agent; no person has read it): part of a proof of the seat YtgdoiokalfhjoaaGreatDoor. -/
import Derived.Test.YtgdoiokalfhjoaaGreatDoorYz
import Derived.Test.YtgdoiokalfhjoaaGreatDoorYba
set_option linter.unusedSimpArgs false
set_option linter.unusedVariables false
set_option maxRecDepth 100000
set_option maxHeartbeats 10000000
section
namespace Go.Proofs.YtgdoiokalfhjoaaGreatDoor
open Go.Ab
def K9:=ZZ.mk (Zq H8.d (Zq @M7 (Zq @fP (Zq @jW (Zq @Z8 (Zq @qM (Zq @zE (Zq @E4 (Zq @A1 (Zq @b9 (Zq @jP (Zq @nA (Zq @gJ (Zq @kI (Zq @iY (Zq @b1Q @E3.av.eq_1))))))))))))))))
theorem c0T(L:List Int)(at_ g su re sl pa:Int)(ar:List cN)(ll:List Loop)(li:List e7)(bs:List b6)(t:q9)(h:gD ⟨L,at_,g,su,re,sl,pa,ar,(.own ll),bs,(.own li),t⟩ 600000)(hb:bs.length≤800)(hl:ll.length≤100):y6 Tryz.prog 109 [.ptr 0 0 0] (MS.rows ⟨L,at_,g,su,re,sl,pa,ar,(.own ll),bs,(.own li),t⟩) 1 (fun _:Unit=>True) (fun _=> .O2 []) (fun _=>MS.jA ⟨L,at_,g,su,re,sl,pa,ar,(.own ll),bs,(.own li),t⟩):=by
 obtain⟨hL,h0,hb0,hi,ha,hal⟩:=h
 simp only[j4.l]at hL h0 hi ha hal
 clear hb0
 have hx:=j0 hL h0.1
 have CN:=p0 L at_ (by omega) hL
 obtain⟨n,hn⟩:∃n:Int,n=6+2*(ll.length:Int):=⟨_,rfl⟩
 obtain⟨R,hR⟩:∃R,R=MS.jA ⟨L,at_,g,su,re,sl,pa,ar,(.own ll),bs,(.own li),t⟩:=⟨_,rfl⟩
 rw[←hR]
 simp only[MS.jA,MS.loop,MS.V7,MS.gU,MS.xS,MS.block,MS.put,MS.H6,MS.cD,MS.eZ,j4.cell,j4.rows,j4.l,j4.k,r9.cell,r9.rows,r9.l,List.cons_append,List.nil_append,List.append_nil]at hR
 simp only[←hn]at hR
 obtain⟨hh,hhh⟩:∃hh:Int,hh=((bs.length+1:Nat):Int):=⟨_,rfl⟩
 obtain⟨bo,hbo⟩:∃bo:Int,bo=1+a7 L at_%3:=⟨_,rfl⟩
 obtain⟨b1,hb1⟩:∃b1:b6,b1=⟨li++[li1 n],O6 ((bs.length+1:Nat):Int)⟩:=⟨_,rfl⟩
 obtain⟨b2,hb2⟩:∃b2:b6,b2=⟨[li2 n (1+a7 L at_%3)],D6 (L7 (n+1)) (((bs.length+1:Nat):Int)+1) (((bs.length+1:Nat):Int)+2)⟩:=⟨_,rfl⟩
 obtain⟨ll2,hll2⟩:∃ll2:List Loop,ll2=ll++[⟨((bs.length+1:Nat):Int),n,1+a7 L at_%3⟩]:=⟨_,rfl⟩
 have CP1:=O8 ⟨L,at_+1,g,su,n+2,sl,pa,ar,(.own ll),bs,(.own li),t⟩ (li1 n) (by show bs.length≤1000;omega) (by show li.length≤1000000;(try simp only[List.length_nil]);omega)
 have CB1:=D8 ⟨L,at_+1,g,su,n+2,sl,pa,ar,.own ll2,bs,.own (li++[li1 n]),O6 ((bs.length+1:Nat):Int)⟩ (by show bs.length≤1000;omega)
 have CP2:=O8 ⟨L,at_+1,g,su,n+2,sl,pa,ar,.own ll2,bs++[b1],.nil,Q6⟩ (li2 n (1+a7 L at_%3)) (by show(bs++[b1]).length≤1000;rw[b9];omega) (by show([]:List e7).length≤1000000;simp)
 have CB2:=D8 ⟨L,at_+1,g,su,n+2,sl,pa,ar,.own ll2,bs++[b1],.own [li2 n (1+a7 L at_%3)],D6 (L7 (n+1)) (((bs.length+1:Nat):Int)+1) (((bs.length+1:Nat):Int)+2)⟩ (by show(bs++[b1]).length≤1000;rw[b9];omega)
 have CP3:=O8 ⟨L,at_+1,g,su,n+2,sl,pa,ar,.own ll2,bs++[b1]++[b2],.nil,Q6⟩ (lK n) (by show(bs++[b1]++[b2]).length≤1000;rw[b9,b9];omega) (by show([]:List e7).length≤1000000;simp)
 have CI:=aW ⟨L,at_+1,g,su,n+2,sl,pa,ar,.own ll2,bs++[b1]++[b2],.own [lK n],Q6⟩ ⟨hL,by show 0≤at_+1∧at_+1≤_;omega,by show(bs++[b1]++[b2]).length≤_;rw[b9,b9];omega,by show(([lK n]:List e7).length:Int)≤_;simp,ha,hal⟩
 obtain⟨a,l,f,f1,f2,f3⟩:=gS ⟨L,at_+1,g,su,n+2,sl,pa,ar,.own ll2,bs++[b1]++[b2],.own [lK n],Q6⟩ [lK n] rfl hL (by show 0≤at_+1;omega)
 have f1:at_+1+1≤a:=f1
 have f2:a≤at_+1+33:=f2
 rw[f]at CI
 rw[←hll2,←hb1,←hb2,f]at hR
 clear f f3
 have CN2:=p0 L a (by omega) hL
 have CR:=X9 L (a+1) (by omega) hL
 have hy:=j0 hL (show 0≤a by omega)
 have RN:=dC n
 have RN1:=dC (n+1)
 have RC0:=M8 0
 have RC1:=M8 1
 have RCb:=M8 (1+a7 L at_%3)
 simp only[MS.xT]at hR
 have hR1:¬a7 L a%3=0→R=_:=fun hp=>hR.trans (congrArg MS.rows (if_neg hp))
 have hR2:a7 L a%3=0→R=_:=fun hp=>hR.trans (congrArg MS.rows (if_pos hp))
 simp only[MS.rows,MS.put,MS.block,j4.cell,j4.rows,j4.l,j4.k,r9.cell,r9.rows,r9.l,List.cons_append,List.nil_append,List.append_nil]at CP1 CB1 CP2 CB2 CP3 CI hR1 hR2
 rw[←hb1]at CB1
 rw[←hb2]at CB2
 have hnb:6≤n∧n≤206:=by omega
 have hn2:6+2*((ll.length:Nat):Int)=n:=hn.symm
 have hl2:loops ll++[[.v (.int .i64 ((bs.length+1:Nat):Int)),.v (.int .i64 n),.v (.int .i64 (1+a7 L at_%3))]]=loops ll2:=by rw[hll2];rw[xV]
 have hl3:ll2.length=ll.length+1:=by rw[hll2];simp
 clear hR f1 f2 hhh hbo hb1 hb2 hll2
 generalize a7 L at_=x at*
 generalize a7 L a=y at*
 generalize E7 L (a+1)=d at*
 obtain⟨dk,dn,dv⟩:=d
 simp only[hl3]at CB1 CP2 CB2 CP3 CI hR1 hR2
 simp only[a4c,a4d,a4e,E4,kR,iE,L7,A3,E3.av,b9,List.length_append,List.length_cons,List.length_nil,Nat.zero_add,Nat.reduceAdd,iY]at CP1 CB1 CP2 CB2 CP3 CI RN RN1 RC0 RC1 RCb CR
 simp only[E4,nS,iF,b9,List.length_append,List.length_cons,List.length_nil,Nat.zero_add,Nat.reduceAdd,iY]at hR1 hR2
 simp only[MS.rows,j4.cell,j4.rows,j4.l,j4.k,r9.cell,r9.rows,r9.l,List.cons_append,List.nil_append,List.append_nil];refine Zf Tryz.func109 Tryz.ntmps109 ?_
 repeat' (first|(guard_target=~ AK Tryz.prog (Go.Code.seq (Go.Code.region 13 _ _) _) _ _ _;(try refine Zs (Zq K9.d (Zq hn2 hl2)) ?_);guard_target=~ AK Tryz.prog (Go.Code.seq (Go.Code.region 13 _ _) _) _ (Go.Ab.LS.mk _ _ 21) _;refine u9 (Zw [0,4] [0,13,14,15] (Zq K9.d (Zq hn2 hl2)) rfl) ?_)|(guard_target=~ AK Tryz.prog (Go.Code.seq (Go.Code.region 12 _ _) _) _ _ _;(try refine Zs (Zq K9.d (Zq hn2 hl2)) ?_);guard_target=~ AK Tryz.prog (Go.Code.seq (Go.Code.region 12 _ _) _) _ (Go.Ab.LS.mk _ _ 68) _;refine u9 (Zw [0,4] [0,60,61,62] (Zq K9.d (Zq hn2 hl2)) rfl) ?_)|(guard_target=~ AK Tryz.prog (Go.Code.seq (Go.Code.region 11 _ _) _) _ _ _;(try refine Zs (Zq K9.d (Zq hn2 hl2)) ?_);guard_target=~ AK Tryz.prog (Go.Code.seq (Go.Code.region 11 _ _) _) _ (Go.Ab.LS.mk _ _ 165) _;refine u9 (Zw [0,2,4] [0,157,158] (Zq K9.d (Zq hn2 hl2)) rfl) ?_)|(guard_target=~ AK Tryz.prog (Go.Code.seq (Go.Code.region 9 _ _) _) _ _ _;(try refine Zs (Zq K9.d (Zq hn2 hl2)) ?_);guard_target=~ AK Tryz.prog (Go.Code.seq (Go.Code.region 9 _ _) _) _ (Go.Ab.LS.mk _ _ 92) _;refine u9 (Zw [0,2,4] [0,84,85,86] (Zq K9.d (Zq hn2 hl2)) rfl) ?_)|(guard_target=~ AK Tryz.prog (Go.Code.seq (Go.Code.region 8 _ _) _) _ _ _;(try refine Zs (Zq K9.d (Zq hn2 hl2)) ?_);guard_target=~ AK Tryz.prog (Go.Code.seq (Go.Code.region 8 _ _) _) _ (Go.Ab.LS.mk _ _ 253) _;refine u9 (Zw [0,2,3,4] [0,245,246] (Zq K9.d (Zq hn2 hl2)) rfl) ?_)|(guard_target=~ AK Tryz.prog (Go.Code.seq (Go.Code.region 5 _ _) _) _ _ _;(try refine Zs (Zq K9.d (Zq hn2 hl2)) ?_);guard_target=~ AK Tryz.prog (Go.Code.seq (Go.Code.region 5 _ _) _) _ (Go.Ab.LS.mk _ _ 280) _;refine u9 (Zw [0,2,3,4] [0,272,273,274] (Zq K9.d (Zq hn2 hl2)) rfl) ?_)|refine Zl ?_|(with_reducible constructor<;>first|intro N hN mk hmk|intro N hN|intro h)|refine Ze CN ?_|refine Zc RN ?_|refine Zc RN1 ?_|refine Zc RC0 ?_|refine Zc RC1 ?_|refine Zc RCb ?_|refine Ze CN2 ?_|refine Ze CR ?_|(refine Zp CP1 [0,1,2,3] (Zq K9.d (Zq hn2 hl2)) ?_;with_reducible intro _ _)|(refine Zp CB1 [0,1,2,197] (Zq K9.d (Zq hn2 hl2)) ?_;with_reducible intro _ _)|(refine Zp CP2 [0,1,2] (Zq K9.d (Zq hn2 hl2)) ?_;with_reducible intro _ _)|(refine Zp CB2 [0,1,2,3] (Zq K9.d (Zq hn2 hl2)) ?_;with_reducible intro _ _)|(refine Zp CP3 [0,1,2] (Zq K9.d (Zq hn2 hl2)) ?_;with_reducible intro _ _)|(refine Zp CI [0,1,2,3] (Zq K9.d (Zq hn2 hl2)) ?_;with_reducible intro _ _)|refine Zt (Zq K9.d (Zq hn2 hl2)) ?_|fail)
 ·rw[hR2 (by assumption)]
  refine Zr (()) [0,1,2,3] (Zq K9.d (Zq hn2 hl2)) ?_
  trivial
 ·rw[hR1 (by assumption)]
  refine Zr (()) [0,1,2,3] (Zq K9.d (Zq hn2 hl2)) ?_
  trivial
theorem b16(S:MS)(h:gD S 600000)(hb:S.bs.length≤800)(hl:S.lo.l.length≤100):y6 Tryz.prog 109 [.ptr 0 0 0] S.rows 1 (fun _:Unit=>True) (fun _=> .O2 []) (fun _=>S.loop.rows):=by
 obtain⟨L,at_,g,su,re,sl,pa,ar,lo,bs,ii,t⟩:=S
 have hb2:bs.length≤800:=hb
 clear hb
 cases lo with
 |nil=>cases ii with
  |nil=>exact c0Q L at_ g su re sl pa ar bs t h hb2 hl
  |own li=>exact c0R L at_ g su re sl pa ar li bs t h hb2 hl
 |own ll=>cases ii with
  |nil=>exact c0S L at_ g su re sl pa ar ll bs t h hb2 hl
  |own li=>exact c0T L at_ g su re sl pa ar ll li bs t h hb2 hl
theorem a3d(S:MS)(hL:y9 S.L)(h0:0≤S.at_):∃a l b1 b2 t,S.loop=⟨S.L,a,S.g,S.su,S.H6+2,S.sl,S.pa,S.ar,.own (S.lo.l++[⟨S.cD,S.H6,S.eZ⟩]),S.bs++[b1]++[b2],.own l,t⟩∧S.at_+1≤a∧a≤S.at_+40∧l.length≤9:=by
 obtain⟨a,l,f,f1,f2,f3⟩:=gS (((S.V7).gU S.cD S.H6 S.eZ).put (lK S.H6)) [lK S.H6] rfl hL (by show 0≤S.at_+1;omega)
 have f1:S.at_+1+1≤a:=f1
 have f2:a≤S.at_+1+33:=f2
 unfold MS.loop MS.xS
 rw[f]
 unfold MS.xT
 simp only
 split
 ·exact⟨a+1+1,l,_,_,_,rfl,by omega,by omega,f3⟩
 ·exact⟨a+1,l,_,_,_,rfl,by omega,by omega,f3⟩
def dV:List cN:=[⟨⟨#[97]⟩,1,1,8⟩,⟨⟨#[102]⟩,1,2,4⟩,⟨⟨#[115]⟩,2,1,8⟩,⟨⟨#[112]⟩,3,1,4⟩,⟨⟨#[98]⟩,2,3,4⟩]
theorem a2D:e8 Tryz.prog 107 [] (fun _=> .a8 false (y4 dV)) (fun _=>[]):=by
 refine Zf Tryz.func107 Tryz.ntmps107 ?_
 repeat' (first|refine Za ?_|(with_reducible constructor<;>first|intro N hN mk hmk|intro N hN|intro h)|refine Zt trivial ?_|fail)
 rfl
def b5Z(b:Int):q9:=⟨3,0,O0,O0,O0,b,0⟩
def b6f(s:Int)(d x y:E3)(b:Int):q9:=⟨4,s,d,x,y,b,0⟩
def jS:q9:=⟨5,0,O0,O0,O0,0,0⟩
def a9c(b:Bool)(S:MS):List Row:=if b then S.rows else X4 S.L S.at_ S.g S.su S.re S.sl S.pa S.ar
def bD(b:Bool)(S:MS)(n:Int):MS:=if b then S.region n else S.fD n
def MS.jC(S:MS):MS:=if a7 S.L S.at_%3=0 then(MS.loop {S with at_:=S.at_+1}).block else{S with at_:=S.at_+1}
def MS.fU(S:MS):MS:=if a7 S.L S.at_%3=0 then{S with at_:=S.at_+1+1+1+1+1,t:=b6f (1+a7 S.L (S.at_+1)%6) (E7 S.L (S.at_+1+1)) (V5 S.L (S.at_+1+1+1)) (V5 S.L (S.at_+1+1+1+1)) (S.bs.length+1)}else{S with at_:=S.at_+1,t:=b5Z (S.bs.length+1)}
def rnd(b:Bool)(S:MS):MS:=((bD b {S with at_:=S.at_+1} (a7 S.L S.at_%3)).jC).fU
def jG(S:MS):Nat→MS
 |0=>S
 |i+1=>rnd (decide (0<i)) (jG S i)
def MS.jD(S:MS):MS:=if a7 S.L S.at_%3=0 then((MS.loop {S with at_:=S.at_+1}).block).c6 else{S with at_:=S.at_+1}
def fin(b:Bool)(S:MS):MS:={(bD b {S with at_:=S.at_+1} (a7 S.L S.at_%3)).jD with t:=jS}
def qJ(g:Int):Nat→Int→Int
 |0,s=>s
 |i+1,s=>if g%(2*s)=0 then qJ g i (2*s)else s
def U7(x:Int):Int:=([4,1,2,8,6]:List Int).getD (x%5).toNat 0
def MS.code(S:MS):Code:=⟨S.g,S.su,S.re,S.sl,S.pa,S.ar,S.lo.l,S.bs++[⟨S.i.l,S.t⟩]⟩
def X1(L:List Int):MS:=⟨L,3,U7 (a7 L 0),qJ (U7 (a7 L 0)) (a7 L 1%3).toNat 1,6,0,3,dV,.nil,[],.nil,Q6⟩
def a3e(L:List Int):Nat:=(a7 L 2%3).toNat
def c5i(L:List Int):MS:=fin (decide (0<a3e L)) (jG (X1 L) (a3e L))
def lL(L:List Int):Code:=(c5i L).code
structure MK (S:MS) (a:Int) (b l:Nat):Prop where
 L:y9 S.L
 at_:0≤S.at_∧S.at_≤a
 bs:S.bs.length≤b
 il:S.i.l.length≤100
 lo:S.lo.l.length≤l
 ar:S.ar=dV
theorem MK.mono{S:MS}{a a':Int}{b b' l l':Nat}(h:MK S a b l)(ha:a≤a')(hb:b≤b')(hl:l≤l'):MK S a' b' l':=⟨h.L,⟨h.at_.1,by have:=h.at_.2;omega⟩,by have:=h.bs;omega,h.il,by have:=h.lo;omega,h.ar⟩
theorem a7l:dV.length=5∧∀z,z<5→1≤(dV.getD z A0).len∧(dV.getD z A0).len≤1000:=by
 refine⟨rfl,fun z hz=>?_⟩
 match z,hz with
 |0,_=>decide
 |1,_=>decide
 |2,_=>decide
 |3,_=>decide
 |4,_=>decide
theorem MK.ok{S:MS}{a:Int}{b l:Nat}(h:MK S a b l){n:Int}(ha:a≤n)(hn:100≤n)(hb:b≤1000):gD S n:=⟨h.L,⟨h.at_.1,by have:=h.at_.2;omega⟩,by have:=h.bs;omega,by have:=h.il;omega,by rw[h.ar];exact a7l.1,by rw[h.ar];exact a7l.2⟩
theorem MK.next{S:MS}{a:Int}{b l:Nat}(h:MK S a b l):MK {S with at_:=S.at_+1} (a+1) b l:=⟨h.L,⟨by have:=h.at_.1;show 0≤S.at_+1;omega,by have:=h.at_.2;show S.at_+1≤a+1;omega⟩,h.bs,h.il,h.lo,h.ar⟩
theorem MK.block{S:MS}{a:Int}{b l:Nat}(h:MK S a b l):MK S.block a (b+1) l:=⟨h.L,h.at_,by have:=h.bs;simp [MS.block];omega,by simp [MS.block,j4.l],h.lo,h.ar⟩
theorem MK.c6{S:MS}{a:Int}{b l:Nat}(h:MK S a b l)(hi:S.i.l.length≤50):MK S.c6 (a+33) b l:=by
 obtain⟨a',ii,e,h1,h2,h3⟩:=H2 S h.L h.at_.1
 rw[e]
 exact⟨h.L,⟨by have:=h.at_.1;show 0≤a';omega,by have:=h.at_.2;show a'≤a+33;omega⟩,h.bs,by show ii.l.length≤100;omega,h.lo,h.ar⟩
theorem MK.fD{S:MS}{a:Int}{b l:Nat}(h:MK S a b l)(hi:S.i= .nil)(ht:S.t=Q6){n:Int}(hn:0≤n∧n≤2):MK (S.fD n) (a+107) (b+2) l:=by
 obtain⟨a',bs,e,h1,h2,h3⟩:=S3 (S.bs.length+n) S h.L h.at_.1 hi ht n.toNat
 have hm:MK (S.fC (S.bs.length+n) n.toNat) (a+74) (b+2) l:=by
  rw[e]
  exact⟨h.L,⟨by have:=h.at_.1;show 0≤a';omega,by have:=h.at_.2;show a'≤a+74;omega⟩,by have:=h.bs;show bs.length≤b+2;omega,by simp [j4.l],h.lo,h.ar⟩
 have:=hm.c6 (by rw[e];simp [j4.l])
 exact this.mono (by omega) (by omega) (by omega)
theorem qA(S:MS)(hL:y9 S.L)(h0:0≤S.at_)(hi:S.i= .nil)(ht:S.t=Q6)(n:Int):∃a ii bs,S.fD n=⟨S.L,a,S.g,S.su,S.re,S.sl,S.pa,S.ar,S.lo,bs,ii,Q6⟩:=by
 obtain⟨a',bs,e,h1,h2,h3⟩:=S3 (S.bs.length+n) S hL h0 hi ht n.toNat
 unfold MS.fD
 obtain⟨a,ii,f,_⟩:=H2 (S.fC (S.bs.length+n) n.toNat) (by rw[e];exact hL) (by rw[e];show 0≤a';omega)
 rw[e]at f
 exact⟨a,ii,bs,by rw[e,f]⟩
theorem rJ(S:MS)(hL:y9 S.L)(h0:0≤S.at_)(n:Int):∃a ii bs,S.region n=⟨S.L,a,S.g,S.su,S.re,S.sl,S.pa,S.ar,S.lo,bs,ii,Q6⟩:=qA S.block hL h0 rfl rfl n
theorem MK.region{S:MS}{a:Int}{b l:Nat}(h:MK S a b l){n:Int}(hn:0≤n∧n≤2):MK (S.region n) (a+107) (b+3) l:=(h.block.fD rfl rfl hn).mono (by omega) (by omega) (by omega)
theorem MK.loop{S:MS}{a:Int}{b l:Nat}(h:MK S a b l):MK S.loop (a+40) (b+2) (l+1):=by
 obtain⟨a',l',b1,b2,t,e,h1,h2,h3⟩:=a3d S h.L h.at_.1
 rw[e]
 exact⟨h.L,⟨by have:=h.at_.1;show 0≤a';omega,by have:=h.at_.2;show a'≤a+40;omega⟩,by have:=h.bs;simp;omega,by show l'.length≤100;omega,by have:=h.lo;simp [r9.l]at this⊢;omega,h.ar⟩
theorem MK.jC{S:MS}{a:Int}{b l:Nat}(h:MK S a b l):MK S.jC (a+41) (b+3) (l+1):=by
 unfold MS.jC
 split
 ·exact h.next.loop.block.mono (by omega) (by omega) (by omega)
 ·exact h.next.mono (by omega) (by omega) (by omega)
theorem MK.fU{S:MS}{a:Int}{b l:Nat}(h:MK S a b l):MK S.fU (a+5) b l:=by
 have:=h.at_
 unfold MS.fU
 split
 ·exact⟨h.L,⟨by show 0≤S.at_+1+1+1+1+1;omega,by show S.at_+1+1+1+1+1≤_;omega⟩,h.bs,h.il,h.lo,h.ar⟩
 ·exact⟨h.L,⟨by show 0≤S.at_+1;omega,by show S.at_+1≤_;omega⟩,h.bs,h.il,h.lo,h.ar⟩
theorem xU(S:MS)(hL:y9 S.L)(h0:0≤S.at_):∃a re ll bs l t,S.loop=⟨S.L,a,S.g,S.su,re,S.sl,S.pa,S.ar,.own ll,bs,.own l,t⟩:=by
 obtain⟨a',l',b1,b2,t',e,_,_,_⟩:=a3d S hL h0
 exact⟨_,_,_,_,_,_,e⟩
theorem a8g(L:List Int)(hL:y9 L):MK (X1 L) 3 0 0:=⟨hL,⟨by show(0:Int)≤3;decide,by show(3:Int)≤3;decide⟩,by simp [X1],by simp [X1,j4.l],by simp [X1,r9.l],rfl⟩
theorem b2I(L:List Int)(hL:y9 L)(i:Nat)(ih:MK (jG (X1 L) i) (3+200*i) (6*i) i):MK (bD (decide (0<i)) {(jG (X1 L) i)with at_:=(jG (X1 L) i).at_+1} (a7 (jG (X1 L) i).L (jG (X1 L) i).at_%3)) (3+200*i+108) (6*i+3) i:=by
 have hx:=j0 ih.L ih.at_.1
 have hn:0≤a7 (jG (X1 L) i).L (jG (X1 L) i).at_%3∧a7 (jG (X1 L) i).L (jG (X1 L) i).at_%3≤2:=by omega
 unfold bD
 split
 ·exact(ih.next.region hn).mono (by omega) (by omega) (by omega)
 ·rename_i hi
  obtain rfl:i=0:=by simpa using hi
  exact((a8g L hL).next.fD rfl rfl hn).mono (by omega) (by omega) (by omega)
theorem b2v(L:List Int)(hL:y9 L):∀i:Nat,MK (jG (X1 L) i) (3+200*i) (6*i) i:=by
 intro i
 induction i with
 |zero=>exact a8g L hL
 |succ i ih=>
  show MK (rnd _ _) _ _ _
  unfold rnd
  exact(b2I L hL i ih).jC.fU.mono (by omega) (by omega) (by omega)
def l7:Row:=⟨8,[[.v (.int .i64 0),.v (.int .i64 0),.v (.int .i64 0),.v (.int .i64 0),.v (.int .i64 0),.a8 true [],.a8 true [],.a8 true []]],0⟩
theorem c0z(x:Int)(h:0≤x):([[.v (.int .i64 4)],[.v (.int .i64 1)],[.v (.int .i64 2)],[.v (.int .i64 8)],[.v (.int .i64 6)]]:List (List AV))[(x%5).toNat]?=some [.v (.int .i64 (U7 x))]:=by
 have:(x%5).toNat<5:=by omega
 unfold U7
 generalize (x%5).toNat=n at*
 match n,this with
 |0,_=>rfl
 |1,_=>rfl
 |2,_=>rfl
 |3,_=>rfl
 |4,_=>rfl
theorem b6O(x:Int)(h:0≤x):1≤U7 x∧U7 x≤8:=by
 have:(x%5).toNat<5:=by omega
 unfold U7
 generalize (x%5).toNat=n at*
 match n,this with
 |0,_=>decide
 |1,_=>decide
 |2,_=>decide
 |3,_=>decide
 |4,_=>decide
theorem c1m:∀i:Nat,i≤2→1≤(2:Int)^i∧(2:Int)^i≤4:=by
 intro i hi
 match i,hi with
 |0,_=>decide
 |1,_=>decide
 |2,_=>decide
theorem a8X(g s:Int)(n:Nat)(h:n=0∨¬g%(2*s)=0):qJ g n s=s:=by
 cases n with
 |zero=>rfl
 |succ n=>rw[qJ,if_neg (h.resolve_left (by omega))]
def N6:=ZZ.mk (Zq H8.d @l7.eq_1)
theorem a8h{K:Exit→LS→Prop}(S SA:MS){z:Int}(hL:y9 S.L)(h0:0≤S.at_∧S.at_≤900)(hok:gD {S with at_:=S.at_+1} 600000)(hb:S.bs.length≤800)(hSA:SA=MS.region {S with at_:=S.at_+1} (a7 S.L S.at_%3)):AK (md:=false) Tryz.prog (pD (cR Tryz.f42) [1,1,1,1,0,1,0,0,1,0,0,0]) [] ⟨[.Z,.Z,.ptr S.rows.length 0 0,.ptr 0 0 0,.Z,.v (.int .i64 z),.Z,.Z,.Z,.Z,.Z,.Z,.Z,.Z,.Z,.Z,.Z,.Z,.Z,.Z,.Z,.Z,.Z,.Z,.Z,.Z,.Z,.Z,.Z,.Z,.Z,.Z,.Z,.Z,.Z,.Z,.Z,.Z,.Z,.Z,.Z,.Z,.Z,.Z,.Z,.Z,.Z,.Z,.Z,.Z,.Z,.Z,.Z,.Z,.Z,.Z,.Z,.Z,.Z,.Z,.Z,.Z,.Z,.Z,.Z,.Z,.Z,.Z,.Z,.Z,.Z,.Z,.Z,.Z,.Z,.Z,.Z,.Z,.Z,.Z,.Z,.Z,.Z,.Z,.Z,.Z,.Z,.Z,.Z,.Z,.Z,.Z,.Z,.Z,.Z,.Z,.Z,.Z,.Z,.Z,.Z,.Z,.Z,.Z,.Z,.Z,.Z,.Z,.Z,.Z,.Z,.Z,.Z,.Z,.Z,.Z,.Z,.Z,.Z,.Z,.Z,.Z,.Z,.Z,.Z,.Z,.Z,.Z,.Z,.Z,.Z,.Z,.Z,.Z,.Z,.Z,.Z,.Z,.Z,.Z,.Z,.Z,.Z,.Z,.Z,.Z,.Z,.Z,.Z,.Z,.Z,.Z,.Z],e9 0 (S.rows++[l7]),S.rows.length+1+8+8⟩ (O9 (fun s'=>∃a:Unit,Go.Ab.W0 True∧N3 s' ⟨[.Z,.Z,.ptr SA.rows.length 0 0,.ptr 0 0 0,.Z,.v (.int .i64 z),.Z,.Z,.Z,.Z,.Z,.Z,.Z,.Z,.Z,.Z,.Z,.Z,.Z,.Z,.Z,.Z,.Z,.Z,.Z,.Z,.Z,.Z,.Z,.Z,.Z,.Z,.Z,.Z,.Z,.Z,.Z,.Z,.Z,.Z,.Z,.Z,.Z,.Z,.Z,.Z,.Z,.Z,.Z,.Z,.Z,.Z,.Z,.Z,.Z,.Z,.Z,.Z,.Z,.Z,.Z,.Z,.Z,.Z,.Z,.Z,.Z,.Z,.Z,.Z,.Z,.Z,.Z,.Z,.Z,.Z,.Z,.Z,.Z,.Z,.Z,.Z,.Z,.Z,.Z,.Z,.Z,.Z,.Z,.Z,.Z,.Z,.Z,.Z,.Z,.Z,.Z,.Z,.Z,.Z,.Z,.Z,.Z,.Z,.Z,.Z,.Z,.Z,.Z,.Z,.Z,.Z,.Z,.Z,.Z,.Z,.Z,.Z,.Z,.Z,.Z,.Z,.Z,.Z,.Z,.Z,.Z,.Z,.Z,.Z,.Z,.Z,.Z,.Z,.Z,.Z,.Z,.Z,.Z,.Z,.Z,.Z,.Z,.Z,.Z,.Z,.Z,.Z,.Z,.Z,.Z,.Z,.Z],e9 0 (SA.rows++[l7]),SA.rows.length+1⟩) K):=by
 conv in pD _ _=>whnf
 have hx:=j0 hL h0.1
 have hn:0≤a7 S.L S.at_%3∧a7 S.L S.at_%3≤2:=by omega
 have CN:=p0 S.L S.at_ (by omega) hL
 have CR:=a3o {S with at_:=S.at_+1} (a7 S.L S.at_%3) hn hok (by show S.bs.length≤800;omega)
 obtain⟨a',ii',bs',e⟩:=rJ {S with at_:=S.at_+1} hL (by show 0≤S.at_+1;omega) (a7 S.L S.at_%3)
 rw[←hSA]at e CR
 subst e
 simp only at CR
 clear hSA hok hL h0 hb
 obtain⟨L',at',g,su,re,sl,pa,ar,lo,bs,ii,t⟩:=S
 simp only at CN CR hx hn⊢
 generalize a7 L' at'=y at*
 cases lo<;>cases ii<;>cases ii'
 all_goals simp only[MS.rows,e9,E4,j4.cell,j4.rows,j4.l,j4.k,r9.cell,r9.rows,r9.l,List.cons_append,List.nil_append,List.append_nil,List.length_cons,List.length_nil,Nat.reduceAdd,List.cons_append,List.nil_append]at CR⊢
 ·repeat' (first|refine Za ?_|(with_reducible constructor<;>first|intro N hN mk hmk|intro N hN|intro h)|refine Ze CN ?_|(refine Zp CR [0,1] N6.d ?_;with_reducible intro _ _)|refine Zt N6.d ?_|fail)
  refine n3 (keep:=[2,3,5]) (ids:=[0,51,2]) (s':=_) () (by simp only[N6.d,c5,n9,b5,c8,n5,w8,AV.plain,Nat.reduceBEq,↓reduceIte,Nat.reduceEqDiff,Nat.reduceAdd,sC];rfl) ?_ trivial
  simp only[e9,l7,List.cons_append,List.nil_append,List.length_cons,List.length_nil,Nat.reduceAdd,Nat.zero_add]
 ·repeat' (first|refine Za ?_|(with_reducible constructor<;>first|intro N hN mk hmk|intro N hN|intro h)|refine Ze CN ?_|(refine Zp CR [0,1] N6.d ?_;with_reducible intro _ _)|refine Zt N6.d ?_|fail)
  refine n3 (keep:=[2,3,5]) (ids:=[0,51,52,2]) (s':=_) () (by simp only[N6.d,c5,n9,b5,c8,n5,w8,AV.plain,Nat.reduceBEq,↓reduceIte,Nat.reduceEqDiff,Nat.reduceAdd,sC];rfl) ?_ trivial
  simp only[e9,l7,List.cons_append,List.nil_append,List.length_cons,List.length_nil,Nat.reduceAdd,Nat.zero_add]
 ·repeat' (first|refine Za ?_|(with_reducible constructor<;>first|intro N hN mk hmk|intro N hN|intro h)|refine Ze CN ?_|(refine Zp CR [0,1,2] N6.d ?_;with_reducible intro _ _)|refine Zt N6.d ?_|fail)
  refine n3 (keep:=[2,3,5]) (ids:=[0,52,3]) (s':=_) () (by simp only[N6.d,c5,n9,b5,c8,n5,w8,AV.plain,Nat.reduceBEq,↓reduceIte,Nat.reduceEqDiff,Nat.reduceAdd,sC];rfl) ?_ trivial
  simp only[e9,l7,List.cons_append,List.nil_append,List.length_cons,List.length_nil,Nat.reduceAdd,Nat.zero_add]
 ·repeat' (first|refine Za ?_|(with_reducible constructor<;>first|intro N hN mk hmk|intro N hN|intro h)|refine Ze CN ?_|(refine Zp CR [0,1,2] N6.d ?_;with_reducible intro _ _)|refine Zt N6.d ?_|fail)
  refine n3 (keep:=[2,3,5]) (ids:=[0,52,53,3]) (s':=_) () (by simp only[N6.d,c5,n9,b5,c8,n5,w8,AV.plain,Nat.reduceBEq,↓reduceIte,Nat.reduceEqDiff,Nat.reduceAdd,sC];rfl) ?_ trivial
  simp only[e9,l7,List.cons_append,List.nil_append,List.length_cons,List.length_nil,Nat.reduceAdd,Nat.zero_add]
 ·repeat' (first|refine Za ?_|(with_reducible constructor<;>first|intro N hN mk hmk|intro N hN|intro h)|refine Ze CN ?_|(refine Zp CR [0,1,2] N6.d ?_;with_reducible intro _ _)|refine Zt N6.d ?_|fail)
  refine n3 (keep:=[2,3,5]) (ids:=[0,52,53,3]) (s':=_) () (by simp only[N6.d,c5,n9,b5,c8,n5,w8,AV.plain,Nat.reduceBEq,↓reduceIte,Nat.reduceEqDiff,Nat.reduceAdd,sC];rfl) ?_ trivial
  simp only[e9,l7,List.cons_append,List.nil_append,List.length_cons,List.length_nil,Nat.reduceAdd,Nat.zero_add]
 ·repeat' (first|refine Za ?_|(with_reducible constructor<;>first|intro N hN mk hmk|intro N hN|intro h)|refine Ze CN ?_|(refine Zp CR [0,1,2] N6.d ?_;with_reducible intro _ _)|refine Zt N6.d ?_|fail)
  refine n3 (keep:=[2,3,5]) (ids:=[0,52,53,54,3]) (s':=_) () (by simp only[N6.d,c5,n9,b5,c8,n5,w8,AV.plain,Nat.reduceBEq,↓reduceIte,Nat.reduceEqDiff,Nat.reduceAdd,sC];rfl) ?_ trivial
  simp only[e9,l7,List.cons_append,List.nil_append,List.length_cons,List.length_nil,Nat.reduceAdd,Nat.zero_add]
 ·repeat' (first|refine Za ?_|(with_reducible constructor<;>first|intro N hN mk hmk|intro N hN|intro h)|refine Ze CN ?_|(refine Zp CR [0,1,2,3] N6.d ?_;with_reducible intro _ _)|refine Zt N6.d ?_|fail)
  refine n3 (keep:=[2,3,5]) (ids:=[0,53,54,4]) (s':=_) () (by simp only[N6.d,c5,n9,b5,c8,n5,w8,AV.plain,Nat.reduceBEq,↓reduceIte,Nat.reduceEqDiff,Nat.reduceAdd,sC];rfl) ?_ trivial
  simp only[e9,l7,List.cons_append,List.nil_append,List.length_cons,List.length_nil,Nat.reduceAdd,Nat.zero_add]
 ·repeat' (first|refine Za ?_|(with_reducible constructor<;>first|intro N hN mk hmk|intro N hN|intro h)|refine Ze CN ?_|(refine Zp CR [0,1,2,3] N6.d ?_;with_reducible intro _ _)|refine Zt N6.d ?_|fail)
  refine n3 (keep:=[2,3,5]) (ids:=[0,53,54,55,4]) (s':=_) () (by simp only[N6.d,c5,n9,b5,c8,n5,w8,AV.plain,Nat.reduceBEq,↓reduceIte,Nat.reduceEqDiff,Nat.reduceAdd,sC];rfl) ?_ trivial
  simp only[e9,l7,List.cons_append,List.nil_append,List.length_cons,List.length_nil,Nat.reduceAdd,Nat.zero_add]
end Go.Proofs.YtgdoiokalfhjoaaGreatDoor
end
