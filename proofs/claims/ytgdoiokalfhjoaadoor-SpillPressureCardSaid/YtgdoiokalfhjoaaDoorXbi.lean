/- Own work (by an AI agent; no person has read it): part of a proof of the seat YtgdoiokalfhjoaaDoor. -/
import Derived.Test.YtgdoiokalfhjoaaDoorXbh
set_option linter.unusedSimpArgs false
set_option linter.unusedVariables false
set_option maxRecDepth 100000
set_option maxHeartbeats 10000000
section
namespace Go.Proofs.YtgdoiokalfhjoaaDoor
open Go.Ab
def dN:List dG:=[⟨⟨#[97]⟩,1,1,8⟩,⟨⟨#[102]⟩,1,2,4⟩,⟨⟨#[115]⟩,2,1,8⟩,⟨⟨#[112]⟩,3,1,4⟩,⟨⟨#[98]⟩,2,3,4⟩]
theorem yT:n5 Tryd.prog 14 [] (fun _=> .c5 false (H2 dN)) (fun _=>[]):=by
 refine Zf Tryd.func14 Tryd.ntmps14 ?_
 repeat' (first|refine Za ?_|(with_reducible constructor<;>first|intro N hN mk hmk|intro N hN|intro h)|refine Zt trivial ?_|fail)
 rfl
def b0j(b:Int):w4:=⟨3,0,O0,O0,O0,b,0⟩
def b0u(s:Int)(d x y:H8)(b:Int):w4:=⟨4,s,d,x,y,b,0⟩
def jA:w4:=⟨5,0,O0,O0,O0,0,0⟩
def a4w(b:Bool)(S:MS):List Row:=if b then S.rows else X8 S.L S.at_ S.g S.su S.re S.sl S.pa S.ar
def bB(b:Bool)(S:MS)(n:Int):MS:=if b then S.region n else S.eM n
def MS.iJ(S:MS):MS:=if a8 S.L S.at_%3=0 then(MS.loop {S with at_:=S.at_+1}).block else{S with at_:=S.at_+1}
def MS.fC(S:MS):MS:=if a8 S.L S.at_%3=0 then{S with at_:=S.at_+1+1+1+1+1,t:=b0u (1+a8 S.L (S.at_+1)%6) (G9 S.L (S.at_+1+1)) (V6 S.L (S.at_+1+1+1)) (V6 S.L (S.at_+1+1+1+1)) (S.bs.length+1)}else{S with at_:=S.at_+1,t:=b0j (S.bs.length+1)}
def rnd(b:Bool)(S:MS):MS:=((bB b {S with at_:=S.at_+1} (a8 S.L S.at_%3)).iJ).fC
def iO(S:MS):Nat→MS
 |0=>S
 |i+1=>rnd (decide (0<i)) (iO S i)
def MS.iK(S:MS):MS:=if a8 S.L S.at_%3=0 then((MS.loop {S with at_:=S.at_+1}).block).j5 else{S with at_:=S.at_+1}
def fin(b:Bool)(S:MS):MS:={(bB b {S with at_:=S.at_+1} (a8 S.L S.at_%3)).iK with t:=jA}
def pQ(g:Int):Nat→Int→Int
 |0,s=>s
 |i+1,s=>if g%(2*s)=0 then pQ g i (2*s)else s
def V0(x:Int):Int:=([4,1,2,8,6]:List Int).getD (x%5).toNat 0
def MS.code(S:MS):Code:=⟨S.g,S.su,S.re,S.sl,S.pa,S.ar,S.lo.l,S.bs++[⟨S.i.l,S.t⟩]⟩
def X5(L:List Int):MS:=⟨L,3,V0 (a8 L 0),pQ (V0 (a8 L 0)) (a8 L 1%3).toNat 1,6,0,3,dN,.nil,[],.nil,T0⟩
def a7e(L:List Int):Nat:=(a8 L 2%3).toNat
def b7a(L:List Int):MS:=fin (decide (0<a7e L)) (iO (X5 L) (a7e L))
def nH(L:List Int):Code:=(b7a L).code
structure MK (S:MS) (a:Int) (b l:Nat):Prop where
 L:B5 S.L
 at_:0≤S.at_∧S.at_≤a
 bs:S.bs.length≤b
 il:S.i.l.length≤100
 lo:S.lo.l.length≤l
 ar:S.ar=dN
theorem MK.mono{S:MS}{a a':Int}{b b' l l':Nat}(h:MK S a b l)(ha:a≤a')(hb:b≤b')(hl:l≤l'):MK S a' b' l':=⟨h.L,⟨h.at_.1,by have:=h.at_.2;omega⟩,by have:=h.bs;omega,h.il,by have:=h.lo;omega,h.ar⟩
theorem a2S:dN.length=5∧∀z,z<5→1≤(dN.getD z A0).len∧(dN.getD z A0).len≤1000:=by
 refine⟨rfl,fun z hz=>?_⟩
 match z,hz with
 |0,_=>decide
 |1,_=>decide
 |2,_=>decide
 |3,_=>decide
 |4,_=>decide
theorem MK.ok{S:MS}{a:Int}{b l:Nat}(h:MK S a b l){n:Int}(ha:a≤n)(hn:100≤n)(hb:b≤1000):fL S n:=⟨h.L,⟨h.at_.1,by have:=h.at_.2;omega⟩,by have:=h.bs;omega,by have:=h.il;omega,by rw[h.ar];exact a2S.1,by rw[h.ar];exact a2S.2⟩
theorem MK.next{S:MS}{a:Int}{b l:Nat}(h:MK S a b l):MK {S with at_:=S.at_+1} (a+1) b l:=⟨h.L,⟨by have:=h.at_.1;show 0≤S.at_+1;omega,by have:=h.at_.2;show S.at_+1≤a+1;omega⟩,h.bs,h.il,h.lo,h.ar⟩
theorem MK.block{S:MS}{a:Int}{b l:Nat}(h:MK S a b l):MK S.block a (b+1) l:=⟨h.L,h.at_,by have:=h.bs;simp [MS.block];omega,by simp [MS.block,j8.l],h.lo,h.ar⟩
theorem MK.j5{S:MS}{a:Int}{b l:Nat}(h:MK S a b l)(hi:S.i.l.length≤50):MK S.j5 (a+33) b l:=by
 obtain⟨a',ii,e,h1,h2,h3⟩:=J9 S h.L h.at_.1
 rw[e]
 exact⟨h.L,⟨by have:=h.at_.1;show 0≤a';omega,by have:=h.at_.2;show a'≤a+33;omega⟩,h.bs,by show ii.l.length≤100;omega,h.lo,h.ar⟩
theorem MK.eM{S:MS}{a:Int}{b l:Nat}(h:MK S a b l)(hi:S.i= .nil)(ht:S.t=T0){n:Int}(hn:0≤n∧n≤2):MK (S.eM n) (a+107) (b+2) l:=by
 obtain⟨a',bs,e,h1,h2,h3⟩:=T7 (S.bs.length+n) S h.L h.at_.1 hi ht n.toNat
 have hm:MK (S.eL (S.bs.length+n) n.toNat) (a+74) (b+2) l:=by
  rw[e]
  exact⟨h.L,⟨by have:=h.at_.1;show 0≤a';omega,by have:=h.at_.2;show a'≤a+74;omega⟩,by have:=h.bs;show bs.length≤b+2;omega,by simp [j8.l],h.lo,h.ar⟩
 have:=hm.j5 (by rw[e];simp [j8.l])
 exact this.mono (by omega) (by omega) (by omega)
theorem pK(S:MS)(hL:B5 S.L)(h0:0≤S.at_)(hi:S.i= .nil)(ht:S.t=T0)(n:Int):∃a ii bs,S.eM n=⟨S.L,a,S.g,S.su,S.re,S.sl,S.pa,S.ar,S.lo,bs,ii,T0⟩:=by
 obtain⟨a',bs,e,h1,h2,h3⟩:=T7 (S.bs.length+n) S hL h0 hi ht n.toNat
 unfold MS.eM
 obtain⟨a,ii,f,_⟩:=J9 (S.eL (S.bs.length+n) n.toNat) (by rw[e];exact hL) (by rw[e];show 0≤a';omega)
 rw[e]at f
 exact⟨a,ii,bs,by rw[e,f]⟩
theorem qN(S:MS)(hL:B5 S.L)(h0:0≤S.at_)(n:Int):∃a ii bs,S.region n=⟨S.L,a,S.g,S.su,S.re,S.sl,S.pa,S.ar,S.lo,bs,ii,T0⟩:=pK S.block hL h0 rfl rfl n
theorem MK.region{S:MS}{a:Int}{b l:Nat}(h:MK S a b l){n:Int}(hn:0≤n∧n≤2):MK (S.region n) (a+107) (b+3) l:=(h.block.eM rfl rfl hn).mono (by omega) (by omega) (by omega)
theorem MK.loop{S:MS}{a:Int}{b l:Nat}(h:MK S a b l):MK S.loop (a+40) (b+2) (l+1):=by
 obtain⟨a',l',b1,b2,t,e,h1,h2,h3⟩:=zT S h.L h.at_.1
 rw[e]
 exact⟨h.L,⟨by have:=h.at_.1;show 0≤a';omega,by have:=h.at_.2;show a'≤a+40;omega⟩,by have:=h.bs;simp;omega,by show l'.length≤100;omega,by have:=h.lo;simp [r6.l]at this⊢;omega,h.ar⟩
theorem MK.iJ{S:MS}{a:Int}{b l:Nat}(h:MK S a b l):MK S.iJ (a+41) (b+3) (l+1):=by
 unfold MS.iJ
 split
 ·exact h.next.loop.block.mono (by omega) (by omega) (by omega)
 ·exact h.next.mono (by omega) (by omega) (by omega)
theorem MK.fC{S:MS}{a:Int}{b l:Nat}(h:MK S a b l):MK S.fC (a+5) b l:=by
 have:=h.at_
 unfold MS.fC
 split
 ·exact⟨h.L,⟨by show 0≤S.at_+1+1+1+1+1;omega,by show S.at_+1+1+1+1+1≤_;omega⟩,h.bs,h.il,h.lo,h.ar⟩
 ·exact⟨h.L,⟨by show 0≤S.at_+1;omega,by show S.at_+1≤_;omega⟩,h.bs,h.il,h.lo,h.ar⟩
theorem uJ(S:MS)(hL:B5 S.L)(h0:0≤S.at_):∃a re ll bs l t,S.loop=⟨S.L,a,S.g,S.su,re,S.sl,S.pa,S.ar,.own ll,bs,.own l,t⟩:=by
 obtain⟨a',l',b1,b2,t',e,_,_,_⟩:=zT S hL h0
 exact⟨_,_,_,_,_,_,e⟩
theorem a3J(L:List Int)(hL:B5 L):MK (X5 L) 3 0 0:=⟨hL,⟨by show(0:Int)≤3;decide,by show(3:Int)≤3;decide⟩,by simp [X5],by simp [X5,j8.l],by simp [X5,r6.l],rfl⟩
theorem a7O(L:List Int)(hL:B5 L)(i:Nat)(ih:MK (iO (X5 L) i) (3+200*i) (6*i) i):MK (bB (decide (0<i)) {(iO (X5 L) i)with at_:=(iO (X5 L) i).at_+1} (a8 (iO (X5 L) i).L (iO (X5 L) i).at_%3)) (3+200*i+108) (6*i+3) i:=by
 have hx:=j6 ih.L ih.at_.1
 have hn:0≤a8 (iO (X5 L) i).L (iO (X5 L) i).at_%3∧a8 (iO (X5 L) i).L (iO (X5 L) i).at_%3≤2:=by omega
 unfold bB
 split
 ·exact(ih.next.region hn).mono (by omega) (by omega) (by omega)
 ·rename_i hi
  obtain rfl:i=0:=by simpa using hi
  exact((a3J L hL).next.eM rfl rfl hn).mono (by omega) (by omega) (by omega)
theorem a7D(L:List Int)(hL:B5 L):∀i:Nat,MK (iO (X5 L) i) (3+200*i) (6*i) i:=by
 intro i
 induction i with
 |zero=>exact a3J L hL
 |succ i ih=>
  show MK (rnd _ _) _ _ _
  unfold rnd
  exact(a7O L hL i ih).iJ.fC.mono (by omega) (by omega) (by omega)
def l7:Row:=⟨8,[[.v (.int .i64 0),.v (.int .i64 0),.v (.int .i64 0),.v (.int .i64 0),.v (.int .i64 0),.c5 true [],.c5 true [],.c5 true []]],0⟩
theorem b26(x:Int)(h:0≤x):([[.v (.int .i64 4)],[.v (.int .i64 1)],[.v (.int .i64 2)],[.v (.int .i64 8)],[.v (.int .i64 6)]]:List (List AV))[(x%5).toNat]?=some [.v (.int .i64 (V0 x))]:=by
 have:(x%5).toNat<5:=by omega
 unfold V0
 generalize (x%5).toNat=n at*
 match n,this with
 |0,_=>rfl
 |1,_=>rfl
 |2,_=>rfl
 |3,_=>rfl
 |4,_=>rfl
theorem b02(x:Int)(h:0≤x):1≤V0 x∧V0 x≤8:=by
 have:(x%5).toNat<5:=by omega
 unfold V0
 generalize (x%5).toNat=n at*
 match n,this with
 |0,_=>decide
 |1,_=>decide
 |2,_=>decide
 |3,_=>decide
 |4,_=>decide
theorem b3N:∀i:Nat,i≤2→1≤(2:Int)^i∧(2:Int)^i≤4:=by
 intro i hi
 match i,hi with
 |0,_=>decide
 |1,_=>decide
 |2,_=>decide
theorem a4o(g s:Int)(n:Nat)(h:n=0∨¬g%(2*s)=0):pQ g n s=s:=by
 cases n with
 |zero=>rfl
 |succ n=>rw[pQ,if_neg (h.resolve_left (by omega))]
def P6:=ZZ.mk (Zq @l7.eq_1 (Zq @j0 (Zq @j3 (Zq @x6 (Zq @I1 (Zq @x8 (Zq @y7 (Zq @n3 (Zq @p0 (Zq @w8 (Zq @m7 (Zq @l8 (Zq @n9 (Zq @y8 (Zq @s6 (Zq @r8 (Zq @z8 (Zq @q9 (Zq @A2 (Zq @A1 (Zq @z7 (Zq @z6 (Zq @s5 (Zq @j0 (Zq @j3 (Zq @A6 (Zq @J8 (Zq @y4 (Zq @y0 @x6)))))))))))))))))))))))))))))
theorem a3K{K:Exit→LS→Prop}(S SA:MS){z:Int}(hL:B5 S.L)(h0:0≤S.at_∧S.at_≤900)(hok:fL {S with at_:=S.at_+1} 600000)(hb:S.bs.length≤800)(hSA:SA=MS.region {S with at_:=S.at_+1} (a8 S.L S.at_%3)):AK (md:=false) Tryd.prog (oR (cN Tryd.f5) [1,1,1,1,0,1,0,0,1,0,0,0]) [] ⟨[.Z,.Z,.ptr S.rows.length 0 0,.ptr 0 0 0,.Z,.v (.int .i64 z),.Z,.Z,.Z,.Z,.Z,.Z,.Z,.Z,.Z,.Z,.Z,.Z,.Z,.Z,.Z,.Z,.Z,.Z,.Z,.Z,.Z,.Z,.Z,.Z,.Z,.Z,.Z,.Z,.Z,.Z,.Z,.Z,.Z,.Z,.Z,.Z,.Z,.Z,.Z,.Z,.Z,.Z,.Z,.Z,.Z,.Z,.Z,.Z,.Z,.Z,.Z,.Z,.Z,.Z,.Z,.Z,.Z,.Z,.Z,.Z,.Z,.Z,.Z,.Z,.Z,.Z,.Z,.Z,.Z,.Z,.Z,.Z,.Z,.Z,.Z,.Z,.Z,.Z,.Z,.Z,.Z,.Z,.Z,.Z,.Z,.Z,.Z,.Z,.Z,.Z,.Z,.Z,.Z,.Z,.Z,.Z,.Z,.Z,.Z,.Z,.Z,.Z,.Z,.Z,.Z,.Z,.Z,.Z,.Z,.Z,.Z,.Z,.Z,.Z,.Z,.Z,.Z,.Z,.Z,.Z,.Z,.Z,.Z,.Z,.Z,.Z,.Z,.Z,.Z,.Z,.Z,.Z,.Z,.Z,.Z,.Z,.Z,.Z,.Z,.Z,.Z,.Z,.Z,.Z,.Z,.Z,.Z],j7 0 (S.rows++[l7]),S.rows.length+1+8+8⟩ (S4 (fun s'=>∃a:Unit,Go.Ab.aP True∧O8 s' ⟨[.Z,.Z,.ptr SA.rows.length 0 0,.ptr 0 0 0,.Z,.v (.int .i64 z),.Z,.Z,.Z,.Z,.Z,.Z,.Z,.Z,.Z,.Z,.Z,.Z,.Z,.Z,.Z,.Z,.Z,.Z,.Z,.Z,.Z,.Z,.Z,.Z,.Z,.Z,.Z,.Z,.Z,.Z,.Z,.Z,.Z,.Z,.Z,.Z,.Z,.Z,.Z,.Z,.Z,.Z,.Z,.Z,.Z,.Z,.Z,.Z,.Z,.Z,.Z,.Z,.Z,.Z,.Z,.Z,.Z,.Z,.Z,.Z,.Z,.Z,.Z,.Z,.Z,.Z,.Z,.Z,.Z,.Z,.Z,.Z,.Z,.Z,.Z,.Z,.Z,.Z,.Z,.Z,.Z,.Z,.Z,.Z,.Z,.Z,.Z,.Z,.Z,.Z,.Z,.Z,.Z,.Z,.Z,.Z,.Z,.Z,.Z,.Z,.Z,.Z,.Z,.Z,.Z,.Z,.Z,.Z,.Z,.Z,.Z,.Z,.Z,.Z,.Z,.Z,.Z,.Z,.Z,.Z,.Z,.Z,.Z,.Z,.Z,.Z,.Z,.Z,.Z,.Z,.Z,.Z,.Z,.Z,.Z,.Z,.Z,.Z,.Z,.Z,.Z,.Z,.Z,.Z,.Z,.Z,.Z],j7 0 (SA.rows++[l7]),SA.rows.length+1⟩) K):=by
 conv in oR _ _=>whnf
 have hx:=j6 hL h0.1
 have hn:0≤a8 S.L S.at_%3∧a8 S.L S.at_%3≤2:=by omega
 have CN:=o9 S.L S.at_ (by omega) hL
 have CR:=a0g {S with at_:=S.at_+1} (a8 S.L S.at_%3) hn hok (by show S.bs.length≤800;omega)
 obtain⟨a',ii',bs',e⟩:=qN {S with at_:=S.at_+1} hL (by show 0≤S.at_+1;omega) (a8 S.L S.at_%3)
 rw[←hSA]at e CR
 subst e
 simp only at CR
 clear hSA hok hL h0 hb
 obtain⟨L',at',g,su,re,sl,pa,ar,lo,bs,ii,t⟩:=S
 simp only at CN CR hx hn⊢
 generalize a8 L' at'=y at*
 cases lo<;>cases ii<;>cases ii'
 all_goals simp only[MS.rows,j7,E3,j8.cell,j8.rows,j8.l,j8.k,r6.cell,r6.rows,r6.l,List.cons_append,List.nil_append,List.append_nil,List.length_cons,List.length_nil,Nat.reduceAdd,List.cons_append,List.nil_append]at CR⊢
 ·repeat' (first|refine Za ?_|(with_reducible constructor<;>first|intro N hN mk hmk|intro N hN|intro h)|refine Ze CN ?_|(refine Zp CR [0,1] P6.d ?_;with_reducible intro _ _)|refine Zt P6.d ?_|fail)
  refine l9 (keep:=[2,3,5]) (ids:=[0,51,2]) (s':=_) () (by simp only[P6.d,c8,n7,b6,e7,n6,y5,AV.plain,Nat.reduceBEq,↓reduceIte,Nat.reduceEqDiff,Nat.reduceAdd,sC];rfl) ?_ trivial
  simp only[j7,l7,List.cons_append,List.nil_append,List.length_cons,List.length_nil,Nat.reduceAdd,Nat.zero_add]
 ·repeat' (first|refine Za ?_|(with_reducible constructor<;>first|intro N hN mk hmk|intro N hN|intro h)|refine Ze CN ?_|(refine Zp CR [0,1] P6.d ?_;with_reducible intro _ _)|refine Zt P6.d ?_|fail)
  refine l9 (keep:=[2,3,5]) (ids:=[0,51,52,2]) (s':=_) () (by simp only[P6.d,c8,n7,b6,e7,n6,y5,AV.plain,Nat.reduceBEq,↓reduceIte,Nat.reduceEqDiff,Nat.reduceAdd,sC];rfl) ?_ trivial
  simp only[j7,l7,List.cons_append,List.nil_append,List.length_cons,List.length_nil,Nat.reduceAdd,Nat.zero_add]
 ·repeat' (first|refine Za ?_|(with_reducible constructor<;>first|intro N hN mk hmk|intro N hN|intro h)|refine Ze CN ?_|(refine Zp CR [0,1,2] P6.d ?_;with_reducible intro _ _)|refine Zt P6.d ?_|fail)
  refine l9 (keep:=[2,3,5]) (ids:=[0,52,3]) (s':=_) () (by simp only[P6.d,c8,n7,b6,e7,n6,y5,AV.plain,Nat.reduceBEq,↓reduceIte,Nat.reduceEqDiff,Nat.reduceAdd,sC];rfl) ?_ trivial
  simp only[j7,l7,List.cons_append,List.nil_append,List.length_cons,List.length_nil,Nat.reduceAdd,Nat.zero_add]
 ·repeat' (first|refine Za ?_|(with_reducible constructor<;>first|intro N hN mk hmk|intro N hN|intro h)|refine Ze CN ?_|(refine Zp CR [0,1,2] P6.d ?_;with_reducible intro _ _)|refine Zt P6.d ?_|fail)
  refine l9 (keep:=[2,3,5]) (ids:=[0,52,53,3]) (s':=_) () (by simp only[P6.d,c8,n7,b6,e7,n6,y5,AV.plain,Nat.reduceBEq,↓reduceIte,Nat.reduceEqDiff,Nat.reduceAdd,sC];rfl) ?_ trivial
  simp only[j7,l7,List.cons_append,List.nil_append,List.length_cons,List.length_nil,Nat.reduceAdd,Nat.zero_add]
 ·repeat' (first|refine Za ?_|(with_reducible constructor<;>first|intro N hN mk hmk|intro N hN|intro h)|refine Ze CN ?_|(refine Zp CR [0,1,2] P6.d ?_;with_reducible intro _ _)|refine Zt P6.d ?_|fail)
  refine l9 (keep:=[2,3,5]) (ids:=[0,52,53,3]) (s':=_) () (by simp only[P6.d,c8,n7,b6,e7,n6,y5,AV.plain,Nat.reduceBEq,↓reduceIte,Nat.reduceEqDiff,Nat.reduceAdd,sC];rfl) ?_ trivial
  simp only[j7,l7,List.cons_append,List.nil_append,List.length_cons,List.length_nil,Nat.reduceAdd,Nat.zero_add]
 ·repeat' (first|refine Za ?_|(with_reducible constructor<;>first|intro N hN mk hmk|intro N hN|intro h)|refine Ze CN ?_|(refine Zp CR [0,1,2] P6.d ?_;with_reducible intro _ _)|refine Zt P6.d ?_|fail)
  refine l9 (keep:=[2,3,5]) (ids:=[0,52,53,54,3]) (s':=_) () (by simp only[P6.d,c8,n7,b6,e7,n6,y5,AV.plain,Nat.reduceBEq,↓reduceIte,Nat.reduceEqDiff,Nat.reduceAdd,sC];rfl) ?_ trivial
  simp only[j7,l7,List.cons_append,List.nil_append,List.length_cons,List.length_nil,Nat.reduceAdd,Nat.zero_add]
 ·repeat' (first|refine Za ?_|(with_reducible constructor<;>first|intro N hN mk hmk|intro N hN|intro h)|refine Ze CN ?_|(refine Zp CR [0,1,2,3] P6.d ?_;with_reducible intro _ _)|refine Zt P6.d ?_|fail)
  refine l9 (keep:=[2,3,5]) (ids:=[0,53,54,4]) (s':=_) () (by simp only[P6.d,c8,n7,b6,e7,n6,y5,AV.plain,Nat.reduceBEq,↓reduceIte,Nat.reduceEqDiff,Nat.reduceAdd,sC];rfl) ?_ trivial
  simp only[j7,l7,List.cons_append,List.nil_append,List.length_cons,List.length_nil,Nat.reduceAdd,Nat.zero_add]
 ·repeat' (first|refine Za ?_|(with_reducible constructor<;>first|intro N hN mk hmk|intro N hN|intro h)|refine Ze CN ?_|(refine Zp CR [0,1,2,3] P6.d ?_;with_reducible intro _ _)|refine Zt P6.d ?_|fail)
  refine l9 (keep:=[2,3,5]) (ids:=[0,53,54,55,4]) (s':=_) () (by simp only[P6.d,c8,n7,b6,e7,n6,y5,AV.plain,Nat.reduceBEq,↓reduceIte,Nat.reduceEqDiff,Nat.reduceAdd,sC];rfl) ?_ trivial
  simp only[j7,l7,List.cons_append,List.nil_append,List.length_cons,List.length_nil,Nat.reduceAdd,Nat.zero_add]
def I7:=ZZ.mk (Zq @l7.eq_1 (Zq @j0 (Zq @j3 (Zq @x6 (Zq @I1 (Zq @x8 (Zq @y7 (Zq @n3 (Zq @p0 (Zq @w8 (Zq @m7 (Zq @l8 (Zq @n9 (Zq @y8 (Zq @s6 (Zq @r8 (Zq @z8 (Zq @q9 (Zq @A2 (Zq @A1 (Zq @z7 (Zq @z6 (Zq @s5 (Zq @j0 (Zq @j3 (Zq @A6 (Zq @J8 (Zq @y4 (Zq @y0 @x6)))))))))))))))))))))))))))))
theorem a02{K:Exit→LS→Prop}(S SA:MS)(hL:B5 S.L)(h0:0≤S.at_∧S.at_≤900)(hok:fL {S with at_:=S.at_+1} 600000)(hb:S.bs.length≤800)(hSA:SA=MS.region {S with at_:=S.at_+1} (a8 S.L S.at_%3)):AK (md:=false) Tryd.prog (oR (cN Tryd.f5) [1,1,1,1,1,0]) [] ⟨[.Z,.Z,.ptr S.rows.length 0 0,.ptr 0 0 0,.Z,.Z,.Z,.Z,.Z,.Z,.Z,.Z,.Z,.Z,.Z,.Z,.Z,.Z,.Z,.Z,.Z,.Z,.Z,.Z,.Z,.Z,.Z,.Z,.Z,.Z,.Z,.Z,.Z,.Z,.Z,.Z,.Z,.Z,.Z,.Z,.Z,.Z,.Z,.Z,.Z,.Z,.Z,.Z,.Z,.Z,.Z,.Z,.Z,.Z,.Z,.Z,.Z,.Z,.Z,.Z,.Z,.Z,.Z,.Z,.Z,.Z,.Z,.Z,.Z,.Z,.Z,.Z,.Z,.Z,.Z,.Z,.Z,.Z,.Z,.Z,.Z,.Z,.Z,.Z,.Z,.Z,.Z,.Z,.Z,.Z,.Z,.Z,.Z,.Z,.Z,.Z,.Z,.Z,.Z,.Z,.Z,.Z,.Z,.Z,.Z,.Z,.Z,.Z,.Z,.Z,.Z,.Z,.Z,.Z,.Z,.Z,.Z,.Z,.Z,.Z,.Z,.Z,.Z,.Z,.Z,.Z,.Z,.Z,.Z,.Z,.Z,.Z,.Z,.Z,.Z,.Z,.Z,.Z,.Z,.Z,.Z,.Z,.Z,.Z,.Z,.Z,.Z,.Z,.Z,.Z,.Z,.Z,.Z],j7 0 (S.rows++[l7]),S.rows.length+1+8+8⟩ (S4 (fun s'=>∃a:Unit,Go.Ab.aP True∧O8 s' ⟨[.Z,.Z,.ptr SA.rows.length 0 0,.ptr 0 0 0,.Z,.Z,.Z,.Z,.Z,.Z,.Z,.Z,.Z,.Z,.Z,.Z,.Z,.Z,.Z,.Z,.Z,.Z,.Z,.Z,.Z,.Z,.Z,.Z,.Z,.Z,.Z,.Z,.Z,.Z,.Z,.Z,.Z,.Z,.Z,.Z,.Z,.Z,.Z,.Z,.Z,.Z,.Z,.Z,.Z,.Z,.Z,.Z,.Z,.Z,.Z,.Z,.Z,.Z,.Z,.Z,.Z,.Z,.Z,.Z,.Z,.Z,.Z,.Z,.Z,.Z,.Z,.Z,.Z,.Z,.Z,.Z,.Z,.Z,.Z,.Z,.Z,.Z,.Z,.Z,.Z,.Z,.Z,.Z,.Z,.Z,.Z,.Z,.Z,.Z,.Z,.Z,.Z,.Z,.Z,.Z,.Z,.Z,.Z,.Z,.Z,.Z,.Z,.Z,.Z,.Z,.Z,.Z,.Z,.Z,.Z,.Z,.Z,.Z,.Z,.Z,.Z,.Z,.Z,.Z,.Z,.Z,.Z,.Z,.Z,.Z,.Z,.Z,.Z,.Z,.Z,.Z,.Z,.Z,.Z,.Z,.Z,.Z,.Z,.Z,.Z,.Z,.Z,.Z,.Z,.Z,.Z,.Z,.Z],j7 0 (SA.rows++[l7]),SA.rows.length+1⟩) K):=by
 conv in oR _ _=>whnf
 have hx:=j6 hL h0.1
 have hn:0≤a8 S.L S.at_%3∧a8 S.L S.at_%3≤2:=by omega
 have CN:=o9 S.L S.at_ (by omega) hL
 have CR:=a0g {S with at_:=S.at_+1} (a8 S.L S.at_%3) hn hok (by show S.bs.length≤800;omega)
 obtain⟨a',ii',bs',e⟩:=qN {S with at_:=S.at_+1} hL (by show 0≤S.at_+1;omega) (a8 S.L S.at_%3)
 rw[←hSA]at e CR
 subst e
 simp only at CR
 clear hSA hok hL h0 hb
 obtain⟨L',at',g,su,re,sl,pa,ar,lo,bs,ii,t⟩:=S
 simp only at CN CR hx hn⊢
 generalize a8 L' at'=y at*
 cases lo<;>cases ii<;>cases ii'
 all_goals simp only[MS.rows,j7,E3,j8.cell,j8.rows,j8.l,j8.k,r6.cell,r6.rows,r6.l,List.cons_append,List.nil_append,List.append_nil,List.length_cons,List.length_nil,Nat.reduceAdd,List.cons_append,List.nil_append]at CR⊢
 ·repeat' (first|refine Za ?_|(with_reducible constructor<;>first|intro N hN mk hmk|intro N hN|intro h)|refine Ze CN ?_|(refine Zp CR [0,1] I7.d ?_;with_reducible intro _ _)|refine Zt I7.d ?_|fail)
  refine l9 (keep:=[2,3]) (ids:=[0,51,2]) (s':=_) () (by simp only[I7.d,c8,n7,b6,e7,n6,y5,AV.plain,Nat.reduceBEq,↓reduceIte,Nat.reduceEqDiff,Nat.reduceAdd,sC];rfl) ?_ trivial
  simp only[j7,l7,List.cons_append,List.nil_append,List.length_cons,List.length_nil,Nat.reduceAdd,Nat.zero_add]
 ·repeat' (first|refine Za ?_|(with_reducible constructor<;>first|intro N hN mk hmk|intro N hN|intro h)|refine Ze CN ?_|(refine Zp CR [0,1] I7.d ?_;with_reducible intro _ _)|refine Zt I7.d ?_|fail)
  refine l9 (keep:=[2,3]) (ids:=[0,51,52,2]) (s':=_) () (by simp only[I7.d,c8,n7,b6,e7,n6,y5,AV.plain,Nat.reduceBEq,↓reduceIte,Nat.reduceEqDiff,Nat.reduceAdd,sC];rfl) ?_ trivial
  simp only[j7,l7,List.cons_append,List.nil_append,List.length_cons,List.length_nil,Nat.reduceAdd,Nat.zero_add]
 ·repeat' (first|refine Za ?_|(with_reducible constructor<;>first|intro N hN mk hmk|intro N hN|intro h)|refine Ze CN ?_|(refine Zp CR [0,1,2] I7.d ?_;with_reducible intro _ _)|refine Zt I7.d ?_|fail)
  refine l9 (keep:=[2,3]) (ids:=[0,52,3]) (s':=_) () (by simp only[I7.d,c8,n7,b6,e7,n6,y5,AV.plain,Nat.reduceBEq,↓reduceIte,Nat.reduceEqDiff,Nat.reduceAdd,sC];rfl) ?_ trivial
  simp only[j7,l7,List.cons_append,List.nil_append,List.length_cons,List.length_nil,Nat.reduceAdd,Nat.zero_add]
 ·repeat' (first|refine Za ?_|(with_reducible constructor<;>first|intro N hN mk hmk|intro N hN|intro h)|refine Ze CN ?_|(refine Zp CR [0,1,2] I7.d ?_;with_reducible intro _ _)|refine Zt I7.d ?_|fail)
  refine l9 (keep:=[2,3]) (ids:=[0,52,53,3]) (s':=_) () (by simp only[I7.d,c8,n7,b6,e7,n6,y5,AV.plain,Nat.reduceBEq,↓reduceIte,Nat.reduceEqDiff,Nat.reduceAdd,sC];rfl) ?_ trivial
  simp only[j7,l7,List.cons_append,List.nil_append,List.length_cons,List.length_nil,Nat.reduceAdd,Nat.zero_add]
 ·repeat' (first|refine Za ?_|(with_reducible constructor<;>first|intro N hN mk hmk|intro N hN|intro h)|refine Ze CN ?_|(refine Zp CR [0,1,2] I7.d ?_;with_reducible intro _ _)|refine Zt I7.d ?_|fail)
  refine l9 (keep:=[2,3]) (ids:=[0,52,53,3]) (s':=_) () (by simp only[I7.d,c8,n7,b6,e7,n6,y5,AV.plain,Nat.reduceBEq,↓reduceIte,Nat.reduceEqDiff,Nat.reduceAdd,sC];rfl) ?_ trivial
  simp only[j7,l7,List.cons_append,List.nil_append,List.length_cons,List.length_nil,Nat.reduceAdd,Nat.zero_add]
 ·repeat' (first|refine Za ?_|(with_reducible constructor<;>first|intro N hN mk hmk|intro N hN|intro h)|refine Ze CN ?_|(refine Zp CR [0,1,2] I7.d ?_;with_reducible intro _ _)|refine Zt I7.d ?_|fail)
  refine l9 (keep:=[2,3]) (ids:=[0,52,53,54,3]) (s':=_) () (by simp only[I7.d,c8,n7,b6,e7,n6,y5,AV.plain,Nat.reduceBEq,↓reduceIte,Nat.reduceEqDiff,Nat.reduceAdd,sC];rfl) ?_ trivial
  simp only[j7,l7,List.cons_append,List.nil_append,List.length_cons,List.length_nil,Nat.reduceAdd,Nat.zero_add]
 ·repeat' (first|refine Za ?_|(with_reducible constructor<;>first|intro N hN mk hmk|intro N hN|intro h)|refine Ze CN ?_|(refine Zp CR [0,1,2,3] I7.d ?_;with_reducible intro _ _)|refine Zt I7.d ?_|fail)
  refine l9 (keep:=[2,3]) (ids:=[0,53,54,4]) (s':=_) () (by simp only[I7.d,c8,n7,b6,e7,n6,y5,AV.plain,Nat.reduceBEq,↓reduceIte,Nat.reduceEqDiff,Nat.reduceAdd,sC];rfl) ?_ trivial
  simp only[j7,l7,List.cons_append,List.nil_append,List.length_cons,List.length_nil,Nat.reduceAdd,Nat.zero_add]
 ·repeat' (first|refine Za ?_|(with_reducible constructor<;>first|intro N hN mk hmk|intro N hN|intro h)|refine Ze CN ?_|(refine Zp CR [0,1,2,3] I7.d ?_;with_reducible intro _ _)|refine Zt I7.d ?_|fail)
  refine l9 (keep:=[2,3]) (ids:=[0,53,54,55,4]) (s':=_) () (by simp only[I7.d,c8,n7,b6,e7,n6,y5,AV.plain,Nat.reduceBEq,↓reduceIte,Nat.reduceEqDiff,Nat.reduceAdd,sC];rfl) ?_ trivial
  simp only[j7,l7,List.cons_append,List.nil_append,List.length_cons,List.length_nil,Nat.reduceAdd,Nat.zero_add]
end Go.Proofs.YtgdoiokalfhjoaaDoor
end
