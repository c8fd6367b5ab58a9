/- Own work (by an AI agent; no person has read it): part of a proof of the seat YtgdoiokalfhjoaaGreatDoor. -/
import Derived.Test.YtgdoiokalfhjoaaGreatDoorXy
import Derived.Test.YtgdoiokalfhjoaaGreatDoorXbd
import Derived.Test.YtgdoiokalfhjoaaGreatDoorXbg
set_option linter.unusedSimpArgs false
set_option linter.unusedVariables false
set_option maxRecDepth 100000
set_option maxHeartbeats 10000000
section
namespace Go.Proofs.YtgdoiokalfhjoaaGreatDoor
open Go.Ab
theorem b8i(L:List Int)(hL:y8 L):gK (nK L):=by
 obtain⟨h1,h2,h3,h4,h5⟩:=b8k L hL
 exact⟨⟨h1,h2,h3⟩,by rw[h4];decide,by omega⟩
theorem gK.r{c:Code}(h:gK c):vF c:=by have:=h.mY [];exact this
def i8s(l:List Int):List (List AV):=l.map fun z=>[.v (.int .i8 z)]
theorem b2X(l:List Int):(i8s l).length=l.length:=by simp [i8s]
theorem c6b(l:List Int):(∀e∈i8s l,e.length=1)=True:=by simp [i8s]
theorem b4L(l:List Int):((i8s l).all fun e=>e.all AV.plain)=true:=by simp [i8s,AV.plain]
theorem c1C(l:List Int)(z:Nat)(h:z<l.length):(i8s l)[z]?=some [.v (.int .i8 (l.getD z 0))]:=by simp [i8s,h,List.getD_eq_getElem?_getD]
def a0X(l:List Int)(i:Nat):List Int:=(l.take i).map fun z=>Int.tmod z 16
theorem b5n(l:List Int)(i:Nat)(h:i≤l.length):(a0X l i).length=i:=by simp [a0X];omega
theorem b5o(l:List Int)(i:Nat)(h:i<l.length):a0X l (i+1)=a0X l i++[Int.tmod (l.getD i 0) 16]:=by
 unfold a0X;rw[w4 l i 0 h,List.map_append];rfl
theorem b7i(c:Code)(hc:gK c)(o:Option (List Int))(ho:∀l,o=some l→cS c l):∃D l e,vF D∧l.length≤1000∧doneAV c o=Code.av D++[.a6 false (b7 l),.v (.int .i64 e)]:=by
 cases o with
 |none=>exact⟨yD,[],170,⟨by decide,by decide,by decide,fun x hx=>by simp [yD]at hx⟩,by decide,rfl⟩
 |some l=>
  have h1:=(ho l rfl).len hc.s.ok
  have h2:=hc.s.r
  exact⟨m9 c l,l,0,hc.mY l,by omega,rfl⟩
theorem c48{c:Code}{v:Int}{n:Nat}:∀l,runF c v n []=some l→cS c l:=fun l h=>(b3z (cS.nil c) h).2.1
def oX:=ZZ.mk (Zq I8.d @yV)
def gL:=ZZ.mk (Zq oX.d (Zq @b2X (Zq @c1C (Zq @c6b (Zq @b4L (Zq @H3 (Zq @fH (Zq @j8 (Zq @y9 (Zq @dH (Zq @dA @U8)))))))))))
theorem a9V(L:List Int)(hL:y8 L)(v:Int)(hv: -9223372036854775808≤v∧v<9223372036854775808)(l:List Int)(hl:∀z∈l, -128≤z∧z<128)(hll:l.length≤9223372036854775807):
  c9 Tryz.prog 10 [.agg [.a6 false (fW L)],.v (.int .i64 v),.a6 false (i8s l)] (fun _=> .v (.bool true)) (fun _=>[]):=by
 have CE:=qE
 have CM:=b27 L hL
 have hT:=b8i L hL
 generalize nK L=c at*
 have hn:=hT.s.ok.n
 have hr:=hT.s.ok.r
 have hsl:=hT.s.l
 have J1:=fun n=>a5M c n hT
 have J2:=fun n=>b5e c n hT
 have hdn:=fun n=>b7i c hT (runF c n (c.regs.toNat+1) []) c48
 simp only[Code.av]at CM J1 J2
 refine Zf Tryz.func10 Tryz.ntmps10 ?_
 repeat' (first|refine Za ?_|(with_reducible constructor<;>first|intro N hN mk hmk|intro N hN|intro h)|refine Zc CE ?_|refine Zc CM ?_|refine Zt oX.d ?_|fail)
 refine c8 (fun k=>⟨[.Z,.v (.int .i64 v),.a6 false (i8s l),.Z,.Z,.Z,.Z,.v (.bool true),.ptr 0 0 0,.v (.int .i64 k),.Z,.Z,.Z,.Z,.Z,.Z,.Z,.Z,.Z,.Z,.Z,.Z,.Z,.Z,.Z,.Z,.Z,.Z,.Z,.Z,.Z,.Z,.Z,.Z,.Z,.Z,.Z,.Z,.Z,.Z,.Z,.Z,.Z,.Z,.Z,.Z,.Z,.Z,.Z,.Z,.Z,.Z,.Z,.Z,.Z,.Z,.Z,.Z,.Z,.Z,.Z,.Z,.Z,.Z,.Z,.Z,.Z,.Z,.Z,.Z,.Z,.Z,.Z,.Z,.Z,.Z,.Z,.Z,.Z,.Z,.Z,.Z,.Z,.Z,.Z,.Z,.Z,.Z,.Z,.Z,.Z,.Z,.Z,.Z,.Z,.Z,.Z,.Z,.Z,.Z,.Z,.Z,.Z,.Z,.Z,.Z,.Z,.Z,.Z,.Z,.Z,.Z,.Z,.Z],[(0,.live ⟨8,[[.v (.int .i64 c.group),.v (.int .i64 c.sub),.v (.int .i64 c.regs),.v (.int .i64 c.u7),.v (.int .i64 c.params),.a6 false (w6 c.c6),.a6 false (Proofs.YtgdoiokalfhjoaaGreatDoor.loops c.loops),.a6 false (p7 c.b)]],0⟩)],1⟩) 2 (Zw [1,2,7,8,9] [64] oX.d ?_) ?_
 ·rfl
 ·intro k hk
  by_cases hlt:k<2
  ·have key:∀n:Int,(n=if k=1 then a4J .i64 v 7 else v)→True:=fun _ _=>trivial
   by_cases hk1:k=1
   all_goals
    first|obtain⟨n,hnn⟩:∃n,n=(if k=1 then a4J .i64 v 7 else v):=⟨_,rfl⟩
    have hnn2:=hnn
    first|rw[if_pos hk1]at hnn2|rw[if_neg hk1]at hnn2
    have J1:=J1 n
    have J2:=J2 n
    obtain⟨D,l',e,hDr,hl',he⟩:=hdn n
    rw[he]at J1 J2
    have K1:=a9G l' l' (by omega)
    rw[show b8X l' l'=true from decide_eq_true rfl]at K1
    have K2:=rY D D hDr.a hDr.a hDr.l hDr.l hDr.b hDr.b hDr.i hDr.i
    rw[decide_eq_true (rfl:D=D)]at K2
    simp only[Code.av,List.cons_append,List.nil_append]at J1 J2 K2
    clear he
   ·
    repeat' (first|refine Za ?_|(with_reducible constructor<;>first|intro N hN mk hmk|intro N hN|intro h)|refine Zc J1 ?_|refine Zc J2 ?_|refine Zc K1 ?_|refine Zc K2 ?_|refine Zt (Zq oX.d hnn2.symm) ?_|fail)
    all_goals first
     |exact absurd trivial (by assumption)
     |(
       refine Zw [1,2,7,8,9] [0] (Zq oX.d hnn2.symm) ?_
       rfl)
   ·subst hnn2
    repeat' (first|refine Za ?_|(with_reducible constructor<;>first|intro N hN mk hmk|intro N hN|intro h)|refine Zc J1 ?_|refine Zc J2 ?_|refine Zc K1 ?_|refine Zc K2 ?_|refine Zt oX.d ?_|fail)
    all_goals first
     |exact absurd trivial (by assumption)
     |(
       refine Zw [1,2,7,8,9] [0] oX.d ?_
       rfl)
  ·obtain rfl:k=2:=by omega
   clear hdn J1 J2
   repeat' (first|refine Za ?_|(with_reducible constructor<;>first|intro N hN mk hmk|intro N hN|intro h)|refine Zt oX.d ?_|fail)
   obtain⟨N,hN⟩:∃N,N=min l.length 10:=⟨_,rfl⟩
   refine c8 (fun i=>⟨[.Z,.v (.int .i64 v),.a6 false (i8s l),.Z,.Z,.Z,.Z,.v (.bool true),.ptr 0 0 0,.Z,.Z,.Z,.Z,.ptr 1 0 0,.v (.int .i64 i),.Z,.Z,.Z,.Z,.Z,.Z,.Z,.Z,.Z,.Z,.Z,.Z,.Z,.Z,.Z,.Z,.Z,.Z,.Z,.Z,.Z,.Z,.Z,.Z,.Z,.Z,.Z,.Z,.Z,.Z,.Z,.Z,.Z,.Z,.Z,.Z,.Z,.Z,.Z,.Z,.Z,.Z,.Z,.Z,.Z,.Z,.Z,.Z,.Z,.Z,.Z,.Z,.Z,.Z,.Z,.Z,.Z,.Z,.Z,.Z,.Z,.Z,.Z,.Z,.Z,.Z,.Z,.Z,.Z,.Z,.Z,.Z,.Z,.Z,.Z,.Z,.Z,.Z,.Z,.Z,.Z,.Z,.Z,.Z,.Z,.Z,.Z,.Z,.Z,.Z,.Z,.Z,.Z,.Z,.Z,.Z,.Z,.Z,.Z],(if i=0 then[(0,.live ⟨8,[[.v (.int .i64 c.group),.v (.int .i64 c.sub),.v (.int .i64 c.regs),.v (.int .i64 c.u7),.v (.int .i64 c.params),.a6 false (w6 c.c6),.a6 false (Proofs.YtgdoiokalfhjoaaGreatDoor.loops c.loops),.a6 false (p7 c.b)]],0⟩),(1,.live ⟨1,[[.a6 true []]],0⟩)]else[(0,.live ⟨8,[[.v (.int .i64 c.group),.v (.int .i64 c.sub),.v (.int .i64 c.regs),.v (.int .i64 c.u7),.v (.int .i64 c.params),.a6 false (w6 c.c6),.a6 false (Proofs.YtgdoiokalfhjoaaGreatDoor.loops c.loops),.a6 false (p7 c.b)]],0⟩),(1,.live ⟨1,[[.own 2 0 (a0X l i).length]],0⟩),(2,.live ⟨1,b7 (a0X l i),0⟩)]),(if i=0 then 2 else 3)⟩) N (Zw [1,2,7,8,13,14] [0,25] oX.d ?_) ?_
   ·rfl
   ·intro i hi
    have hi10:i≤10:=by omega
    have hrl:=b5n l i (by omega)
    by_cases hlt:i<N
    ·have hil:i<l.length:=by omega
     have hrs:=b5o l i hil
     have hz:=hl _ (F6 hil)
     obtain⟨z,hzz⟩:∃z,l.getD i 0=z:=⟨_,rfl⟩
     rw[hzz]at hrs hz
     have f1:((i:Int)<(l.length:Int))=True:=eq_true (by omega)
     have f2:((i:Int)<10)=True:=eq_true (by omega)
     have wz:IntKind.i64.wrap z=z:=by rw[qP,qQ (by omega) (by omega)]
     rw[if_neg (show¬i+1=0 by omega),if_neg (show¬i+1=0 by omega)]
     by_cases hi0:i=0
     ·subst hi0
      rw[if_pos rfl,if_pos rfl]
      repeat' (first|refine Zl ?_|(with_reducible constructor<;>first|intro N hN mk hmk|intro N hN|intro h)|refine Zt (Zq gL.d (Zq f1 (Zq f2 (Zq hzz wz)))) ?_|fail)
      rw[hrs]
      refine Zw [1,2,7,8,13,14] [0,1,138] (Zq gL.d (Zq f1 (Zq f2 (Zq hzz wz)))) ?_
      rfl
     ·rw[if_neg hi0,if_neg hi0]
      repeat' (first|refine Zl ?_|(with_reducible constructor<;>first|intro N hN mk hmk|intro N hN|intro h)|refine Zt (Zq gL.d (Zq f1 (Zq f2 (Zq hzz wz)))) ?_|fail)
      rw[hrs]
      refine Zw [1,2,7,8,13,14] [0,1,139] (Zq gL.d (Zq f1 (Zq f2 (Zq hzz wz)))) ?_
      rw[List.length_append];rfl
    ·obtain rfl:i=N:=by omega
     have nf1:¬((i:Int)<(l.length:Int)∧(i:Int)<10):=by omega
     have nf:((i:Int)<(l.length:Int))→((i:Int)<10)=False:=fun h=>eq_false fun h2=>nf1 ⟨h,h2⟩
     have ho:=hT.s.ok
     have hSm:=b3C ho (IntKind.u16.wrap v)
     have M1:=a9H c (IntKind.u16.wrap v) ho
     obtain⟨S,hS⟩:∃S,S=someF c (IntKind.u16.wrap v):=⟨_,rfl⟩
     rw[←hS]at hSm M1
     have hSl:=hSm.len ho
     have M2:=gV c S (by omega) hT.a hT.l (fun b hb=>by have:=hsl b hb;omega) (by omega) (by omega) (fun q hq=>(hSm.r q hq).1)
     have hDR:=hT.mY S
     have hck:=dL (d:=m9 c S) hSm
     rw[if_pos rfl]at hck
     obtain⟨D,hD⟩:∃D,m9 c S=D:=⟨_,rfl⟩
     rw[hD]at M2 hDR hck
     have P1:=Y9 c D (a0X l i) hT hDR (by omega)
     have P2:=a9D c D (a0X l i) hT hDR (by omega)
     have P3:=Y9 c D S hT hDR (by omega)
     rw[hck]at P3
     simp only[Code.av]at M1 M2 P1 P2 P3
     by_cases hi0:i=0
     ·subst hi0
      rw[if_pos rfl,if_pos rfl]
      rw[show b7 (a0X l 0)=[]from rfl]at P1 P2
      repeat' (first|refine Zl ?_|(with_reducible constructor<;>first|intro N hN mk hmk|intro N hN|intro h)|refine Zc M1 ?_|refine Zc M2 ?_|(refine cX P1 rfl ?_ rfl ?_;(next=>(simp (disch:=omega) only[gL.d,v8,Nat.reduceBEq,AV.plain,Nat.reduceAdd,Nat.reduceLeDiff,Nat.reduceLT,↓reduceIte,sF]<;>first|done|rfl)))|(refine bX P1 rfl ?_ rfl ?_;(next=>(simp (disch:=omega) only[gL.d,v8,Nat.reduceBEq,AV.plain,Nat.reduceAdd,Nat.reduceLeDiff,Nat.reduceLT,↓reduceIte,sF]<;>first|done|rfl)))|(refine cX P2 rfl ?_ rfl ?_;(next=>(simp (disch:=omega) only[gL.d,v8,Nat.reduceBEq,AV.plain,Nat.reduceAdd,Nat.reduceLeDiff,Nat.reduceLT,↓reduceIte,sF]<;>first|done|rfl)))|(refine bX P2 rfl ?_ rfl ?_;(next=>(simp (disch:=omega) only[gL.d,v8,Nat.reduceBEq,AV.plain,Nat.reduceAdd,Nat.reduceLeDiff,Nat.reduceLT,↓reduceIte,sF]<;>first|done|rfl)))|refine Zc P3 ?_|refine Zt gL.d ?_|fail)
      all_goals first|omega|exact absurd trivial (by assumption)|rfl
     ·rw[if_neg hi0,if_neg hi0]
      repeat' (first|refine Zl ?_|(with_reducible constructor<;>first|intro N hN mk hmk|intro N hN|intro h)|refine Zc M1 ?_|refine Zc M2 ?_|(refine cX P1 rfl ?_ rfl ?_;(next=>(simp (disch:=omega) only[gL.d,v8,Nat.reduceBEq,AV.plain,Nat.reduceAdd,Nat.reduceLeDiff,Nat.reduceLT,↓reduceIte,sF]<;>first|done|rfl)))|(refine bX P1 rfl ?_ rfl ?_;(next=>(simp (disch:=omega) only[gL.d,v8,Nat.reduceBEq,AV.plain,Nat.reduceAdd,Nat.reduceLeDiff,Nat.reduceLT,↓reduceIte,sF]<;>first|done|rfl)))|(refine cX P2 rfl ?_ rfl ?_;(next=>(simp (disch:=omega) only[gL.d,v8,Nat.reduceBEq,AV.plain,Nat.reduceAdd,Nat.reduceLeDiff,Nat.reduceLT,↓reduceIte,sF]<;>first|done|rfl)))|(refine bX P2 rfl ?_ rfl ?_;(next=>(simp (disch:=omega) only[gL.d,v8,Nat.reduceBEq,AV.plain,Nat.reduceAdd,Nat.reduceLeDiff,Nat.reduceLT,↓reduceIte,sF]<;>first|done|rfl)))|refine Zc P3 ?_|refine Zt gL.d ?_|fail)
      all_goals first|omega|exact absurd trivial (by assumption)|rfl
def S24:Sh:= .row [.slice (.int .u8)]
def S25:Sh:= .int .u16
def S3:Sh:= .int .i64
def c4q:Sh:= .slice (.int .i8)
theorem an{a b:Bool}(h:a=true)(g:b=true):(a&&b)=true:=by rw[h,g];rfl
theorem a4e:Tryz.pinned.checked.prog.looks []=true:=by kernel_rfl
theorem b48{es:List (List AV)}(he:∀e∈es,Sh.ok (.int .u8) e):∃L:List Int,es=fW L∧y8 L:=by
 induction es with
 |nil=>exact⟨[],rfl,fun z hz=>by simp at hz⟩
 |cons e es ih=>
  obtain⟨L,rfl,hL⟩:=ih fun x hx=>he x (List.mem_cons_of_mem _ hx)
  obtain⟨a,rfl,wa⟩:=he e (List.mem_cons_self ..)
  refine⟨a::L,rfl,fun z hz=>?_⟩
  cases z with
  |zero=>exact c6F wa
  |succ z=>exact hL z (by simpa using hz)
theorem b8D{cs:List AV}(h:S24.ok cs):∃L:List Int,cs=[.a6 false (fW L)]∧y8 L:=by
 obtain⟨_,_,rfl,⟨es,rfl,_,he⟩,rfl⟩:=h
 obtain⟨L,rfl,hL⟩:=b48 he
 exact⟨L,rfl,hL⟩
theorem c4Z{cs:List AV}(h:S25.ok cs):∃n:Int,cs=[.v (.int .u16 n)]∧(0≤n∧n<65536):=by
 obtain⟨n,rfl,w⟩:=h
 exact⟨n,rfl,c5d w⟩
theorem c6l{cs:List AV}(h:S3.ok cs):∃n:Int,cs=[.v (.int .i64 n)]∧(-9223372036854775808≤n∧n<9223372036854775808):=by
 obtain⟨n,rfl,w⟩:=h
 exact⟨n,rfl,c4P w⟩
theorem c6a{a:Int}(w:(Lit.int .i8 a).wf=true): -128≤a∧a<128:=by
 have: -128≤a∧a≤127:=by simpa[Lit.wf,IntKind.min,IntKind.max,IntKind.signed,IntKind.bits]using w
 omega
theorem c2c{cs:List AV}(h:c4q.ok cs):∃l:List Int,cs=[.a6 false (i8s l)]∧(∀z∈l, -128≤z∧z<128)∧l.length≤9223372036854775807:=by
 obtain⟨es,rfl,hz,he⟩:=h
 have:∃l:List Int,es=i8s l∧∀z∈l, -128≤z∧z<128:=by
  clear hz
  induction es with
  |nil=>exact⟨[],rfl,fun z hz=>by simp at hz⟩
  |cons e es ih=>
   obtain⟨l,rfl,hl⟩:=ih fun x hx=>he x (List.mem_cons_of_mem _ hx)
   obtain⟨a,rfl,wa⟩:=he e (List.mem_cons_self ..)
   refine⟨a::l,rfl,fun z hz=>?_⟩
   rcases List.mem_cons.1 hz with rfl|hz
   ·exact c6a wa
   ·exact hl z hz
 obtain⟨l,rfl,hl⟩:=this
 exact⟨l,rfl,hl,by simpa[b2X,maxLen]using hz⟩
theorem a8q{H:Type}{enc:TypeId×Value→H}{P:Program}{W:World}:∀{ts:List TypeId} {vs:List Value} {ds:List (DataW H)} {ps:List MemPlace},DataW.TrodAll enc P W 0 (fun _=>true) true ts vs ds ps→ds.length=ts.length:=by
 intro ts
 induction ts with
 |nil=>intro vs ds ps h;obtain⟨_,rfl,_⟩:=Go.ChangeShapes.trodAll_nil h;rfl
 |cons t ts ih=>intro vs ds ps h;obtain⟨v,vs',d,ds',p,q,rfl,rfl,rfl,_,h2⟩:=Go.ChangeShapes.trodAll_cons h;simp [ih h2]
end Go.Proofs.YtgdoiokalfhjoaaGreatDoor
end
