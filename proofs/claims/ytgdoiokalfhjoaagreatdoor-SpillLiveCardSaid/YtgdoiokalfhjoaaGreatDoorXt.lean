/- Own work (by an AI agent; no person has read it): part of a proof of the seat YtgdoiokalfhjoaaGreatDoor. -/
import Derived.Test.YtgdoiokalfhjoaaGreatDoorXr
set_option linter.unusedSimpArgs false
set_option linter.unusedVariables false
section
namespace Go.Proofs.YtgdoiokalfhjoaaGreatDoor
open Go.Ab
def nD(l:List Int)(a:List Int):List Int:=a.filter fun r=>decide (r∉l)
theorem uW{l a:List Int}{r:Int}:r∈nD l a↔r∈a∧r∉l:=by simp [nD]
theorem cG(l:List Int)(L:List (List Int))(b:Nat):(L.map (nD l)).getD b []=nD l (L.getD b []):=by
 rw[List.getD_eq_getElem?_getD,List.getD_eq_getElem?_getD,List.getElem?_map]
 cases L[b]?<;>rfl
theorem bP(f:Nat→List Int)(n b:Nat):((List.range n).map f).getD b []=if b<n then f b else[]:=by
 rw[List.getD_eq_getElem?_getD,List.getElem?_map]
 by_cases h:b<n
 ·rw[List.getElem?_range h,if_pos h];rfl
 ·rw[List.getElem?_eq_none (by simp;omega),if_neg h];rfl
def iW(l:List Int)(I:List (List Int)):List (List Int):=I.map (nD l)
noncomputable def outS (c:Code) (l:List Int) (I:List (List Int)):List (List Int):=haveI:=fun b:Nat=>Classical.propDecidable (cR c.b (b:Int))
 (List.range c.b.length).map fun(b:Nat)=>if cR c.b (b:Int)then O1 (yG l c.regs (w7 c.b b).t) (iW l I)else[]
theorem b3p{c:Code}{l:List Int}{I:List (List Int)}{b:Nat}(hb:b<c.b.length)(hr:cR c.b (b:Int)):(outS c l I).getD b []=O1 (yG l c.regs (w7 c.b b).t) (iW l I):=by
 unfold outS;rw[bP,if_pos hb,if_pos hr]
theorem b3q{c:Code}{l:List Int}{I:List (List Int)}{b:Nat}{r:Int}(h:r∈(outS c l I).getD b []):b<c.b.length∧cR c.b (b:Int)∧r∈O1 (yG l c.regs (w7 c.b b).t) (iW l I):=by
 unfold outS at h
 rw[bP]at h
 split at h
 ·rename_i hb
  split at h
  ·rename_i hr;exact⟨hb,hr,h⟩
  ·simp at h
 ·simp at h
theorem lG{c:Code}{l:List Int}(hc:u9 c){I O:List (List Int)}(hL:Lst c I O){b:Nat}(hb:b<c.b.length){r:Int}(h:r∈O1 (yG l c.regs (w7 c.b b).t) (iW l I)):
  (r∈O1 (w7 c.b b).t I∧r∉l∧0≤r∧r<c.regs)∨∃k:Nat,k<(o4 l (j6 (w7 c.b b).t)).length∧r=c.regs+k:=by
 rcases Z7.1 h with⟨⟨to,h1,h2⟩,h3⟩|h1
 ·rw[iW,cG,uW]at h2
  have:=(hL.shp.i to.toNat).1 r h2.1
  exact .inl ⟨Z7.2 (.inl ⟨⟨to,h1,h2.1⟩,h3⟩),h2.2,this⟩
 ·rcases zT.1 h1 with⟨h2,h3⟩|⟨q,h2,h3,h4⟩
  ·exact .inl ⟨Z7.2 (.inr h2),h3,(hc.rbT hb).2 r h2⟩
  ·obtain⟨k,h5,h6⟩:=b3E (regs:=c.regs) (fL.2 ⟨h2,h3⟩)
   exact .inr ⟨k,h5,h4.trans h6⟩
theorem a5g{c:Code}{l:List Int}(hc:u9 c)(hl:∀q∈l,0≤q∧q<c.regs){I O:List (List Int)}(hL:Lst c I O){d:Code}(hd:d.b=c.b.map (E5 l c.regs))(hdr:d.regs=c.regs+3):Lst d (iW l I) (outS c l I):=by
 have hdl:d.b.length=c.b.length:=by rw[hd];simp
 have hrch:∀b:Int,cR d.b b↔cR c.b b:=by rw[hd];exact c63 hc
 have hblk:∀{b:Nat},b<c.b.length→w7 d.b b=E5 l c.regs (w7 c.b b):=by rw[hd];exact c4I
 have hkl:∀t,(o4 l (j6 t)).length≤2:=fun t=>Nat.le_trans (U4 _ _) (X7 t)
 have hi:∀b r,r∈(iW l I).getD b []→cR c.b (b:Int)∧b<c.b.length∧∀I' O',clo d I' O'→r∈I'.getD b []:=by
  intro b r h
  rw[iW,cG,uW]at h
  obtain⟨h1,h2,h3⟩:=hL.snd.i b r h.1
  refine⟨h1,h2,fun I' O' mE=>?_⟩
  have hin:=(hL.shp.i b).1 r h.1
  let inr:List Int→List Int:=fun a=>a.filter (fun r=>decide (0≤r∧r<c.regs))++l
  have hinr:∀{a:List Int} {r:Int},r∈inr a↔(r∈a∧0≤r∧r<c.regs)∨r∈l:=by
   intro a r;simp [inr]
  have hrb:∀a,RB c.regs (inr a):=fun a x hx=>by
   rcases hinr.1 hx with h|h
   ·exact h.2
   ·exact hl x h
  have key:clo c ((List.range c.b.length).map fun b=>inr (I'.getD b [])) ((List.range c.b.length).map fun b=>inr (O'.getD b [])):=by
   intro b hb hr
   obtain⟨c1,c2⟩:=mE b (by omega) ((hrch _).2 hr)
   rw[hblk hb]at c1 c2
   rw[bP,bP,if_pos hb,if_pos hb]
   refine⟨fun r h=>?_,fun r h=>?_⟩
   ·by_cases hrl:r∈l
    ·exact hinr.2 (.inr hrl)
    ·refine hinr.2 (.inl ?_)
     rcases Z7.1 h with⟨⟨to,h1,h2⟩,h3⟩|h1
     ·rw[bP]at h2
      split at h2
      ·rcases hinr.1 h2 with h2|h2
       ·refine⟨c1 r (Z7.2 (.inl ⟨⟨to,h1,h2.1⟩,h3⟩)),h2.2⟩
       ·exact absurd h2 hrl
      ·simp at h2
     ·exact⟨c1 r (Z7.2 (.inr (zT.2 (.inl ⟨h1,hrl⟩)))),(hc.rbT hb).2 r h1⟩
   ·by_cases hrl:r∈l
    ·exact hinr.2 (.inr hrl)
    ·have hb2:=a8s (hrb (O'.getD b [])) (hc.rb hb) 0 r h
     refine hinr.2 (.inl ⟨c2 r ?_,hb2⟩)
     rw[atS]
     unfold kV at h
     rw[List.drop_zero]at h
     refine up2 (S:=inr (O'.getD b [])) (fun r h1 h2 h3 h4=>zR.2 ⟨?_,fun k _=>by omega⟩) r h hrl hb2.1 hb2.2
     rcases hinr.1 h1 with h5|h5
     ·exact h5.1
     ·exact absurd h5 h2
  have:=h3 _ _ key
  rw[bP,if_pos h2]at this
  rcases hinr.1 this with h4|h4
  ·exact h4.1
  ·exact absurd h4 h.2
 refine⟨⟨by rw[hdl];unfold iW;rw[List.length_map];exact hL.shp.li,by rw[hdl];unfold outS;simp,fun z=>?_,fun z=>?_⟩,⟨fun b r h=>?_,fun b r h=>?_⟩,fun b hb hr=>?_⟩
 ·rw[iW,cG]
  have h:=hL.shp.i z
  refine⟨fun x hx=>?_,h.2.sublist List.filter_sublist⟩
  have:=h.1 x (uW.1 hx).1
  omega
 ·refine⟨fun x hx=>?_,?_⟩
  ·obtain⟨h1,h2,h3⟩:=b3q hx
   rcases lG hc hL h1 h3 with⟨_,_,h4⟩|⟨k,h4,h5⟩
   ·omega
   ·have:=hkl (w7 c.b z).t
    have:=hc.r
    omega
  ·unfold outS
   rw[bP]
   split
   ·split
    ·exact bT
    ·exact I5.nil
   ·exact I5.nil
 ·obtain⟨h1,h2,h3⟩:=hi b r h
  exact⟨(hrch _).2 h1,by omega,h3⟩
 ·obtain⟨h1,h2,h3⟩:=b3q h
  refine⟨(hrch _).2 h2,by omega,fun I' O' mE=>(mE b (by omega) ((hrch _).2 h2)).1 r ?_⟩
  rw[hblk h1]
  exact lK (fun k x hx=>(hi k x hx).2.2 I' O' mE) r h3
 ·rw[hdl]at hb
  have hr:=(hrch _).1 hr
  rw[hblk hb,b3p hb hr,atS]
  refine⟨fun r h=>h,fun r h=>?_⟩
  have hdn:=c2Q (S:=O.getD b []) (S':=(H6 l (o4 l (j6 (w7 c.b b).t)) c.regs).foldr x6 (O1 (yG l c.regs (w7 c.b b).t) (iW l I))) (regs:=c.regs) (l:=l) (L:=(w7 c.b b).i)
   (fun x hx=>(hc.rb hb x hx).2) (fun r h=>?_) r h
  ·have:=(hL.clo b hb hr).2 r (by unfold kV;rw[List.drop_zero];exact hdn.1)
   rw[iW,cG,uW]
   exact⟨this,hdn.2.1⟩
  ·obtain⟨h1,h2⟩:=zR.1 h
   rcases lG hc hL hb h1 with⟨h3,h4⟩|⟨k,h3,h4⟩
   ·exact⟨(hL.clo b hb hr).1 r h3,h4⟩
   ·exact absurd h4 (h2 k h3)
theorem a0R{c:Code}{l:List Int}(hc:u9 c)(hl:∀q∈l,0≤q∧q<c.regs)(hne:l≠[]):liveF (m9 c l)=(iW l (liveF c).1,outS c l (liveF c).1):=by
 refine uV (a5g hc hl (eP hc) ?_ ?_)
 ·unfold m9;rw[if_neg hne]
 ·unfold m9;rw[if_neg hne]
end Go.Proofs.YtgdoiokalfhjoaaGreatDoor
end
