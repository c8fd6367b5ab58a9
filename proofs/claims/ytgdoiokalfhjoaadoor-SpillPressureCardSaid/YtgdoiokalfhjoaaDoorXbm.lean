/- Own work (by an AI agent; no person has read it): part of a proof of the seat YtgdoiokalfhjoaaDoor. -/
import Derived.Test.YtgdoiokalfhjoaaDoorXba
import Derived.Test.YtgdoiokalfhjoaaDoorXbj
import Derived.Test.YtgdoiokalfhjoaaDoorXbl
set_option linter.unusedSimpArgs false
set_option linter.unusedVariables false
set_option maxRecDepth 100000
set_option maxHeartbeats 10000000
section
namespace Go.Proofs.YtgdoiokalfhjoaaDoor
open Go.Ab
theorem b5X(L:List Int)(hL:B5 L):iR (nH L):=by
 obtain⟨h1,h2,h3,h4,h5⟩:=b1B L hL
 exact⟨⟨h1,h2,h3⟩,by rw[h4];decide,by omega⟩
theorem iR.r{c:Code}(h:iR c):wN c:=by have:=h.rT [];exact this
theorem a3d(c:Code)(hc:iR c)(o:Option (List Int))(ho:∀l,o=some l→bU c l):∃D l e,wN D∧l.length≤1000∧doneAV c o=Code.av D++[.c5 false (m8 l),.v (.int .i64 e)]:=by
 cases o with
 |none=>exact⟨mN,[],170,⟨by decide,by decide,by decide,fun x hx=>by simp [mN]at hx⟩,by decide,rfl⟩
 |some l=>
  have h1:=(ho l rfl).len hc.s.ok
  have h2:=hc.s.r
  exact⟨p9 c l,l,0,hc.rT l,by omega,rfl⟩
theorem b15{c:Code}{v:Int}{n:Nat}:∀l,runF c v n []=some l→bU c l:=fun l h=>(kI (bU.nil c) h).2.1
def S24:Sh:= .row [.slice (.int .u8)]
theorem an{a b:Bool}(h:a=true)(g:b=true):(a&&b)=true:=by rw[h,g];rfl
theorem a8M:Tryd.pinned.checked.prog.looks []=false:=by kernel_rfl
theorem a8T{es:List (List AV)}(he:∀e∈es,Sh.ok (.int .u8) e):∃L:List Int,es=fF L∧B5 L:=by
 induction es with
 |nil=>exact⟨[],rfl,fun z hz=>by simp at hz⟩
 |cons e es ih=>
  obtain⟨L,rfl,hL⟩:=ih fun x hx=>he x (List.mem_cons_of_mem _ hx)
  obtain⟨a,rfl,wa⟩:=he e (List.mem_cons_self ..)
  refine⟨a::L,rfl,fun z hz=>?_⟩
  cases z with
  |zero=>exact b5w wa
  |succ z=>exact hL z (by simpa using hz)
theorem b52{cs:List AV}(h:S24.ok cs):∃L:List Int,cs=[.c5 false (fF L)]∧B5 L:=by
 obtain⟨_,_,rfl,⟨es,rfl,_,he⟩,rfl⟩:=h
 obtain⟨L,rfl,hL⟩:=a8T he
 exact⟨L,rfl,hL⟩
def S5:Sh:= .int .u8
theorem b7d{cs:List AV}(h:S5.ok cs):∃n:Int,cs=[.v (.int .u8 n)]∧(0≤n∧n<256):=by
 obtain⟨n,rfl,w⟩:=h
 exact⟨n,rfl,b5w w⟩
theorem b0a{H:Type}{enc:TypeId×Value→H}{P:Program}{W:World}:∀{ts:List TypeId} {vs:List Value} {ds:List (DataW H)} {ps:List MemPlace},DataW.TrodAll enc P W 0 (fun _=>true) true ts vs ds ps→ds.length=ts.length:=by
 intro ts
 induction ts with
 |nil=>intro vs ds ps h;obtain⟨_,rfl,_⟩:=Go.ChangeShapes.trodAll_nil h;rfl
 |cons t ts ih=>intro vs ds ps h;obtain⟨v,vs',d,ds',p,q,rfl,rfl,rfl,_,h2⟩:=Go.ChangeShapes.trodAll_cons h;simp [ih h2]
end Go.Proofs.YtgdoiokalfhjoaaDoor
end
