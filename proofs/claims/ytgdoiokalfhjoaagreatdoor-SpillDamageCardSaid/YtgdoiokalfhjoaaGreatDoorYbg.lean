/- Own work (by an AI agent; no person has read it): part of a proof of the seat YtgdoiokalfhjoaaGreatDoor. -/
import Derived.Test.YtgdoiokalfhjoaaGreatDoorYx
import Derived.Test.YtgdoiokalfhjoaaGreatDoorYbc
import Derived.Test.YtgdoiokalfhjoaaGreatDoorYbf
set_option linter.unusedSimpArgs false
set_option linter.unusedVariables false
set_option maxRecDepth 100000
set_option maxHeartbeats 10000000
section
namespace Go.Proofs.YtgdoiokalfhjoaaGreatDoor
open Go.Ab
theorem c3U(L:List Int)(hL:y9 L):jJ (lL L):=by
 obtain⟨h1,h2,h3,h4,h5⟩:=b7l L hL
 exact⟨⟨h1,h2,h3⟩,by rw[h4];decide,by omega⟩
theorem jJ.r{c:Code}(h:jJ c):tN c:=by have:=h.a4E [];exact this
def S24:Sh:= .row [.slice (.int .u8)]
def S25:Sh:= .int .u16
theorem an{a b:Bool}(h:a=true)(g:b=true):(a&&b)=true:=by rw[h,g];rfl
theorem b3V:Tryz.pinned.checked.prog.looks []=true:=by kernel_rfl
theorem b34{es:List (List AV)}(he:∀e∈es,Sh.ok (.int .u8) e):∃L:List Int,es=eR L∧y9 L:=by
 induction es with
 |nil=>exact⟨[],rfl,fun z hz=>by simp at hz⟩
 |cons e es ih=>
  obtain⟨L,rfl,hL⟩:=ih fun x hx=>he x (List.mem_cons_of_mem _ hx)
  obtain⟨a,rfl,wa⟩:=he e (List.mem_cons_self ..)
  refine⟨a::L,rfl,fun z hz=>?_⟩
  cases z with
  |zero=>exact b2F wa
  |succ z=>exact hL z (by simpa using hz)
theorem c31{cs:List AV}(h:S24.ok cs):∃L:List Int,cs=[.a8 false (eR L)]∧y9 L:=by
 obtain⟨_,_,rfl,⟨es,rfl,_,he⟩,rfl⟩:=h
 obtain⟨L,rfl,hL⟩:=b34 he
 exact⟨L,rfl,hL⟩
theorem c32{cs:List AV}(h:S25.ok cs):∃n:Int,cs=[.v (.int .u16 n)]∧(0≤n∧n<65536):=by
 obtain⟨n,rfl,w⟩:=h
 exact⟨n,rfl,c4h w⟩
theorem b5O{H:Type}{enc:TypeId×Value→H}{P:Program}{W:World}:∀{ts:List TypeId} {vs:List Value} {ds:List (DataW H)} {ps:List MemPlace},DataW.TrodAll enc P W 0 (fun _=>true) true ts vs ds ps→ds.length=ts.length:=by
 intro ts
 induction ts with
 |nil=>intro vs ds ps h;obtain⟨_,rfl,_⟩:=Go.ChangeShapes.trodAll_nil h;rfl
 |cons t ts ih=>intro vs ds ps h;obtain⟨v,vs',d,ds',p,q,rfl,rfl,rfl,_,h2⟩:=Go.ChangeShapes.trodAll_cons h;simp [ih h2]
def c3u:Sh:= .row (List.replicate 3 (.int .u8))
theorem c1f{cs:List AV}(h:c3u.ok cs):∃a b c:Int,cs=[.v (.int .u8 a),.v (.int .u8 b),.v (.int .u8 c)]∧(0≤a∧a<256)∧(0≤b∧b<256)∧(0≤c∧c<256):=by
 obtain⟨_,_,rfl,⟨a,rfl,wa⟩,_,_,rfl,⟨b,rfl,wb⟩,_,_,rfl,⟨c,rfl,wc⟩,rfl⟩:=h
 exact⟨a,b,c,rfl,b2F wa,b2F wb,b2F wc⟩
end Go.Proofs.YtgdoiokalfhjoaaGreatDoor
end
