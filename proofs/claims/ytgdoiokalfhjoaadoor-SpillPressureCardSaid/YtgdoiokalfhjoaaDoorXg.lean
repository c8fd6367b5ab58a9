/- Own work (by an AI agent; no person has read it): part of a proof of the seat YtgdoiokalfhjoaaDoor. -/
import Derived.WalkKit
import Derived.Shelf.Spec.TrailingZeros
import Derived.Test.YtgdoiokalfhjoaaDoorXc
set_option linter.unusedSimpArgs false
set_option linter.unusedVariables false
set_option maxRecDepth 100000
set_option maxHeartbeats 10000000
section
namespace Go.Proofs.YtgdoiokalfhjoaaDoor
open Go.Ab
open Go.RowKit Go.Shelf
theorem qC{P:Program}[j9 P]{f:FuncId}{vs:List Value}{v:Value}(hc:eF P f)(h:∀w,j9.ok P w→Calls P f vs.toArray w fun e w'=>e= .returned v∧w'=w):
  n5 P f (vs.map .v) (fun _=> .v v) (fun _=>[]):=by
 refine⟨hc,fun nid M w args hg hM hargs=>?_⟩
 have he:args=vs.toArray:=by
  obtain⟨h1,h2⟩:=hargs
  apply Array.ext
  ·simpa using h1
  ·intro i hi1 hi2
   have hi3:i<vs.length:=by simpa using hi2
   have:=(h2 i (.v vs[i]) args[i] (by simp [hi3]) (by simp [hi1])).Y8
   simpa using this
 subst he
 refine(h w hg).mono ?_
 rintro e w' ⟨rfl,rfl⟩
 have hf:∀id,s7 nid [] id= .free:=fun id=>by unfold s7;rw[if_neg (by simp)]
 exact⟨v,fun _=>none,rfl,⟨fun id r h=>(by rw[hf]at h;cases h),fun _ _=>rfl,fun id id' r r' b β β' z z' h=>(by rw[hf]at h;cases h),Below.refl _ _,fun b o h=>⟨hM b o h,fun id r p h=>(by rw[hf]at h;cases h)⟩⟩,.v _⟩
theorem b31(w:World):Calls Tryd.prog 50 #[.int .u64 0] w fun e w'=>e= .returned (.int .i64 64)∧w'=w:=by
 go_enter Tryd.func50,Tryd.ntmps50
 go_wp2
 go_ret
 exact⟨rfl,rfl⟩
theorem b30 (x k idx:Nat) (w:World) (hx0:((x:Int)==0)=false)
  (key:IntKind.u64.wrap (bits BinOp.and IntKind.u64 (x:Int) (IntKind.u64.wrap (-(x:Int)))*285870213051353865) / 288230376151711744=(idx:Int))
  (hi:idx<64) (hk:k<64) (hcell:w.cell? ⟨0,idx,none⟩=some (.int .u8 k)):
  Calls Tryd.prog 50 #[.int .u64 x] w fun e w'=>e= .returned (.int .i64 k)∧w'=w:=by
 go_enter Tryd.func50,Tryd.ntmps50
 go_wp2_with (simp only[key])
 go_ret
 exact⟨rfl,rfl⟩
theorem b5v(x:Nat)(hx:x<18446744073709551616):n5 Tryd.prog 50 [.v (.int .u64 x)] (fun _=> .v (.int .i64 (Lib.ctz 64 x))) (fun _=>[]):=by
 refine qC (vs:=[.int .u64 x]) ⟨Tryd.f50,rfl,rfl,rfl⟩ fun w hg=>?_
 by_cases hx0:x=0
 ·subst hx0
  exact b31 w
 ·obtain⟨hlow,hk⟩:=Lib.lowest_bit 64 x hx0 hx
  obtain⟨hi,htab⟩:=Lib.deBruijn64_at _ hk
  have hcell:=Lib.TabIs.cell (show Lib.TabIs Tryd.prog w "math/bits.deBruijn64tab" .u8 a0n from hg) (g:=0) (by kernel_rfl) (2^Lib.ctz 64 x*285870213051353865%18446744073709551616 / 288230376151711744) (by have:a0n.length=64:=rfl;omega)
  have e:a0n.getD (2^Lib.ctz 64 x*285870213051353865%18446744073709551616 / 288230376151711744) 0=((Lib.ctz 64 x:Nat):Int):=by
   rw[show a0n=Lib.deBruijn64tab.map fun n:Nat=>(n:Int)from rfl,List.getD_eq_getElem?_getD,List.getElem?_map]
   rw[List.getD_eq_getElem?_getD]at htab
   generalize Lib.deBruijn64tab[2^Lib.ctz 64 x*285870213051353865%18446744073709551616 / 288230376151711744]?=o at*
   cases o with
   |none=>simp at htab⊢;omega
   |some y=>simp at htab⊢;omega
  rw[e]at hcell
  exact b30 x _ _ w (by simp;omega) (tz64_key x _ hx hx0 hlow) hi hk hcell
def ocF(x:Int):Int:=
 let a:=IntKind.u64.wrap (bits .and .u64 (x / 2) 6148914691236517205+bits .and .u64 x 6148914691236517205)
 let b:=IntKind.u64.wrap (bits .and .u64 (a / 4) 3689348814741910323+bits .and .u64 a 3689348814741910323)
 let c:=bits .and .u64 (IntKind.u64.wrap (b / 16+b)) 1085102592571150095
 let d:=IntKind.u64.wrap (c+c / 256)
 let e:=IntKind.u64.wrap (d+d / 65536)
 let f:=IntKind.u64.wrap (e+e / 4294967296)
 bits .and .i64 (wrap64 f) 127
theorem b3F(x:Int)(w:World):Calls Tryd.prog 43 #[.int .u64 x] w fun e w'=>e= .returned (.int .i64 (ocF x))∧w'=w:=by
 go_enter Tryd.func43,Tryd.ntmps43
 go_wp2
 go_ret
 exact⟨rfl,rfl⟩
theorem b4t(x:Int):n5 Tryd.prog 43 [.v (.int .u64 x)] (fun _=> .v (.int .i64 (ocF x))) (fun _=>[]):=
 qC (vs:=[.int .u64 x]) ⟨Tryd.f43,rfl,rfl,rfl⟩ fun w _=>b3F x w
theorem b3w:∀i,i<64→∀j,j<64→ocF ((64*(0+i)+j:Nat):Int)=(((List.range 15).filter fun k=>(64*(0+i)+j).testBit k).length:Int):=by decide+kernel
theorem b3x:∀i,i<64→∀j,j<64→ocF ((64*(64+i)+j:Nat):Int)=(((List.range 15).filter fun k=>(64*(64+i)+j).testBit k).length:Int):=by decide+kernel
theorem b3y:∀i,i<64→∀j,j<64→ocF ((64*(128+i)+j:Nat):Int)=(((List.range 15).filter fun k=>(64*(128+i)+j).testBit k).length:Int):=by decide+kernel
theorem b3z:∀i,i<64→∀j,j<64→ocF ((64*(192+i)+j:Nat):Int)=(((List.range 15).filter fun k=>(64*(192+i)+j).testBit k).length:Int):=by decide+kernel
theorem b3A:∀i,i<64→∀j,j<64→ocF ((64*(256+i)+j:Nat):Int)=(((List.range 15).filter fun k=>(64*(256+i)+j).testBit k).length:Int):=by decide+kernel
theorem b3B:∀i,i<64→∀j,j<64→ocF ((64*(320+i)+j:Nat):Int)=(((List.range 15).filter fun k=>(64*(320+i)+j).testBit k).length:Int):=by decide+kernel
theorem b3C:∀i,i<64→∀j,j<64→ocF ((64*(384+i)+j:Nat):Int)=(((List.range 15).filter fun k=>(64*(384+i)+j).testBit k).length:Int):=by decide+kernel
theorem b3D:∀i,i<64→∀j,j<64→ocF ((64*(448+i)+j:Nat):Int)=(((List.range 15).filter fun k=>(64*(448+i)+j).testBit k).length:Int):=by decide+kernel
theorem b7c(x:Nat)(h:x<32768):ocF (x:Int)=(((List.range 15).filter fun k=>x.testBit k).length:Int):=by
 have key:∀q r:Nat,q<512→r<64→ocF ((64*q+r:Nat):Int)=(((List.range 15).filter fun k=>(64*q+r).testBit k).length:Int):=fun q r hq hr=>by
  rcases(by omega:q<64∨(64≤q∧q<128)∨(128≤q∧q<192)∨(192≤q∧q<256)∨(256≤q∧q<320)∨(320≤q∧q<384)∨(384≤q∧q<448)∨448≤q)with g|g|g|g|g|g|g|g
  ·have:=b3w (q-0) (by omega) r hr
   rwa [show 0+(q-0)=q from by omega]at this
  ·have:=b3x (q-64) (by omega) r hr
   rwa [show 64+(q-64)=q from by omega]at this
  ·have:=b3y (q-128) (by omega) r hr
   rwa [show 128+(q-128)=q from by omega]at this
  ·have:=b3z (q-192) (by omega) r hr
   rwa [show 192+(q-192)=q from by omega]at this
  ·have:=b3A (q-256) (by omega) r hr
   rwa [show 256+(q-256)=q from by omega]at this
  ·have:=b3B (q-320) (by omega) r hr
   rwa [show 320+(q-320)=q from by omega]at this
  ·have:=b3C (q-384) (by omega) r hr
   rwa [show 384+(q-384)=q from by omega]at this
  ·have:=b3D (q-448) (by omega) r hr
   rwa [show 448+(q-448)=q from by omega]at this
 have:=key (x / 64) (x%64) (by omega) (by omega)
 rw[Nat.div_add_mod]at this
 exact this
end Go.Proofs.YtgdoiokalfhjoaaDoor
end
