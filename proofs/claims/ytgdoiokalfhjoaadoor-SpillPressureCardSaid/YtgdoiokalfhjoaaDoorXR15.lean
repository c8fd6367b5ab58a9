/- PROVED: for every input the Go function SpillPressure of the given program returns true, and each argument reads afterwards as it read before. NO CONDITION, no narrowing: the whole row. By an AI agent; no person has read it. -/
import Derived.Test.YtgdoiokalfhjoaaDoorXbn
import Derived.Test.YtgdoiokalfhjoaaDoorXbo
set_option maxRecDepth 100000
set_option linter.unusedVariables false
section
namespace Go.Proofs.YtgdoiokalfhjoaaDoor
open Go.Ab
open Go.ChangeShapes Go.WideShapes Go.ChangeAt Go.RowKit
instance:j9 Tryd.checked.prog:=inferInstanceAs (j9 Tryd.prog)
theorem lN(xs:List AV)(h:a5B [S24,S5] xs):n5 Tryd.prog 3 xs (fun _=> .v (.bool true)) (fun _=>[]):=by
 obtain⟨_,_,rfl,h0,_,_,rfl,h1,rfl⟩:=h
 obtain⟨L,rfl,hL⟩:=b52 h0
 obtain⟨z,rfl,hz⟩:=b7d h1
 exact a1n L hL z hz
theorem jM(os:Os)(started:os.Started)(H:Type)(enc:TypeId×Value→H)(F:Stop.Interp):
  ReturnsInHanded {} Tryd.checked os 3 .any ((OpenSpec.ofChange Rows.spillPressureSpec).preRow enc Tryd.prog Tryd.f3 Rows.spillPressureRow.domain false Rows.spillPressureRow.laid) (((OpenSpec.ofChange Rows.spillPressureSpec).at F).post enc Tryd.prog Tryd.f3 false true false false):=by
 refine returnsInHanded_of_row (C:=Tryd.checked) own started (by kernel_rfl) Tryd.func3
  ⟨World.laidAll Tryd.prog os laidL,fun _ _=>0,⟨#[], #[.agg #[.slice none 0 0],.int .u8 0],[]⟩,World.laidAll_os _ _ _,World.shaped_of_ZipB (by kernel_rfl) (by kernel_rfl),rfl,(Input.okWide_of_okWideB (by kernel_rfl)).2,
   OpenSpec.preRow_of_B rfl 8 (by kernel_rfl) (by kernel_rfl) (b1t os _),by simp only[Assume.holds];exact⟨by simp,by simp,fun _=>Modest.zero,by simp,by simp⟩⟩ ?_
 intro W base args ds gs before hval0 hW _ _ _ hL hS _
 have hw:okW W:=b5Z hL hS
 have hval:∀(j:Nat) t v,Tryd.f3.params[j]?=some t→args[j]?=some v→Value.okWide Tryd.prog W .any base t v:=hval0
 have hW':=hW
 obtain⟨p,q,hA0,hV,rfl,hfz,hnd⟩:=hW
 have hA:DataW.TrodAll enc Tryd.prog W 0 (fun _=>true) true Tryd.f3.params.toList args.toList ds p:=hA0
 obtain⟨rfl,rfl⟩:=trodVars_none hV
 obtain⟨xs,h1,h2,h3⟩:=a8U (w:=W) Tryd.f3.params.toList [S24,S5] _ _ _ (n:=20) (by kernel_rfl) (fun j t v e1 e2=>hval j t v (by simpa using e1) (by simpa using e2)) hA
 have hlen:=b0a hA
 refine((lN xs h1).2 0 (fun _ _=>False) W args hw (fun _ _ h=>h.elim) ⟨by simpa using h2.symm,fun i x u e1 e2=>h3 i x u e1 (by simpa using e2)⟩).mono fun e w' ⟨v,ρ,he,hH,hv⟩=>?_
 cases hv
 subst he
 have hspec:∀ds:List (DataW H),ds.length=Tryd.f3.params.toList.length→Rows.spillPressureSpec.fn H (ds++[])={results:=[.lit (.bool true)],args:=ds}:=fun ds hd=>by
  have hd:ds.length=2:=hd
  match ds,hd with
  |[_,_],_=>rfl
 have e:((OpenSpec.ofChange Rows.spillPressureSpec).at F).fn H (ds++[])={results:=[.lit (.bool true)],args:=ds}:=hspec ds hlen
 refine⟨_,rfl,ds,[],p++[],[],p,[],hW',?_,?_,?_,hH.U2.frame _,fun h=>by cases h⟩
 ·rw[e]
  exact trodAll_cons_mk (shut_bool Tryd.underlying4 _) trodAll_mk0
 ·rw[e]
  exact a4A b3g hH.U2 _ _ _ _ (by kernel_rfl) hA fun x hx=>hW'.lt x (by simpa using hx)
 ·rw[e];rfl
theorem lR:Rows.spillPressureRow.holds Tryd.pinned (OpenSpec.ofChange Rows.spillPressureSpec):=
 OpenClaim.holds_of_cond 3 Tryd.f3 rfl rfl rfl rfl rfl rfl rfl ⟨rfl,rfl,rfl,rfl,rfl⟩ rfl rfl rfl rfl rfl (by kernel_rfl) Tryd.func3 jL
  (of_decide_eq_true (by kernel_rfl)) (by unfold Func.isWrapper;first|(rw[if_pos (by decide+kernel)];kernel_rfl)|(rw[if_neg (by decide+kernel)];exact⟨rfl,rfl⟩))
  (fun os started H enc _ F=>by rw[OpenClaim.pre_eq_preRow];exact jM os started H enc F)
theorem spillPressure_card:Rows.SpillPressureCardSaid:=
 Claim7.holds_tied_plain_at .later [] [.data] true (true,Rows.spillPressureCard.stood.harness.2) false
  lR (fun _ h=>by cases h) pO (fun _ h=>by cases h) spillPressure_row_tie rfl ⟨rfl,rfl⟩ lQ rfl
  (fun f fn hf hfn=>by
   obtain rfl:f=3:=Option.some.inj (pM.symm.trans hf)|>.symm
   obtain rfl:fn=Tryd.f3:=(Option.some.inj (Tryd.func3.symm.trans hfn)).symm
   exact⟨a8M.symm,fun j t ht=>by
    have hp:Tryd.f3.params= #[24,5]:=by kernel_rfl
    rw[hp]at ht
    have hm:t∈[24,5]:=by simpa using Array.mem_of_getElem? ht
    exact kR t hm⟩)
  lP
#print axioms spillPressure_card
end Go.Proofs.YtgdoiokalfhjoaaDoor
end
