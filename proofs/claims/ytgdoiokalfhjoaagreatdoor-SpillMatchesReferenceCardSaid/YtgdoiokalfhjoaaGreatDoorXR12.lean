/- PROVED: for every input the Go function SpillMatchesReference of the given program returns true, and each argument reads afterwards as it read before. NO CONDITION, no narrowing: the whole row. By an AI agent; no person has read it. -/
import Derived.Test.YtgdoiokalfhjoaaGreatDoorXbi
import Derived.Test.YtgdoiokalfhjoaaGreatDoorXbj
set_option maxRecDepth 100000
set_option linter.unusedVariables false
section
namespace Go.Proofs.YtgdoiokalfhjoaaGreatDoor
open Go.Ab
open Go.ChangeShapes Go.WideShapes Go.ChangeAt Go.RowKit
instance:j5 Tryz.checked.prog:=inferInstanceAs (j5 Tryz.prog)
theorem fQ(xs:List AV)(h:a5r [S24,S3,c4q] xs):c9 Tryz.prog 10 xs (fun _=> .v (.bool true)) (fun _=>[]):=by
 obtain⟨_,_,rfl,h0,_,_,rfl,h1,_,_,rfl,h2,rfl⟩:=h
 obtain⟨L,rfl,hL⟩:=b8D h0
 obtain⟨n,rfl,hn⟩:=c6l h1
 obtain⟨zs,rfl,hz,hzl⟩:=c2c h2
 exact a9V L hL n hn zs hz hzl
theorem eB(os:Os)(started:os.Started)(H:Type)(enc:TypeId×Value→H)(F:Stop.Interp):
  ReturnsInHanded {} Tryz.checked os 10 .any ((OpenSpec.ofChange Rows.spillMatchesReferenceSpec).preRow enc Tryz.prog Tryz.f10 Rows.spillMatchesReferenceRow.domain false Rows.spillMatchesReferenceRow.laid) (((OpenSpec.ofChange Rows.spillMatchesReferenceSpec).at F).post enc Tryz.prog Tryz.f10 false true false false):=by
 refine returnsInHanded_of_row (C:=Tryz.checked) own started (by kernel_rfl) Tryz.func10
  ⟨World.laidAll Tryz.prog os laidL,fun _ _=>0,⟨#[], #[.agg #[.slice none 0 0],.int .i64 0,.slice none 0 0],[]⟩,World.laidAll_os _ _ _,World.shaped_of_ZipB (by kernel_rfl) (by kernel_rfl),rfl,(Input.okWide_of_okWideB (by kernel_rfl)).2,
   OpenSpec.preRow_of_B rfl 8 (by kernel_rfl) (by kernel_rfl) (a9g os _),by simp only[Assume.holds];exact⟨by simp,by simp,fun _=>Modest.zero,by simp,by simp⟩⟩ ?_
 intro W base args ds gs before hval0 hW _ _ _ hL hS _
 have hw:okW W:=b8z hL hS
 have hval:∀(j:Nat) t v,Tryz.f10.params[j]?=some t→args[j]?=some v→Value.okWide Tryz.prog W .any base t v:=hval0
 have hW':=hW
 obtain⟨p,q,hA0,hV,rfl,hfz,hnd⟩:=hW
 have hA:DataW.TrodAll enc Tryz.prog W 0 (fun _=>true) true Tryz.f10.params.toList args.toList ds p:=hA0
 obtain⟨rfl,rfl⟩:=trodVars_none hV
 obtain⟨xs,h1,h2,h3⟩:=a4m (w:=W) Tryz.f10.params.toList [S24,S3,c4q] _ _ _ (n:=20) (by kernel_rfl) (fun j t v e1 e2=>hval j t v (by simpa using e1) (by simpa using e2)) hA
 have hlen:=a8q hA
 refine((fQ xs h1).2 0 (fun _ _=>False) W args hw (fun _ _ h=>h.elim) ⟨by simpa using h2.symm,fun i x u e1 e2=>h3 i x u e1 (by simpa using e2)⟩).mono fun e w' ⟨v,ρ,he,hH,hv⟩=>?_
 cases hv
 subst he
 have hspec:∀ds:List (DataW H),ds.length=Tryz.f10.params.toList.length→Rows.spillMatchesReferenceSpec.fn H (ds++[])={results:=[.lit (.bool true)],args:=ds}:=fun ds hd=>by
  have hd:ds.length=3:=hd
  match ds,hd with
  |[_,_,_],_=>rfl
 have e:((OpenSpec.ofChange Rows.spillMatchesReferenceSpec).at F).fn H (ds++[])={results:=[.lit (.bool true)],args:=ds}:=hspec ds hlen
 refine⟨_,rfl,ds,[],p++[],[],p,[],hW',?_,?_,?_,hH.S4.frame _,fun h=>by cases h⟩
 ·rw[e]
  exact trodAll_cons_mk (shut_bool Tryz.underlying4 _) trodAll_mk0
 ·rw[e]
  exact xM b21 hH.S4 _ _ _ _ (by kernel_rfl) hA fun x hx=>hW'.lt x (by simpa using hx)
 ·rw[e];rfl
theorem fU:Rows.spillMatchesReferenceRow.holds Tryz.pinned (OpenSpec.ofChange Rows.spillMatchesReferenceSpec):=
 OpenClaim.holds_of_cond 10 Tryz.f10 rfl rfl rfl rfl rfl rfl rfl ⟨rfl,rfl,rfl,rfl,rfl⟩ rfl rfl rfl rfl rfl (by kernel_rfl) Tryz.func10 eA
  (of_decide_eq_true (by kernel_rfl)) (by unfold Func.isWrapper;first|(rw[if_pos (by decide+kernel)];kernel_rfl)|(rw[if_neg (by decide+kernel)];exact⟨rfl,rfl⟩))
  (fun os started H enc _ F=>by rw[OpenClaim.pre_eq_preRow];exact eB os started H enc F)
theorem spillMatchesReference_card:Rows.SpillMatchesReferenceCardSaid:=
 Claim7.holds_tied_plain_at .later [] [.data] true (true,Rows.spillMatchesReferenceCard.stood.harness.2) true
  fU (fun _ h=>by cases h) iG (fun _ h=>by cases h) spillMatchesReference_row_tie rfl ⟨rfl,rfl⟩ fT rfl
  (fun f fn hf hfn=>by
   obtain rfl:f=10:=Option.some.inj (iE.symm.trans hf)|>.symm
   obtain rfl:fn=Tryz.f10:=(Option.some.inj (Tryz.func10.symm.trans hfn)).symm
   exact⟨a4e.symm,fun j t ht=>by
    have hp:Tryz.f10.params= #[24,3,110]:=by kernel_rfl
    rw[hp]at ht
    have hm:t∈[24,3,110]:=by simpa using Array.mem_of_getElem? ht
    exact eV t hm⟩)
  fR
#print axioms spillMatchesReference_card
end Go.Proofs.YtgdoiokalfhjoaaGreatDoor
end
