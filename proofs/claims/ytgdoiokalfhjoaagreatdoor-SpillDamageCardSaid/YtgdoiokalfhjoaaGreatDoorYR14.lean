/- PROVED: for every input the Go function SpillDamage of the given program returns true, and each argument reads afterwards as it read before. NO CONDITION, no narrowing: the whole row. By an AI agent; no person has read it. -/
import Derived.Test.YtgdoiokalfhjoaaGreatDoorYbh
import Derived.Test.YtgdoiokalfhjoaaGreatDoorYbk
set_option maxRecDepth 100000
set_option linter.unusedVariables false
section
namespace Go.Proofs.YtgdoiokalfhjoaaGreatDoor
open Go.Ab
open Go.ChangeShapes Go.WideShapes Go.ChangeAt Go.RowKit
instance:j5 Tryz.checked.prog:=inferInstanceAs (j5 Tryz.prog)
theorem qE(xs:List AV)(h:b0k [S24,S25,c3u] xs):e8 Tryz.prog 12 xs (fun _=> .v (.bool true)) (fun _=>[]):=by
 obtain⟨_,_,rfl,h0,_,_,rfl,h1,_,_,rfl,h2,rfl⟩:=h
 obtain⟨L,rfl,hL⟩:=c31 h0
 obtain⟨n,rfl,hn⟩:=c32 h1
 obtain⟨w0,w1,w2,rfl,hw0,hw1,hw2⟩:=c1f h2
 exact b0v L hL n hn w0 w1 w2 hw0 hw1 hw2
theorem mI(os:Os)(started:os.Started)(H:Type)(enc:TypeId×Value→H)(F:Stop.Interp):
  ReturnsInHanded {} Tryz.checked os 12 .any ((OpenSpec.ofChange Rows.spillDamageSpec).preRow enc Tryz.prog Tryz.f12 Rows.spillDamageRow.domain false Rows.spillDamageRow.laid) (((OpenSpec.ofChange Rows.spillDamageSpec).at F).post enc Tryz.prog Tryz.f12 false true false false):=by
 refine returnsInHanded_of_row (C:=Tryz.checked) own started (by kernel_rfl) Tryz.func12
  ⟨World.laidAll Tryz.prog os laidL,fun _ _=>0,⟨#[], #[.agg #[.slice none 0 0],.int .u16 0,.agg #[.int .u8 0,.int .u8 0,.int .u8 0]],[]⟩,World.laidAll_os _ _ _,World.shaped_of_ZipB (by kernel_rfl) (by kernel_rfl),rfl,(Input.okWide_of_okWideB (by kernel_rfl)).2,
   OpenSpec.preRow_of_B rfl 8 (by kernel_rfl) (by kernel_rfl) (b7d os _),by simp only[Assume.holds];exact⟨by simp,by simp,fun _=>Modest.zero,by simp,by simp⟩⟩ ?_
 intro W base args ds gs before hval0 hW _ _ _ hL hS _
 have hw:okW W:=c3X hL hS
 have hval:∀(j:Nat) t v,Tryz.f12.params[j]?=some t→args[j]?=some v→Value.okWide Tryz.prog W .any base t v:=hval0
 have hW':=hW
 obtain⟨p,q,hA0,hV,rfl,hfz,hnd⟩:=hW
 have hA:DataW.TrodAll enc Tryz.prog W 0 (fun _=>true) true Tryz.f12.params.toList args.toList ds p:=hA0
 obtain⟨rfl,rfl⟩:=trodVars_none hV
 obtain⟨xs,h1,h2,h3⟩:=b35 (w:=W) Tryz.f12.params.toList [S24,S25,c3u] _ _ _ (n:=20) (by kernel_rfl) (fun j t v e1 e2=>hval j t v (by simpa using e1) (by simpa using e2)) hA
 have hlen:=b5O hA
 refine((qE xs h1).2 0 (fun _ _=>False) W args hw (fun _ _ h=>h.elim) ⟨by simpa using h2.symm,fun i x u e1 e2=>h3 i x u e1 (by simpa using e2)⟩).mono fun e w' ⟨v,ρ,he,hH,hv⟩=>?_
 cases hv
 subst he
 have hspec:∀ds:List (DataW H),ds.length=Tryz.f12.params.toList.length→Rows.spillDamageSpec.fn H (ds++[])={results:=[.lit (.bool true)],args:=ds}:=fun ds hd=>by
  have hd:ds.length=3:=hd
  match ds,hd with
  |[_,_,_],_=>rfl
 have e:((OpenSpec.ofChange Rows.spillDamageSpec).at F).fn H (ds++[])={results:=[.lit (.bool true)],args:=ds}:=hspec ds hlen
 refine⟨_,rfl,ds,[],p++[],[],p,[],hW',?_,?_,?_,hH.T1.frame _,fun h=>by cases h⟩
 ·rw[e]
  exact trodAll_cons_mk (shut_bool Tryz.underlying4 _) trodAll_mk0
 ·rw[e]
  exact a9i c0K hH.T1 _ _ _ _ (by kernel_rfl) hA fun x hx=>hW'.lt x (by simpa using hx)
 ·rw[e];rfl
theorem qH:Rows.spillDamageRow.holds Tryz.pinned (OpenSpec.ofChange Rows.spillDamageSpec):=
 OpenClaim.holds_of_cond 12 Tryz.f12 rfl rfl rfl rfl rfl rfl rfl ⟨rfl,rfl,rfl,rfl,rfl⟩ rfl rfl rfl rfl rfl (by kernel_rfl) Tryz.func12 mH
  (of_decide_eq_true (by kernel_rfl)) (by unfold Func.isWrapper;first|(rw[if_pos (by decide+kernel)];kernel_rfl)|(rw[if_neg (by decide+kernel)];exact⟨rfl,rfl⟩))
  (fun os started H enc _ F=>by rw[OpenClaim.pre_eq_preRow];exact mI os started H enc F)
theorem spillDamage_card:Rows.SpillDamageCardSaid:=
 Claim7.holds_tied_plain_at .later [] [.data] true (true,Rows.spillDamageCard.stood.harness.2) true
  qH (fun _ h=>by cases h) yU (fun _ h=>by cases h) spillDamage_row_tie rfl ⟨rfl,rfl⟩ qG rfl
  (fun f fn hf hfn=>by
   obtain rfl:f=12:=Option.some.inj (yS.symm.trans hf)|>.symm
   obtain rfl:fn=Tryz.f12:=(Option.some.inj (Tryz.func12.symm.trans hfn)).symm
   exact⟨b3V.symm,fun j t ht=>by
    have hp:Tryz.f12.params= #[24,25,126]:=by kernel_rfl
    rw[hp]at ht
    have hm:t∈[24,25,126]:=by simpa using Array.mem_of_getElem? ht
    exact oK t hm⟩)
  qF
#print axioms spillDamage_card
end Go.Proofs.YtgdoiokalfhjoaaGreatDoor
end
