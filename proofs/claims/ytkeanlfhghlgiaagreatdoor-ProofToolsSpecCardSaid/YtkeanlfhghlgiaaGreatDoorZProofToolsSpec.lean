/-
  The law ProofToolsSpec returns true for every input that the row speaks of, and each argument reads afterwards as before: the tied card. Conditions: those of the given row alone.
-/
import Derived.Test.YtkeanlfhghlgiaaGreatDoorQProofToolsSpec12
import Derived.Test.YtkeanlfhghlgiaaGreatDoorTie
import Derived.Test.YtkeanlfhghlgiaaGreatDoorCards
import Derived.Test.YtkeanlfhghlgiaaGreatDoorQProofToolsSpec15
set_option linter.unusedVariables false
set_option linter.unusedSimpArgs false
set_option linter.unusedSectionVars false
set_option maxHeartbeats 1000000
namespace Go.Proofs.YtkeanlfhghlgiaaGreatDoor
open Go Go.Sx Go.Proofs
attribute [local irreducible] Code.wp wpList wpAnyH
open Go.Vs Go.ChangeShapes Go.WideShapes Go.ChangeAt Go.RowKit
set_option maxRecDepth 100000 in
theorem liftedProofToolsSpec (os:Os) (started:os.Started) (H:Type) (enc:TypeId×Value→H) :
    ReturnsInHanded {} Tryz.checked os 9 .any (fun w args=>(Rows.proofToolsSpecSpec.pre enc Tryz.prog Tryz.f9 [] false w args∧laidMetH Tryz.prog kw_ w)∧sizedMet enc Tryz.prog Tryz.f9 (OpenSpec.ofChange Rows.proofToolsSpecSpec) false w args)
      (Rows.proofToolsSpecSpec.post enc Tryz.prog Tryz.f9 false true false false):=by
  refine returnsInHanded_of_change_and (C:=Tryz.checked) (X:=fun w _=>laidMetH Tryz.prog kw_ w) (fun _ _ _ hh h=>h.of_heap hh) own started zk Tryz.func9
    (ChangeSpec.witness_shaped (enc:=enc) (C:=Tryz.checked) (os:=os) (X:=fun w _=>laidMetH Tryz.prog kw_ w) false (World.laidAll Tryz.prog os kw_) #[.slice none 0 0,.agg #[.slice none 0 0]] 8 (World.laidAll_os _ _ _)
      (World.shaped_of_ZipB zk zk) zk zk zk
      (by rw[MakeChecks.laidMetH_plain _ _ _ zk];exact laidMet_laidAll _ zk zk)) ?_
  intro W base args ds gs before hval0 hW _ hwt hL _
  have hval:∀ (j:Nat) t v,Tryz.f9.params[j]? = some t→args[j]? = some v→Value.okWide Tryz.prog W .any base t v:=hval0
  have hW':=hW
  obtain⟨p,q,hA0,hV,rfl,_,_⟩:=hW
  have hA:DataW.TrodAll enc Tryz.prog W 0 (fun _=>true) true Tryz.f9.params.toList args.toList ds p:=hA0
  have hts:∀ t∈Tryz.f9.params.toList,t<Tryz.prog.types.size:=by
    rw[Tryz.params9,rM_];decide
  rw[Tryz.params9]at hA hval
  obtain⟨rfl,rfl⟩:=trodVars_none hV
  have hwt':wok (DataW.weightsEach Tryz.prog [22,29] ds):=by
    have e:(Tryz.f9.params.toList++Rows.proofToolsSpecSpec.plain.varTypes Tryz.prog)=[22,29]:=by rw[Tryz.params9];rfl
    have hwt0:wok (DataW.weightsEach Tryz.prog (Tryz.f9.params.toList++Rows.proofToolsSpecSpec.plain.varTypes Tryz.prog) (ds++[])):=hwt
    rw[e,List.append_nil]at hwt0
    exact hwt0
  obtain⟨v0,v1,d0,d1,p0,p1,rfl,rfl,rfl,h0,h1⟩:=trodAll_two hA
  simp only[DataW.weightsEach,eh_]at hwt'
  obtain⟨lp,adp,capp,rfl,hrowp,hbigp,hlcp,hcapp⟩:=uf_ tysX (hval 0 22 v0 rfl rfl) h0 hwt'.1
  obtain⟨Yx,yadx,ycapx,rfl,hrowYx,hstx,hlcYx,hcapYx⟩:=ue_ tysX tysZ tysQ (hval 1 29 v1 rfl rfl) h1 hwt'.2.1
  have T:=(sU_ (fun Y yad ycap h1 h2=>tg_ Y yad ycap h1 h2) lp adp capp Yx yadx ycapx (by omega) hbigp (by omega)).run (vw W) (vw_sat W) ⟨hrowp,hrowYx,(fun s hs=>(hstx s hs).row),sV_ hL,trivial⟩
  refine T.mono ?_
  rintro e w' ⟨_,v',rfl,rfl,_,_,hto⟩
  exact⟨_,rfl,rV_ kids full hts rfl hW' rfl zk Tryz.underlying4 hto⟩
theorem proofToolsSpec_jA:(Rows.proofToolsSpecRow.inPlace==Tryz.prog.inPlace 9)=true:=by kernel_rfl
theorem proofToolsSpec_jB:(Rows.proofToolsSpecRow.unfollowed==Tryz.prog.unfollowed 9)=true:=by kernel_rfl
theorem proofToolsSpec_jC:(Rows.proofToolsSpecRow.recurses==Tryz.prog.recurses 9)=true:=by kernel_rfl
theorem proofToolsSpec_jD:(Rows.proofToolsSpecRow.named==Tryz.prog.varsNamed 9)=true:=by kernel_rfl
theorem proofToolsSpec_jE:(laidOutB Tryz.prog)=true:=by kernel_rfl
theorem proofToolsSpec_jF:(mapsRowed Tryz.prog)=true:=by kernel_rfl
theorem proofToolsSpec_j:joinedFacts Tryz.prog 9 Tryz.f9 Rows.proofToolsSpecSpec Rows.proofToolsSpecRow=true:=by
  unfold joinedFacts
  rw[proofToolsSpec_jA,proofToolsSpec_jB,proofToolsSpec_jC,proofToolsSpec_jD,proofToolsSpec_jE,proofToolsSpec_jF]
  kernel_rfl
theorem proofToolsSpec_said:Rows.ProofToolsSpecSaid :=
  OpenClaim.holds_of_wide 9 Tryz.f9 rfl rfl rfl rfl rfl rfl rfl ⟨rfl,rfl,rfl,rfl,rfl⟩ rfl rfl rfl rfl rfl (by as_aux_lemma=>kernel_rfl) Tryz.func9 proofToolsSpec_j
    (of_decide_eq_true (by as_aux_lemma=>kernel_rfl)) (by as_aux_lemma=>(unfold Func.isWrapper;first|(rw[if_pos (by decide +kernel)];kernel_rfl)|(rw[if_neg (by decide +kernel)];exact⟨rfl,rfl⟩)))
    (fun os started H enc _=>liftedProofToolsSpec os started H enc)
theorem proofToolsSpec_fn : Tryz.prog.funcNamed "veilstone/veilstonelaw11.ProofToolsSpec" = some 9 := by kernel_rfl
theorem proofToolsSpec_st:([22,29].all fun u=>!Tryz.prog.wantsStandIn u)=true:=by kernel_rfl
set_option maxHeartbeats 4000000 in
theorem proofToolsSpec_holds:Rows.ProofToolsSpecCardSaid :=
  Claim7.holds_tied_plain_at .later [] [.data, .data, .pinned] true (true, "58507672e0b71e294027ee25752d499ae67a1837e7fbef122f151b27ae6c7433") false
    proofToolsSpec_said (fun _ h=>by cases h) (by as_aux_lemma=>kernel_rfl) (fun _ h=>by cases h) proofToolsSpec_row_tie rfl ⟨rfl,rfl⟩ (by as_aux_lemma=>kernel_rfl) rfl
    (fun f fn hf hfn=>by
      obtain rfl:f=9:=Option.some.inj (proofToolsSpec_fn.symm.trans hf) |>.symm
      obtain rfl:fn=Tryz.f9:=(Option.some.inj (Tryz.func9.symm.trans hfn)).symm
      exact⟨by as_aux_lemma=>kernel_rfl,fun j t ht=>by
        rw[Tryz.params9]at ht
        have hm:t∈[22,29]:=by simpa using Array.mem_of_getElem? ht
        exact (show Tryz.prog.wantsStandIn t=false by simpa using List.all_eq_true.1 proofToolsSpec_st t hm)⟩)
    (by as_aux_lemma=>kernel_rfl)
end Go.Proofs.YtkeanlfhghlgiaaGreatDoor
