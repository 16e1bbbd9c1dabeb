/-
  The law ProofComplete returns true for every input that the row speaks of, and each argument reads afterwards as before: the tied card. Conditions: those of the given row alone.
-/
import Derived.Test.YtkeanlfhghlgiaaGreatDoorQProofComplete12
import Derived.Test.YtkeanlfhghlgiaaGreatDoorTie
import Derived.Test.YtkeanlfhghlgiaaGreatDoorCards
import Derived.Test.YtkeanlfhghlgiaaGreatDoorQProofComplete14
set_option linter.unusedVariables false
set_option linter.unusedSimpArgs false
set_option linter.unusedSectionVars false
set_option maxHeartbeats 1000000
namespace Go.Proofs.YtkeanlfhghlgiaaGreatDoor
open Go Go.Sx Go.Proofs
attribute [local irreducible] Code.wp wpList wpAnyH
open Go.Vs Go.ChangeShapes Go.WideShapes Go.ChangeAt Go.RowKit
set_option maxRecDepth 100000 in
theorem liftedProofComplete (os:Os) (started:os.Started) (H:Type) (enc:TypeId×Value→H) :
    ReturnsInHanded {} Tryz.checked os 4 .any (fun w args=>(Rows.proofCompleteSpec.pre enc Tryz.prog Tryz.f4 [] false w args∧laidMetH Tryz.prog jU_ w)∧sizedMet enc Tryz.prog Tryz.f4 (OpenSpec.ofChange Rows.proofCompleteSpec) false w args)
      (Rows.proofCompleteSpec.post enc Tryz.prog Tryz.f4 false true false false):=by
  refine returnsInHanded_of_change_and (C:=Tryz.checked) (X:=fun w _=>laidMetH Tryz.prog jU_ w) (fun _ _ _ hh h=>h.of_heap hh) own started zk Tryz.func4
    (ChangeSpec.witness_shaped (enc:=enc) (C:=Tryz.checked) (os:=os) (X:=fun w _=>laidMetH Tryz.prog jU_ w) false (World.laidAll Tryz.prog os jU_) #[.slice none 0 0] 8 (World.laidAll_os _ _ _)
      (World.shaped_of_ZipB zk zk) zk zk zk
      (by rw[MakeChecks.laidMetH_plain _ _ _ zk];exact laidMet_laidAll _ zk zk)) ?_
  intro W base args ds gs before hval0 hW _ hwt hL _
  have hval:∀ (j:Nat) t v,Tryz.f4.params[j]? = some t→args[j]? = some v→Value.okWide Tryz.prog W .any base t v:=hval0
  have hW':=hW
  obtain⟨p,q,hA0,hV,rfl,_,_⟩:=hW
  have hA:DataW.TrodAll enc Tryz.prog W 0 (fun _=>true) true Tryz.f4.params.toList args.toList ds p:=hA0
  have hts:∀ t∈Tryz.f4.params.toList,t<Tryz.prog.types.size:=by
    rw[Tryz.params4,qu_];decide
  rw[Tryz.params4]at hA hval
  obtain⟨rfl,rfl⟩:=trodVars_none hV
  have hwt':wok (DataW.weightsEach Tryz.prog [22] ds):=by
    have e:(Tryz.f4.params.toList++Rows.proofCompleteSpec.plain.varTypes Tryz.prog)=[22]:=by rw[Tryz.params4];rfl
    have hwt0:wok (DataW.weightsEach Tryz.prog (Tryz.f4.params.toList++Rows.proofCompleteSpec.plain.varTypes Tryz.prog) (ds++[])):=hwt
    rw[e,List.append_nil]at hwt0
    exact hwt0
  obtain⟨v0,d0,rfl,rfl,h0⟩:=trodAll_one hA
  simp only[DataW.weightsEach,gi_]at hwt'
  obtain⟨lp,adp,capp,rfl,hrowp,hbigp,hlcp,hcapp⟩:=sD_ tysX (hval 0 22 v0 rfl rfl) h0 hwt'.1
  have T:=(nA_ lp adp capp (by omega) hbigp).run (vw W) (vw_sat W) ⟨hrowp,rz_ hL,trivial⟩
  refine T.mono ?_
  rintro e w' ⟨_,v',rfl,rfl,_,_,hto⟩
  exact⟨_,rfl,qC_ kids full hts rfl hW' rfl zk Tryz.underlying4 hto⟩
theorem proofComplete_jA:(Rows.proofCompleteRow.inPlace==Tryz.prog.inPlace 4)=true:=by kernel_rfl
theorem proofComplete_jB:(Rows.proofCompleteRow.unfollowed==Tryz.prog.unfollowed 4)=true:=by kernel_rfl
theorem proofComplete_jC:(Rows.proofCompleteRow.recurses==Tryz.prog.recurses 4)=true:=by kernel_rfl
theorem proofComplete_jD:(Rows.proofCompleteRow.named==Tryz.prog.varsNamed 4)=true:=by kernel_rfl
theorem proofComplete_jE:(laidOutB Tryz.prog)=true:=by kernel_rfl
theorem proofComplete_jF:(mapsRowed Tryz.prog)=true:=by kernel_rfl
theorem proofComplete_j:joinedFacts Tryz.prog 4 Tryz.f4 Rows.proofCompleteSpec Rows.proofCompleteRow=true:=by
  unfold joinedFacts
  rw[proofComplete_jA,proofComplete_jB,proofComplete_jC,proofComplete_jD,proofComplete_jE,proofComplete_jF]
  kernel_rfl
theorem proofComplete_said:Rows.ProofCompleteSaid :=
  OpenClaim.holds_of_wide 4 Tryz.f4 rfl rfl rfl rfl rfl rfl rfl ⟨rfl,rfl,rfl,rfl,rfl⟩ rfl rfl rfl rfl rfl (by as_aux_lemma=>kernel_rfl) Tryz.func4 proofComplete_j
    (of_decide_eq_true (by as_aux_lemma=>kernel_rfl)) (by as_aux_lemma=>(unfold Func.isWrapper;first|(rw[if_pos (by decide +kernel)];kernel_rfl)|(rw[if_neg (by decide +kernel)];exact⟨rfl,rfl⟩)))
    (fun os started H enc _=>liftedProofComplete os started H enc)
theorem proofComplete_fn : Tryz.prog.funcNamed "veilstone/veilstonelaw11.ProofComplete" = some 4 := by kernel_rfl
theorem proofComplete_st:([22].all fun u=>!Tryz.prog.wantsStandIn u)=true:=by kernel_rfl
set_option maxHeartbeats 4000000 in
theorem proofComplete_holds:Rows.ProofCompleteCardSaid :=
  Claim7.holds_tied_plain_at .later [] [.data, .data, .pinned] true (true, "58507672e0b71e294027ee25752d499ae67a1837e7fbef122f151b27ae6c7433") false
    proofComplete_said (fun _ h=>by cases h) (by as_aux_lemma=>kernel_rfl) (fun _ h=>by cases h) proofComplete_row_tie rfl ⟨rfl,rfl⟩ (by as_aux_lemma=>kernel_rfl) rfl
    (fun f fn hf hfn=>by
      obtain rfl:f=4:=Option.some.inj (proofComplete_fn.symm.trans hf) |>.symm
      obtain rfl:fn=Tryz.f4:=(Option.some.inj (Tryz.func4.symm.trans hfn)).symm
      exact⟨by as_aux_lemma=>kernel_rfl,fun j t ht=>by
        rw[Tryz.params4]at ht
        have hm:t∈[22]:=by simpa using Array.mem_of_getElem? ht
        exact (show Tryz.prog.wantsStandIn t=false by simpa using List.all_eq_true.1 proofComplete_st t hm)⟩)
    (by as_aux_lemma=>kernel_rfl)
end Go.Proofs.YtkeanlfhghlgiaaGreatDoor
