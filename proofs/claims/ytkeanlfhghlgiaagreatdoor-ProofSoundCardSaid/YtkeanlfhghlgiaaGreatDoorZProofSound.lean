/-
  The law ProofSound returns true for every input that the row speaks of, and each argument reads afterwards as before: the tied card. Conditions: those of the given row alone.
-/
import Derived.Test.YtkeanlfhghlgiaaGreatDoorQProofSound12
import Derived.Test.YtkeanlfhghlgiaaGreatDoorTie
import Derived.Test.YtkeanlfhghlgiaaGreatDoorCards
import Derived.Test.YtkeanlfhghlgiaaGreatDoorQProofSound13
set_option linter.unusedVariables false
set_option linter.unusedSimpArgs false
set_option linter.unusedSectionVars false
set_option maxHeartbeats 1000000
namespace Go.Proofs.YtkeanlfhghlgiaaGreatDoor
open Go Go.Sx Go.Proofs
attribute [local irreducible] Code.wp wpList wpAnyH
open Go.Vs Go.ChangeShapes Go.WideShapes Go.ChangeAt Go.RowKit
set_option maxRecDepth 100000 in
theorem liftedProofSound (os:Os) (started:os.Started) (H:Type) (enc:TypeId×Value→H) :
    ReturnsInHanded {} Tryz.checked os 5 .any (fun w args=>(Rows.proofSoundSpec.pre enc Tryz.prog Tryz.f5 [] false w args∧laidMetH Tryz.prog jR_ w)∧sizedMet enc Tryz.prog Tryz.f5 (OpenSpec.ofChange Rows.proofSoundSpec) false w args)
      (Rows.proofSoundSpec.post enc Tryz.prog Tryz.f5 false true false false):=by
  refine returnsInHanded_of_change_and (C:=Tryz.checked) (X:=fun w _=>laidMetH Tryz.prog jR_ w) (fun _ _ _ hh h=>h.of_heap hh) own started zk Tryz.func5
    (ChangeSpec.witness_shaped (enc:=enc) (C:=Tryz.checked) (os:=os) (X:=fun w _=>laidMetH Tryz.prog jR_ w) false (World.laidAll Tryz.prog os jR_) #[.slice none 0 0,.agg #[.int .i64 0,str [],str [],str [],.int .i64 0,.int .i64 0],.slice none 0 0] 8 (World.laidAll_os _ _ _)
      (World.shaped_of_ZipB zk zk) zk zk zk
      (by rw[MakeChecks.laidMetH_plain _ _ _ zk];exact laidMet_laidAll _ zk zk)) ?_
  intro W base args ds gs before hval0 hW _ hwt hL _
  have hval:∀ (j:Nat) t v,Tryz.f5.params[j]? = some t→args[j]? = some v→Value.okWide Tryz.prog W .any base t v:=hval0
  have hW':=hW
  obtain⟨p,q,hA0,hV,rfl,_,_⟩:=hW
  have hA:DataW.TrodAll enc Tryz.prog W 0 (fun _=>true) true Tryz.f5.params.toList args.toList ds p:=hA0
  have hts:∀ t∈Tryz.f5.params.toList,t<Tryz.prog.types.size:=by
    rw[Tryz.params5,qv_];decide
  rw[Tryz.params5]at hA hval
  obtain⟨rfl,rfl⟩:=trodVars_none hV
  have hwt':wok (DataW.weightsEach Tryz.prog [22,24,22] ds):=by
    have e:(Tryz.f5.params.toList++Rows.proofSoundSpec.plain.varTypes Tryz.prog)=[22,24,22]:=by rw[Tryz.params5];rfl
    have hwt0:wok (DataW.weightsEach Tryz.prog (Tryz.f5.params.toList++Rows.proofSoundSpec.plain.varTypes Tryz.prog) (ds++[])):=hwt
    rw[e,List.append_nil]at hwt0
    exact hwt0
  obtain⟨v0,v1,v2,d0,d1,d2,p0,p1,p2,rfl,rfl,rfl,h0,h1,h2⟩:=trodAll_three hA
  simp only[DataW.weightsEach,fg_]at hwt'
  obtain⟨lp,adp,capp,rfl,hrowp,hbigp,hlcp,hcapp,hzp⟩:=oj_ tysX (hval 0 22 v0 rfl rfl) h0 hwt'.1
  obtain⟨f,rfl,hf⟩:=arg_fc tysX tysZ (hval 1 24 v1 rfl rfl) h1 hwt'.2.1
  obtain⟨lq,adq,capq,rfl,hrowq,hbigq,hlcq,hcapq,hzq⟩:=oj_ tysX (hval 2 22 v2 rfl rfl) h2 hwt'.2.2.1
  have T:=(rz_ lp adp capp f lq adq capq (by omega) hlcp (by omega) hzp hbigp (by omega) hlcq (by omega) hzq hbigq (by have:=hf.a;omega) (by have:=hf.b;omega) (by have:=hf.r;omega)).run (vw W) (vw_sat W) ⟨hrowp,hrowq,rw_ hL,trivial⟩
  refine T.mono ?_
  rintro e w' ⟨_,v',rfl,rfl,_,_,hto⟩
  exact⟨_,rfl,qD_ kids full hts rfl hW' rfl zk Tryz.underlying4 hto⟩
theorem proofSound_jA:(Rows.proofSoundRow.inPlace==Tryz.prog.inPlace 5)=true:=by kernel_rfl
theorem proofSound_jB:(Rows.proofSoundRow.unfollowed==Tryz.prog.unfollowed 5)=true:=by kernel_rfl
theorem proofSound_jC:(Rows.proofSoundRow.recurses==Tryz.prog.recurses 5)=true:=by kernel_rfl
theorem proofSound_jD:(Rows.proofSoundRow.named==Tryz.prog.varsNamed 5)=true:=by kernel_rfl
theorem proofSound_jE:(laidOutB Tryz.prog)=true:=by kernel_rfl
theorem proofSound_jF:(mapsRowed Tryz.prog)=true:=by kernel_rfl
theorem proofSound_j:joinedFacts Tryz.prog 5 Tryz.f5 Rows.proofSoundSpec Rows.proofSoundRow=true:=by
  unfold joinedFacts
  rw[proofSound_jA,proofSound_jB,proofSound_jC,proofSound_jD,proofSound_jE,proofSound_jF]
  kernel_rfl
theorem proofSound_said:Rows.ProofSoundSaid :=
  OpenClaim.holds_of_wide 5 Tryz.f5 rfl rfl rfl rfl rfl rfl rfl ⟨rfl,rfl,rfl,rfl,rfl⟩ rfl rfl rfl rfl rfl (by as_aux_lemma=>kernel_rfl) Tryz.func5 proofSound_j
    (of_decide_eq_true (by as_aux_lemma=>kernel_rfl)) (by as_aux_lemma=>(unfold Func.isWrapper;first|(rw[if_pos (by decide +kernel)];kernel_rfl)|(rw[if_neg (by decide +kernel)];exact⟨rfl,rfl⟩)))
    (fun os started H enc _=>liftedProofSound os started H enc)
theorem proofSound_fn : Tryz.prog.funcNamed "veilstone/veilstonelaw11.ProofSound" = some 5 := by kernel_rfl
theorem proofSound_st:([22,24,22].all fun u=>!Tryz.prog.wantsStandIn u)=true:=by kernel_rfl
set_option maxHeartbeats 4000000 in
theorem proofSound_holds:Rows.ProofSoundCardSaid :=
  Claim7.holds_tied_plain_at .later [] [.data, .data, .pinned] true (true, "58507672e0b71e294027ee25752d499ae67a1837e7fbef122f151b27ae6c7433") false
    proofSound_said (fun _ h=>by cases h) (by as_aux_lemma=>kernel_rfl) (fun _ h=>by cases h) proofSound_row_tie rfl ⟨rfl,rfl⟩ (by as_aux_lemma=>kernel_rfl) rfl
    (fun f fn hf hfn=>by
      obtain rfl:f=5:=Option.some.inj (proofSound_fn.symm.trans hf) |>.symm
      obtain rfl:fn=Tryz.f5:=(Option.some.inj (Tryz.func5.symm.trans hfn)).symm
      exact⟨by as_aux_lemma=>kernel_rfl,fun j t ht=>by
        rw[Tryz.params5]at ht
        have hm:t∈[22,24,22]:=by simpa using Array.mem_of_getElem? ht
        exact (show Tryz.prog.wantsStandIn t=false by simpa using List.all_eq_true.1 proofSound_st t hm)⟩)
    (by as_aux_lemma=>kernel_rfl)
end Go.Proofs.YtkeanlfhghlgiaaGreatDoor
