/-
  The law ProofTrimmed returns true for every input that the row speaks of, and each argument reads afterwards as before: the tied card. Conditions: those of the given row alone.
-/
import Derived.Test.YtkeanlfhghlgiaaGreatDoorQProofTrimmed12
import Derived.Test.YtkeanlfhghlgiaaGreatDoorTie
import Derived.Test.YtkeanlfhghlgiaaGreatDoorCards
import Derived.Test.YtkeanlfhghlgiaaGreatDoorQProofTrimmed14
set_option linter.unusedVariables false
set_option linter.unusedSimpArgs false
set_option linter.unusedSectionVars false
set_option maxHeartbeats 1000000
namespace Go.Proofs.YtkeanlfhghlgiaaGreatDoor
open Go Go.Sx Go.Proofs
attribute [local irreducible] Code.wp wpList wpAnyH
open Go.Vs Go.ChangeShapes Go.WideShapes Go.ChangeAt Go.RowKit
set_option maxRecDepth 100000 in
theorem liftedProofTrimmed (os:Os) (started:os.Started) (H:Type) (enc:TypeId×Value→H) :
    ReturnsInHanded {} Tryz.checked os 7 .any (fun w args=>(Rows.proofTrimmedSpec.pre enc Tryz.prog Tryz.f7 [] false w args∧laidMetH Tryz.prog ke_ w)∧sizedMet enc Tryz.prog Tryz.f7 (OpenSpec.ofChange Rows.proofTrimmedSpec) false w args)
      (Rows.proofTrimmedSpec.post enc Tryz.prog Tryz.f7 false true false false):=by
  refine returnsInHanded_of_change_and (C:=Tryz.checked) (X:=fun w _=>laidMetH Tryz.prog ke_ w) (fun _ _ _ hh h=>h.of_heap hh) own started zk Tryz.func7
    (ChangeSpec.witness_shaped (enc:=enc) (C:=Tryz.checked) (os:=os) (X:=fun w _=>laidMetH Tryz.prog ke_ w) false (World.laidAll Tryz.prog os ke_) #[.slice none 0 0,.agg #[.int .i64 0,str [],str [],str [],.int .i64 0,.int .i64 0]] 8 (World.laidAll_os _ _ _)
      (World.shaped_of_ZipB zk zk) zk zk zk
      (by rw[MakeChecks.laidMetH_plain _ _ _ zk];exact laidMet_laidAll _ zk zk)) ?_
  intro W base args ds gs before hval0 hW _ hwt hL _
  have hval:∀ (j:Nat) t v,Tryz.f7.params[j]? = some t→args[j]? = some v→Value.okWide Tryz.prog W .any base t v:=hval0
  have hW':=hW
  obtain⟨p,q,hA0,hV,rfl,_,_⟩:=hW
  have hA:DataW.TrodAll enc Tryz.prog W 0 (fun _=>true) true Tryz.f7.params.toList args.toList ds p:=hA0
  have hts:∀ t∈Tryz.f7.params.toList,t<Tryz.prog.types.size:=by
    rw[Tryz.params7,rc_];decide
  rw[Tryz.params7]at hA hval
  obtain⟨rfl,rfl⟩:=trodVars_none hV
  have hwt':wok (DataW.weightsEach Tryz.prog [22,24] ds):=by
    have e:(Tryz.f7.params.toList++Rows.proofTrimmedSpec.plain.varTypes Tryz.prog)=[22,24]:=by rw[Tryz.params7];rfl
    have hwt0:wok (DataW.weightsEach Tryz.prog (Tryz.f7.params.toList++Rows.proofTrimmedSpec.plain.varTypes Tryz.prog) (ds++[])):=hwt
    rw[e,List.append_nil]at hwt0
    exact hwt0
  obtain⟨v0,v1,d0,d1,p0,p1,rfl,rfl,rfl,h0,h1⟩:=trodAll_two hA
  simp only[DataW.weightsEach,fj_]at hwt'
  obtain⟨lp,adp,capp,rfl,hrowp,hbigp,hlcp,hcapp⟩:=tr_ tysX (hval 0 22 v0 rfl rfl) h0 hwt'.1
  obtain⟨f,rfl,hf⟩:=arg_fc tysX tysZ (hval 1 24 v1 rfl rfl) h1 hwt'.2.1
  have T:=(oR_ lp adp capp f (by omega) hbigp (by have:=hf.a;omega) (by have:=hf.b;omega) (by have:=hf.r;omega)).run (vw W) (vw_sat W) ⟨hrowp,sh_ hL,trivial⟩
  refine T.mono ?_
  rintro e w' ⟨_,v',rfl,rfl,_,_,hto⟩
  exact⟨_,rfl,rk_ kids full hts rfl hW' rfl zk Tryz.underlying4 hto⟩
theorem proofTrimmed_jA:(Rows.proofTrimmedRow.inPlace==Tryz.prog.inPlace 7)=true:=by kernel_rfl
theorem proofTrimmed_jB:(Rows.proofTrimmedRow.unfollowed==Tryz.prog.unfollowed 7)=true:=by kernel_rfl
theorem proofTrimmed_jC:(Rows.proofTrimmedRow.recurses==Tryz.prog.recurses 7)=true:=by kernel_rfl
theorem proofTrimmed_jD:(Rows.proofTrimmedRow.named==Tryz.prog.varsNamed 7)=true:=by kernel_rfl
theorem proofTrimmed_jE:(laidOutB Tryz.prog)=true:=by kernel_rfl
theorem proofTrimmed_jF:(mapsRowed Tryz.prog)=true:=by kernel_rfl
theorem proofTrimmed_j:joinedFacts Tryz.prog 7 Tryz.f7 Rows.proofTrimmedSpec Rows.proofTrimmedRow=true:=by
  unfold joinedFacts
  rw[proofTrimmed_jA,proofTrimmed_jB,proofTrimmed_jC,proofTrimmed_jD,proofTrimmed_jE,proofTrimmed_jF]
  kernel_rfl
theorem proofTrimmed_said:Rows.ProofTrimmedSaid :=
  OpenClaim.holds_of_wide 7 Tryz.f7 rfl rfl rfl rfl rfl rfl rfl ⟨rfl,rfl,rfl,rfl,rfl⟩ rfl rfl rfl rfl rfl (by as_aux_lemma=>kernel_rfl) Tryz.func7 proofTrimmed_j
    (of_decide_eq_true (by as_aux_lemma=>kernel_rfl)) (by as_aux_lemma=>(unfold Func.isWrapper;first|(rw[if_pos (by decide +kernel)];kernel_rfl)|(rw[if_neg (by decide +kernel)];exact⟨rfl,rfl⟩)))
    (fun os started H enc _=>liftedProofTrimmed os started H enc)
theorem proofTrimmed_fn : Tryz.prog.funcNamed "veilstone/veilstonelaw11.ProofTrimmed" = some 7 := by kernel_rfl
theorem proofTrimmed_st:([22,24].all fun u=>!Tryz.prog.wantsStandIn u)=true:=by kernel_rfl
set_option maxHeartbeats 4000000 in
theorem proofTrimmed_holds:Rows.ProofTrimmedCardSaid :=
  Claim7.holds_tied_plain_at .later [] [.data, .data, .pinned] true (true, "58507672e0b71e294027ee25752d499ae67a1837e7fbef122f151b27ae6c7433") false
    proofTrimmed_said (fun _ h=>by cases h) (by as_aux_lemma=>kernel_rfl) (fun _ h=>by cases h) proofTrimmed_row_tie rfl ⟨rfl,rfl⟩ (by as_aux_lemma=>kernel_rfl) rfl
    (fun f fn hf hfn=>by
      obtain rfl:f=7:=Option.some.inj (proofTrimmed_fn.symm.trans hf) |>.symm
      obtain rfl:fn=Tryz.f7:=(Option.some.inj (Tryz.func7.symm.trans hfn)).symm
      exact⟨by as_aux_lemma=>kernel_rfl,fun j t ht=>by
        rw[Tryz.params7]at ht
        have hm:t∈[22,24]:=by simpa using Array.mem_of_getElem? ht
        exact (show Tryz.prog.wantsStandIn t=false by simpa using List.all_eq_true.1 proofTrimmed_st t hm)⟩)
    (by as_aux_lemma=>kernel_rfl)
end Go.Proofs.YtkeanlfhghlgiaaGreatDoor
