/-
  The law ProofAxioms returns true for every input that the row speaks of, and each argument reads afterwards as before: the tied card. Conditions: those of the given row alone.
-/
import Derived.Test.YtkeanlfhghlgiaaGreatDoorQProofAxioms12
import Derived.Test.YtkeanlfhghlgiaaGreatDoorTie
import Derived.Test.YtkeanlfhghlgiaaGreatDoorCards
import Derived.Test.YtkeanlfhghlgiaaGreatDoorQProofAxioms14
set_option linter.unusedVariables false
set_option linter.unusedSimpArgs false
set_option linter.unusedSectionVars false
set_option maxHeartbeats 1000000
namespace Go.Proofs.YtkeanlfhghlgiaaGreatDoor
open Go Go.Sx Go.Proofs
attribute [local irreducible] Code.wp wpList wpAnyH
open Go.Vs Go.ChangeShapes Go.WideShapes Go.ChangeAt Go.RowKit
set_option maxRecDepth 100000 in
theorem liftedProofAxioms (os:Os) (started:os.Started) (H:Type) (enc:TypeId×Value→H) :
    ReturnsInHanded {} Tryz.checked os 8 .any (fun w args=>(Rows.proofAxiomsSpec.pre enc Tryz.prog Tryz.f8 [] false w args∧laidMetH Tryz.prog jY_ w)∧sizedMet enc Tryz.prog Tryz.f8 (OpenSpec.ofChange Rows.proofAxiomsSpec) false w args)
      (Rows.proofAxiomsSpec.post enc Tryz.prog Tryz.f8 false true false false):=by
  refine returnsInHanded_of_change_and (C:=Tryz.checked) (X:=fun w _=>laidMetH Tryz.prog jY_ w) (fun _ _ _ hh h=>h.of_heap hh) own started zk Tryz.func8
    (ChangeSpec.witness_shaped (enc:=enc) (C:=Tryz.checked) (os:=os) (X:=fun w _=>laidMetH Tryz.prog jY_ w) false (World.laidAll Tryz.prog os jY_) #[.slice none 0 0,.agg #[.int .i64 0,str [],str [],str [],.int .i64 0,.int .i64 0]] 8 (World.laidAll_os _ _ _)
      (World.shaped_of_ZipB zk zk) zk zk zk
      (by rw[MakeChecks.laidMetH_plain _ _ _ zk];exact laidMet_laidAll _ zk zk)) ?_
  intro W base args ds gs before hval0 hW _ hwt hL _
  have hval:∀ (j:Nat) t v,Tryz.f8.params[j]? = some t→args[j]? = some v→Value.okWide Tryz.prog W .any base t v:=hval0
  have hW':=hW
  obtain⟨p,q,hA0,hV,rfl,_,_⟩:=hW
  have hA:DataW.TrodAll enc Tryz.prog W 0 (fun _=>true) true Tryz.f8.params.toList args.toList ds p:=hA0
  have hts:∀ t∈Tryz.f8.params.toList,t<Tryz.prog.types.size:=by
    rw[Tryz.params8,ra_];decide
  rw[Tryz.params8]at hA hval
  obtain⟨rfl,rfl⟩:=trodVars_none hV
  have hwt':wok (DataW.weightsEach Tryz.prog [22,24] ds):=by
    have e:(Tryz.f8.params.toList++Rows.proofAxiomsSpec.plain.varTypes Tryz.prog)=[22,24]:=by rw[Tryz.params8];rfl
    have hwt0:wok (DataW.weightsEach Tryz.prog (Tryz.f8.params.toList++Rows.proofAxiomsSpec.plain.varTypes Tryz.prog) (ds++[])):=hwt
    rw[e,List.append_nil]at hwt0
    exact hwt0
  obtain⟨v0,v1,d0,d1,p0,p1,rfl,rfl,rfl,h0,h1⟩:=trodAll_two hA
  simp only[DataW.weightsEach,fh_]at hwt'
  obtain⟨lp,adp,capp,rfl,hrowp,hbigp,hlcp,hcapp⟩:=te_ tysX (hval 0 22 v0 rfl rfl) h0 hwt'.1
  obtain⟨f,rfl,hf⟩:=arg_fc tysX tysZ (hval 1 24 v1 rfl rfl) h1 hwt'.2.1
  have T:=(pJ_ lp adp capp f (by omega) hbigp (by have:=hf.a;omega) (by have:=hf.b;omega) (by have:=hf.r;omega)).run (vw W) (vw_sat W) ⟨hrowp,sc_ hL,trivial⟩
  refine T.mono ?_
  rintro e w' ⟨_,v',rfl,rfl,_,_,hto⟩
  exact⟨_,rfl,ri_ kids full hts rfl hW' rfl zk Tryz.underlying4 hto⟩
theorem proofAxioms_jA:(Rows.proofAxiomsRow.inPlace==Tryz.prog.inPlace 8)=true:=by kernel_rfl
theorem proofAxioms_jB:(Rows.proofAxiomsRow.unfollowed==Tryz.prog.unfollowed 8)=true:=by kernel_rfl
theorem proofAxioms_jC:(Rows.proofAxiomsRow.recurses==Tryz.prog.recurses 8)=true:=by kernel_rfl
theorem proofAxioms_jD:(Rows.proofAxiomsRow.named==Tryz.prog.varsNamed 8)=true:=by kernel_rfl
theorem proofAxioms_jE:(laidOutB Tryz.prog)=true:=by kernel_rfl
theorem proofAxioms_jF:(mapsRowed Tryz.prog)=true:=by kernel_rfl
theorem proofAxioms_j:joinedFacts Tryz.prog 8 Tryz.f8 Rows.proofAxiomsSpec Rows.proofAxiomsRow=true:=by
  unfold joinedFacts
  rw[proofAxioms_jA,proofAxioms_jB,proofAxioms_jC,proofAxioms_jD,proofAxioms_jE,proofAxioms_jF]
  kernel_rfl
theorem proofAxioms_said:Rows.ProofAxiomsSaid :=
  OpenClaim.holds_of_wide 8 Tryz.f8 rfl rfl rfl rfl rfl rfl rfl ⟨rfl,rfl,rfl,rfl,rfl⟩ rfl rfl rfl rfl rfl (by as_aux_lemma=>kernel_rfl) Tryz.func8 proofAxioms_j
    (of_decide_eq_true (by as_aux_lemma=>kernel_rfl)) (by as_aux_lemma=>(unfold Func.isWrapper;first|(rw[if_pos (by decide +kernel)];kernel_rfl)|(rw[if_neg (by decide +kernel)];exact⟨rfl,rfl⟩)))
    (fun os started H enc _=>liftedProofAxioms os started H enc)
theorem proofAxioms_fn : Tryz.prog.funcNamed "veilstone/veilstonelaw11.ProofAxioms" = some 8 := by kernel_rfl
theorem proofAxioms_st:([22,24].all fun u=>!Tryz.prog.wantsStandIn u)=true:=by kernel_rfl
set_option maxHeartbeats 4000000 in
theorem proofAxioms_holds:Rows.ProofAxiomsCardSaid :=
  Claim7.holds_tied_plain_at .later [] [.data, .data, .pinned] true (true, "58507672e0b71e294027ee25752d499ae67a1837e7fbef122f151b27ae6c7433") false
    proofAxioms_said (fun _ h=>by cases h) (by as_aux_lemma=>kernel_rfl) (fun _ h=>by cases h) proofAxioms_row_tie rfl ⟨rfl,rfl⟩ (by as_aux_lemma=>kernel_rfl) rfl
    (fun f fn hf hfn=>by
      obtain rfl:f=8:=Option.some.inj (proofAxioms_fn.symm.trans hf) |>.symm
      obtain rfl:fn=Tryz.f8:=(Option.some.inj (Tryz.func8.symm.trans hfn)).symm
      exact⟨by as_aux_lemma=>kernel_rfl,fun j t ht=>by
        rw[Tryz.params8]at ht
        have hm:t∈[22,24]:=by simpa using Array.mem_of_getElem? ht
        exact (show Tryz.prog.wantsStandIn t=false by simpa using List.all_eq_true.1 proofAxioms_st t hm)⟩)
    (by as_aux_lemma=>kernel_rfl)
end Go.Proofs.YtkeanlfhghlgiaaGreatDoor
