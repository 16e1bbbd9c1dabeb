/-
  The law ModuleTypes returns true for every input that the row speaks of, and each argument reads afterwards as before: the tied card. Conditions: those of the given row alone.
-/
import Derived.Test.YthmjeabeoodghaaGreatDoorQModuleTypes17
import Derived.Test.YthmjeabeoodghaaGreatDoorTie
import Derived.Test.YthmjeabeoodghaaGreatDoorCards
import Derived.Test.YthmjeabeoodghaaGreatDoorQModuleTypes16
import Derived.Test.YthmjeabeoodghaaGreatDoorQModuleTypes15
set_option linter.unusedVariables false
set_option linter.unusedSimpArgs false
set_option linter.unusedSectionVars false
set_option maxHeartbeats 1000000
namespace Go.Proofs.YthmjeabeoodghaaGreatDoor
open Go Go.Sx Go.Proofs
attribute [local irreducible] Code.wp wpList wpAnyH
open Go.Vs Go.ChangeShapes Go.WideShapes Go.ChangeAt Go.RowKit
set_option maxRecDepth 100000 in
theorem liftedModuleTypes (os:Os) (m:os.Started) (H:Type) (enc:TypeId×Value→H) :
    ReturnsInHanded {} Tryz.checked os 5 .any (fun w args=>(Rows.moduleTypesSpec.pre enc Tryz.prog Tryz.f5 [] false w args∧laidMetH Tryz.prog hf_ w)∧sizedMet enc Tryz.prog Tryz.f5 (OpenSpec.ofChange Rows.moduleTypesSpec) false w args)
      (Rows.moduleTypesSpec.post enc Tryz.prog Tryz.f5 false true false false):=by
  refine returnsInHanded_of_change_and (C:=Tryz.checked) (X:=fun w _=>laidMetH Tryz.prog hf_ w) (fun _ _ _ Z h=>h.of_heap Z) own m zk Tryz.func5
    (ChangeSpec.witness_shaped (enc:=enc) (C:=Tryz.checked) (os:=os) (X:=fun w _=>laidMetH Tryz.prog hf_ w) false (World.laidAll Tryz.prog os hf_) #[.agg #[.slice none 0 0]] 8 (World.laidAll_os _ _ _)
      (World.shaped_of_ZipB zk zk) zk zk zk
      (by rw[MakeChecks.laidMetH_plain _ _ _ zk];exact laidMet_laidAll _ zk zk)) ?_
  intro W F args O gs before x R _ G U _;have A:∀ (j:Nat) t v,Tryz.f5.params[j]? = some t→args[j]? = some v→Value.okWide Tryz.prog W .any F t v:=x;have Q:=R;obtain⟨p,q,B,Y,rfl,_,_⟩:=R;have S:DataW.TrodAll enc Tryz.prog W 0 (fun _=>true) true Tryz.f5.params.toList args.toList O p:=B
  have M:∀ t∈Tryz.f5.params.toList,t<Tryz.prog.types.size:=by
    rw[Tryz.params5,oO_];decide
  rw[Tryz.params5]at S A;obtain⟨rfl,rfl⟩:=trodVars_none Y
  have y:wok (DataW.weightsEach Tryz.prog [24] O):=by
    have e:(Tryz.f5.params.toList++Rows.moduleTypesSpec.plain.varTypes Tryz.prog)=[24]:=by rw[Tryz.params5];rfl
    have d:wok (DataW.weightsEach Tryz.prog (Tryz.f5.params.toList++Rows.moduleTypesSpec.plain.varTypes Tryz.prog) (O++[])):=G;rw[e,List.append_nil]at d;exact d
  obtain⟨I,V,rfl,rfl,N⟩:=trodAll_one S;simp only[DataW.weightsEach,fq_]at y;obtain⟨l,ad,cap,rfl,K,L,P,E⟩:=AK_ tysX tysB (A 0 24 I rfl rfl) N y.1;have T:=(moduleTypes_c uO_ uN_ zf_ l ad cap ⟨P,E⟩ L).run (vw W) (vw_sat W) ⟨K,Bh_ U,Bi_ U,trivial⟩;refine T.mono ?_;rintro e w' ⟨_,v',rfl,rfl,_,_,J⟩;exact⟨_,rfl,zP_ zQ_ full M rfl Q rfl zk kj_ J⟩
theorem moduleTypes_jA:(Rows.moduleTypesRow.inPlace==Tryz.prog.inPlace 5)=true:=by kernel_rfl
theorem moduleTypes_jB:(Rows.moduleTypesRow.unfollowed==Tryz.prog.unfollowed 5)=true:=by kernel_rfl
theorem moduleTypes_jC:(Rows.moduleTypesRow.recurses==Tryz.prog.recurses 5)=true:=by kernel_rfl
theorem moduleTypes_jD:(Rows.moduleTypesRow.named==Tryz.prog.varsNamed 5)=true:=by kernel_rfl
theorem moduleTypes_jE:(laidOutB Tryz.prog)=true:=by kernel_rfl
theorem moduleTypes_jF:(mapsRowed Tryz.prog)=true:=by kernel_rfl
theorem moduleTypes_j:joinedFacts Tryz.prog 5 Tryz.f5 Rows.moduleTypesSpec Rows.moduleTypesRow=true:=by
  unfold joinedFacts;rw[moduleTypes_jA,moduleTypes_jB,moduleTypes_jC,moduleTypes_jD,moduleTypes_jE,moduleTypes_jF]
  kernel_rfl
theorem moduleTypes_said:Rows.ModuleTypesSaid :=
  OpenClaim.holds_of_wide 5 Tryz.f5 rfl rfl rfl rfl rfl rfl rfl ⟨rfl,rfl,rfl,rfl,rfl⟩ rfl rfl rfl rfl rfl zbb_ Tryz.func5 moduleTypes_j
    (of_decide_eq_true zbb_) (by as_aux_lemma=>(unfold Func.isWrapper;first|(rw[if_pos (by decide +kernel)];kernel_rfl)|(rw[if_neg (by decide +kernel)];exact⟨rfl,rfl⟩)))
    (fun os d H enc _=>liftedModuleTypes os d H enc)
theorem moduleTypes_fn : Tryz.prog.funcNamed "veilstone/veilstonelaw15.ModuleTypes" = some 5 := by kernel_rfl
theorem moduleTypes_st:([24].all fun u=>!Tryz.prog.wantsStandIn u)=true:=by kernel_rfl
set_option maxHeartbeats 4000000 in
theorem moduleTypes_holds:Rows.ModuleTypesCardSaid :=
  Claim7.holds_tied_plain_at .later [] [.data, .data, .data, .data, .data, .data, .data, .pinned] true (true, "43709daa38384d0ed919f7c53f7d5d8e254d235b62f5ee2d3a089bd5f1026d21") false
    moduleTypes_said (fun _ h=>by cases h) zbb_ (fun _ h=>by cases h) moduleTypes_row_tie rfl ⟨rfl,rfl⟩ zbb_ rfl
    (fun f fn m d=>by
      obtain rfl:f=5:=Option.some.inj (moduleTypes_fn.symm.trans m) |>.symm
      obtain rfl:fn=Tryz.f5:=(Option.some.inj (Tryz.func5.symm.trans d)).symm
      exact⟨by as_aux_lemma=>kernel_rfl,fun j t e=>by
        rw[Tryz.params5]at e;have hm:t∈[24]:=by simpa using Array.mem_of_getElem? e
        exact (show Tryz.prog.wantsStandIn t=false by simpa using List.all_eq_true.1 moduleTypes_st t hm)⟩)
    zbb_
end Go.Proofs.YthmjeabeoodghaaGreatDoor
