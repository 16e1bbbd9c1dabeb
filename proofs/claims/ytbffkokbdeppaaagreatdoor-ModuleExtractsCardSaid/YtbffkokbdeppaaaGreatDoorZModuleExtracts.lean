/-
  The law ModuleExtracts returns true for every input that the row speaks of, and each argument reads afterwards as before: the tied card. Conditions: those of the given row alone.
-/
import Derived.Test.YtbffkokbdeppaaaGreatDoorQModuleExtracts18
import Derived.Test.YtbffkokbdeppaaaGreatDoorTie
import Derived.Test.YtbffkokbdeppaaaGreatDoorCards
import Derived.Test.YtbffkokbdeppaaaGreatDoorQModuleExtracts14
set_option linter.unusedVariables false
set_option linter.unusedSimpArgs false
set_option linter.unusedSectionVars false
set_option maxHeartbeats 1000000
namespace Go.Proofs.YtbffkokbdeppaaaGreatDoor
open Go Go.Sx Go.Proofs
attribute [local irreducible] Code.wp wpList wpAnyH
open Go.Vs Go.ChangeShapes Go.WideShapes Go.ChangeAt Go.RowKit
theorem goesNo {P:Program} (h:P.funcs.any Func.goes=false) (s:String):P.goesFrom s=false:=by
  have g:∀ (i:Nat) (fn:Func),P.funcs[i]? = some fn->fn.goes=false:=λi fn e=>by
    obtain⟨hi,rfl⟩:=yaC_.1 e
    exact Bool.eq_false_iff.2 λq=>by
      rw[Array.any_eq_false]at h;exact h i hi q
  have k:∀ f,P.goes f=false:=λf=>by
    unfold Program.goes;rw[h,Bool.and_false,Bool.or_false,List.any_eq_false];intro i _ q;cases e:P.funcs[i]? with
    | none=>rw[e]at q;exact absurd q zak_
    | some fn=>rw[e]at q;rw[Option.any_some,g i fn e]at q;exact absurd q zak_
  unfold Program.goesFrom;cases P.funcNamed s with
  | none=>rfl
  | some f=>exact k f
theorem noGo:Tryz.prog.funcs.any Func.goes=false:=by kernel_rfl
set_option maxRecDepth 100000 in
theorem liftedModuleExtracts (os:Os) (o:os.Started) (H:Type) (enc:TypeId×Value->H) :
    ReturnsInHanded {} Tryz.checked os 3 .any (λw args=>(Rows.moduleExtractsSpec.pre enc Tryz.prog Tryz.f3 [] false w args/\laidMetH Tryz.prog jI_ w)/\sizedMet enc Tryz.prog Tryz.f3 (OpenSpec.ofChange Rows.moduleExtractsSpec) false w args)
      (Rows.moduleExtractsSpec.post enc Tryz.prog Tryz.f3 false true false false):=by
  refine returnsInHanded_of_change_and (C:=Tryz.checked) (X:=λw _=>laidMetH Tryz.prog jI_ w) (λ_ _ _ hh h=>h.of_heap hh) own o zk Tryz.func3
    (ChangeSpec.witness_shaped (enc:=enc) (C:=Tryz.checked) (os:=os) (X:=λw _=>laidMetH Tryz.prog jI_ w) false (World.laidAll Tryz.prog os jI_) #[.agg #[.slice none 0 0],.slice none 0 0,.agg (Ax.cells (Ax.mk 0 false (Con.mk 0 [] 0 0 none 0 []) (Con.mk 0 [] 0 0 none 0 []) none 0 [] [] [] [])).toArray] 8 (World.laidAll_os _ _ _)
      (World.shaped_of_ZipB zk zk) zk zk zk
      (by rw[MakeChecks.laidMetH_plain _ _ _ zk];exact laidMet_laidAll _ zk zk)) ?_
  intro W A args Q gs before y hW _ U hL _;have d:∀ (j:Nat) t v,Tryz.f3.params[j]? = some t->args[j]? = some v->Value.okWide Tryz.prog W .any A t v:=y;have J:=hW;obtain⟨p,q,B,hV,rfl,_,_⟩:=hW;have hA:DataW.TrodAll enc Tryz.prog W 0 (λ_=>true) true Tryz.f3.params.toList args.toList Q p:=B
  have M:∀ t∈Tryz.f3.params.toList,t<Tryz.prog.types.size:=by
    rw[Tryz.params3,nTypes];decide
  rw[Tryz.params3]at hA d;obtain⟨rfl,rfl⟩:=trodVars_none hV
  have k:wok (DataW.weightsEach Tryz.prog [24,25,30] Q):=by
    have e:(Tryz.f3.params.toList++Rows.moduleExtractsSpec.plain.varTypes Tryz.prog)=[24,25,30]:=by rw[Tryz.params3];rfl
    have u:wok (DataW.weightsEach Tryz.prog (Tryz.f3.params.toList++Rows.moduleExtractsSpec.plain.varTypes Tryz.prog) (Q++[])):=U;rw[e,yas_]at u;exact u
  obtain⟨R,a2,a1,d_1,d_2,d_3,p_1,p_2,p_3,rfl,rfl,rfl,Z,I,V⟩:=trodAll_three hA;simp only[DataW.weightsEach,fO_]at k;obtain⟨l,ad,cap,rfl,a3,L,a0,E⟩:=AZ_ tysX tysB (d 0 24 R rfl rfl) Z k.1;obtain⟨S,sad,F,rfl,O,P,hSc,hSm⟩:=AY_ tysX (d 1 25 a2 rfl rfl) I k.2.1;obtain⟨x,rfl,Y,K⟩:=arg_ax tysX (d 2 30 a1 rfl rfl) V k.2.2.1;have T:=(moduleExtracts_c xv_ l ad cap ⟨a0,E⟩ L S sad F zaa_ P x K).run (vw W) (vw_sat W) ⟨a3,O,Y,Bv_ hL,trivial⟩;refine T.mono ?_;rintro e w' ⟨_,v',rfl,rfl,_,_,G⟩;exact⟨_,rfl,Ad_ Ch_ full M rfl J rfl zk kR_ G⟩
theorem moduleExtracts_jA:(Rows.moduleExtractsRow.inPlace==Tryz.prog.inPlace 3)=true:=by kernel_rfl
theorem moduleExtracts_jB:(Rows.moduleExtractsRow.unfollowed==Tryz.prog.unfollowed 3)=true:=by kernel_rfl
theorem moduleExtracts_jC:(Rows.moduleExtractsRow.recurses==Tryz.prog.recurses 3)=true:=by kernel_rfl
theorem moduleExtracts_jD:(Rows.moduleExtractsRow.named==Tryz.prog.varsNamed 3)=true:=by kernel_rfl
theorem moduleExtracts_jE:(laidOutB Tryz.prog)=true:=by kernel_rfl
theorem moduleExtracts_jF:(mapsRowed Tryz.prog)=true:=by kernel_rfl
theorem moduleExtracts_j:joinedFacts Tryz.prog 3 Tryz.f3 Rows.moduleExtractsSpec Rows.moduleExtractsRow=true:=by
  unfold joinedFacts;rw[moduleExtracts_jA,moduleExtracts_jB,moduleExtracts_jC,moduleExtracts_jD,moduleExtracts_jE,moduleExtracts_jF]
  kernel_rfl
theorem moduleExtracts_said:Rows.ModuleExtractsSaid :=
  OpenClaim.holds_of_wide 3 Tryz.f3 rfl rfl rfl rfl rfl rfl rfl ⟨rfl,rfl,rfl,rfl,rfl⟩ rfl rfl rfl rfl rfl zbO_ Tryz.func3 moduleExtracts_j
    (ybB_ zbO_) (by as_aux_lemma=>(unfold Func.isWrapper;first|(rw[yax_ (by decide +kernel)];kernel_rfl)|(rw[yam_ (by decide +kernel)];exact⟨rfl,rfl⟩)))
    (λos d H enc _=>liftedModuleExtracts os d H enc)
theorem moduleExtracts_fn : Tryz.prog.funcNamed "veilstone/veilstonelaw15.ModuleExtracts" = some 3 := by kernel_rfl
theorem moduleExtracts_st:([24,25,30].all λu=>!Tryz.prog.wantsStandIn u)=true:=by kernel_rfl
set_option maxHeartbeats 4000000 in
theorem moduleExtracts_holds:Rows.ModuleExtractsCardSaid :=
  Claim7.holds_tied_plain_at .later [] [.data, .data, .data, .data, .data] true (true, "08e07ce45f25e7dd2c143a498aaaeb45ae79f750b85c3ddc74640dafe62bd8e6") false
    moduleExtracts_said (λ_ h=>by cases h) zbO_ (λ_ h=>by cases h) moduleExtracts_row_tie rfl ⟨rfl,rfl⟩ zbO_ rfl
    (λf fn k d=>by
      obtain rfl:f=3:=ycf_ (moduleExtracts_fn.symm.trans k) |>.symm
      obtain rfl:fn=Tryz.f3:=(ycf_ (Tryz.func3.symm.trans d)).symm
      exact⟨by as_aux_lemma=>kernel_rfl,λj t e=>by
        rw[Tryz.params3]at e;have hm:t∈[24,25,30]:=by simpa using Array.mem_of_getElem? e
        exact (show Tryz.prog.wantsStandIn t=false by simpa using ybn_.1 moduleExtracts_st t hm)⟩)
    (show Program.goesAt Tryz.prog .entering _=false by unfold Program.goesAt;rw[goesNo noGo];rfl).symm
end Go.Proofs.YtbffkokbdeppaaaGreatDoor
