/-
  The law ModuleGoal returns true for every input that the row speaks of, and each argument reads afterwards as before: the tied card. Conditions: those of the given row alone.
-/
import Derived.Test.YtbffkokbdeppaaaGreatDoorQModuleGoal15
import Derived.Test.YtbffkokbdeppaaaGreatDoorTie
import Derived.Test.YtbffkokbdeppaaaGreatDoorCards
import Derived.Test.YtbffkokbdeppaaaGreatDoorQModuleGoal16
import Derived.Test.YtbffkokbdeppaaaGreatDoorQModuleGoal14
set_option linter.unusedVariables false
set_option linter.unusedSimpArgs false
set_option linter.unusedSectionVars false
set_option maxHeartbeats 1000000
namespace Go.Proofs.YtbffkokbdeppaaaGreatDoor
open Go Go.Sx Go.Proofs
attribute [local irreducible] Code.wp wpList wpAnyH
open Go.Vs Go.ChangeShapes Go.WideShapes Go.ChangeAt Go.RowKit
theorem goesNo {P:Program} (h:P.funcs.any Func.goes=false) (s:String):P.goesFrom s=false:=by
  have g:∀ (i:Nat) (fn:Func),P.funcs[i]? = some fn->fn.goes=false:=λi fn e=>by
    obtain⟨hi,rfl⟩:=yaA_.1 e
    exact Bool.eq_false_iff.2 λq=>by
      rw[Array.any_eq_false]at h;exact h i hi q
  have k:∀ f,P.goes f=false:=λf=>by
    unfold Program.goes;rw[h,Bool.and_false,Bool.or_false,List.any_eq_false];intro i _ q;cases e:P.funcs[i]? with
    | none=>rw[e]at q;exact absurd q zai_
    | some fn=>rw[e]at q;rw[Option.any_some,g i fn e]at q;exact absurd q zai_
  unfold Program.goesFrom;cases P.funcNamed s with
  | none=>rfl
  | some f=>exact k f
theorem noGo:Tryz.prog.funcs.any Func.goes=false:=by kernel_rfl
set_option maxRecDepth 100000 in
theorem liftedModuleGoal (os:Os) (d:os.Started) (H:Type) (enc:TypeId×Value->H) :
    ReturnsInHanded {} Tryz.checked os 4 .any (λw args=>(Rows.moduleGoalSpec.pre enc Tryz.prog Tryz.f4 [] false w args/\laidMetH Tryz.prog ho_ w)/\sizedMet enc Tryz.prog Tryz.f4 (OpenSpec.ofChange Rows.moduleGoalSpec) false w args)
      (Rows.moduleGoalSpec.post enc Tryz.prog Tryz.f4 false true false false):=by
  refine returnsInHanded_of_change_and (C:=Tryz.checked) (X:=λw _=>laidMetH Tryz.prog ho_ w) (λ_ _ _ hh h=>h.of_heap hh) own d zk Tryz.func4
    (ChangeSpec.witness_shaped (enc:=enc) (C:=Tryz.checked) (os:=os) (X:=λw _=>laidMetH Tryz.prog ho_ w) false (World.laidAll Tryz.prog os ho_) #[.agg #[.slice none 0 0],.agg (Ax.cells (Ax.mk 0 false (Con.mk 0 [] 0 0 none 0 []) (Con.mk 0 [] 0 0 none 0 []) none 0 [] [] [] [])).toArray] 8 (World.laidAll_os _ _ _)
      (World.shaped_of_ZipB zk zk) zk zk zk
      (by rw[MakeChecks.laidMetH_plain _ _ _ zk];exact laidMet_laidAll _ zk zk)) ?_
  intro W B args I gs before A Z _ L hL _;have k:∀ (j:Nat) t v,Tryz.f4.params[j]? = some t->args[j]? = some v->Value.okWide Tryz.prog W .any B t v:=A;have M:=Z;obtain⟨p,q,E,hV,rfl,_,_⟩:=Z;have hA:DataW.TrodAll enc Tryz.prog W 0 (λ_=>true) true Tryz.f4.params.toList args.toList I p:=E
  have U:∀ t∈Tryz.f4.params.toList,t<Tryz.prog.types.size:=by
    rw[Tryz.params4,nTypes];decide
  rw[Tryz.params4]at hA k;obtain⟨rfl,rfl⟩:=trodVars_none hV
  have m:wok (DataW.weightsEach Tryz.prog [24,30] I):=by
    have e:(Tryz.f4.params.toList++Rows.moduleGoalSpec.plain.varTypes Tryz.prog)=[24,30]:=by rw[Tryz.params4];rfl
    have y:wok (DataW.weightsEach Tryz.prog (Tryz.f4.params.toList++Rows.moduleGoalSpec.plain.varTypes Tryz.prog) (I++[])):=L;rw[e,yas_]at y;exact y
  obtain⟨J,V,d_1,d_2,p_1,p_2,rfl,rfl,rfl,O,K⟩:=trodAll_two hA;simp only[DataW.weightsEach,fv_]at m;obtain⟨l,ad,cap,rfl,Y,P,Q,F⟩:=Bo_ tysX tysB (k 0 24 J rfl rfl) O m.1;obtain⟨x,rfl,S,N⟩:=arg_ax tysX (k 1 30 V rfl rfl) K m.2.1;have T:=(moduleGoal_c xx_ l ad cap ⟨Q,F⟩ P x N).run (vw W) (vw_sat W) ⟨Y,S,BM_ hL,BN_ hL,trivial⟩;refine T.mono ?_;rintro e w' ⟨_,v',rfl,rfl,_,_,G⟩;exact⟨_,rfl,Ar_ Au_ full U rfl M rfl zk sF_ G⟩
theorem moduleGoal_jA:(Rows.moduleGoalRow.inPlace==Tryz.prog.inPlace 4)=true:=by kernel_rfl
theorem moduleGoal_jB:(Rows.moduleGoalRow.unfollowed==Tryz.prog.unfollowed 4)=true:=by kernel_rfl
theorem moduleGoal_jC:(Rows.moduleGoalRow.recurses==Tryz.prog.recurses 4)=true:=by kernel_rfl
theorem moduleGoal_jD:(Rows.moduleGoalRow.named==Tryz.prog.varsNamed 4)=true:=by kernel_rfl
theorem moduleGoal_jE:(laidOutB Tryz.prog)=true:=by kernel_rfl
theorem moduleGoal_jF:(mapsRowed Tryz.prog)=true:=by kernel_rfl
theorem moduleGoal_j:joinedFacts Tryz.prog 4 Tryz.f4 Rows.moduleGoalSpec Rows.moduleGoalRow=true:=by
  unfold joinedFacts;rw[moduleGoal_jA,moduleGoal_jB,moduleGoal_jC,moduleGoal_jD,moduleGoal_jE,moduleGoal_jF]
  kernel_rfl
theorem moduleGoal_said:Rows.ModuleGoalSaid :=
  OpenClaim.holds_of_wide 4 Tryz.f4 rfl rfl rfl rfl rfl rfl rfl ⟨rfl,rfl,rfl,rfl,rfl⟩ rfl rfl rfl rfl rfl zbj_ Tryz.func4 moduleGoal_j
    (yaY_ zbj_) (by as_aux_lemma=>(unfold Func.isWrapper;first|(rw[yaq_ (by decide +kernel)];kernel_rfl)|(rw[yag_ (by decide +kernel)];exact⟨rfl,rfl⟩)))
    (λos d H enc _=>liftedModuleGoal os d H enc)
theorem moduleGoal_fn : Tryz.prog.funcNamed "veilstone/veilstonelaw15.ModuleGoal" = some 4 := by kernel_rfl
theorem moduleGoal_st:([24,30].all λu=>!Tryz.prog.wantsStandIn u)=true:=by kernel_rfl
set_option maxHeartbeats 4000000 in
theorem moduleGoal_holds:Rows.ModuleGoalCardSaid :=
  Claim7.holds_tied_plain_at .later [] [.data, .data, .data, .data, .data, .data, .data, .pinned] true (true, "08e07ce45f25e7dd2c143a498aaaeb45ae79f750b85c3ddc74640dafe62bd8e6") false
    moduleGoal_said (λ_ h=>by cases h) zbj_ (λ_ h=>by cases h) moduleGoal_row_tie rfl ⟨rfl,rfl⟩ zbj_ rfl
    (λf fn k d=>by
      obtain rfl:f=4:=yba_ (moduleGoal_fn.symm.trans k) |>.symm
      obtain rfl:fn=Tryz.f4:=(yba_ (Tryz.func4.symm.trans d)).symm
      exact⟨by as_aux_lemma=>kernel_rfl,λj t e=>by
        rw[Tryz.params4]at e;have hm:t∈[24,30]:=by simpa using Array.mem_of_getElem? e
        exact (show Tryz.prog.wantsStandIn t=false by simpa using ybb_.1 moduleGoal_st t hm)⟩)
    (show Program.goesAt Tryz.prog .entering _=false by unfold Program.goesAt;rw[goesNo noGo];rfl).symm
end Go.Proofs.YtbffkokbdeppaaaGreatDoor
