/-
  The law ModuleShrinks returns true for every input that the row speaks of, and each argument reads afterwards as before: the tied card. Conditions: those of the given row alone.
-/
import Derived.Test.YtamklbgaipakfaaGreatDoorQModuleShrinks15
import Derived.Test.YtamklbgaipakfaaGreatDoorTie
import Derived.Test.YtamklbgaipakfaaGreatDoorCards
import Derived.Test.YtamklbgaipakfaaGreatDoorQModuleShrinks14
set_option linter.unusedVariables false
set_option linter.unusedSimpArgs false
set_option linter.unusedSectionVars false
set_option maxHeartbeats 1000000
namespace Go.Proofs.YtamklbgaipakfaaGreatDoor
open Go Go.Sx Go.Proofs
attribute [local irreducible] Code.wp wpList wpAnyH
open Go.Vs Go.ChangeShapes Go.WideShapes Go.ChangeAt Go.RowKit
set_option maxRecDepth 100000 in
theorem liftedModuleShrinks (os:Os) (started:os.Started) (H:Type) (enc:TypeId×Value→H) :
    ReturnsInHanded {} Tryz.checked os 4 .any (fun w args=>(Rows.moduleShrinksSpec.pre enc Tryz.prog Tryz.f4 [] false w args∧laidMetH Tryz.prog gD_ w)∧sizedMet enc Tryz.prog Tryz.f4 (OpenSpec.ofChange Rows.moduleShrinksSpec) false w args)
      (Rows.moduleShrinksSpec.post enc Tryz.prog Tryz.f4 false true false false):=by
  refine returnsInHanded_of_change_and (C:=Tryz.checked) (X:=fun w _=>laidMetH Tryz.prog gD_ w) (fun _ _ _ hh h=>h.of_heap hh) own started zk Tryz.func4
    (ChangeSpec.witness_shaped (enc:=enc) (C:=Tryz.checked) (os:=os) (X:=fun w _=>laidMetH Tryz.prog gD_ w) false (World.laidAll Tryz.prog os gD_) #[.agg #[.slice none 0 0],.slice none 0 0,.int .i64 0] 8 (World.laidAll_os _ _ _)
      (World.shaped_of_ZipB zk zk) zk zk zk
      (by rw[MakeChecks.laidMetH_plain _ _ _ zk];exact laidMet_laidAll _ zk zk)) ?_
  intro W base args ds gs before hval0 hW _ hwt hL _
  have hval:∀ (j:Nat) t v,Tryz.f4.params[j]? = some t→args[j]? = some v→Value.okWide Tryz.prog W .any base t v:=hval0
  have hW':=hW
  obtain⟨p,q,hA0,hV,rfl,_,_⟩:=hW
  have hA:DataW.TrodAll enc Tryz.prog W 0 (fun _=>true) true Tryz.f4.params.toList args.toList ds p:=hA0
  have hts:∀ t∈Tryz.f4.params.toList,t<Tryz.prog.types.size:=by
    rw[Tryz.params4,mm_];decide
  rw[Tryz.params4]at hA hval
  obtain⟨rfl,rfl⟩:=trodVars_none hV
  have hwt':wok (DataW.weightsEach Tryz.prog [37,23,3] ds):=by
    have e:(Tryz.f4.params.toList++Rows.moduleShrinksSpec.plain.varTypes Tryz.prog)=[37,23,3]:=by rw[Tryz.params4];rfl
    have hwt0:wok (DataW.weightsEach Tryz.prog (Tryz.f4.params.toList++Rows.moduleShrinksSpec.plain.varTypes Tryz.prog) (ds++[])):=hwt
    rw[e,List.append_nil]at hwt0
    exact hwt0
  obtain⟨v0,v1,v2,d0,d1,d2,p0,p1,p2,rfl,rfl,rfl,h0,h1,h2⟩:=trodAll_three hA
  simp only[DataW.weightsEach,et_]at hwt'
  obtain⟨l,ad,cap,rfl,hax,hok,hlc,hcap⟩:=tL_ tysX tysB (hval 0 37 v0 rfl rfl) h0 hwt'.1
  obtain⟨S,sad,scap,rfl,hrS,hSl,hSc,hSm⟩:=tK_ tysX (hval 1 23 v1 rfl rfl) h1 hwt'.2.1
  obtain⟨n,rfl,hn1,hn2⟩:=uW_ tysX (hval 2 3 v2 rfl rfl) h2
  have T:=(moduleShrinks_c sv_ l ad cap ⟨hlc,hcap⟩ hok S sad scap (by omega) hSc hSl n).run (vw W) (vw_sat W) ⟨hax,hrS,uc_ hL,trivial⟩
  refine T.mono ?_
  rintro e w' ⟨_,v',rfl,rfl,_,_,hto⟩
  exact⟨_,rfl,sX_ uC_ full hts rfl hW' rfl zk Tryz.underlying4 hto⟩
theorem moduleShrinks_jA:(Rows.moduleShrinksRow.inPlace==Tryz.prog.inPlace 4)=true:=by kernel_rfl
theorem moduleShrinks_jB:(Rows.moduleShrinksRow.unfollowed==Tryz.prog.unfollowed 4)=true:=by kernel_rfl
theorem moduleShrinks_jC:(Rows.moduleShrinksRow.recurses==Tryz.prog.recurses 4)=true:=by kernel_rfl
theorem moduleShrinks_jD:(Rows.moduleShrinksRow.named==Tryz.prog.varsNamed 4)=true:=by kernel_rfl
theorem moduleShrinks_jE:(laidOutB Tryz.prog)=true:=by kernel_rfl
theorem moduleShrinks_jF:(mapsRowed Tryz.prog)=true:=by kernel_rfl
theorem moduleShrinks_j:joinedFacts Tryz.prog 4 Tryz.f4 Rows.moduleShrinksSpec Rows.moduleShrinksRow=true:=by
  unfold joinedFacts
  rw[moduleShrinks_jA,moduleShrinks_jB,moduleShrinks_jC,moduleShrinks_jD,moduleShrinks_jE,moduleShrinks_jF]
  kernel_rfl
theorem moduleShrinks_said:Rows.ModuleShrinksSaid :=
  OpenClaim.holds_of_wide 4 Tryz.f4 rfl rfl rfl rfl rfl rfl rfl ⟨rfl,rfl,rfl,rfl,rfl⟩ rfl rfl rfl rfl rfl (by as_aux_lemma=>kernel_rfl) Tryz.func4 moduleShrinks_j
    (of_decide_eq_true (by as_aux_lemma=>kernel_rfl)) (by as_aux_lemma=>(unfold Func.isWrapper;first|(rw[if_pos (by decide +kernel)];kernel_rfl)|(rw[if_neg (by decide +kernel)];exact⟨rfl,rfl⟩)))
    (fun os started H enc _=>liftedModuleShrinks os started H enc)
theorem moduleShrinks_fn : Tryz.prog.funcNamed "veilstone/veilstonelaw15.ModuleShrinks" = some 4 := by kernel_rfl
theorem moduleShrinks_st:([37,23,3].all fun u=>!Tryz.prog.wantsStandIn u)=true:=by kernel_rfl
set_option maxHeartbeats 4000000 in
theorem moduleShrinks_holds:Rows.ModuleShrinksCardSaid :=
  Claim7.holds_tied_plain_at .later [] [.data, .data, .data, .data, .data] true (true, "ee7d90eaafc0f914d08abf75e363d6c4aab6d81c2554268b0bd198c71ea374ba") false
    moduleShrinks_said (fun _ h=>by cases h) (by as_aux_lemma=>kernel_rfl) (fun _ h=>by cases h) moduleShrinks_row_tie rfl ⟨rfl,rfl⟩ (by as_aux_lemma=>kernel_rfl) rfl
    (fun f fn hf hfn=>by
      obtain rfl:f=4:=Option.some.inj (moduleShrinks_fn.symm.trans hf) |>.symm
      obtain rfl:fn=Tryz.f4:=(Option.some.inj (Tryz.func4.symm.trans hfn)).symm
      exact⟨by as_aux_lemma=>kernel_rfl,fun j t ht=>by
        rw[Tryz.params4]at ht
        have hm:t∈[37,23,3]:=by simpa using Array.mem_of_getElem? ht
        exact (show Tryz.prog.wantsStandIn t=false by simpa using List.all_eq_true.1 moduleShrinks_st t hm)⟩)
    (by as_aux_lemma=>kernel_rfl)
end Go.Proofs.YtamklbgaipakfaaGreatDoor
