/-
  The law ModuleExact returns true for every input that the row speaks of, and each argument reads afterwards as before: the tied card. Conditions: those of the given row alone.
-/
import Derived.Test.YtamklbgaipakfaaGreatDoorQModuleExact16
import Derived.Test.YtamklbgaipakfaaGreatDoorTie
import Derived.Test.YtamklbgaipakfaaGreatDoorCards
import Derived.Test.YtamklbgaipakfaaGreatDoorQModuleExact15
set_option linter.unusedVariables false
set_option linter.unusedSimpArgs false
set_option linter.unusedSectionVars false
set_option maxHeartbeats 1000000
namespace Go.Proofs.YtamklbgaipakfaaGreatDoor
open Go Go.Sx Go.Proofs
attribute [local irreducible] Code.wp wpList wpAnyH
open Go.Vs Go.ChangeShapes Go.WideShapes Go.ChangeAt Go.RowKit
set_option maxRecDepth 100000 in
theorem liftedModuleExact (os:Os) (started:os.Started) (H:Type) (enc:TypeId×Value→H) :
    ReturnsInHanded {} Tryz.checked os 6 .any (fun w args=>(Rows.moduleExactSpec.pre enc Tryz.prog Tryz.f6 [] false w args∧laidMetH Tryz.prog gy_ w)∧sizedMet enc Tryz.prog Tryz.f6 (OpenSpec.ofChange Rows.moduleExactSpec) false w args)
      (Rows.moduleExactSpec.post enc Tryz.prog Tryz.f6 false true false false):=by
  refine returnsInHanded_of_change_and (C:=Tryz.checked) (X:=fun w _=>laidMetH Tryz.prog gy_ w) (fun _ _ _ hh h=>h.of_heap hh) own started zk Tryz.func6
    (ChangeSpec.witness_shaped (enc:=enc) (C:=Tryz.checked) (os:=os) (X:=fun w _=>laidMetH Tryz.prog gy_ w) false (World.laidAll Tryz.prog os gy_) #[.slice none 0 0,.slice none 0 0] 8 (World.laidAll_os _ _ _)
      (World.shaped_of_ZipB zk zk) zk zk zk
      (by rw[MakeChecks.laidMetH_plain _ _ _ zk];exact laidMet_laidAll _ zk zk)) ?_
  intro W base args ds gs before hval0 hW _ hwt hL _
  have hval:∀ (j:Nat) t v,Tryz.f6.params[j]? = some t→args[j]? = some v→Value.okWide Tryz.prog W .any base t v:=hval0
  have hW':=hW
  obtain⟨p,q,hA0,hV,rfl,_,_⟩:=hW
  have hA:DataW.TrodAll enc Tryz.prog W 0 (fun _=>true) true Tryz.f6.params.toList args.toList ds p:=hA0
  have hts:∀ t∈Tryz.f6.params.toList,t<Tryz.prog.types.size:=by
    rw[Tryz.params6,lF_];decide
  rw[Tryz.params6]at hA hval
  obtain⟨rfl,rfl⟩:=trodVars_none hV
  have hwt':wok (DataW.weightsEach Tryz.prog [22,23] ds):=by
    have e:(Tryz.f6.params.toList++Rows.moduleExactSpec.plain.varTypes Tryz.prog)=[22,23]:=by rw[Tryz.params6];rfl
    have hwt0:wok (DataW.weightsEach Tryz.prog (Tryz.f6.params.toList++Rows.moduleExactSpec.plain.varTypes Tryz.prog) (ds++[])):=hwt
    rw[e,List.append_nil]at hwt0
    exact hwt0
  obtain⟨v0,v1,d0,d1,p0,p1,rfl,rfl,rfl,h0,h1⟩:=trodAll_two hA
  simp only[DataW.weightsEach,gc_]at hwt'
  obtain⟨l,ad,cap,rfl,hax,hok,hlc,hcap⟩:=wa_ tysX (hval 0 22 v0 rfl rfl) h0 hwt'.1
  obtain⟨S,sad,scap,rfl,hrS,hSl,hSc,hSm⟩:=uE_ tysX (hval 1 23 v1 rfl rfl) h1 hwt'.2.1
  have T:=(moduleExact_c tA_ l ad cap ⟨hlc,hcap⟩ hok S sad scap (by omega) hSl).run (vw W) (vw_sat W) ⟨hax,hrS,uU_ hL,uV_ hL,trivial⟩
  refine T.mono ?_
  rintro e w' ⟨_,v',rfl,rfl,_,_,hto⟩
  exact⟨_,rfl,ua_ ub_ full hts rfl hW' rfl zk Tryz.underlying4 hto⟩
theorem moduleExact_jA:(Rows.moduleExactRow.inPlace==Tryz.prog.inPlace 6)=true:=by kernel_rfl
theorem moduleExact_jB:(Rows.moduleExactRow.unfollowed==Tryz.prog.unfollowed 6)=true:=by kernel_rfl
theorem moduleExact_jC:(Rows.moduleExactRow.recurses==Tryz.prog.recurses 6)=true:=by kernel_rfl
theorem moduleExact_jD:(Rows.moduleExactRow.named==Tryz.prog.varsNamed 6)=true:=by kernel_rfl
theorem moduleExact_jE:(laidOutB Tryz.prog)=true:=by kernel_rfl
theorem moduleExact_jF:(mapsRowed Tryz.prog)=true:=by kernel_rfl
theorem moduleExact_j:joinedFacts Tryz.prog 6 Tryz.f6 Rows.moduleExactSpec Rows.moduleExactRow=true:=by
  unfold joinedFacts
  rw[moduleExact_jA,moduleExact_jB,moduleExact_jC,moduleExact_jD,moduleExact_jE,moduleExact_jF]
  kernel_rfl
theorem moduleExact_said:Rows.ModuleExactSaid :=
  OpenClaim.holds_of_wide 6 Tryz.f6 rfl rfl rfl rfl rfl rfl rfl ⟨rfl,rfl,rfl,rfl,rfl⟩ rfl rfl rfl rfl rfl (by as_aux_lemma=>kernel_rfl) Tryz.func6 moduleExact_j
    (of_decide_eq_true (by as_aux_lemma=>kernel_rfl)) (by as_aux_lemma=>(unfold Func.isWrapper;first|(rw[if_pos (by decide +kernel)];kernel_rfl)|(rw[if_neg (by decide +kernel)];exact⟨rfl,rfl⟩)))
    (fun os started H enc _=>liftedModuleExact os started H enc)
theorem moduleExact_fn : Tryz.prog.funcNamed "veilstone/veilstonelaw15.ModuleExact" = some 6 := by kernel_rfl
theorem moduleExact_st:([22,23].all fun u=>!Tryz.prog.wantsStandIn u)=true:=by kernel_rfl
set_option maxHeartbeats 4000000 in
theorem moduleExact_holds:Rows.ModuleExactCardSaid :=
  Claim7.holds_tied_plain_at .later [] [.data, .data, .data, .data, .data, .data, .data, .pinned] true (true, "ee7d90eaafc0f914d08abf75e363d6c4aab6d81c2554268b0bd198c71ea374ba") false
    moduleExact_said (fun _ h=>by cases h) (by as_aux_lemma=>kernel_rfl) (fun _ h=>by cases h) moduleExact_row_tie rfl ⟨rfl,rfl⟩ (by as_aux_lemma=>kernel_rfl) rfl
    (fun f fn hf hfn=>by
      obtain rfl:f=6:=Option.some.inj (moduleExact_fn.symm.trans hf) |>.symm
      obtain rfl:fn=Tryz.f6:=(Option.some.inj (Tryz.func6.symm.trans hfn)).symm
      exact⟨by as_aux_lemma=>kernel_rfl,fun j t ht=>by
        rw[Tryz.params6]at ht
        have hm:t∈[22,23]:=by simpa using Array.mem_of_getElem? ht
        exact (show Tryz.prog.wantsStandIn t=false by simpa using List.all_eq_true.1 moduleExact_st t hm)⟩)
    (by as_aux_lemma=>kernel_rfl)
end Go.Proofs.YtamklbgaipakfaaGreatDoor
