/-
  The law CanonReaches returns true for every input that the row speaks of, and each argument reads afterwards as before: the tied card. Conditions: those of the given row alone.
-/
import Derived.Test.YtpbnmnfdgckaiaaGreatDoorQCanonReaches15
import Derived.Test.YtpbnmnfdgckaiaaGreatDoorTie
import Derived.Test.YtpbnmnfdgckaiaaGreatDoorCards
set_option linter.unusedVariables false
set_option linter.unusedSimpArgs false
set_option linter.unusedSectionVars false
set_option maxHeartbeats 1000000
namespace Go.Proofs.YtpbnmnfdgckaiaaGreatDoor
open Go Go.Sx Go.Proofs
attribute [local irreducible] Code.wp wpList wpAnyH
open Go.Vs Go.ChangeShapes Go.WideShapes Go.ChangeAt Go.RowKit
set_option maxRecDepth 100000 in
theorem liftedCanonReaches (os:Os) (k:os.Started) (H:Type) (enc:TypeId×Value→H) :
    ReturnsInHanded {} Tryz.checked os 3 .any (fun w args=>(Rows.canonReachesSpec.pre enc Tryz.prog Tryz.f3 [] false w args∧laidMetH Tryz.prog gB_ w)∧sizedMet enc Tryz.prog Tryz.f3 (OpenSpec.ofChange Rows.canonReachesSpec) false w args)
      (Rows.canonReachesSpec.post enc Tryz.prog Tryz.f3 false true false false):=by
  refine returnsInHanded_of_change_and (C:=Tryz.checked) (X:=fun w _=>laidMetH Tryz.prog gB_ w) (fun _ _ _ Y h=>h.of_heap Y) own k zk Tryz.func3
    (ChangeSpec.witness_shaped (enc:=enc) (C:=Tryz.checked) (os:=os) (X:=fun w _=>laidMetH Tryz.prog gB_ w) false (World.laidAll Tryz.prog os gB_) #[.slice none 0 0] 8 (World.laidAll_os _ _ _)
      (World.shaped_of_ZipB zk zk) zk zk zk
      (by rw[MakeChecks.laidMetH_plain _ _ _ zk];exact laidMet_laidAll _ zk zk)) ?_
  intro W E args M gs before m R _ P Q _;have y:∀ (j:Nat) t v,Tryz.f3.params[j]? = some t→args[j]? = some v→Value.okWide Tryz.prog W .any E t v:=m;have L:=R;obtain⟨p,q,B,V,rfl,_,_⟩:=R;have S:DataW.TrodAll enc Tryz.prog W 0 (fun _=>true) true Tryz.f3.params.toList args.toList M p:=B
  have O:∀ t∈Tryz.f3.params.toList,t<Tryz.prog.types.size:=by
    rw[Tryz.params3,ns_];decide
  rw[Tryz.params3]at S y;obtain⟨rfl,rfl⟩:=trodVars_none V
  have x:wok (DataW.weightsEach Tryz.prog [22] M):=by
    have e:(Tryz.f3.params.toList++Rows.canonReachesSpec.plain.varTypes Tryz.prog)=[22]:=by rw[Tryz.params3];rfl
    have d:wok (DataW.weightsEach Tryz.prog (Tryz.f3.params.toList++Rows.canonReachesSpec.plain.varTypes Tryz.prog) (M++[])):=P;rw[e,List.append_nil]at d;exact d
  obtain⟨G,U,rfl,rfl,N⟩:=trodAll_one S;simp only[DataW.weightsEach,fX_]at x;obtain⟨l,ad,cap,rfl,I,K,F,A⟩:=yT_ tysX (y 0 22 G rfl rfl) N x.1;have T:=(canonReaches_c l ad cap ⟨F,A⟩ K).run (vw W) (vw_sat W) ⟨I,xq_ Q,xr_ Q,trivial⟩;refine T.mono ?_;rintro e w' ⟨_,Z,rfl,rfl,_,_,J⟩;exact⟨_,rfl,wc_ wd_ full O rfl L rfl zk Tryz.underlying4 J⟩
theorem canonReaches_jA:(Rows.canonReachesRow.inPlace==Tryz.prog.inPlace 3)=true:=by kernel_rfl
theorem canonReaches_jB:(Rows.canonReachesRow.unfollowed==Tryz.prog.unfollowed 3)=true:=by kernel_rfl
theorem canonReaches_jC:(Rows.canonReachesRow.recurses==Tryz.prog.recurses 3)=true:=by kernel_rfl
theorem canonReaches_jD:(Rows.canonReachesRow.named==Tryz.prog.varsNamed 3)=true:=by kernel_rfl
theorem canonReaches_jE:(laidOutB Tryz.prog)=true:=by kernel_rfl
theorem canonReaches_jF:(mapsRowed Tryz.prog)=true:=by kernel_rfl
theorem canonReaches_j:joinedFacts Tryz.prog 3 Tryz.f3 Rows.canonReachesSpec Rows.canonReachesRow=true:=by
  unfold joinedFacts;rw[canonReaches_jA,canonReaches_jB,canonReaches_jC,canonReaches_jD,canonReaches_jE,canonReaches_jF]
  kernel_rfl
theorem canonReaches_said:Rows.CanonReachesSaid :=
  OpenClaim.holds_of_wide 3 Tryz.f3 rfl rfl rfl rfl rfl rfl rfl ⟨rfl,rfl,rfl,rfl,rfl⟩ rfl rfl rfl rfl rfl zan_ Tryz.func3 canonReaches_j
    (of_decide_eq_true zan_) (by as_aux_lemma=>(unfold Func.isWrapper;first|(rw[if_pos zau_];kernel_rfl)|(rw[if_neg zau_];exact⟨rfl,rfl⟩)))
    (fun os d H enc _=>liftedCanonReaches os d H enc)
theorem canonReaches_fn : Tryz.prog.funcNamed "veilstone/veilstonelaw22.CanonReaches" = some 3 := by kernel_rfl
theorem canonReaches_st:([22].all fun u=>!Tryz.prog.wantsStandIn u)=true:=by kernel_rfl
set_option maxHeartbeats 4000000 in
theorem canonReaches_holds:Rows.CanonReachesCardSaid :=
  Claim7.holds_tied_plain_at .later [] [.data, .data, .data, .data, .data, .data, .data, .pinned] true (true, "9abe4b1ca7048bb24b7303a2c4d9841e067622889cbfcadfadc420d05ce41fe2") false
    canonReaches_said (fun _ h=>by cases h) zan_ (fun _ h=>by cases h) canonReaches_row_tie rfl ⟨rfl,rfl⟩ zan_ rfl
    (fun f fn k d=>by
      obtain rfl:f=3:=Option.some.inj (canonReaches_fn.symm.trans k) |>.symm
      obtain rfl:fn=Tryz.f3:=(Option.some.inj (Tryz.func3.symm.trans d)).symm
      exact⟨by as_aux_lemma=>kernel_rfl,fun j t e=>by
        rw[Tryz.params3]at e;have hm:t∈[22]:=by simpa using Array.mem_of_getElem? e
        exact (show Tryz.prog.wantsStandIn t=false by simpa using List.all_eq_true.1 canonReaches_st t hm)⟩)
    zan_
end Go.Proofs.YtpbnmnfdgckaiaaGreatDoor
