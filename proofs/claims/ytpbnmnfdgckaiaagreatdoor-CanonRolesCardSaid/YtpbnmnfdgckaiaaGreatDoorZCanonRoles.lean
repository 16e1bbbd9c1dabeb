/-
  The law CanonRoles returns true for every input that the row speaks of, and each argument reads afterwards as before: the tied card. Conditions: those of the given row alone.
-/
import Derived.Test.YtpbnmnfdgckaiaaGreatDoorQCanonRoles15
import Derived.Test.YtpbnmnfdgckaiaaGreatDoorTie
import Derived.Test.YtpbnmnfdgckaiaaGreatDoorCards
set_option linter.unusedVariables false
set_option linter.unusedSimpArgs false
set_option linter.unusedSectionVars false
set_option maxHeartbeats 1000000
namespace Go.Proofs.YtpbnmnfdgckaiaaGreatDoor
open Go Go.Sx Go.Proofs
attribute [local irreducible] Code.wp wpList wpAnyH
open Go.Vs Go.ChangeShapes Go.WideShapes Go.ChangeAt Go.RowKit
set_option maxRecDepth 100000 in
theorem liftedCanonRoles (os:Os) (k:os.Started) (H:Type) (enc:TypeId×Value→H) :
    ReturnsInHanded {} Tryz.checked os 5 .any (fun w args=>(Rows.canonRolesSpec.pre enc Tryz.prog Tryz.f5 [] false w args∧laidMetH Tryz.prog gs_ w)∧sizedMet enc Tryz.prog Tryz.f5 (OpenSpec.ofChange Rows.canonRolesSpec) false w args)
      (Rows.canonRolesSpec.post enc Tryz.prog Tryz.f5 false true false false):=by
  refine returnsInHanded_of_change_and (C:=Tryz.checked) (X:=fun w _=>laidMetH Tryz.prog gs_ w) (fun _ _ _ V h=>h.of_heap V) own k zk Tryz.func5
    (ChangeSpec.witness_shaped (enc:=enc) (C:=Tryz.checked) (os:=os) (X:=fun w _=>laidMetH Tryz.prog gs_ w) false (World.laidAll Tryz.prog os gs_) #[.slice none 0 0] 8 (World.laidAll_os _ _ _)
      (World.shaped_of_ZipB zk zk) zk zk zk
      (by rw[MakeChecks.laidMetH_plain _ _ _ zk];exact laidMet_laidAll _ zk zk)) ?_
  intro W E args M gs before m R _ I Q _;have x:∀ (j:Nat) t v,Tryz.f5.params[j]? = some t→args[j]? = some v→Value.okWide Tryz.prog W .any E t v:=m;have F:=R;obtain⟨p,q,B,U,rfl,_,_⟩:=R;have S:DataW.TrodAll enc Tryz.prog W 0 (fun _=>true) true Tryz.f5.params.toList args.toList M p:=B
  have L:∀ t∈Tryz.f5.params.toList,t<Tryz.prog.types.size:=by
    rw[Tryz.params5,mT_];decide
  rw[Tryz.params5]at S x;obtain⟨rfl,rfl⟩:=trodVars_none U
  have y:wok (DataW.weightsEach Tryz.prog [22] M):=by
    have e:(Tryz.f5.params.toList++Rows.canonRolesSpec.plain.varTypes Tryz.prog)=[22]:=by rw[Tryz.params5];rfl
    have d:wok (DataW.weightsEach Tryz.prog (Tryz.f5.params.toList++Rows.canonRolesSpec.plain.varTypes Tryz.prog) (M++[])):=I;rw[e,List.append_nil]at d;exact d
  obtain⟨G,Y,rfl,rfl,P⟩:=trodAll_one S;simp only[DataW.weightsEach,fQ_]at y;obtain⟨l,ad,cap,rfl,N,K,O,A⟩:=xZ_ tysX (x 0 22 G rfl rfl) P y.1;have T:=(canonRoles_c l ad cap ⟨O,A⟩ K).run (vw W) (vw_sat W) ⟨N,wz_ Q,wA_ Q,trivial⟩;refine T.mono ?_;rintro e w' ⟨_,Z,rfl,rfl,_,_,J⟩;exact⟨_,rfl,vo_ vp_ full L rfl F rfl zk Tryz.underlying4 J⟩
theorem canonRoles_jA:(Rows.canonRolesRow.inPlace==Tryz.prog.inPlace 5)=true:=by kernel_rfl
theorem canonRoles_jB:(Rows.canonRolesRow.unfollowed==Tryz.prog.unfollowed 5)=true:=by kernel_rfl
theorem canonRoles_jC:(Rows.canonRolesRow.recurses==Tryz.prog.recurses 5)=true:=by kernel_rfl
theorem canonRoles_jD:(Rows.canonRolesRow.named==Tryz.prog.varsNamed 5)=true:=by kernel_rfl
theorem canonRoles_jE:(laidOutB Tryz.prog)=true:=by kernel_rfl
theorem canonRoles_jF:(mapsRowed Tryz.prog)=true:=by kernel_rfl
theorem canonRoles_j:joinedFacts Tryz.prog 5 Tryz.f5 Rows.canonRolesSpec Rows.canonRolesRow=true:=by
  unfold joinedFacts;rw[canonRoles_jA,canonRoles_jB,canonRoles_jC,canonRoles_jD,canonRoles_jE,canonRoles_jF]
  kernel_rfl
theorem canonRoles_said:Rows.CanonRolesSaid :=
  OpenClaim.holds_of_wide 5 Tryz.f5 rfl rfl rfl rfl rfl rfl rfl ⟨rfl,rfl,rfl,rfl,rfl⟩ rfl rfl rfl rfl rfl zV_ Tryz.func5 canonRoles_j
    (of_decide_eq_true zV_) (by as_aux_lemma=>(unfold Func.isWrapper;first|(rw[if_pos zac_];kernel_rfl)|(rw[if_neg zac_];exact⟨rfl,rfl⟩)))
    (fun os d H enc _=>liftedCanonRoles os d H enc)
theorem canonRoles_fn : Tryz.prog.funcNamed "veilstone/veilstonelaw22.CanonRoles" = some 5 := by kernel_rfl
theorem canonRoles_st:([22].all fun u=>!Tryz.prog.wantsStandIn u)=true:=by kernel_rfl
set_option maxHeartbeats 4000000 in
theorem canonRoles_holds:Rows.CanonRolesCardSaid :=
  Claim7.holds_tied_plain_at .later [] [.data, .data, .data, .data, .data, .data, .data, .pinned] true (true, "9abe4b1ca7048bb24b7303a2c4d9841e067622889cbfcadfadc420d05ce41fe2") false
    canonRoles_said (fun _ h=>by cases h) zV_ (fun _ h=>by cases h) canonRoles_row_tie rfl ⟨rfl,rfl⟩ zV_ rfl
    (fun f fn k d=>by
      obtain rfl:f=5:=Option.some.inj (canonRoles_fn.symm.trans k) |>.symm
      obtain rfl:fn=Tryz.f5:=(Option.some.inj (Tryz.func5.symm.trans d)).symm
      exact⟨by as_aux_lemma=>kernel_rfl,fun j t e=>by
        rw[Tryz.params5]at e;have hm:t∈[22]:=by simpa using Array.mem_of_getElem? e
        exact (show Tryz.prog.wantsStandIn t=false by simpa using List.all_eq_true.1 canonRoles_st t hm)⟩)
    zV_
end Go.Proofs.YtpbnmnfdgckaiaaGreatDoor
