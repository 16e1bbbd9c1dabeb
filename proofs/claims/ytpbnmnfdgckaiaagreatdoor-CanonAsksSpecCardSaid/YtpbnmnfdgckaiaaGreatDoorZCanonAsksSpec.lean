/-
  The law CanonAsksSpec returns true for every input that the row speaks of, and each argument reads afterwards as before: the tied card. Conditions: those of the given row alone.
-/
import Derived.Test.YtpbnmnfdgckaiaaGreatDoorQCanonAsksSpec15
import Derived.Test.YtpbnmnfdgckaiaaGreatDoorTie
import Derived.Test.YtpbnmnfdgckaiaaGreatDoorCards
set_option linter.unusedVariables false
set_option linter.unusedSimpArgs false
set_option linter.unusedSectionVars false
set_option maxHeartbeats 1000000
namespace Go.Proofs.YtpbnmnfdgckaiaaGreatDoor
open Go Go.Sx Go.Proofs
attribute [local irreducible] Code.wp wpList wpAnyH
open Go.Vs Go.ChangeShapes Go.WideShapes Go.ChangeAt Go.RowKit
set_option maxRecDepth 100000 in
theorem liftedCanonAsksSpec (os:Os) (A:os.Started) (H:Type) (enc:TypeId×Value→H) :
    ReturnsInHanded {} Tryz.checked os 6 .any (fun w args=>(Rows.canonAsksSpecSpec.pre enc Tryz.prog Tryz.f6 [] false w args∧laidMetH Tryz.prog gw_ w)∧sizedMet enc Tryz.prog Tryz.f6 (OpenSpec.ofChange Rows.canonAsksSpecSpec) false w args)
      (Rows.canonAsksSpecSpec.post enc Tryz.prog Tryz.f6 false true false false):=by
  refine returnsInHanded_of_change_and (C:=Tryz.checked) (X:=fun w _=>laidMetH Tryz.prog gw_ w) (fun _ _ _ hh h=>h.of_heap hh) own A zk Tryz.func6
    (ChangeSpec.witness_shaped (enc:=enc) (C:=Tryz.checked) (os:=os) (X:=fun w _=>laidMetH Tryz.prog gw_ w) false (World.laidAll Tryz.prog os gw_) #[.agg #[.slice none 0 0,.slice none 0 0,.slice none 0 0,.slice none 0 0,.slice none 0 0,.slice none 0 0],str [],str [],str [],.agg #[.int .i64 0,.int .i64 0]] 8 (World.laidAll_os _ _ _)
      (World.shaped_of_ZipB zk zk) zk zk zk
      (by rw[MakeChecks.laidMetH_plain _ _ _ zk];exact laidMet_laidAll _ zk zk)) ?_
  intro W G args O gs before B hW _ Z hL _;have d:∀ (j:Nat) t v,Tryz.f6.params[j]? = some t→args[j]? = some v→Value.okWide Tryz.prog W .any G t v:=B;have R:=hW;obtain⟨p,q,J,hV,rfl,_,_⟩:=hW;have hA:DataW.TrodAll enc Tryz.prog W 0 (fun _=>true) true Tryz.f6.params.toList args.toList O p:=J
  have L:∀ t∈Tryz.f6.params.toList,t<Tryz.prog.types.size:=by
    rw[Tryz.params6,nn_];decide
  rw[Tryz.params6]at hA d;obtain⟨rfl,rfl⟩:=trodVars_none hV
  have x:wok (DataW.weightsEach Tryz.prog [28,9,9,9,54] O):=by
    have e:(Tryz.f6.params.toList++Rows.canonAsksSpecSpec.plain.varTypes Tryz.prog)=[28,9,9,9,54]:=by rw[Tryz.params6];rfl
    have y:wok (DataW.weightsEach Tryz.prog (Tryz.f6.params.toList++Rows.canonAsksSpecSpec.plain.varTypes Tryz.prog) (O++[])):=Z;rw[e,List.append_nil]at y;exact y
  obtain⟨a4,a0,M,a2,a5,d_1,d_2,d_3,d_4,d_5,p_1,p_2,p_3,p_4,p_5,rfl,rfl,rfl,K,U,Q,a6,N⟩:=oX_ hA;simp only[DataW.weightsEach,fP_]at x;obtain⟨m,rfl,Y,P⟩:=yA_ uP_ tysZ tysM (d 0 28 a4 rfl rfl) K x.1;obtain⟨V,rfl,I⟩:=pO_ uP_ (d 1 9 a0 rfl rfl) U x.2.1;obtain⟨a1,rfl,F⟩:=pO_ uP_ (d 2 9 M rfl rfl) Q x.2.2.1;obtain⟨a3,rfl,E⟩:=pO_ uP_ (d 3 9 a2 rfl rfl) a6 x.2.2.2.1;obtain⟨lo,hi,rfl⟩:=yB_ tysM uP_ (d 4 54 a5 rfl rfl) N;have T:=(canonAsksSpec_c m P V a1 a3 I F E lo hi).run (vw W) (vw_sat W) ⟨Y,xe_ hL,xf_ hL,trivial⟩;refine T.mono ?_;rintro e w' ⟨_,v',rfl,rfl,_,_,S⟩;exact⟨_,rfl,vV_ vW_ full L rfl R rfl zk dt_ S⟩
theorem canonAsksSpec_jA:(Rows.canonAsksSpecRow.inPlace==Tryz.prog.inPlace 6)=true:=by kernel_rfl
theorem canonAsksSpec_jB:(Rows.canonAsksSpecRow.unfollowed==Tryz.prog.unfollowed 6)=true:=by kernel_rfl
theorem canonAsksSpec_jC:(Rows.canonAsksSpecRow.recurses==Tryz.prog.recurses 6)=true:=by kernel_rfl
theorem canonAsksSpec_jD:(Rows.canonAsksSpecRow.named==Tryz.prog.varsNamed 6)=true:=by kernel_rfl
theorem canonAsksSpec_jE:(laidOutB Tryz.prog)=true:=by kernel_rfl
theorem canonAsksSpec_jF:(mapsRowed Tryz.prog)=true:=by kernel_rfl
theorem canonAsksSpec_j:joinedFacts Tryz.prog 6 Tryz.f6 Rows.canonAsksSpecSpec Rows.canonAsksSpecRow=true:=by
  unfold joinedFacts;rw[canonAsksSpec_jA,canonAsksSpec_jB,canonAsksSpec_jC,canonAsksSpec_jD,canonAsksSpec_jE,canonAsksSpec_jF]
  kernel_rfl
theorem canonAsksSpec_said:Rows.CanonAsksSpecSaid :=
  OpenClaim.holds_of_wide 6 Tryz.f6 rfl rfl rfl rfl rfl rfl rfl ⟨rfl,rfl,rfl,rfl,rfl⟩ rfl rfl rfl rfl rfl zV_ Tryz.func6 canonAsksSpec_j
    (of_decide_eq_true zV_) (by as_aux_lemma=>(unfold Func.isWrapper;first|(rw[if_pos zad_];kernel_rfl)|(rw[if_neg zad_];exact⟨rfl,rfl⟩)))
    (fun os d H enc _=>liftedCanonAsksSpec os d H enc)
theorem canonAsksSpec_fn : Tryz.prog.funcNamed "veilstone/veilstonelaw22.CanonAsksSpec" = some 6 := by kernel_rfl
theorem canonAsksSpec_st:([28,9,9,9,54].all fun u=>!Tryz.prog.wantsStandIn u)=true:=by kernel_rfl
set_option maxHeartbeats 4000000 in
theorem canonAsksSpec_holds:Rows.CanonAsksSpecCardSaid :=
  Claim7.holds_tied_plain_at .later [] [.data, .data, .data, .data, .data, .data, .data, .pinned] true (true, "9abe4b1ca7048bb24b7303a2c4d9841e067622889cbfcadfadc420d05ce41fe2") false
    canonAsksSpec_said (fun _ h=>by cases h) zV_ (fun _ h=>by cases h) canonAsksSpec_row_tie rfl ⟨rfl,rfl⟩ zV_ rfl
    (fun f fn q d=>by
      obtain rfl:f=6:=Option.some.inj (canonAsksSpec_fn.symm.trans q) |>.symm
      obtain rfl:fn=Tryz.f6:=(Option.some.inj (Tryz.func6.symm.trans d)).symm
      exact⟨by as_aux_lemma=>kernel_rfl,fun j t e=>by
        rw[Tryz.params6]at e;have hm:t∈[28,9,9,9,54]:=by simpa using Array.mem_of_getElem? e
        exact (show Tryz.prog.wantsStandIn t=false by simpa using List.all_eq_true.1 canonAsksSpec_st t hm)⟩)
    zV_
end Go.Proofs.YtpbnmnfdgckaiaaGreatDoor
