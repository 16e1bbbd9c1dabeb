/-
  The law CanonGrows returns true for every input that the row speaks of, and each argument reads afterwards as before: the tied card. Conditions: those of the given row alone.
-/
import Derived.Test.YtpbnmnfdgckaiaaGreatDoorQCanonGrows16
import Derived.Test.YtpbnmnfdgckaiaaGreatDoorTie
import Derived.Test.YtpbnmnfdgckaiaaGreatDoorCards
set_option linter.unusedVariables false
set_option linter.unusedSimpArgs false
set_option linter.unusedSectionVars false
set_option maxHeartbeats 1000000
namespace Go.Proofs.YtpbnmnfdgckaiaaGreatDoor
open Go Go.Sx Go.Proofs
attribute [local irreducible] Code.wp wpList wpAnyH
open Go.Vs Go.ChangeShapes Go.WideShapes Go.ChangeAt Go.RowKit
set_option maxRecDepth 100000 in
theorem liftedCanonGrows (os:Os) (k:os.Started) (H:Type) (enc:TypeId×Value→H) :
    ReturnsInHanded {} Tryz.checked os 4 .any (fun w args=>(Rows.canonGrowsSpec.pre enc Tryz.prog Tryz.f4 [] false w args∧laidMetH Tryz.prog gS_ w)∧sizedMet enc Tryz.prog Tryz.f4 (OpenSpec.ofChange Rows.canonGrowsSpec) false w args)
      (Rows.canonGrowsSpec.post enc Tryz.prog Tryz.f4 false true false false):=by
  refine returnsInHanded_of_change_and (C:=Tryz.checked) (X:=fun w _=>laidMetH Tryz.prog gS_ w) (fun _ _ _ hh h=>h.of_heap hh) own k zk Tryz.func4
    (ChangeSpec.witness_shaped (enc:=enc) (C:=Tryz.checked) (os:=os) (X:=fun w _=>laidMetH Tryz.prog gS_ w) false (World.laidAll Tryz.prog os gS_) #[.slice none 0 0,.agg (Ax.cells (Ax.mk 0 false (Con.mk 0 [] 0 0 none 0 []) (Con.mk 0 [] 0 0 none 0 []) none 0 [] [] [] [])).toArray,.int .i64 0] 8 (World.laidAll_os _ _ _)
      (World.shaped_of_ZipB zk zk) zk zk zk
      (by rw[MakeChecks.laidMetH_plain _ _ _ zk];exact laidMet_laidAll _ zk zk)) ?_
  intro W B args V gs before A hW _ U hL _;have d:∀ (j:Nat) t v,Tryz.f4.params[j]? = some t→args[j]? = some v→Value.okWide Tryz.prog W .any B t v:=A;have Y:=hW;obtain⟨p,q,F,hV,rfl,_,_⟩:=hW;have hA:DataW.TrodAll enc Tryz.prog W 0 (fun _=>true) true Tryz.f4.params.toList args.toList V p:=F
  have I:∀ t∈Tryz.f4.params.toList,t<Tryz.prog.types.size:=by
    rw[Tryz.params4,nN_];decide
  rw[Tryz.params4]at hA d;obtain⟨rfl,rfl⟩:=trodVars_none hV
  have y:wok (DataW.weightsEach Tryz.prog [22,42,3] V):=by
    have e:(Tryz.f4.params.toList++Rows.canonGrowsSpec.plain.varTypes Tryz.prog)=[22,42,3]:=by rw[Tryz.params4];rfl
    have m:wok (DataW.weightsEach Tryz.prog (Tryz.f4.params.toList++Rows.canonGrowsSpec.plain.varTypes Tryz.prog) (V++[])):=U;rw[e,List.append_nil]at m;exact m
  obtain⟨S,R,M,d_1,d_2,d_3,p_1,p_2,p_3,rfl,rfl,rfl,Z,a0,G⟩:=trodAll_three hA;simp only[DataW.weightsEach,gq_]at y;obtain⟨l,ad,cap,rfl,Q,K,O,E,L⟩:=yV_ tysX (d 0 22 S rfl rfl) Z y.1;obtain⟨x,rfl,J,N⟩:=arg_ax tysX (d 1 42 R rfl rfl) a0 y.2.1;obtain⟨n,rfl,a1,hn_2⟩:=yU_ tysX (d 2 3 M rfl rfl) G;have T:=(canonGrows_c l ad cap ⟨O,E⟩ L K x N n).run (vw W) (vw_sat W) ⟨Q,J,xr_ hL,xs_ hL,trivial⟩;refine T.mono ?_;rintro e w' ⟨_,v',rfl,rfl,_,_,P⟩;exact⟨_,rfl,wg_ wh_ full I rfl Y rfl zk Tryz.underlying4 P⟩
theorem canonGrows_jA:(Rows.canonGrowsRow.inPlace==Tryz.prog.inPlace 4)=true:=by kernel_rfl
theorem canonGrows_jB:(Rows.canonGrowsRow.unfollowed==Tryz.prog.unfollowed 4)=true:=by kernel_rfl
theorem canonGrows_jC:(Rows.canonGrowsRow.recurses==Tryz.prog.recurses 4)=true:=by kernel_rfl
theorem canonGrows_jD:(Rows.canonGrowsRow.named==Tryz.prog.varsNamed 4)=true:=by kernel_rfl
theorem canonGrows_jE:(laidOutB Tryz.prog)=true:=by kernel_rfl
theorem canonGrows_jF:(mapsRowed Tryz.prog)=true:=by kernel_rfl
theorem canonGrows_j:joinedFacts Tryz.prog 4 Tryz.f4 Rows.canonGrowsSpec Rows.canonGrowsRow=true:=by
  unfold joinedFacts;rw[canonGrows_jA,canonGrows_jB,canonGrows_jC,canonGrows_jD,canonGrows_jE,canonGrows_jF]
  kernel_rfl
theorem canonGrows_said:Rows.CanonGrowsSaid :=
  OpenClaim.holds_of_wide 4 Tryz.f4 rfl rfl rfl rfl rfl rfl rfl ⟨rfl,rfl,rfl,rfl,rfl⟩ rfl rfl rfl rfl rfl zas_ Tryz.func4 canonGrows_j
    (of_decide_eq_true zas_) (by as_aux_lemma=>(unfold Func.isWrapper;first|(rw[if_pos zaz_];kernel_rfl)|(rw[if_neg zaz_];exact⟨rfl,rfl⟩)))
    (fun os d H enc _=>liftedCanonGrows os d H enc)
theorem canonGrows_fn : Tryz.prog.funcNamed "veilstone/veilstonelaw22.CanonGrows" = some 4 := by kernel_rfl
theorem canonGrows_st:([22,42,3].all fun u=>!Tryz.prog.wantsStandIn u)=true:=by kernel_rfl
set_option maxHeartbeats 4000000 in
theorem canonGrows_holds:Rows.CanonGrowsCardSaid :=
  Claim7.holds_tied_plain_at .later [] [.data, .data, .data, .data, .data, .data, .data, .pinned] true (true, "9abe4b1ca7048bb24b7303a2c4d9841e067622889cbfcadfadc420d05ce41fe2") false
    canonGrows_said (fun _ h=>by cases h) zas_ (fun _ h=>by cases h) canonGrows_row_tie rfl ⟨rfl,rfl⟩ zas_ rfl
    (fun f fn k d=>by
      obtain rfl:f=4:=Option.some.inj (canonGrows_fn.symm.trans k) |>.symm
      obtain rfl:fn=Tryz.f4:=(Option.some.inj (Tryz.func4.symm.trans d)).symm
      exact⟨by as_aux_lemma=>kernel_rfl,fun j t e=>by
        rw[Tryz.params4]at e;have hm:t∈[22,42,3]:=by simpa using Array.mem_of_getElem? e
        exact (show Tryz.prog.wantsStandIn t=false by simpa using List.all_eq_true.1 canonGrows_st t hm)⟩)
    zas_
end Go.Proofs.YtpbnmnfdgckaiaaGreatDoor
