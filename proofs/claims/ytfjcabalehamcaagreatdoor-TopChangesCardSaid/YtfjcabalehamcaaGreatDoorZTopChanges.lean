/-
  The law TopChanges returns true for every input that the row speaks of, and each argument reads afterwards as before: the tied card. Conditions: those of the given row alone.
-/
import Derived.Test.YtfjcabalehamcaaGreatDoorQTopChanges14
import Derived.Test.YtfjcabalehamcaaGreatDoorTie
import Derived.Test.YtfjcabalehamcaaGreatDoorCards
import Derived.Test.YtfjcabalehamcaaGreatDoorQTopChanges15
import Derived.Test.YtfjcabalehamcaaGreatDoorQTopChanges6
set_option linter.unusedVariables false
set_option linter.unusedSimpArgs false
set_option linter.unusedSectionVars false
set_option maxHeartbeats 1000000
namespace Go.Proofs.YtfjcabalehamcaaGreatDoor
open Go Go.Sx Go.Proofs
attribute [local irreducible] Code.wp wpList wpAnyH
open Go.Vs Go.ChangeShapes Go.WideShapes Go.ChangeAt Go.RowKit
theorem vO_ {H:Type} {enc:TypeId×Value->H} {P:Program} {W:World} {E m:TypeId} {A:Nat} {v:Value} {d:DataW H} {ps:List MemPlace} (us:P.underlying m=some (.slice E)) (u:P.underlying E=some (.int .u8)) (L:P.cellsOf E=1) (K:P.bytesOf E=1)
    (B:Value.okWide P W .any A m v) (h:DataW.Trod enc P W 0 (λ_=>true) true m v d ps) (M:wok (d.weights P m)) :
    ∃ (l:Str) (ad:Option Addr) (cap:Nat),v=.slice ad l.length cap/\bl_ (vw W) ad (l.flatMap u8C)/\l.length<=cap/\cap<=140737488351232:=by
  obtain⟨a,len,cap,rfl⟩:=okWide_slice us B;obtain⟨n,S⟩:=h
  obtain⟨l,ad,x,e,J,_,I,C⟩:=mj_ u8C 1 (λ_=>rfl) zac_ (λ_:UInt8=>True) us L (λT _ N y O _=>by
    obtain⟨k,F,_,G⟩:=DataW.trod_int u O;obtain⟨R,Q⟩:=bounds_u8 G;refine⟨UInt8.ofNat k.toNat,?_,trivial⟩;rw[F];simp only[u8C,ybt_,Value.int.injEq,ydF_,ydt_];simp only[UInt8.toNat_ofNat'];omega) S M
  rw[K]at C;simp only[reachBytes]at C;simp only[Value.cells,ybt_,ydF_]at e;exact⟨l,ad,x,e,J,I,by omega⟩
theorem goesNo {P:Program} (h:P.funcs.any Func.goes=false) (s:String):P.goesFrom s=false:=by
  have g:∀ (i:Nat) (fn:Func),P.funcs[i]? = some fn->fn.goes=false:=λi fn e=>by
    obtain⟨hi,rfl⟩:=yaD_.1 e
    exact Bool.eq_false_iff.2 λq=>by
      rw[Array.any_eq_false]at h;exact h i hi q
  have k:∀ f,P.goes f=false:=λf=>by
    unfold Program.goes;rw[h,Bool.and_false,Bool.or_false,ycY_];intro i _ q;cases e:P.funcs[i]? with
    | none=>rw[e]at q;exact absurd q zai_
    | some fn=>rw[e]at q;rw[Option.any_some,g i fn e]at q;exact absurd q zai_
  unfold Program.goesFrom;cases P.funcNamed s with
  | none=>rfl
  | some f=>exact k f
theorem noGo:Tryz.prog.funcs.any Func.goes=false:=by kernel_rfl
set_option maxRecDepth 100000 in
theorem liftedTopChanges (os:Os) (d:os.Started) (H:Type) (enc:TypeId×Value->H) :
    ReturnsInHanded {} Tryz.checked os 3 .any (λw args=>(Rows.topChangesSpec.pre enc Tryz.prog Tryz.f3 [] false w args/\laidMetH Tryz.prog gx_ w)/\sizedMet enc Tryz.prog Tryz.f3 (OpenSpec.ofChange Rows.topChangesSpec) false w args)
      (Rows.topChangesSpec.post enc Tryz.prog Tryz.f3 false true false false):=by
  refine returnsInHanded_of_change_and (C:=Tryz.checked) (X:=λw _=>laidMetH Tryz.prog gx_ w) (λ_ _ _ hh h=>h.of_heap hh) own d zk Tryz.func3
    (ChangeSpec.witness_shaped (enc:=enc) (C:=Tryz.checked) (os:=os) (X:=λw _=>laidMetH Tryz.prog gx_ w) false (World.laidAll Tryz.prog os gx_) #[.slice none 0 0,.slice none 0 0] 8 (World.laidAll_os _ _ _)
      (World.shaped_of_ZipB zk zk) zk zk zk
      (by rw[MakeChecks.laidMetH_plain _ _ _ zk];exact laidMet_laidAll _ zk zk)) ?_
  intro W F args ds gs before A Z _ M hL _;have m:∀ (j:Nat) t v,Tryz.f3.params[j]? = some t->args[j]? = some v->Value.okWide Tryz.prog W .any F t v:=A;have N:=Z;obtain⟨p,q,G,hV,rfl,_,_⟩:=Z;have hA:DataW.TrodAll enc Tryz.prog W 0 (λ_=>true) true Tryz.f3.params.toList args.toList ds p:=G
  have R:∀ t∈Tryz.f3.params.toList,t<Tryz.prog.types.size:=by
    rw[Tryz.params3,np_];decide
  rw[Tryz.params3]at hA m;obtain⟨rfl,rfl⟩:=trodVars_none hV
  have x:wok (DataW.weightsEach Tryz.prog [22,23] ds):=by
    have e:(Tryz.f3.params.toList++Rows.topChangesSpec.plain.varTypes Tryz.prog)=[22,23]:=by rw[Tryz.params3];rfl
    have y:wok (DataW.weightsEach Tryz.prog (Tryz.f3.params.toList++Rows.topChangesSpec.plain.varTypes Tryz.prog) (ds++[])):=M;rw[e,yaL_]at y;exact y
  obtain⟨K,V,d_1,d_2,p_1,p_2,rfl,rfl,rfl,O,L⟩:=trodAll_two hA;simp only[DataW.weightsEach,fT_]at x;obtain⟨l,ad,cap,rfl,Y,P,Q,I⟩:=AE_ tysX (m 0 22 K rfl rfl) O x.1;obtain⟨S,E,B,rfl,U,hSc,hSm⟩:=vO_  Tryz.underlying23 Tryz.underlying5 zk zk (m 1 23 V rfl rfl) L x.2.1;have T:=(topChanges_c l ad cap ⟨Q,I⟩ P S E B zaa_).run (vw W) (vw_sat W) ⟨Y,U,yS_ hL,yT_ hL,trivial⟩;refine T.mono ?_;rintro e w' ⟨_,v',rfl,rfl,_,_,J⟩;exact⟨_,rfl,xw_ xz_ full R rfl N rfl zk Tryz.underlying4 J⟩
theorem topChanges_jA:(Rows.topChangesRow.inPlace==Tryz.prog.inPlace 3)=true:=by kernel_rfl
theorem topChanges_jB:(Rows.topChangesRow.unfollowed==Tryz.prog.unfollowed 3)=true:=by kernel_rfl
theorem topChanges_jC:(Rows.topChangesRow.recurses==Tryz.prog.recurses 3)=true:=by kernel_rfl
theorem topChanges_jD:(Rows.topChangesRow.named==Tryz.prog.varsNamed 3)=true:=by kernel_rfl
theorem topChanges_jE:(laidOutB Tryz.prog)=true:=by kernel_rfl
theorem topChanges_jF:(mapsRowed Tryz.prog)=true:=by kernel_rfl
theorem topChanges_j:joinedFacts Tryz.prog 3 Tryz.f3 Rows.topChangesSpec Rows.topChangesRow=true:=by
  unfold joinedFacts;rw[topChanges_jA,topChanges_jB,topChanges_jC,topChanges_jD,topChanges_jE,topChanges_jF]
  kernel_rfl
theorem topChanges_said:Rows.TopChangesSaid :=
  OpenClaim.holds_of_wide 3 Tryz.f3 rfl rfl rfl rfl rfl rfl rfl ⟨rfl,rfl,rfl,rfl,rfl⟩ rfl rfl rfl rfl rfl zbe_ Tryz.func3 topChanges_j
    (ybf_ zbe_) (by as_aux_lemma=>(unfold Func.isWrapper;first|(rw[yaq_ zaq_];kernel_rfl)|(rw[yaf_ zaq_];exact⟨rfl,rfl⟩)))
    (λos d H enc _=>liftedTopChanges os d H enc)
theorem topChanges_fn : Tryz.prog.funcNamed "veilstone/veilstonetop.TopChanges" = some 3 := by kernel_rfl
theorem topChanges_st:([22,23].all λu=>!Tryz.prog.wantsStandIn u)=true:=by kernel_rfl
set_option maxHeartbeats 4000000 in
theorem topChanges_holds:Rows.TopChangesCardSaid :=
  Claim7.holds_tied_plain_at .later [] [.data, .data, .data, .data, .data, .data, .data, .pinned] true (true, "ade15cc15624d8371128a1adc6a18f57e05501ad9b16b12a71893b188329e4c9") false
    topChanges_said (λ_ h=>by cases h) zbe_ (λ_ h=>by cases h) topChanges_row_tie rfl ⟨rfl,rfl⟩ zbe_ rfl
    (λf fn v d=>by
      obtain rfl:f=3:=ybk_ (topChanges_fn.symm.trans v) |>.symm
      obtain rfl:fn=Tryz.f3:=(ybk_ (Tryz.func3.symm.trans d)).symm
      exact⟨by as_aux_lemma=>kernel_rfl,λj t m=>by
        rw[Tryz.params3]at m;have hm:t∈[22,23]:=by simpa using Array.mem_of_getElem? m
        exact (show Tryz.prog.wantsStandIn t=false by simpa using yaQ_.1 topChanges_st t hm)⟩)
    (show Program.goesAt Tryz.prog .entering _=false by unfold Program.goesAt;rw[goesNo noGo];rfl).symm
end Go.Proofs.YtfjcabalehamcaaGreatDoor
