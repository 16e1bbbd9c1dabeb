/-
  The law CanonTells returns true for every input that the row speaks of, and each argument reads afterwards as before: the tied card. Conditions: those of the given row alone.
-/
import Derived.Test.YtbffkokbdeppaaaGreatDoorQCanonTells16
import Derived.Test.YtbffkokbdeppaaaGreatDoorTie
import Derived.Test.YtbffkokbdeppaaaGreatDoorCards
import Derived.Test.YtbffkokbdeppaaaGreatDoorQCanonTells17
set_option linter.unusedVariables false
set_option linter.unusedSimpArgs false
set_option linter.unusedSectionVars false
set_option maxHeartbeats 1000000
namespace Go.Proofs.YtbffkokbdeppaaaGreatDoor
open Go Go.Sx Go.Proofs
attribute [local irreducible] Code.wp wpList wpAnyH
open Go.Vs Go.ChangeShapes Go.WideShapes Go.ChangeAt Go.RowKit
theorem qD_ {H:Type} {enc:TypeId×Value->H} {P:Program} {w:World} {e:Nat} {d:Nat->Bool} {m:Bool} {t0 t1 V W:TypeId} {args:Array Value} {ds:List (DataW H)} {ps:List MemPlace} (h:DataW.TrodAll enc P w e d m [t0,t1,V,W] args.toList ds ps) :
    ∃ v0 v1 v2 v3 d0 d1 X Y p0 p1 Z U,args=#[v0,v1,v2,v3]/\ds=[d0,d1,X,Y]/\ps=p0++p1++Z++U/\DataW.Trod enc P w e d m t0 v0 d0 p0/\DataW.Trod enc P w e d m t1 v1 d1 p1/\DataW.Trod enc P w e d m V v2 X Z/\DataW.Trod enc P w e d m W v3 Y U:=by
  obtain⟨G,s_1,L,e_1,N,q_1,E,rfl,rfl,O,C⟩:=trodAll_cons h;obtain⟨S,s_2,x,e_2,T,q_2,rfl,rfl,rfl,I,y⟩:=trodAll_cons C;obtain⟨R,s_3,q,e_3,M,q_3,rfl,rfl,rfl,K,A⟩:=trodAll_cons y;obtain⟨v,s_4,B,e_4,J,q_4,rfl,rfl,rfl,Q,F⟩:=trodAll_cons A;obtain⟨rfl,rfl,rfl⟩:=trodAll_nil F;exact⟨G,S,R,v,L,x,q,B,N,T,M,J,by cases args;simp_all,rfl,by simp,O,I,K,Q⟩
theorem goesNo {P:Program} (h:P.funcs.any Func.goes=false) (s:String):P.goesFrom s=false:=by
  have g:∀ (i:Nat) (fn:Func),P.funcs[i]? = some fn->fn.goes=false:=λi fn e=>by
    obtain⟨hi,rfl⟩:=yax_.1 e
    exact Bool.eq_false_iff.2 λq=>by
      rw[Array.any_eq_false]at h;exact h i hi q
  have k:∀ f,P.goes f=false:=λf=>by
    unfold Program.goes;rw[h,Bool.and_false,Bool.or_false,ycL_];intro i _ q;cases e:P.funcs[i]? with
    | none=>rw[e]at q;exact absurd q zaj_
    | some fn=>rw[e]at q;rw[Option.any_some,g i fn e]at q;exact absurd q zaj_
  unfold Program.goesFrom;cases P.funcNamed s with
  | none=>rfl
  | some f=>exact k f
theorem noGo:Tryz.prog.funcs.any Func.goes=false:=by kernel_rfl
set_option maxRecDepth 100000 in
theorem liftedCanonTells (os:Os) (x:os.Started) (H:Type) (enc:TypeId×Value->H) :
    ReturnsInHanded {} Tryz.checked os 5 .any (λw args=>(Rows.canonTellsSpec.pre enc Tryz.prog Tryz.f5 [] false w args/\laidMetH Tryz.prog gG_ w)/\sizedMet enc Tryz.prog Tryz.f5 (OpenSpec.ofChange Rows.canonTellsSpec) false w args)
      (Rows.canonTellsSpec.post enc Tryz.prog Tryz.f5 false true false false):=by
  refine returnsInHanded_of_change_and (C:=Tryz.checked) (X:=λw _=>laidMetH Tryz.prog gG_ w) (λ_ _ _ hh h=>h.of_heap hh) own x zk Tryz.func5
    (ChangeSpec.witness_shaped (enc:=enc) (C:=Tryz.checked) (os:=os) (X:=λw _=>laidMetH Tryz.prog gG_ w) false (World.laidAll Tryz.prog os gG_) #[.slice none 0 0,str [],str [],str []] 8 (World.laidAll_os _ _ _)
      (World.shaped_of_ZipB zk zk) zk zk zk
      (by rw[MakeChecks.laidMetH_plain _ _ _ zk];exact laidMet_laidAll _ zk zk)) ?_
  intro W B args V gs before A hW _ Z hL _;have d:∀ (j:Nat) t v,Tryz.f5.params[j]? = some t->args[j]? = some v->Value.okWide Tryz.prog W .any B t v:=A;have N:=hW;obtain⟨p,q,E,hV,rfl,_,_⟩:=hW;have hA:DataW.TrodAll enc Tryz.prog W 0 (λ_=>true) true Tryz.f5.params.toList args.toList V p:=E
  have Q:∀ t∈Tryz.f5.params.toList,t<Tryz.prog.types.size:=by
    rw[Tryz.params5,ow_];decide
  rw[Tryz.params5]at hA d;obtain⟨rfl,rfl⟩:=trodVars_none hV
  have m:wok (DataW.weightsEach Tryz.prog [22,9,9,9] V):=by
    have e:(Tryz.f5.params.toList++Rows.canonTellsSpec.plain.varTypes Tryz.prog)=[22,9,9,9]:=by rw[Tryz.params5];rfl
    have y:wok (DataW.weightsEach Tryz.prog (Tryz.f5.params.toList++Rows.canonTellsSpec.plain.varTypes Tryz.prog) (V++[])):=Z;rw[e,yaw_]at y;exact y
  obtain⟨Y,a4,a3,U,d_1,d_2,d_3,d_4,p_1,p_2,p_3,p_4,rfl,rfl,rfl,a1,M,a0,O⟩:=qD_ hA;simp only[DataW.weightsEach,ge_]at m;obtain⟨l,ad,cap,rfl,a5,P,a2,F⟩:=Ce_ Ap_ (d 0 22 Y rfl rfl) a1 m.1;obtain⟨S,rfl,I⟩:=rI_ Ap_ (d 1 9 a4 rfl rfl) M m.2.1;obtain⟨R,rfl,G⟩:=rI_ Ap_ (d 2 9 a3 rfl rfl) a0 m.2.2.1;obtain⟨L,rfl,J⟩:=rI_ Ap_ (d 3 9 U rfl rfl) O m.2.2.2.1;have T:=(canonTells_c l ad cap ⟨a2,F⟩ P S R L I G J).run (vw W) (vw_sat W) ⟨a5,As_ hL,At_ hL,trivial⟩;refine T.mono ?_;rintro e w' ⟨_,v',rfl,rfl,_,_,K⟩;exact⟨_,rfl,yP_ yQ_ full Q rfl N rfl zk gq_ K⟩
theorem canonTells_jA:(Rows.canonTellsRow.inPlace==Tryz.prog.inPlace 5)=true:=by kernel_rfl
theorem canonTells_jB:(Rows.canonTellsRow.unfollowed==Tryz.prog.unfollowed 5)=true:=by kernel_rfl
theorem canonTells_jC:(Rows.canonTellsRow.recurses==Tryz.prog.recurses 5)=true:=by kernel_rfl
theorem canonTells_jD:(Rows.canonTellsRow.named==Tryz.prog.varsNamed 5)=true:=by kernel_rfl
theorem canonTells_jE:(laidOutB Tryz.prog)=true:=by kernel_rfl
theorem canonTells_jF:(mapsRowed Tryz.prog)=true:=by kernel_rfl
theorem canonTells_j:joinedFacts Tryz.prog 5 Tryz.f5 Rows.canonTellsSpec Rows.canonTellsRow=true:=by
  unfold joinedFacts;rw[canonTells_jA,canonTells_jB,canonTells_jC,canonTells_jD,canonTells_jE,canonTells_jF]
  kernel_rfl
theorem canonTells_said:Rows.CanonTellsSaid :=
  OpenClaim.holds_of_wide 5 Tryz.f5 rfl rfl rfl rfl rfl rfl rfl ⟨rfl,rfl,rfl,rfl,rfl⟩ rfl rfl rfl rfl rfl zbx_ Tryz.func5 canonTells_j
    (yaZ_ zbx_) (by as_aux_lemma=>(unfold Func.isWrapper;first|(rw[yao_ zbo_];kernel_rfl)|(rw[yag_ zbo_];exact⟨rfl,rfl⟩)))
    (λos d H enc _=>liftedCanonTells os d H enc)
theorem canonTells_fn : Tryz.prog.funcNamed "veilstone/veilstonelaw22.CanonTells" = some 5 := by kernel_rfl
theorem canonTells_st:([22,9,9,9].all λu=>!Tryz.prog.wantsStandIn u)=true:=by kernel_rfl
set_option maxHeartbeats 4000000 in
theorem canonTells_holds:Rows.CanonTellsCardSaid :=
  Claim7.holds_tied_plain_at .later [] [.data, .data, .data, .data, .data, .data, .data, .pinned] true (true, "08e07ce45f25e7dd2c143a498aaaeb45ae79f750b85c3ddc74640dafe62bd8e6") false
    canonTells_said (λ_ h=>by cases h) zbx_ (λ_ h=>by cases h) canonTells_row_tie rfl ⟨rfl,rfl⟩ zbx_ rfl
    (λf fn m d=>by
      obtain rfl:f=5:=ybl_ (canonTells_fn.symm.trans m) |>.symm
      obtain rfl:fn=Tryz.f5:=(ybl_ (Tryz.func5.symm.trans d)).symm
      exact⟨by as_aux_lemma=>kernel_rfl,λj t e=>by
        rw[Tryz.params5]at e;have hm:t∈[22,9,9,9]:=by simpa using Array.mem_of_getElem? e
        exact (show Tryz.prog.wantsStandIn t=false by simpa using yaW_.1 canonTells_st t hm)⟩)
    (show Program.goesAt Tryz.prog .entering _=false by unfold Program.goesAt;rw[goesNo noGo];rfl).symm
end Go.Proofs.YtbffkokbdeppaaaGreatDoor
