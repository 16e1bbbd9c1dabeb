/-
  The law CheckerTrusts returns true for every input that the row speaks of, and each argument reads afterwards as before: the tied card. Conditions: those of the given row alone.
-/
import Derived.Test.YtaffcjgphlhppaaGreatDoorQCheckerTrusts17
import Derived.Test.YtaffcjgphlhppaaGreatDoorTie
import Derived.Test.YtaffcjgphlhppaaGreatDoorCards
import Derived.Test.YtaffcjgphlhppaaGreatDoorQCheckerTrusts16
set_option linter.unusedVariables false
set_option linter.unusedSimpArgs false
set_option linter.unusedSectionVars false
set_option maxHeartbeats 1000000
namespace Go.Proofs.YtaffcjgphlhppaaGreatDoor
open Go Go.Sx Go.Proofs
attribute [local irreducible] Code.wp wpList wpAnyH
open Go.Vs Go.ChangeShapes Go.WideShapes Go.ChangeAt Go.RowKit
set_option maxRecDepth 100000 in
theorem liftedCheckerTrusts (os:Os) (started:os.Started) (H:Type) (enc:TypeId×Value→H) :
    ReturnsInHanded {} Tryz.checked os 8 .any (fun w args=>(Rows.checkerTrustsSpec.pre enc Tryz.prog Tryz.f8 [] false w args∧laidMetH Tryz.prog gZ_ w)∧sizedMet enc Tryz.prog Tryz.f8 (OpenSpec.ofChange Rows.checkerTrustsSpec) false w args)
      (Rows.checkerTrustsSpec.post enc Tryz.prog Tryz.f8 false true false false):=by
  refine returnsInHanded_of_change_and (C:=Tryz.checked) (X:=fun w _=>laidMetH Tryz.prog gZ_ w) (fun _ _ _ hh h=>h.of_heap hh) own started zk Tryz.func8
    (ChangeSpec.witness_shaped (enc:=enc) (C:=Tryz.checked) (os:=os) (X:=fun w _=>laidMetH Tryz.prog gZ_ w) false (World.laidAll Tryz.prog os gZ_) #[.slice none 0 0,.agg #[.int .i64 0,.bool false,.int .i64 0,str [],.int .i64 0,.int .i64 0,.slice none 0 0,.int .i64 0,str [],.int .i64 0,.int .i64 0,.slice none 0 0,.slice none 0 0,str [],str [],str []],.slice none 0 0] 8 (World.laidAll_os _ _ _)
      (World.shaped_of_ZipB zk zk) zk zk zk
      (by rw[MakeChecks.laidMetH_plain _ _ _ zk];exact laidMet_laidAll _ zk zk)) ?_
  intro W base args ds gs before hval0 hW _ hwt hL _;have hval:∀ (j:Nat) t v,Tryz.f8.params[j]? = some t→args[j]? = some v→Value.okWide Tryz.prog W .any base t v:=hval0;have hW':=hW;obtain⟨p,q,hA0,hV,rfl,_,_⟩:=hW;have hA:DataW.TrodAll enc Tryz.prog W 0 (fun _=>true) true Tryz.f8.params.toList args.toList ds p:=hA0
  have hts:∀ t∈Tryz.f8.params.toList,t<Tryz.prog.types.size:=by
    rw[Tryz.params8,mr_];decide
  rw[Tryz.params8]at hA hval;obtain⟨rfl,rfl⟩:=trodVars_none hV
  have hwt':wok (DataW.weightsEach Tryz.prog [53,58,59] ds):=by
    have e:(Tryz.f8.params.toList++Rows.checkerTrustsSpec.plain.varTypes Tryz.prog)=[53,58,59]:=by rw[Tryz.params8];rfl
    have hwt0:wok (DataW.weightsEach Tryz.prog (Tryz.f8.params.toList++Rows.checkerTrustsSpec.plain.varTypes Tryz.prog) (ds++[])):=hwt;rw[e,List.append_nil]at hwt0;exact hwt0
  obtain⟨v0,v1,v2,d0,d1,d2,p0,p1,p2,rfl,rfl,rfl,h0,h1,h2⟩:=trodAll_three hA;simp only[DataW.weightsEach,eF_]at hwt';obtain⟨l,ad,cap,rfl,hax,hok,hlc,hcap⟩:=wJ_ tysX (hval 0 53 v0 rfl rfl) h0 hwt'.1;obtain⟨x,rfl,hmem,hokx⟩:=arg_ax tysX (hval 1 58 v1 rfl rfl) h1 hwt'.2.1;obtain⟨X,xad,xcap,rfl,hrX,hsX,hXc,hXm⟩:=uX_ tysX tysR Tryz.underlying59 zk (hval 2 59 v2 rfl rfl) h2 hwt'.2.2.1;have T:=(checkerTrusts_c l ad cap ⟨hlc,hcap⟩ hok x hokx X xad xcap (fun y hy=>⟨by have:=(hsX y hy).le;have:=(hsX y hy).mx;omega,fun s hs=>((hsX y hy).st s hs).fact.lim⟩) rfl rfl).run (vw W) (vw_sat W) ⟨hax,hmem,hrX,(fun y hy=>⟨(hsX y hy).row,fun s hs=>((hsX y hy).st s hs).row⟩),vo_ hL,rp_ hL,trivial⟩;refine T.mono ?_;rintro e w' ⟨_,v',rfl,rfl,_,_,hto⟩;exact⟨_,rfl,uf_ up_ full hts rfl hW' rfl zk Tryz.underlying4 hto⟩
theorem checkerTrusts_jA:(Rows.checkerTrustsRow.inPlace==Tryz.prog.inPlace 8)=true:=by kernel_rfl
theorem checkerTrusts_jB:(Rows.checkerTrustsRow.unfollowed==Tryz.prog.unfollowed 8)=true:=by kernel_rfl
theorem checkerTrusts_jC:(Rows.checkerTrustsRow.recurses==Tryz.prog.recurses 8)=true:=by kernel_rfl
theorem checkerTrusts_jD:(Rows.checkerTrustsRow.named==Tryz.prog.varsNamed 8)=true:=by kernel_rfl
theorem checkerTrusts_jE:(laidOutB Tryz.prog)=true:=by kernel_rfl
theorem checkerTrusts_jF:(mapsRowed Tryz.prog)=true:=by kernel_rfl
theorem checkerTrusts_j:joinedFacts Tryz.prog 8 Tryz.f8 Rows.checkerTrustsSpec Rows.checkerTrustsRow=true:=by
  unfold joinedFacts;rw[checkerTrusts_jA,checkerTrusts_jB,checkerTrusts_jC,checkerTrusts_jD,checkerTrusts_jE,checkerTrusts_jF]
  kernel_rfl
theorem checkerTrusts_said:Rows.CheckerTrustsSaid :=
  OpenClaim.holds_of_wide 8 Tryz.f8 rfl rfl rfl rfl rfl rfl rfl ⟨rfl,rfl,rfl,rfl,rfl⟩ rfl rfl rfl rfl rfl (by as_aux_lemma=>kernel_rfl) Tryz.func8 checkerTrusts_j
    (of_decide_eq_true (by as_aux_lemma=>kernel_rfl)) (by as_aux_lemma=>(unfold Func.isWrapper;first|(rw[if_pos (by decide +kernel)];kernel_rfl)|(rw[if_neg (by decide +kernel)];exact⟨rfl,rfl⟩)))
    (fun os started H enc _=>liftedCheckerTrusts os started H enc)
theorem checkerTrusts_fn : Tryz.prog.funcNamed "veilstone/veilstonelaw12.CheckerTrusts" = some 8 := by kernel_rfl
theorem checkerTrusts_st:([53,58,59].all fun u=>!Tryz.prog.wantsStandIn u)=true:=by kernel_rfl
set_option maxHeartbeats 4000000 in
theorem checkerTrusts_holds:Rows.CheckerTrustsCardSaid :=
  Claim7.holds_tied_plain_at .later [] [.data, .data, .data, .data, .data, .data, .data, .pinned] true (true, "f877dabc3300b750e26d0499c44caa625d2658d13b9373800241500b545656be") false
    checkerTrusts_said (fun _ h=>by cases h) (by as_aux_lemma=>kernel_rfl) (fun _ h=>by cases h) checkerTrusts_row_tie rfl ⟨rfl,rfl⟩ (by as_aux_lemma=>kernel_rfl) rfl
    (fun f fn hf hfn=>by
      obtain rfl:f=8:=Option.some.inj (checkerTrusts_fn.symm.trans hf) |>.symm
      obtain rfl:fn=Tryz.f8:=(Option.some.inj (Tryz.func8.symm.trans hfn)).symm
      exact⟨by as_aux_lemma=>kernel_rfl,fun j t ht=>by
        rw[Tryz.params8]at ht;have hm:t∈[53,58,59]:=by simpa using Array.mem_of_getElem? ht
        exact (show Tryz.prog.wantsStandIn t=false by simpa using List.all_eq_true.1 checkerTrusts_st t hm)⟩)
    (by as_aux_lemma=>kernel_rfl)
end Go.Proofs.YtaffcjgphlhppaaGreatDoor
