/-
  The law CheckerSound returns true for every input that the row speaks of, and each argument reads afterwards as before: the tied card. Conditions: those of the given row alone.
-/
import Derived.Test.YtaffcjgphlhppaaGreatDoorQCheckerSound14
import Derived.Test.YtaffcjgphlhppaaGreatDoorTie
import Derived.Test.YtaffcjgphlhppaaGreatDoorCards
import Derived.Test.YtaffcjgphlhppaaGreatDoorQCheckerSound13
set_option linter.unusedVariables false
set_option linter.unusedSimpArgs false
set_option linter.unusedSectionVars false
set_option maxHeartbeats 1000000
namespace Go.Proofs.YtaffcjgphlhppaaGreatDoor
open Go Go.Sx Go.Proofs
attribute [local irreducible] Code.wp wpList wpAnyH
open Go.Vs Go.ChangeShapes Go.WideShapes Go.ChangeAt Go.RowKit
set_option maxRecDepth 100000 in
theorem liftedCheckerSound (os:Os) (started:os.Started) (H:Type) (enc:TypeId×Value→H) :
    ReturnsInHanded {} Tryz.checked os 7 .any (fun w args=>(Rows.checkerSoundSpec.pre enc Tryz.prog Tryz.f7 [] false w args∧laidMetH Tryz.prog fS_ w)∧sizedMet enc Tryz.prog Tryz.f7 (OpenSpec.ofChange Rows.checkerSoundSpec) false w args)
      (Rows.checkerSoundSpec.post enc Tryz.prog Tryz.f7 false true false false):=by
  refine returnsInHanded_of_change_and (C:=Tryz.checked) (X:=fun w _=>laidMetH Tryz.prog fS_ w) (fun _ _ _ hh h=>h.of_heap hh) own started zk Tryz.func7
    (ChangeSpec.witness_shaped (enc:=enc) (C:=Tryz.checked) (os:=os) (X:=fun w _=>laidMetH Tryz.prog fS_ w) false (World.laidAll Tryz.prog os fS_) #[.slice none 0 0,.agg #[.int .i64 0,str [],str [],str [],.int .i64 0,.int .i64 0],.agg #[.slice none 0 0]] 8 (World.laidAll_os _ _ _)
      (World.shaped_of_ZipB zk zk) zk zk zk
      (by rw[MakeChecks.laidMetH_plain _ _ _ zk];exact laidMet_laidAll _ zk zk)) ?_
  intro W base args ds gs before hval0 hW _ hwt hL _
  have hval:∀ (j:Nat) t v,Tryz.f7.params[j]? = some t→args[j]? = some v→Value.okWide Tryz.prog W .any base t v:=hval0
  have hW':=hW
  obtain⟨p,q,hA0,hV,rfl,_,_⟩:=hW
  have hA:DataW.TrodAll enc Tryz.prog W 0 (fun _=>true) true Tryz.f7.params.toList args.toList ds p:=hA0
  have hts:∀ t∈Tryz.f7.params.toList,t<Tryz.prog.types.size:=by
    rw[Tryz.params7,kC_];decide
  rw[Tryz.params7]at hA hval
  obtain⟨rfl,rfl⟩:=trodVars_none hV
  have hwt':wok (DataW.weightsEach Tryz.prog [22,24,27] ds):=by
    have e:(Tryz.f7.params.toList++Rows.checkerSoundSpec.plain.varTypes Tryz.prog)=[22,24,27]:=by rw[Tryz.params7];rfl
    have hwt0:wok (DataW.weightsEach Tryz.prog (Tryz.f7.params.toList++Rows.checkerSoundSpec.plain.varTypes Tryz.prog) (ds++[])):=hwt
    rw[e,List.append_nil]at hwt0
    exact hwt0
  obtain⟨v0,v1,v2,d0,d1,d2,p0,p1,p2,rfl,rfl,rfl,h0,h1,h2⟩:=trodAll_three hA
  simp only[DataW.weightsEach,eh_]at hwt'
  obtain⟨p,pad,pcap,rfl,hrp,hbig,hpc,hpm,hpz⟩:=tS_ tysX (hval 0 22 v0 rfl rfl) h0 hwt'.1
  obtain⟨f,rfl,hf⟩:=arg_fc tysX tysR (hval 1 24 v1 rfl rfl) h1 hwt'.2.1
  obtain⟨l,ad,cap,rfl,hrow,hst,hlc,hcap⟩:=tR_ tysX tysR (hval 2 27 v2 rfl rfl) h2 hwt'.2.2.1
  have T:=(checkerSound_c p pad pcap (by omega) hbig f l ad cap (by omega) (fun s hs=>(hst s hs).fact.lim)).run (vw W) (vw_sat W) ⟨hrp,hrow,(fun s hs=>(hst s hs).row),sC_ hL,oT_ hL,trivial⟩
  refine T.mono ?_
  rintro e w' ⟨_,v',rfl,rfl,_,_,hto⟩
  exact⟨_,rfl,rA_ rK_ full hts rfl hW' rfl zk Tryz.underlying4 hto⟩
theorem checkerSound_jA:(Rows.checkerSoundRow.inPlace==Tryz.prog.inPlace 7)=true:=by kernel_rfl
theorem checkerSound_jB:(Rows.checkerSoundRow.unfollowed==Tryz.prog.unfollowed 7)=true:=by kernel_rfl
theorem checkerSound_jC:(Rows.checkerSoundRow.recurses==Tryz.prog.recurses 7)=true:=by kernel_rfl
theorem checkerSound_jD:(Rows.checkerSoundRow.named==Tryz.prog.varsNamed 7)=true:=by kernel_rfl
theorem checkerSound_jE:(laidOutB Tryz.prog)=true:=by kernel_rfl
theorem checkerSound_jF:(mapsRowed Tryz.prog)=true:=by kernel_rfl
theorem checkerSound_j:joinedFacts Tryz.prog 7 Tryz.f7 Rows.checkerSoundSpec Rows.checkerSoundRow=true:=by
  unfold joinedFacts
  rw[checkerSound_jA,checkerSound_jB,checkerSound_jC,checkerSound_jD,checkerSound_jE,checkerSound_jF]
  kernel_rfl
theorem checkerSound_said:Rows.CheckerSoundSaid :=
  OpenClaim.holds_of_wide 7 Tryz.f7 rfl rfl rfl rfl rfl rfl rfl ⟨rfl,rfl,rfl,rfl,rfl⟩ rfl rfl rfl rfl rfl (by as_aux_lemma=>kernel_rfl) Tryz.func7 checkerSound_j
    (of_decide_eq_true (by as_aux_lemma=>kernel_rfl)) (by as_aux_lemma=>(unfold Func.isWrapper;first|(rw[if_pos (by decide +kernel)];kernel_rfl)|(rw[if_neg (by decide +kernel)];exact⟨rfl,rfl⟩)))
    (fun os started H enc _=>liftedCheckerSound os started H enc)
theorem checkerSound_fn : Tryz.prog.funcNamed "veilstone/veilstonelaw12.CheckerSound" = some 7 := by kernel_rfl
theorem checkerSound_st:([22,24,27].all fun u=>!Tryz.prog.wantsStandIn u)=true:=by kernel_rfl
set_option maxHeartbeats 4000000 in
theorem checkerSound_holds:Rows.CheckerSoundCardSaid :=
  Claim7.holds_tied_plain_at .later [] [.data, .data, .data, .data, .data, .data, .data, .pinned] true (true, "f877dabc3300b750e26d0499c44caa625d2658d13b9373800241500b545656be") false
    checkerSound_said (fun _ h=>by cases h) (by as_aux_lemma=>kernel_rfl) (fun _ h=>by cases h) checkerSound_row_tie rfl ⟨rfl,rfl⟩ (by as_aux_lemma=>kernel_rfl) rfl
    (fun f fn hf hfn=>by
      obtain rfl:f=7:=Option.some.inj (checkerSound_fn.symm.trans hf) |>.symm
      obtain rfl:fn=Tryz.f7:=(Option.some.inj (Tryz.func7.symm.trans hfn)).symm
      exact⟨by as_aux_lemma=>kernel_rfl,fun j t ht=>by
        rw[Tryz.params7]at ht
        have hm:t∈[22,24,27]:=by simpa using Array.mem_of_getElem? ht
        exact (show Tryz.prog.wantsStandIn t=false by simpa using List.all_eq_true.1 checkerSound_st t hm)⟩)
    (by as_aux_lemma=>kernel_rfl)
end Go.Proofs.YtaffcjgphlhppaaGreatDoor
