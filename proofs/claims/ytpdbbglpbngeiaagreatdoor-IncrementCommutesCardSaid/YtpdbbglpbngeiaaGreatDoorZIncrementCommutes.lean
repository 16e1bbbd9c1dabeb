/-
  The law IncrementCommutes returns true for every input that the row speaks of, and each argument reads afterwards as before: the tied card. Conditions: those of the given row alone.
-/
import Derived.Test.YtpdbbglpbngeiaaGreatDoorQIncrementCommutes5
import Derived.Test.YtpdbbglpbngeiaaGreatDoorTie
import Derived.Test.YtpdbbglpbngeiaaGreatDoorCards
import Derived.Test.YtpdbbglpbngeiaaGreatDoorQIncrementCommutes8
set_option linter.unusedVariables false
set_option linter.unusedSimpArgs false
set_option linter.unusedSectionVars false
namespace Go.Proofs.YtpdbbglpbngeiaaGreatDoor
open Go Go.Sx Go.Proofs
attribute [local irreducible] Code.wp wpList wpAnyH
open Go.Vs Go.ChangeShapes Go.WideShapes Go.ChangeAt Go.RowKit
set_option maxRecDepth 100000 in
theorem liftedIncrementCommutes (os : Os) (started : os.Started) (H : Type) (enc : TypeId × Value → H) :
    ReturnsInHanded {} Tryz.checked os 11 .any (fun w args => (Rows.incrementCommutesSpec.pre enc Tryz.prog Tryz.f11 [] false w args ∧ laidMetH Tryz.prog iW_ w) ∧ sizedMet enc Tryz.prog Tryz.f11 (OpenSpec.ofChange Rows.incrementCommutesSpec) false w args)
      (Rows.incrementCommutesSpec.post enc Tryz.prog Tryz.f11 false true false false) := by
  refine returnsInHanded_of_change_and (C := Tryz.checked) (X := fun w _ => laidMetH Tryz.prog iW_ w) (fun _ _ _ hh h => h.of_heap hh) own started (by kernel_rfl) Tryz.func11
    (ChangeSpec.witness_shaped (enc := enc) (C := Tryz.checked) (os := os) (X := fun w _ => laidMetH Tryz.prog iW_ w) false (World.laidAll Tryz.prog os iW_) #[.slice none 0 0, .slice none 0 0, .slice none 0 0] 8 (World.laidAll_os _ _ _)
      (World.shaped_of_ZipB (by kernel_rfl) (by kernel_rfl)) (by kernel_rfl) (by kernel_rfl) (by kernel_rfl)
      (by rw [MakeChecks.laidMetH_plain _ _ _ (by kernel_rfl)]; exact laidMet_laidAll _ (by kernel_rfl) (by kernel_rfl))) ?_
  intro W base args ds gs before hval0 hW _ hwt hL _
  have hval : ∀ (j : Nat) t v, Tryz.f11.params[j]? = some t → args[j]? = some v → Value.okWide Tryz.prog W .any base t v := hval0
  have hW' := hW
  obtain ⟨p, q, hA0, hV, rfl, _, _⟩ := hW
  have hA : DataW.TrodAll enc Tryz.prog W 0 (fun _ => true) true Tryz.f11.params.toList args.toList ds p := hA0
  have hts : ∀ t ∈ Tryz.f11.params.toList, t < Tryz.prog.types.size := by
    rw [Tryz.params11, oN_]; decide
  rw [Tryz.params11] at hA hval
  obtain ⟨rfl, rfl⟩ := trodVars_none hV
  have hwt' : wok (DataW.weightsEach Tryz.prog [22, 22, 22] ds) := by
    have e : (Tryz.f11.params.toList ++ Rows.incrementCommutesSpec.plain.varTypes Tryz.prog) = [22, 22, 22] := by rw [Tryz.params11]; rfl
    have hwt0 : wok (DataW.weightsEach Tryz.prog (Tryz.f11.params.toList ++ Rows.incrementCommutesSpec.plain.varTypes Tryz.prog) (ds ++ [])) := hwt
    rw [e, List.append_nil] at hwt0
    exact hwt0
  obtain ⟨v0, v1, v2, d0, d1, d2, p0, p1, p2, rfl, rfl, rfl, h0, h1, h2⟩ := trodAll_three hA
  simp only [DataW.weightsEach, fL_] at hwt'
  obtain ⟨lo, ado, capo, rfl, hrowo, hbigo, hlco, hcapo, hzo⟩ := kK_ tysX (hval 0 22 v0 rfl rfl) h0 hwt'.1
  obtain ⟨lp, adp, capp, rfl, hrowp, hbigp, hlcp, hcapp, hzp⟩ := kK_ tysX (hval 1 22 v1 rfl rfl) h1 hwt'.2.1
  obtain ⟨lq, adq, capq, rfl, hrowq, hbigq, hlcq, hcapq, hzq⟩ := kK_ tysX (hval 2 22 v2 rfl rfl) h2 hwt'.2.2.1
  have T := (nK_ lo lp lq ado adp adq capo capp capq hlco hcapo hzo hbigo hlcp hcapp hzp hbigp hlcq hcapq hzq hbigq).run (vw W) (vw_sat W) ⟨hrowo, hrowp, hrowq, pB_ hL, trivial⟩
  refine T.mono ?_
  rintro e w' ⟨_, v', rfl, rfl, _, _, hto⟩
  exact ⟨_, rfl, oS_ kids full hts rfl hW' rfl (by kernel_rfl) Tryz.underlying4 hto⟩
theorem incrementCommutes_jA : (Rows.incrementCommutesRow.inPlace == Tryz.prog.inPlace 11) = true := by kernel_rfl
theorem incrementCommutes_jB : (Rows.incrementCommutesRow.unfollowed == Tryz.prog.unfollowed 11) = true := by kernel_rfl
theorem incrementCommutes_jC : (Rows.incrementCommutesRow.recurses == Tryz.prog.recurses 11) = true := by kernel_rfl
theorem incrementCommutes_jD : (Rows.incrementCommutesRow.named == Tryz.prog.varsNamed 11) = true := by kernel_rfl
theorem incrementCommutes_jE : (laidOutB Tryz.prog) = true := by kernel_rfl
theorem incrementCommutes_jF : (mapsRowed Tryz.prog) = true := by kernel_rfl
theorem incrementCommutes_j : joinedFacts Tryz.prog 11 Tryz.f11 Rows.incrementCommutesSpec Rows.incrementCommutesRow = true := by
  unfold joinedFacts
  rw [incrementCommutes_jA, incrementCommutes_jB, incrementCommutes_jC, incrementCommutes_jD, incrementCommutes_jE, incrementCommutes_jF]
  kernel_rfl
theorem incrementCommutes_said : Rows.IncrementCommutesSaid :=
  OpenClaim.holds_of_wide 11 Tryz.f11 rfl rfl rfl rfl rfl rfl rfl ⟨rfl, rfl, rfl, rfl, rfl⟩ rfl rfl rfl rfl rfl (by as_aux_lemma => kernel_rfl) Tryz.func11 incrementCommutes_j
    (of_decide_eq_true (by as_aux_lemma => kernel_rfl)) (by as_aux_lemma => (unfold Func.isWrapper; first | (rw [if_pos (by decide +kernel)]; kernel_rfl) | (rw [if_neg (by decide +kernel)]; exact ⟨rfl, rfl⟩)))
    (fun os started H enc _ => liftedIncrementCommutes os started H enc)
theorem incrementCommutes_fn : Tryz.prog.funcNamed "veilstone/veilstonelaw13.IncrementCommutes" = some 11 := by kernel_rfl
theorem incrementCommutes_st : ([22, 22, 22].all fun u => !Tryz.prog.wantsStandIn u) = true := by kernel_rfl
set_option maxHeartbeats 4000000 in
theorem incrementCommutes_holds : Rows.IncrementCommutesCardSaid :=
  Claim7.holds_tied_plain_at .later [] [.data, .data, .pinned] true (true, "393138f8ac6bd00fc40efb4314fabf50acdb8921fb25458f65df1bc7408813ed") false
    incrementCommutes_said (fun _ h => by cases h) (by as_aux_lemma => kernel_rfl) (fun _ h => by cases h) incrementCommutes_row_tie rfl ⟨rfl, rfl⟩ (by as_aux_lemma => kernel_rfl) rfl
    (fun f fn hf hfn => by
      obtain rfl : f = 11 := Option.some.inj (incrementCommutes_fn.symm.trans hf) |>.symm
      obtain rfl : fn = Tryz.f11 := (Option.some.inj (Tryz.func11.symm.trans hfn)).symm
      exact ⟨by as_aux_lemma => kernel_rfl, fun j t ht => by
        rw [Tryz.params11] at ht
        have hm : t ∈ [22, 22, 22] := by simpa using Array.mem_of_getElem? ht
        exact (show Tryz.prog.wantsStandIn t = false by simpa using List.all_eq_true.1 incrementCommutes_st t hm)⟩)
    (by as_aux_lemma => kernel_rfl)
end Go.Proofs.YtpdbbglpbngeiaaGreatDoor
