/-
  The law IncrementHistory returns true for every input that the row speaks of, and each argument reads afterwards as before: the tied card. Conditions: those of the given row alone.
-/
import Derived.Test.YtpdbbglpbngeiaaGreatDoorQIncrementHistory5
import Derived.Test.YtpdbbglpbngeiaaGreatDoorTie
import Derived.Test.YtpdbbglpbngeiaaGreatDoorCards
import Derived.Test.YtpdbbglpbngeiaaGreatDoorQIncrementHistory6
set_option linter.unusedVariables false
set_option linter.unusedSimpArgs false
set_option linter.unusedSectionVars false
namespace Go.Proofs.YtpdbbglpbngeiaaGreatDoor
open Go Go.Sx Go.Proofs
attribute [local irreducible] Code.wp wpList wpAnyH
open Go.Vs Go.ChangeShapes Go.WideShapes Go.ChangeAt Go.RowKit
set_option maxRecDepth 100000 in
theorem liftedIncrementHistory (os : Os) (started : os.Started) (H : Type) (enc : TypeId × Value → H) :
    ReturnsInHanded {} Tryz.checked os 10 .any (fun w args => (Rows.incrementHistorySpec.pre enc Tryz.prog Tryz.f10 [] false w args ∧ laidMetH Tryz.prog hI_ w) ∧ sizedMet enc Tryz.prog Tryz.f10 (OpenSpec.ofChange Rows.incrementHistorySpec) false w args)
      (Rows.incrementHistorySpec.post enc Tryz.prog Tryz.f10 false true false false) := by
  refine returnsInHanded_of_change_and (C := Tryz.checked) (X := fun w _ => laidMetH Tryz.prog hI_ w) (fun _ _ _ hh h => h.of_heap hh) own started (by kernel_rfl) Tryz.func10
    (ChangeSpec.witness_shaped (enc := enc) (C := Tryz.checked) (os := os) (X := fun w _ => laidMetH Tryz.prog hI_ w) false (World.laidAll Tryz.prog os hI_) #[.slice none 0 0] 8 (World.laidAll_os _ _ _)
      (World.shaped_of_ZipB (by kernel_rfl) (by kernel_rfl)) (by kernel_rfl) (by kernel_rfl) (by kernel_rfl)
      (by rw [MakeChecks.laidMetH_plain _ _ _ (by kernel_rfl)]; exact laidMet_laidAll _ (by kernel_rfl) (by kernel_rfl))) ?_
  intro W base args ds gs before hval0 hW _ hwt hL _
  have hval : ∀ (j : Nat) t v, Tryz.f10.params[j]? = some t → args[j]? = some v → Value.okWide Tryz.prog W .any base t v := hval0
  have hW' := hW
  obtain ⟨p, q, hA0, hV, rfl, _, _⟩ := hW
  have hA : DataW.TrodAll enc Tryz.prog W 0 (fun _ => true) true Tryz.f10.params.toList args.toList ds p := hA0
  have hts : ∀ t ∈ Tryz.f10.params.toList, t < Tryz.prog.types.size := by
    rw [Tryz.params10, mV_]; decide
  rw [Tryz.params10] at hA hval
  obtain ⟨rfl, rfl⟩ := trodVars_none hV
  have hwt' : wok (DataW.weightsEach Tryz.prog [64] ds) := by
    have e : (Tryz.f10.params.toList ++ Rows.incrementHistorySpec.plain.varTypes Tryz.prog) = [64] := by rw [Tryz.params10]; rfl
    have hwt0 : wok (DataW.weightsEach Tryz.prog (Tryz.f10.params.toList ++ Rows.incrementHistorySpec.plain.varTypes Tryz.prog) (ds ++ [])) := hwt
    rw [e, List.append_nil] at hwt0
    exact hwt0
  obtain ⟨v0, d0, rfl, rfl, h0⟩ := trodAll_one hA
  simp only [DataW.weightsEach, ea_] at hwt'
  obtain ⟨l, ad, cap, rfl, hrow, hch, hlc, hcap⟩ := ou_ tysX tysY (hval 0 64 v0 rfl rfl) h0 hwt'.1
  have T := (lZ_ l ad cap (by omega) (fun x hx => (hch x hx).ok)).run (vw W) (vw_sat W) ⟨hrow, fun x hx => (hch x hx).row, nE_ hL, trivial⟩
  refine T.mono ?_
  rintro e w' ⟨_, v', rfl, rfl, _, _, hto⟩
  exact ⟨_, rfl, mZ_ kids full hts rfl hW' rfl (by kernel_rfl) Tryz.underlying4 hto⟩
theorem incrementHistory_jA : (Rows.incrementHistoryRow.inPlace == Tryz.prog.inPlace 10) = true := by kernel_rfl
theorem incrementHistory_jB : (Rows.incrementHistoryRow.unfollowed == Tryz.prog.unfollowed 10) = true := by kernel_rfl
theorem incrementHistory_jC : (Rows.incrementHistoryRow.recurses == Tryz.prog.recurses 10) = true := by kernel_rfl
theorem incrementHistory_jD : (Rows.incrementHistoryRow.named == Tryz.prog.varsNamed 10) = true := by kernel_rfl
theorem incrementHistory_jE : (laidOutB Tryz.prog) = true := by kernel_rfl
theorem incrementHistory_jF : (mapsRowed Tryz.prog) = true := by kernel_rfl
theorem incrementHistory_j : joinedFacts Tryz.prog 10 Tryz.f10 Rows.incrementHistorySpec Rows.incrementHistoryRow = true := by
  unfold joinedFacts
  rw [incrementHistory_jA, incrementHistory_jB, incrementHistory_jC, incrementHistory_jD, incrementHistory_jE, incrementHistory_jF]
  kernel_rfl
theorem incrementHistory_said : Rows.IncrementHistorySaid :=
  OpenClaim.holds_of_wide 10 Tryz.f10 rfl rfl rfl rfl rfl rfl rfl ⟨rfl, rfl, rfl, rfl, rfl⟩ rfl rfl rfl rfl rfl (by as_aux_lemma => kernel_rfl) Tryz.func10 incrementHistory_j
    (of_decide_eq_true (by as_aux_lemma => kernel_rfl)) (by as_aux_lemma => (unfold Func.isWrapper; first | (rw [if_pos (by decide +kernel)]; kernel_rfl) | (rw [if_neg (by decide +kernel)]; exact ⟨rfl, rfl⟩)))
    (fun os started H enc _ => liftedIncrementHistory os started H enc)
theorem incrementHistory_fn : Tryz.prog.funcNamed "veilstone/veilstonelaw13.IncrementHistory" = some 10 := by kernel_rfl
theorem incrementHistory_st : ([64].all fun u => !Tryz.prog.wantsStandIn u) = true := by kernel_rfl
set_option maxHeartbeats 4000000 in
theorem incrementHistory_holds : Rows.IncrementHistoryCardSaid :=
  Claim7.holds_tied_plain_at .later [] [.data, .data, .pinned] true (true, "393138f8ac6bd00fc40efb4314fabf50acdb8921fb25458f65df1bc7408813ed") false
    incrementHistory_said (fun _ h => by cases h) (by as_aux_lemma => kernel_rfl) (fun _ h => by cases h) incrementHistory_row_tie rfl ⟨rfl, rfl⟩ (by as_aux_lemma => kernel_rfl) rfl
    (fun f fn hf hfn => by
      obtain rfl : f = 10 := Option.some.inj (incrementHistory_fn.symm.trans hf) |>.symm
      obtain rfl : fn = Tryz.f10 := (Option.some.inj (Tryz.func10.symm.trans hfn)).symm
      exact ⟨by as_aux_lemma => kernel_rfl, fun j t ht => by
        rw [Tryz.params10] at ht
        have hm : t ∈ [64] := by simpa using Array.mem_of_getElem? ht
        exact (show Tryz.prog.wantsStandIn t = false by simpa using List.all_eq_true.1 incrementHistory_st t hm)⟩)
    (by as_aux_lemma => kernel_rfl)
end Go.Proofs.YtpdbbglpbngeiaaGreatDoor
