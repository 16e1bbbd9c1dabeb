/-
  The law IncrementAxioms returns true for every input that the row speaks of, and each argument reads afterwards as before: the tied card. Conditions: those of the given row alone.
-/
import Derived.Test.YtpdbbglpbngeiaaGreatDoorQIncrementAxioms8
import Derived.Test.YtpdbbglpbngeiaaGreatDoorTie
import Derived.Test.YtpdbbglpbngeiaaGreatDoorCards
set_option linter.unusedVariables false
set_option linter.unusedSimpArgs false
set_option linter.unusedSectionVars false
namespace Go.Proofs.YtpdbbglpbngeiaaGreatDoor
open Go Go.Sx Go.Proofs
attribute [local irreducible] Code.wp wpList wpAnyH
open Go.Vs Go.ChangeShapes Go.WideShapes Go.ChangeAt Go.RowKit
set_option maxRecDepth 100000 in
theorem liftedIncrementAxioms (os : Os) (started : os.Started) (H : Type) (enc : TypeId × Value → H) :
    ReturnsInHanded {} Tryz.checked os 13 .any (fun w args => (Rows.incrementAxiomsSpec.pre enc Tryz.prog Tryz.f13 [] false w args ∧ laidMetH Tryz.prog fw_ w) ∧ sizedMet enc Tryz.prog Tryz.f13 (OpenSpec.ofChange Rows.incrementAxiomsSpec) false w args)
      (Rows.incrementAxiomsSpec.post enc Tryz.prog Tryz.f13 false true false false) := by
  refine returnsInHanded_of_change_and (C := Tryz.checked) (X := fun w _ => laidMetH Tryz.prog fw_ w) (fun _ _ _ hh h => h.of_heap hh) own started (by kernel_rfl) Tryz.func13
    (ChangeSpec.witness_shaped (enc := enc) (C := Tryz.checked) (os := os) (X := fun w _ => laidMetH Tryz.prog fw_ w) false (World.laidAll Tryz.prog os fw_) #[.slice none 0 0, .int .i64 0] 8 (World.laidAll_os _ _ _)
      (World.shaped_of_ZipB (by kernel_rfl) (by kernel_rfl)) (by kernel_rfl) (by kernel_rfl) (by kernel_rfl)
      (by rw [MakeChecks.laidMetH_plain _ _ _ (by kernel_rfl)]; exact laidMet_laidAll _ (by kernel_rfl) (by kernel_rfl))) ?_
  intro W base args ds gs before hval0 hW _ hwt hL _
  have hval : ∀ (j : Nat) t v, Tryz.f13.params[j]? = some t → args[j]? = some v → Value.okWide Tryz.prog W .any base t v := hval0
  have hW' := hW
  obtain ⟨p, q, hA0, hV, rfl, _, _⟩ := hW
  have hA : DataW.TrodAll enc Tryz.prog W 0 (fun _ => true) true Tryz.f13.params.toList args.toList ds p := hA0
  have hts : ∀ t ∈ Tryz.f13.params.toList, t < Tryz.prog.types.size := by
    rw [Tryz.params13, jO_]; decide
  rw [Tryz.params13] at hA hval
  obtain ⟨rfl, rfl⟩ := trodVars_none hV
  have hwt' : wok (DataW.weightsEach Tryz.prog [75, 3] ds) := by
    have e : (Tryz.f13.params.toList ++ Rows.incrementAxiomsSpec.plain.varTypes Tryz.prog) = [75, 3] := by rw [Tryz.params13]; rfl
    have hwt0 : wok (DataW.weightsEach Tryz.prog (Tryz.f13.params.toList ++ Rows.incrementAxiomsSpec.plain.varTypes Tryz.prog) (ds ++ [])) := hwt
    rw [e, List.append_nil] at hwt0
    exact hwt0
  obtain ⟨v0, v1, d0, d1, p0, p1, rfl, rfl, rfl, h0, h1⟩ := trodAll_two hA
  simp only [DataW.weightsEach, fi_] at hwt'
  obtain ⟨ll, adl, capl, rfl, haxl, hokl, hlcl, hcapl⟩ := sz_ tysX (hval 0 75 v0 rfl rfl) h0 hwt'.1
  obtain ⟨nb, rfl, hn1b, hn2b⟩ := sy_ tysX (hval 1 3 v1 rfl rfl) h1
  have T := (na_ ll adl capl nb ⟨hlcl, hcapl⟩ hokl (p := (bn_ ll).1) (er := (bn_ ll).2) rfl).run (vw W) (vw_sat W) ⟨haxl, oo_ hL, rz_ hL, trivial⟩
  refine T.mono ?_
  rintro e w' ⟨_, v', rfl, rfl, _, _, hto⟩
  exact ⟨_, rfl, qJ_ qK_ full hts rfl hW' rfl (by kernel_rfl) Tryz.underlying4 hto⟩
theorem incrementAxioms_jA : (Rows.incrementAxiomsRow.inPlace == Tryz.prog.inPlace 13) = true := by kernel_rfl
theorem incrementAxioms_jB : (Rows.incrementAxiomsRow.unfollowed == Tryz.prog.unfollowed 13) = true := by kernel_rfl
theorem incrementAxioms_jC : (Rows.incrementAxiomsRow.recurses == Tryz.prog.recurses 13) = true := by kernel_rfl
theorem incrementAxioms_jD : (Rows.incrementAxiomsRow.named == Tryz.prog.varsNamed 13) = true := by kernel_rfl
theorem incrementAxioms_jE : (laidOutB Tryz.prog) = true := by kernel_rfl
theorem incrementAxioms_jF : (mapsRowed Tryz.prog) = true := by kernel_rfl
theorem incrementAxioms_j : joinedFacts Tryz.prog 13 Tryz.f13 Rows.incrementAxiomsSpec Rows.incrementAxiomsRow = true := by
  unfold joinedFacts
  rw [incrementAxioms_jA, incrementAxioms_jB, incrementAxioms_jC, incrementAxioms_jD, incrementAxioms_jE, incrementAxioms_jF]
  kernel_rfl
theorem incrementAxioms_said : Rows.IncrementAxiomsSaid :=
  OpenClaim.holds_of_wide 13 Tryz.f13 rfl rfl rfl rfl rfl rfl rfl ⟨rfl, rfl, rfl, rfl, rfl⟩ rfl rfl rfl rfl rfl (by as_aux_lemma => kernel_rfl) Tryz.func13 incrementAxioms_j
    (of_decide_eq_true (by as_aux_lemma => kernel_rfl)) (by as_aux_lemma => (unfold Func.isWrapper; first | (rw [if_pos (by decide +kernel)]; kernel_rfl) | (rw [if_neg (by decide +kernel)]; exact ⟨rfl, rfl⟩)))
    (fun os started H enc _ => liftedIncrementAxioms os started H enc)
theorem incrementAxioms_fn : Tryz.prog.funcNamed "veilstone/veilstonelaw13.IncrementAxioms" = some 13 := by kernel_rfl
theorem incrementAxioms_st : ([75, 3].all fun u => !Tryz.prog.wantsStandIn u) = true := by kernel_rfl
set_option maxHeartbeats 4000000 in
theorem incrementAxioms_holds : Rows.IncrementAxiomsCardSaid :=
  Claim7.holds_tied_plain_at .later [] [.data, .data, .data, .data, .data, .data, .data, .pinned] true (true, "393138f8ac6bd00fc40efb4314fabf50acdb8921fb25458f65df1bc7408813ed") false
    incrementAxioms_said (fun _ h => by cases h) (by as_aux_lemma => kernel_rfl) (fun _ h => by cases h) incrementAxioms_row_tie rfl ⟨rfl, rfl⟩ (by as_aux_lemma => kernel_rfl) rfl
    (fun f fn hf hfn => by
      obtain rfl : f = 13 := Option.some.inj (incrementAxioms_fn.symm.trans hf) |>.symm
      obtain rfl : fn = Tryz.f13 := (Option.some.inj (Tryz.func13.symm.trans hfn)).symm
      exact ⟨by as_aux_lemma => kernel_rfl, fun j t ht => by
        rw [Tryz.params13] at ht
        have hm : t ∈ [75, 3] := by simpa using Array.mem_of_getElem? ht
        exact (show Tryz.prog.wantsStandIn t = false by simpa using List.all_eq_true.1 incrementAxioms_st t hm)⟩)
    (by as_aux_lemma => kernel_rfl)
end Go.Proofs.YtpdbbglpbngeiaaGreatDoor
