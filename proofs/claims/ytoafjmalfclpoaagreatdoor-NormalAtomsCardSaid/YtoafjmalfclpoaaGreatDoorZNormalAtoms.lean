/-
  The law NormalAtoms returns true for every input that the row speaks of, and each argument reads afterwards as before: the tied card. Conditions: those of the given row alone.
-/
import Derived.Test.YtoafjmalfclpoaaGreatDoorPk6
import Derived.Test.YtoafjmalfclpoaaGreatDoorTie
import Derived.Test.YtoafjmalfclpoaaGreatDoorCards
import Derived.Test.YtoafjmalfclpoaaGreatDoorQNormalAtoms1
set_option linter.unusedVariables false
set_option linter.unusedSimpArgs false
set_option linter.unusedSectionVars false
/-
  The law NormalAtoms returns true for every input that the row speaks of: the row, and its tied card (package variables as the program text lays them).
-/
namespace Go.Proofs.YtoafjmalfclpoaaGreatDoor
open Go Go.Sx Go.Proofs
set_option linter.unusedVariables false
attribute [local irreducible] Code.wp wpList wpAnyH

open Go.Vs Go.ChangeShapes Go.WideShapes Go.ChangeAt Go.RowKit
set_option maxRecDepth 100000 in
theorem liftedNormalAtoms (os : Os) (started : os.Started) (H : Type) (enc : TypeId × Value → H) :
    ReturnsInHanded {} Tryz.checked os 6 .any (fun w args => (Rows.normalAtomsSpec.pre enc Tryz.prog Tryz.f6 [] false w args ∧ laidMetH Tryz.prog laidL w) ∧ sizedMet enc Tryz.prog Tryz.f6 (OpenSpec.ofChange Rows.normalAtomsSpec) false w args)
      (Rows.normalAtomsSpec.post enc Tryz.prog Tryz.f6 false true false false) := by
  refine returnsInHanded_of_change_and (C := Tryz.checked) (X := fun w _ => laidMetH Tryz.prog laidL w) (fun _ _ _ hh h => h.of_heap hh) own started (by kernel_rfl) Tryz.func6
    (ChangeSpec.witness_shaped (enc := enc) (C := Tryz.checked) (os := os) (X := fun w _ => laidMetH Tryz.prog laidL w) false (World.laidAll Tryz.prog os laidL) #[.agg #[.int .i64 0, str [], .int .i64 0, .int .i64 0, .slice none 0 0], .agg #[.int .i64 0, str [], .int .i64 0, .int .i64 0, .slice none 0 0]] 8 (World.laidAll_os _ _ _)
      (World.shaped_of_ZipB (by kernel_rfl) (by kernel_rfl)) (by kernel_rfl) (by kernel_rfl) (by kernel_rfl)
      (by rw [MakeChecks.laidMetH_plain _ _ _ (by kernel_rfl)]; exact laidMet_laidAll _ (by kernel_rfl) (by kernel_rfl))) ?_
  intro W base args ds gs before hval0 hW _ hwt hL _
  have hval : ∀ (j : Nat) t v, Tryz.f6.params[j]? = some t → args[j]? = some v → Value.okWide Tryz.prog W .any base t v := hval0
  have hW' := hW
  obtain ⟨p, q, hA0, hV, rfl, _, _⟩ := hW
  have hA : DataW.TrodAll enc Tryz.prog W 0 (fun _ => true) true Tryz.f6.params.toList args.toList ds p := hA0
  have hts : ∀ t ∈ Tryz.f6.params.toList, t < Tryz.prog.types.size := by
    rw [Tryz.params6, nTypes]; decide
  rw [Tryz.params6] at hA hval
  obtain ⟨rfl, rfl⟩ := trodVars_none hV
  have hwt' : wok (DataW.weightsEach Tryz.prog [38, 38] ds) := by
    have e : (Tryz.f6.params.toList ++ Rows.normalAtomsSpec.plain.varTypes Tryz.prog) = [38, 38] := by rw [Tryz.params6]; rfl
    have hwt0 : wok (DataW.weightsEach Tryz.prog (Tryz.f6.params.toList ++ Rows.normalAtomsSpec.plain.varTypes Tryz.prog) (ds ++ [])) := hwt
    rw [e, List.append_nil] at hwt0
    exact hwt0
  obtain ⟨v0, v1, d0, d1, p0, p1, rfl, rfl, rfl, h0, h1⟩ := trodAll_two hA
  simp only [DataW.weightsEach, wok_append] at hwt'
  obtain ⟨c0, rfl, hmem0, hok0⟩ := arg_con tysX (hval 0 38 v0 rfl rfl) h0 hwt'.1
  obtain ⟨c1, rfl, hmem1, hok1⟩ := arg_con tysX (hval 1 38 v1 rfl rfl) h1 hwt'.2.1
  have T := (normalAtoms_c c0 c1 hok0 hok1).run (vw W) (vw_sat W) ⟨hmem0, hmem1, tabs_of hL, trivial⟩
  refine T.mono ?_
  rintro e w' ⟨_, v', rfl, rfl, _, _, hto⟩
  exact ⟨_, rfl, law_post kids full hts rfl hW' rfl (by kernel_rfl) Tryz.underlying4 hto⟩

theorem normalAtoms_said : Rows.NormalAtomsSaid :=
  OpenClaim.holds_of_wide 6 Tryz.f6 rfl rfl rfl rfl rfl rfl rfl ⟨rfl, rfl, rfl, rfl, rfl⟩ rfl rfl rfl rfl rfl (by kernel_rfl) Tryz.func6 (by kernel_rfl)
    (of_decide_eq_true (by kernel_rfl)) (by unfold Func.isWrapper; first | (rw [if_pos (by decide +kernel)]; kernel_rfl) | (rw [if_neg (by decide +kernel)]; exact ⟨rfl, rfl⟩))
    (fun os started H enc _ => liftedNormalAtoms os started H enc)
theorem normalAtoms_holds : Rows.NormalAtomsCardSaid :=
  Claim7.holds_tied_plain_at .later [] [.data, .data, .data, .data, .data, .data, .data, .pinned] true (true, "7aaf4bc3b5aaabc3bd257bb27519b224f08225dd8344844f07c1948b67c7cb09") false
    normalAtoms_said (fun _ h => by cases h) (by kernel_rfl) (fun _ h => by cases h) normalAtoms_row_tie rfl ⟨rfl, rfl⟩ (by kernel_rfl) rfl
    (fun f fn hf hfn => by
      obtain rfl : f = 6 := Option.some.inj ((show Tryz.prog.funcNamed "veilstone/veilstonelaw09.NormalAtoms" = some 6 by kernel_rfl).symm.trans hf) |>.symm
      obtain rfl : fn = Tryz.f6 := (Option.some.inj (Tryz.func6.symm.trans hfn)).symm
      exact ⟨by kernel_rfl, fun j t ht => by
        rw [Tryz.params6] at ht
        have hm : t ∈ [38, 38] := by simpa using Array.mem_of_getElem? ht
        have hall : ([38, 38].all fun u => !Tryz.prog.wantsStandIn u) = true := by kernel_rfl
        exact (show Tryz.prog.wantsStandIn t = false by simpa using List.all_eq_true.1 hall t hm)⟩)
    (by kernel_rfl)

end Go.Proofs.YtoafjmalfclpoaaGreatDoor
