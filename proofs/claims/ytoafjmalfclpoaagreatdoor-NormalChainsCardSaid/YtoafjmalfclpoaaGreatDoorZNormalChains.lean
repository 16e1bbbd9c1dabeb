/-
  The law NormalChains returns true for every input that the row speaks of, and each argument reads afterwards as before: the tied card. Conditions: those of the given row alone.
-/
import Derived.Test.YtoafjmalfclpoaaGreatDoorQNormalChains9
import Derived.Test.YtoafjmalfclpoaaGreatDoorTie
import Derived.Test.YtoafjmalfclpoaaGreatDoorCards
import Derived.Test.YtoafjmalfclpoaaGreatDoorQNormalChains12
set_option linter.unusedVariables false
set_option linter.unusedSimpArgs false
set_option linter.unusedSectionVars false
namespace Go.Proofs.YtoafjmalfclpoaaGreatDoor
open Go Go.Sx Go.Proofs
attribute [local irreducible] Code.wp wpList wpAnyH
open Go.Vs Go.ChangeShapes Go.WideShapes Go.ChangeAt Go.RowKit
set_option maxRecDepth 100000 in
theorem liftedNormalChains (os : Os) (started : os.Started) (H : Type) (enc : TypeId × Value → H) :
    ReturnsInHanded {} Tryz.checked os 7 .any (fun w args => (Rows.normalChainsSpec.pre enc Tryz.prog Tryz.f7 [] false w args ∧ laidMetH Tryz.prog eq_ w) ∧ sizedMet enc Tryz.prog Tryz.f7 (OpenSpec.ofChange Rows.normalChainsSpec) false w args)
      (Rows.normalChainsSpec.post enc Tryz.prog Tryz.f7 false true false false) := by
  refine returnsInHanded_of_change_and (C := Tryz.checked) (X := fun w _ => laidMetH Tryz.prog eq_ w) (fun _ _ _ hh h => h.of_heap hh) own started (by kernel_rfl) Tryz.func7
    (ChangeSpec.witness_shaped (enc := enc) (C := Tryz.checked) (os := os) (X := fun w _ => laidMetH Tryz.prog eq_ w) false (World.laidAll Tryz.prog os eq_) #[.slice none 0 0, str []] 8 (World.laidAll_os _ _ _)
      (World.shaped_of_ZipB (by kernel_rfl) (by kernel_rfl)) (by kernel_rfl) (by kernel_rfl) (by kernel_rfl)
      (by rw [MakeChecks.laidMetH_plain _ _ _ (by kernel_rfl)]; exact laidMet_laidAll _ (by kernel_rfl) (by kernel_rfl))) ?_
  intro W base args ds gs before hval0 hW _ hwt hL _
  have hval : ∀ (j : Nat) t v, Tryz.f7.params[j]? = some t → args[j]? = some v → Value.okWide Tryz.prog W .any base t v := hval0
  have hW' := hW
  obtain ⟨p, q, hA0, hV, rfl, _, _⟩ := hW
  have hA : DataW.TrodAll enc Tryz.prog W 0 (fun _ => true) true Tryz.f7.params.toList args.toList ds p := hA0
  have hts : ∀ t ∈ Tryz.f7.params.toList, t < Tryz.prog.types.size := by
    rw [Tryz.params7, gI_]; decide
  rw [Tryz.params7] at hA hval
  obtain ⟨rfl, rfl⟩ := trodVars_none hV
  have hwt' : wok (DataW.weightsEach Tryz.prog [39, 9] ds) := by
    have e : (Tryz.f7.params.toList ++ Rows.normalChainsSpec.plain.varTypes Tryz.prog) = [39, 9] := by rw [Tryz.params7]; rfl
    have hwt0 : wok (DataW.weightsEach Tryz.prog (Tryz.f7.params.toList ++ Rows.normalChainsSpec.plain.varTypes Tryz.prog) (ds ++ [])) := hwt
    rw [e, List.append_nil] at hwt0
    exact hwt0
  obtain ⟨v0, v1, d0, d1, p0, p1, rfl, rfl, rfl, h0, h1⟩ := trodAll_two hA
  simp only [DataW.weightsEach, fh_] at hwt'
  obtain ⟨l, ad, cap, rfl, hrow, hlen, hlc, hcap⟩ := ll_ tysX (hval 0 39 v0 rfl rfl) h0 hwt'.1
  obtain ⟨s, rfl, hs⟩ := lO_ tysX (hval 1 9 v1 rfl rfl) h1 hwt'.2.1
  have T := (normalChains_c l ad cap hlen hlc hcap s hs).run (vw W) (vw_sat W) ⟨hrow, lt_ hL, trivial⟩
  refine T.mono ?_
  rintro e w' ⟨_, v', rfl, rfl, _, _, hto⟩
  exact ⟨_, rfl, kW_ kX_ full hts rfl hW' rfl (by kernel_rfl) Tryz.underlying4 hto⟩
theorem normalChains_said : Rows.NormalChainsSaid :=
  OpenClaim.holds_of_wide 7 Tryz.f7 rfl rfl rfl rfl rfl rfl rfl ⟨rfl, rfl, rfl, rfl, rfl⟩ rfl rfl rfl rfl rfl (by kernel_rfl) Tryz.func7 (by kernel_rfl)
    (of_decide_eq_true (by kernel_rfl)) (by unfold Func.isWrapper; first | (rw [if_pos (by decide +kernel)]; kernel_rfl) | (rw [if_neg (by decide +kernel)]; exact ⟨rfl, rfl⟩))
    (fun os started H enc _ => liftedNormalChains os started H enc)
theorem normalChains_holds : Rows.NormalChainsCardSaid :=
  Claim7.holds_tied_plain_at .later [] [.data, .data, .data, .data, .data, .data, .data, .pinned] true (true, "7aaf4bc3b5aaabc3bd257bb27519b224f08225dd8344844f07c1948b67c7cb09") false
    normalChains_said (fun _ h => by cases h) (by kernel_rfl) (fun _ h => by cases h) normalChains_row_tie rfl ⟨rfl, rfl⟩ (by kernel_rfl) rfl
    (fun f fn hf hfn => by
      obtain rfl : f = 7 := Option.some.inj ((show Tryz.prog.funcNamed "veilstone/veilstonelaw09.NormalChains" = some 7 by kernel_rfl).symm.trans hf) |>.symm
      obtain rfl : fn = Tryz.f7 := (Option.some.inj (Tryz.func7.symm.trans hfn)).symm
      exact ⟨by kernel_rfl, fun j t ht => by
        rw [Tryz.params7] at ht
        have hm : t ∈ [39, 9] := by simpa using Array.mem_of_getElem? ht
        have hall : ([39, 9].all fun u => !Tryz.prog.wantsStandIn u) = true := by kernel_rfl
        exact (show Tryz.prog.wantsStandIn t = false by simpa using List.all_eq_true.1 hall t hm)⟩)
    (by kernel_rfl)
end Go.Proofs.YtoafjmalfclpoaaGreatDoor
