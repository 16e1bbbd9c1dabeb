/-
  The law SaturateLeast returns true for every input that the row speaks of, and each argument reads afterwards as before: the tied card. Conditions: those of the given row alone.
-/
import Derived.Test.YtpdbbglpbngeiaaGreatDoorQSaturateLeast6
import Derived.Test.YtpdbbglpbngeiaaGreatDoorTie
import Derived.Test.YtpdbbglpbngeiaaGreatDoorCards
import Derived.Test.YtpdbbglpbngeiaaGreatDoorQSaturateLeast8
set_option linter.unusedVariables false
set_option linter.unusedSimpArgs false
set_option linter.unusedSectionVars false
namespace Go.Proofs.YtpdbbglpbngeiaaGreatDoor
open Go Go.Sx Go.Proofs
set_option linter.unusedVariables false
attribute [local irreducible] Code.wp wpList wpAnyH
open Go.Vs Go.ChangeShapes Go.WideShapes Go.ChangeAt Go.RowKit
set_option maxRecDepth 100000 in
theorem liftedSaturateLeast (os : Os) (started : os.Started) (H : Type) (enc : TypeId × Value → H) :
    ReturnsInHanded {} Tryz.checked os 5 .any (fun w args => (Rows.saturateLeastSpec.pre enc Tryz.prog Tryz.f5 [] false w args ∧ laidMetH Tryz.prog laidL w) ∧ sizedMet enc Tryz.prog Tryz.f5 (OpenSpec.ofChange Rows.saturateLeastSpec) false w args)
      (Rows.saturateLeastSpec.post enc Tryz.prog Tryz.f5 false true false false) := by
  refine returnsInHanded_of_change_and (C := Tryz.checked) (X := fun w _ => laidMetH Tryz.prog laidL w) (fun _ _ _ hh h => h.of_heap hh) own started (by kernel_rfl) Tryz.func5
    (ChangeSpec.witness_shaped (enc := enc) (C := Tryz.checked) (os := os) (X := fun w _ => laidMetH Tryz.prog laidL w) false (World.laidAll Tryz.prog os laidL) #[.slice none 0 0, .slice none 0 0] 8 (World.laidAll_os _ _ _)
      (World.shaped_of_ZipB (by kernel_rfl) (by kernel_rfl)) (by kernel_rfl) (by kernel_rfl) (by kernel_rfl)
      (by rw [MakeChecks.laidMetH_plain _ _ _ (by kernel_rfl)]; exact laidMet_laidAll _ (by kernel_rfl) (by kernel_rfl))) ?_
  intro W base args ds gs before hval0 hW _ hwt hL _
  have hval : ∀ (j : Nat) t v, Tryz.f5.params[j]? = some t → args[j]? = some v → Value.okWide Tryz.prog W .any base t v := hval0
  have hW' := hW
  obtain ⟨p, q, hA0, hV, rfl, _, _⟩ := hW
  have hA : DataW.TrodAll enc Tryz.prog W 0 (fun _ => true) true Tryz.f5.params.toList args.toList ds p := hA0
  have hts : ∀ t ∈ Tryz.f5.params.toList, t < Tryz.prog.types.size := by
    rw [Tryz.params5, nTypes]; decide
  rw [Tryz.params5] at hA hval
  obtain ⟨rfl, rfl⟩ := trodVars_none hV
  have hwt' : wok (DataW.weightsEach Tryz.prog [22, 26] ds) := by
    have e : (Tryz.f5.params.toList ++ Rows.saturateLeastSpec.plain.varTypes Tryz.prog) = [22, 26] := by rw [Tryz.params5]; rfl
    have hwt0 : wok (DataW.weightsEach Tryz.prog (Tryz.f5.params.toList ++ Rows.saturateLeastSpec.plain.varTypes Tryz.prog) (ds ++ [])) := hwt
    rw [e, List.append_nil] at hwt0
    exact hwt0
  obtain ⟨v0, v1, d0, d1, p0, p1, rfl, rfl, rfl, h0, h1⟩ := trodAll_two hA
  simp only [DataW.weightsEach, wok_append] at hwt'
  obtain ⟨lp, adp, capp, rfl, hrowp, hbigp, hlcp, hcapp⟩ := arg_pcs tysX (hval 0 22 v0 rfl rfl) h0 hwt'.1
  obtain ⟨lm, adm, capm, rfl, hrowm, hbigm, hlcm, hcapm⟩ := arg_fcs tysX tysZ (hval 1 26 v1 rfl rfl) h1 hwt'.2.1
  have T := (satLeast_c lp adp capp lm adm capm (by omega) hbigp (by omega)).run (vw W) (vw_sat W) ⟨hrowp, hrowm, tabN_of hL, trivial⟩
  refine T.mono ?_
  rintro e w' ⟨_, v', rfl, rfl, _, _, hto⟩
  exact ⟨_, rfl, law_post kids full hts rfl hW' rfl (by kernel_rfl) Tryz.underlying4 hto⟩
theorem saturateLeast_jA : (Rows.saturateLeastRow.inPlace == Tryz.prog.inPlace 5) = true := by kernel_rfl
theorem saturateLeast_jB : (Rows.saturateLeastRow.unfollowed == Tryz.prog.unfollowed 5) = true := by kernel_rfl
theorem saturateLeast_jC : (Rows.saturateLeastRow.recurses == Tryz.prog.recurses 5) = true := by kernel_rfl
theorem saturateLeast_jD : (Rows.saturateLeastRow.named == Tryz.prog.varsNamed 5) = true := by kernel_rfl
theorem saturateLeast_jE : (laidOutB Tryz.prog) = true := by kernel_rfl
theorem saturateLeast_jF : (mapsRowed Tryz.prog) = true := by kernel_rfl
theorem saturateLeast_j : joinedFacts Tryz.prog 5 Tryz.f5 Rows.saturateLeastSpec Rows.saturateLeastRow = true := by
  unfold joinedFacts
  rw [saturateLeast_jA, saturateLeast_jB, saturateLeast_jC, saturateLeast_jD, saturateLeast_jE, saturateLeast_jF]
  kernel_rfl
theorem saturateLeast_said : Rows.SaturateLeastSaid :=
  OpenClaim.holds_of_wide 5 Tryz.f5 rfl rfl rfl rfl rfl rfl rfl ⟨rfl, rfl, rfl, rfl, rfl⟩ rfl rfl rfl rfl rfl (by as_aux_lemma => kernel_rfl) Tryz.func5 saturateLeast_j
    (of_decide_eq_true (by as_aux_lemma => kernel_rfl)) (by as_aux_lemma => (unfold Func.isWrapper; first | (rw [if_pos (by decide +kernel)]; kernel_rfl) | (rw [if_neg (by decide +kernel)]; exact ⟨rfl, rfl⟩)))
    (fun os started H enc _ => liftedSaturateLeast os started H enc)
theorem saturateLeast_fn : Tryz.prog.funcNamed "veilstone/veilstonelaw10.SaturateLeast" = some 5 := by kernel_rfl
theorem saturateLeast_st : ([22, 26].all fun u => !Tryz.prog.wantsStandIn u) = true := by kernel_rfl
set_option maxHeartbeats 4000000 in
theorem saturateLeast_holds : Rows.SaturateLeastCardSaid :=
  Claim7.holds_tied_plain_at .later [] [.data, .data, .pinned] true (true, "393138f8ac6bd00fc40efb4314fabf50acdb8921fb25458f65df1bc7408813ed") false
    saturateLeast_said (fun _ h => by cases h) (by as_aux_lemma => kernel_rfl) (fun _ h => by cases h) saturateLeast_row_tie rfl ⟨rfl, rfl⟩ (by as_aux_lemma => kernel_rfl) rfl
    (fun f fn hf hfn => by
      obtain rfl : f = 5 := Option.some.inj (saturateLeast_fn.symm.trans hf) |>.symm
      obtain rfl : fn = Tryz.f5 := (Option.some.inj (Tryz.func5.symm.trans hfn)).symm
      exact ⟨by as_aux_lemma => kernel_rfl, fun j t ht => by
        rw [Tryz.params5] at ht
        have hm : t ∈ [22, 26] := by simpa using Array.mem_of_getElem? ht
        exact (show Tryz.prog.wantsStandIn t = false by simpa using List.all_eq_true.1 saturateLeast_st t hm)⟩)
    (by as_aux_lemma => kernel_rfl)
end Go.Proofs.YtpdbbglpbngeiaaGreatDoor
