/-
  The law CheckerCounts returns true for every input that the row speaks of, and each argument reads afterwards as before: the tied card. Conditions: those of the given row alone.
-/
import Derived.Test.YtaffcjgphlhppaaGreatDoorQCheckerCounts12
import Derived.Test.YtaffcjgphlhppaaGreatDoorTie
import Derived.Test.YtaffcjgphlhppaaGreatDoorCards
set_option linter.unusedVariables false
set_option linter.unusedSimpArgs false
set_option linter.unusedSectionVars false
namespace Go.Proofs.YtaffcjgphlhppaaGreatDoor
open Go Go.Sx Go.Proofs
attribute [local irreducible] Code.wp wpList wpAnyH
open Go.Vs Go.ChangeShapes Go.WideShapes Go.ChangeAt Go.RowKit
set_option maxRecDepth 100000 in
theorem liftedCheckerCounts (os : Os) (started : os.Started) (H : Type) (enc : TypeId × Value → H) :
    ReturnsInHanded {} Tryz.checked os 5 .any (fun w args => (Rows.checkerCountsSpec.pre enc Tryz.prog Tryz.f5 [] false w args ∧ laidMetH Tryz.prog ef_ w) ∧ sizedMet enc Tryz.prog Tryz.f5 (OpenSpec.ofChange Rows.checkerCountsSpec) false w args)
      (Rows.checkerCountsSpec.post enc Tryz.prog Tryz.f5 false true false false) := by
  refine returnsInHanded_of_change_and (C := Tryz.checked) (X := fun w _ => laidMetH Tryz.prog ef_ w) (fun _ _ _ hh h => h.of_heap hh) own started (by kernel_rfl) Tryz.func5
    (ChangeSpec.witness_shaped (enc := enc) (C := Tryz.checked) (os := os) (X := fun w _ => laidMetH Tryz.prog ef_ w) false (World.laidAll Tryz.prog os ef_) #[.slice none 0 0, .agg #[.int .i64 0, str [], str [], str [], .int .i64 0, .int .i64 0], .agg #[.slice none 0 0]] 8 (World.laidAll_os _ _ _)
      (World.shaped_of_ZipB (by kernel_rfl) (by kernel_rfl)) (by kernel_rfl) (by kernel_rfl) (by kernel_rfl)
      (by rw [MakeChecks.laidMetH_plain _ _ _ (by kernel_rfl)]; exact laidMet_laidAll _ (by kernel_rfl) (by kernel_rfl))) ?_
  intro W base args ds gs before hval0 hW _ hwt hL _
  have hval : ∀ (j : Nat) t v, Tryz.f5.params[j]? = some t → args[j]? = some v → Value.okWide Tryz.prog W .any base t v := hval0
  have hW' := hW
  obtain ⟨p, q, hA0, hV, rfl, _, _⟩ := hW
  have hA : DataW.TrodAll enc Tryz.prog W 0 (fun _ => true) true Tryz.f5.params.toList args.toList ds p := hA0
  have hts : ∀ t ∈ Tryz.f5.params.toList, t < Tryz.prog.types.size := by
    rw [Tryz.params5, ht_]; decide
  rw [Tryz.params5] at hA hval
  obtain ⟨rfl, rfl⟩ := trodVars_none hV
  have hwt' : wok (DataW.weightsEach Tryz.prog [22, 24, 27] ds) := by
    have e : (Tryz.f5.params.toList ++ Rows.checkerCountsSpec.plain.varTypes Tryz.prog) = [22, 24, 27] := by rw [Tryz.params5]; rfl
    have hwt0 : wok (DataW.weightsEach Tryz.prog (Tryz.f5.params.toList ++ Rows.checkerCountsSpec.plain.varTypes Tryz.prog) (ds ++ [])) := hwt
    rw [e, List.append_nil] at hwt0
    exact hwt0
  obtain ⟨v0, v1, v2, d0, d1, d2, p0, p1, p2, rfl, rfl, rfl, h0, h1, h2⟩ := trodAll_three hA
  simp only [DataW.weightsEach, dc_] at hwt'
  obtain ⟨p, pad, pcap, rfl, hrp, hbig, hpc, hpm, hpz⟩ := oN_ tysX (hval 0 22 v0 rfl rfl) h0 hwt'.1
  obtain ⟨f, rfl, hf⟩ := arg_fc tysX tysR (hval 1 24 v1 rfl rfl) h1 hwt'.2.1
  obtain ⟨l, ad, cap, rfl, hrow, hst, hlc, hcap⟩ := oM_ tysX tysR (hval 2 27 v2 rfl rfl) h2 hwt'.2.2.1
  have T := (checkerCounts_c p pad pcap (by omega) hbig f l ad cap (by omega) (fun s hs => (hst s hs).fact.lim)).run (vw W) (vw_sat W) ⟨hrp, hrow, (fun s hs => (hst s hs).row), nI_ hL, kP_ hL, trivial⟩
  refine T.mono ?_
  rintro e w' ⟨_, v', rfl, rfl, _, _, hto⟩
  exact ⟨_, rfl, mN_ mW_ full hts rfl hW' rfl (by kernel_rfl) Tryz.underlying4 hto⟩
theorem checkerCounts_jA : (Rows.checkerCountsRow.inPlace == Tryz.prog.inPlace 5) = true := by kernel_rfl
theorem checkerCounts_jB : (Rows.checkerCountsRow.unfollowed == Tryz.prog.unfollowed 5) = true := by kernel_rfl
theorem checkerCounts_jC : (Rows.checkerCountsRow.recurses == Tryz.prog.recurses 5) = true := by kernel_rfl
theorem checkerCounts_jD : (Rows.checkerCountsRow.named == Tryz.prog.varsNamed 5) = true := by kernel_rfl
theorem checkerCounts_jE : (laidOutB Tryz.prog) = true := by kernel_rfl
theorem checkerCounts_jF : (mapsRowed Tryz.prog) = true := by kernel_rfl
theorem checkerCounts_j : joinedFacts Tryz.prog 5 Tryz.f5 Rows.checkerCountsSpec Rows.checkerCountsRow = true := by
  unfold joinedFacts
  rw [checkerCounts_jA, checkerCounts_jB, checkerCounts_jC, checkerCounts_jD, checkerCounts_jE, checkerCounts_jF]
  kernel_rfl
theorem checkerCounts_said : Rows.CheckerCountsSaid :=
  OpenClaim.holds_of_wide 5 Tryz.f5 rfl rfl rfl rfl rfl rfl rfl ⟨rfl, rfl, rfl, rfl, rfl⟩ rfl rfl rfl rfl rfl (by as_aux_lemma => kernel_rfl) Tryz.func5 checkerCounts_j
    (of_decide_eq_true (by as_aux_lemma => kernel_rfl)) (by as_aux_lemma => (unfold Func.isWrapper; first | (rw [if_pos (by decide +kernel)]; kernel_rfl) | (rw [if_neg (by decide +kernel)]; exact ⟨rfl, rfl⟩)))
    (fun os started H enc _ => liftedCheckerCounts os started H enc)
theorem checkerCounts_fn : Tryz.prog.funcNamed "veilstone/veilstonelaw12.CheckerCounts" = some 5 := by kernel_rfl
theorem checkerCounts_st : ([22, 24, 27].all fun u => !Tryz.prog.wantsStandIn u) = true := by kernel_rfl
set_option maxHeartbeats 4000000 in
theorem checkerCounts_holds : Rows.CheckerCountsCardSaid :=
  Claim7.holds_tied_plain_at .later [] [.data, .data, .data, .data, .data, .data, .data, .pinned] true (true, "f877dabc3300b750e26d0499c44caa625d2658d13b9373800241500b545656be") false
    checkerCounts_said (fun _ h => by cases h) (by as_aux_lemma => kernel_rfl) (fun _ h => by cases h) checkerCounts_row_tie rfl ⟨rfl, rfl⟩ (by as_aux_lemma => kernel_rfl) rfl
    (fun f fn hf hfn => by
      obtain rfl : f = 5 := Option.some.inj (checkerCounts_fn.symm.trans hf) |>.symm
      obtain rfl : fn = Tryz.f5 := (Option.some.inj (Tryz.func5.symm.trans hfn)).symm
      exact ⟨by as_aux_lemma => kernel_rfl, fun j t ht => by
        rw [Tryz.params5] at ht
        have hm : t ∈ [22, 24, 27] := by simpa using Array.mem_of_getElem? ht
        exact (show Tryz.prog.wantsStandIn t = false by simpa using List.all_eq_true.1 checkerCounts_st t hm)⟩)
    (by as_aux_lemma => kernel_rfl)
end Go.Proofs.YtaffcjgphlhppaaGreatDoor
