/-
  The law CheckerChecks returns true for every input that the row speaks of, and each argument reads afterwards as before: the tied card. Conditions: those of the given row alone.
-/
import Derived.Test.YtaffcjgphlhppaaGreatDoorQCheckerChecks16
import Derived.Test.YtaffcjgphlhppaaGreatDoorTie
import Derived.Test.YtaffcjgphlhppaaGreatDoorCards
set_option linter.unusedVariables false
set_option linter.unusedSimpArgs false
set_option linter.unusedSectionVars false
namespace Go.Proofs.YtaffcjgphlhppaaGreatDoor
open Go Go.Sx Go.Proofs
attribute [local irreducible] Code.wp wpList wpAnyH
open Go.Vs Go.ChangeShapes Go.WideShapes Go.ChangeAt Go.RowKit
set_option maxRecDepth 100000 in
theorem liftedCheckerChecks (os : Os) (started : os.Started) (H : Type) (enc : TypeId × Value → H) :
    ReturnsInHanded {} Tryz.checked os 3 .any (fun w args => (Rows.checkerChecksSpec.pre enc Tryz.prog Tryz.f3 [] false w args ∧ laidMetH Tryz.prog eP_ w) ∧ sizedMet enc Tryz.prog Tryz.f3 (OpenSpec.ofChange Rows.checkerChecksSpec) false w args)
      (Rows.checkerChecksSpec.post enc Tryz.prog Tryz.f3 false true false false) := by
  refine returnsInHanded_of_change_and (C := Tryz.checked) (X := fun w _ => laidMetH Tryz.prog eP_ w) (fun _ _ _ hh h => h.of_heap hh) own started (by kernel_rfl) Tryz.func3
    (ChangeSpec.witness_shaped (enc := enc) (C := Tryz.checked) (os := os) (X := fun w _ => laidMetH Tryz.prog eP_ w) false (World.laidAll Tryz.prog os eP_) #[.slice none 0 0, .agg #[.int .i64 0, str [], str [], str [], .int .i64 0, .int .i64 0], .agg #[.slice none 0 0]] 8 (World.laidAll_os _ _ _)
      (World.shaped_of_ZipB (by kernel_rfl) (by kernel_rfl)) (by kernel_rfl) (by kernel_rfl) (by kernel_rfl)
      (by rw [MakeChecks.laidMetH_plain _ _ _ (by kernel_rfl)]; exact laidMet_laidAll _ (by kernel_rfl) (by kernel_rfl))) ?_
  intro W base args ds gs before hval0 hW _ hwt hL _
  have hval : ∀ (j : Nat) t v, Tryz.f3.params[j]? = some t → args[j]? = some v → Value.okWide Tryz.prog W .any base t v := hval0
  have hW' := hW
  obtain ⟨p, q, hA0, hV, rfl, _, _⟩ := hW
  have hA : DataW.TrodAll enc Tryz.prog W 0 (fun _ => true) true Tryz.f3.params.toList args.toList ds p := hA0
  have hts : ∀ t ∈ Tryz.f3.params.toList, t < Tryz.prog.types.size := by
    rw [Tryz.params3, il_]; decide
  rw [Tryz.params3] at hA hval
  obtain ⟨rfl, rfl⟩ := trodVars_none hV
  have hwt' : wok (DataW.weightsEach Tryz.prog [22, 24, 27] ds) := by
    have e : (Tryz.f3.params.toList ++ Rows.checkerChecksSpec.plain.varTypes Tryz.prog) = [22, 24, 27] := by rw [Tryz.params3]; rfl
    have hwt0 : wok (DataW.weightsEach Tryz.prog (Tryz.f3.params.toList ++ Rows.checkerChecksSpec.plain.varTypes Tryz.prog) (ds ++ [])) := hwt
    rw [e, List.append_nil] at hwt0
    exact hwt0
  obtain ⟨v0, v1, v2, d0, d1, d2, p0, p1, p2, rfl, rfl, rfl, h0, h1, h2⟩ := trodAll_three hA
  simp only [DataW.weightsEach, dF_] at hwt'
  obtain ⟨p, pad, pcap, rfl, hrp, hbig, hpc, hpm, hpz⟩ := pU_ tysX (hval 0 22 v0 rfl rfl) h0 hwt'.1
  obtain ⟨f, rfl, hf⟩ := arg_fc tysX tysR (hval 1 24 v1 rfl rfl) h1 hwt'.2.1
  obtain ⟨l, ad, cap, rfl, hrow, hst, hlc, hcap⟩ := pT_ tysX tysR (hval 2 27 v2 rfl rfl) h2 hwt'.2.2.1
  have T := (checkerChecks_c p pad pcap (by omega) hbig f hf.lim l ad cap (by omega) (fun s hs => (hst s hs).fact.lim)).run (vw W) (vw_sat W) ⟨hrp, hrow, (fun s hs => (hst s hs).row), oW_ hL, mb_ hL, trivial⟩
  refine T.mono ?_
  rintro e w' ⟨_, v', rfl, rfl, _, _, hto⟩
  exact ⟨_, rfl, og_ op_ full hts rfl hW' rfl (by kernel_rfl) Tryz.underlying4 hto⟩
theorem checkerChecks_jA : (Rows.checkerChecksRow.inPlace == Tryz.prog.inPlace 3) = true := by kernel_rfl
theorem checkerChecks_jB : (Rows.checkerChecksRow.unfollowed == Tryz.prog.unfollowed 3) = true := by kernel_rfl
theorem checkerChecks_jC : (Rows.checkerChecksRow.recurses == Tryz.prog.recurses 3) = true := by kernel_rfl
theorem checkerChecks_jD : (Rows.checkerChecksRow.named == Tryz.prog.varsNamed 3) = true := by kernel_rfl
theorem checkerChecks_jE : (laidOutB Tryz.prog) = true := by kernel_rfl
theorem checkerChecks_jF : (mapsRowed Tryz.prog) = true := by kernel_rfl
theorem checkerChecks_j : joinedFacts Tryz.prog 3 Tryz.f3 Rows.checkerChecksSpec Rows.checkerChecksRow = true := by
  unfold joinedFacts
  rw [checkerChecks_jA, checkerChecks_jB, checkerChecks_jC, checkerChecks_jD, checkerChecks_jE, checkerChecks_jF]
  kernel_rfl
theorem checkerChecks_said : Rows.CheckerChecksSaid :=
  OpenClaim.holds_of_wide 3 Tryz.f3 rfl rfl rfl rfl rfl rfl rfl ⟨rfl, rfl, rfl, rfl, rfl⟩ rfl rfl rfl rfl rfl (by as_aux_lemma => kernel_rfl) Tryz.func3 checkerChecks_j
    (of_decide_eq_true (by as_aux_lemma => kernel_rfl)) (by as_aux_lemma => (unfold Func.isWrapper; first | (rw [if_pos (by decide +kernel)]; kernel_rfl) | (rw [if_neg (by decide +kernel)]; exact ⟨rfl, rfl⟩)))
    (fun os started H enc _ => liftedCheckerChecks os started H enc)
theorem checkerChecks_fn : Tryz.prog.funcNamed "veilstone/veilstonelaw12.CheckerChecks" = some 3 := by kernel_rfl
theorem checkerChecks_st : ([22, 24, 27].all fun u => !Tryz.prog.wantsStandIn u) = true := by kernel_rfl
set_option maxHeartbeats 4000000 in
theorem checkerChecks_holds : Rows.CheckerChecksCardSaid :=
  Claim7.holds_tied_plain_at .later [] [.data, .data, .data, .data, .data, .data, .data, .pinned] true (true, "f877dabc3300b750e26d0499c44caa625d2658d13b9373800241500b545656be") false
    checkerChecks_said (fun _ h => by cases h) (by as_aux_lemma => kernel_rfl) (fun _ h => by cases h) checkerChecks_row_tie rfl ⟨rfl, rfl⟩ (by as_aux_lemma => kernel_rfl) rfl
    (fun f fn hf hfn => by
      obtain rfl : f = 3 := Option.some.inj (checkerChecks_fn.symm.trans hf) |>.symm
      obtain rfl : fn = Tryz.f3 := (Option.some.inj (Tryz.func3.symm.trans hfn)).symm
      exact ⟨by as_aux_lemma => kernel_rfl, fun j t ht => by
        rw [Tryz.params3] at ht
        have hm : t ∈ [22, 24, 27] := by simpa using Array.mem_of_getElem? ht
        exact (show Tryz.prog.wantsStandIn t = false by simpa using List.all_eq_true.1 checkerChecks_st t hm)⟩)
    (by as_aux_lemma => kernel_rfl)
end Go.Proofs.YtaffcjgphlhppaaGreatDoor
