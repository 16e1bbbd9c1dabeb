/-
  The law CheckerBytes returns true for every input that the row speaks of, and each argument reads afterwards as before: the tied card. Conditions: those of the given row alone.
-/
import Derived.Test.YtaffcjgphlhppaaGreatDoorQCheckerBytes13
import Derived.Test.YtaffcjgphlhppaaGreatDoorTie
import Derived.Test.YtaffcjgphlhppaaGreatDoorCards
set_option linter.unusedVariables false
set_option linter.unusedSimpArgs false
set_option linter.unusedSectionVars false
namespace Go.Proofs.YtaffcjgphlhppaaGreatDoor
open Go Go.Sx Go.Proofs
attribute [local irreducible] Code.wp wpList wpAnyH
open Go.Vs Go.ChangeShapes Go.WideShapes Go.ChangeAt Go.RowKit
set_option maxRecDepth 100000 in
theorem liftedCheckerBytes (os : Os) (started : os.Started) (H : Type) (enc : TypeId × Value → H) :
    ReturnsInHanded {} Tryz.checked os 6 .any (fun w args => (Rows.checkerBytesSpec.pre enc Tryz.prog Tryz.f6 [] false w args ∧ laidMetH Tryz.prog eK_ w) ∧ sizedMet enc Tryz.prog Tryz.f6 (OpenSpec.ofChange Rows.checkerBytesSpec) false w args)
      (Rows.checkerBytesSpec.post enc Tryz.prog Tryz.f6 false true false false) := by
  refine returnsInHanded_of_change_and (C := Tryz.checked) (X := fun w _ => laidMetH Tryz.prog eK_ w) (fun _ _ _ hh h => h.of_heap hh) own started (by kernel_rfl) Tryz.func6
    (ChangeSpec.witness_shaped (enc := enc) (C := Tryz.checked) (os := os) (X := fun w _ => laidMetH Tryz.prog eK_ w) false (World.laidAll Tryz.prog os eK_) #[.agg #[.slice none 0 0], .slice none 0 0] 8 (World.laidAll_os _ _ _)
      (World.shaped_of_ZipB (by kernel_rfl) (by kernel_rfl)) (by kernel_rfl) (by kernel_rfl) (by kernel_rfl)
      (by rw [MakeChecks.laidMetH_plain _ _ _ (by kernel_rfl)]; exact laidMet_laidAll _ (by kernel_rfl) (by kernel_rfl))) ?_
  intro W base args ds gs before hval0 hW _ hwt hL _
  have hval : ∀ (j : Nat) t v, Tryz.f6.params[j]? = some t → args[j]? = some v → Value.okWide Tryz.prog W .any base t v := hval0
  have hW' := hW
  obtain ⟨p, q, hA0, hV, rfl, _, _⟩ := hW
  have hA : DataW.TrodAll enc Tryz.prog W 0 (fun _ => true) true Tryz.f6.params.toList args.toList ds p := hA0
  have hts : ∀ t ∈ Tryz.f6.params.toList, t < Tryz.prog.types.size := by
    rw [Tryz.params6, ie_]; decide
  rw [Tryz.params6] at hA hval
  obtain ⟨rfl, rfl⟩ := trodVars_none hV
  have hwt' : wok (DataW.weightsEach Tryz.prog [27, 39] ds) := by
    have e : (Tryz.f6.params.toList ++ Rows.checkerBytesSpec.plain.varTypes Tryz.prog) = [27, 39] := by rw [Tryz.params6]; rfl
    have hwt0 : wok (DataW.weightsEach Tryz.prog (Tryz.f6.params.toList ++ Rows.checkerBytesSpec.plain.varTypes Tryz.prog) (ds ++ [])) := hwt
    rw [e, List.append_nil] at hwt0
    exact hwt0
  obtain ⟨v0, v1, d0, d1, p0, p1, rfl, rfl, rfl, h0, h1⟩ := trodAll_two hA
  simp only [DataW.weightsEach, dS_] at hwt'
  obtain ⟨l, ad, cap, rfl, hrow, hst, hlc, hcap⟩ := pW_ tysX tysR (hval 0 27 v0 rfl rfl) h0 hwt'.1
  obtain ⟨r, bad, bcap, rfl, hrb, hbc, hbm, hbz⟩ := nm_  tysR (hval 1 39 v1 rfl rfl) h1 hwt'.2.1
  have T := (checkerBytes_c l ad cap (by omega) (fun s hs => (hst s hs).fact.lim) (fun s hs => ⟨(hst s hs).fact.lo, (hst s hs).fact.hi⟩) r bad bcap ⟨hbc, Nat.le_trans hbm (by decide), hbz⟩).run (vw W) (vw_sat W) ⟨hrow, (fun s hs => (hst s hs).row), hrb, oV_ hL, lY_ hL, trivial⟩
  refine T.mono ?_
  rintro e w' ⟨_, v', rfl, rfl, _, _, hto⟩
  exact ⟨_, rfl, oc_ ol_ full hts rfl hW' rfl (by kernel_rfl) Tryz.underlying4 hto⟩
theorem checkerBytes_jA : (Rows.checkerBytesRow.inPlace == Tryz.prog.inPlace 6) = true := by kernel_rfl
theorem checkerBytes_jB : (Rows.checkerBytesRow.unfollowed == Tryz.prog.unfollowed 6) = true := by kernel_rfl
theorem checkerBytes_jC : (Rows.checkerBytesRow.recurses == Tryz.prog.recurses 6) = true := by kernel_rfl
theorem checkerBytes_jD : (Rows.checkerBytesRow.named == Tryz.prog.varsNamed 6) = true := by kernel_rfl
theorem checkerBytes_jE : (laidOutB Tryz.prog) = true := by kernel_rfl
theorem checkerBytes_jF : (mapsRowed Tryz.prog) = true := by kernel_rfl
theorem checkerBytes_j : joinedFacts Tryz.prog 6 Tryz.f6 Rows.checkerBytesSpec Rows.checkerBytesRow = true := by
  unfold joinedFacts
  rw [checkerBytes_jA, checkerBytes_jB, checkerBytes_jC, checkerBytes_jD, checkerBytes_jE, checkerBytes_jF]
  kernel_rfl
theorem checkerBytes_said : Rows.CheckerBytesSaid :=
  OpenClaim.holds_of_wide 6 Tryz.f6 rfl rfl rfl rfl rfl rfl rfl ⟨rfl, rfl, rfl, rfl, rfl⟩ rfl rfl rfl rfl rfl (by as_aux_lemma => kernel_rfl) Tryz.func6 checkerBytes_j
    (of_decide_eq_true (by as_aux_lemma => kernel_rfl)) (by as_aux_lemma => (unfold Func.isWrapper; first | (rw [if_pos (by decide +kernel)]; kernel_rfl) | (rw [if_neg (by decide +kernel)]; exact ⟨rfl, rfl⟩)))
    (fun os started H enc _ => liftedCheckerBytes os started H enc)
theorem checkerBytes_fn : Tryz.prog.funcNamed "veilstone/veilstonelaw12.CheckerBytes" = some 6 := by kernel_rfl
theorem checkerBytes_st : ([27, 39].all fun u => !Tryz.prog.wantsStandIn u) = true := by kernel_rfl
set_option maxHeartbeats 4000000 in
theorem checkerBytes_holds : Rows.CheckerBytesCardSaid :=
  Claim7.holds_tied_plain_at .later [] [.data, .data, .data, .data, .data, .data, .data, .pinned] true (true, "f877dabc3300b750e26d0499c44caa625d2658d13b9373800241500b545656be") false
    checkerBytes_said (fun _ h => by cases h) (by as_aux_lemma => kernel_rfl) (fun _ h => by cases h) checkerBytes_row_tie rfl ⟨rfl, rfl⟩ (by as_aux_lemma => kernel_rfl) rfl
    (fun f fn hf hfn => by
      obtain rfl : f = 6 := Option.some.inj (checkerBytes_fn.symm.trans hf) |>.symm
      obtain rfl : fn = Tryz.f6 := (Option.some.inj (Tryz.func6.symm.trans hfn)).symm
      exact ⟨by as_aux_lemma => kernel_rfl, fun j t ht => by
        rw [Tryz.params6] at ht
        have hm : t ∈ [27, 39] := by simpa using Array.mem_of_getElem? ht
        exact (show Tryz.prog.wantsStandIn t = false by simpa using List.all_eq_true.1 checkerBytes_st t hm)⟩)
    (by as_aux_lemma => kernel_rfl)
end Go.Proofs.YtaffcjgphlhppaaGreatDoor
