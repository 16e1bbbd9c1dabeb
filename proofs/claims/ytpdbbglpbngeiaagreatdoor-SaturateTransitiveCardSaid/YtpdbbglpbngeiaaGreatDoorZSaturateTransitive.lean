/-
  The law SaturateTransitive returns true for every input that the row speaks of, and each argument reads afterwards as before: the tied card. Conditions: those of the given row alone.
-/
import Derived.Test.YtpdbbglpbngeiaaGreatDoorQSaturateTransitive6
import Derived.Test.YtpdbbglpbngeiaaGreatDoorTie
import Derived.Test.YtpdbbglpbngeiaaGreatDoorCards
import Derived.Test.YtpdbbglpbngeiaaGreatDoorQSaturateTransitive8
set_option linter.unusedVariables false
set_option linter.unusedSimpArgs false
set_option linter.unusedSectionVars false
namespace Go.Proofs.YtpdbbglpbngeiaaGreatDoor
open Go Go.Sx Go.Proofs
set_option linter.unusedVariables false
attribute [local irreducible] Code.wp wpList wpAnyH
open Go.Vs Go.ChangeShapes Go.WideShapes Go.ChangeAt Go.RowKit
set_option maxRecDepth 100000 in
theorem liftedSaturateTransitive (os : Os) (started : os.Started) (H : Type) (enc : TypeId × Value → H) :
    ReturnsInHanded {} Tryz.checked os 12 .any (fun w args => (Rows.saturateTransitiveSpec.pre enc Tryz.prog Tryz.f12 [] false w args ∧ laidMetH Tryz.prog laidL w) ∧ sizedMet enc Tryz.prog Tryz.f12 (OpenSpec.ofChange Rows.saturateTransitiveSpec) false w args)
      (Rows.saturateTransitiveSpec.post enc Tryz.prog Tryz.f12 false true false false) := by
  refine returnsInHanded_of_change_and (C := Tryz.checked) (X := fun w _ => laidMetH Tryz.prog laidL w) (fun _ _ _ hh h => h.of_heap hh) own started (by kernel_rfl) Tryz.func12
    (ChangeSpec.witness_shaped (enc := enc) (C := Tryz.checked) (os := os) (X := fun w _ => laidMetH Tryz.prog laidL w) false (World.laidAll Tryz.prog os laidL) #[.slice none 0 0] 8 (World.laidAll_os _ _ _)
      (World.shaped_of_ZipB (by kernel_rfl) (by kernel_rfl)) (by kernel_rfl) (by kernel_rfl) (by kernel_rfl)
      (by rw [MakeChecks.laidMetH_plain _ _ _ (by kernel_rfl)]; exact laidMet_laidAll _ (by kernel_rfl) (by kernel_rfl))) ?_
  intro W base args ds gs before hval0 hW _ hwt hL _
  have hval : ∀ (j : Nat) t v, Tryz.f12.params[j]? = some t → args[j]? = some v → Value.okWide Tryz.prog W .any base t v := hval0
  have hW' := hW
  obtain ⟨p, q, hA0, hV, rfl, _, _⟩ := hW
  have hA : DataW.TrodAll enc Tryz.prog W 0 (fun _ => true) true Tryz.f12.params.toList args.toList ds p := hA0
  have hts : ∀ t ∈ Tryz.f12.params.toList, t < Tryz.prog.types.size := by
    rw [Tryz.params12, nTypes]; decide
  rw [Tryz.params12] at hA hval
  obtain ⟨rfl, rfl⟩ := trodVars_none hV
  have hwt' : wok (DataW.weightsEach Tryz.prog [22] ds) := by
    have e : (Tryz.f12.params.toList ++ Rows.saturateTransitiveSpec.plain.varTypes Tryz.prog) = [22] := by rw [Tryz.params12]; rfl
    have hwt0 : wok (DataW.weightsEach Tryz.prog (Tryz.f12.params.toList ++ Rows.saturateTransitiveSpec.plain.varTypes Tryz.prog) (ds ++ [])) := hwt
    rw [e, List.append_nil] at hwt0
    exact hwt0
  obtain ⟨v0, d0, rfl, rfl, h0⟩ := trodAll_one hA
  simp only [DataW.weightsEach, wok_append] at hwt'
  obtain ⟨lp, adp, capp, rfl, hrowp, hbigp, hlcp, hcapp⟩ := arg_pcs tysX (hval 0 22 v0 rfl rfl) h0 hwt'.1
  have T := (satTrans_c lp adp capp (by omega) hbigp).run (vw W) (vw_sat W) ⟨hrowp, tabN_of hL, trivial⟩
  refine T.mono ?_
  rintro e w' ⟨_, v', rfl, rfl, _, _, hto⟩
  exact ⟨_, rfl, law_post kids full hts rfl hW' rfl (by kernel_rfl) Tryz.underlying4 hto⟩
theorem saturateTransitive_jA : (Rows.saturateTransitiveRow.inPlace == Tryz.prog.inPlace 12) = true := by kernel_rfl
theorem saturateTransitive_jB : (Rows.saturateTransitiveRow.unfollowed == Tryz.prog.unfollowed 12) = true := by kernel_rfl
theorem saturateTransitive_jC : (Rows.saturateTransitiveRow.recurses == Tryz.prog.recurses 12) = true := by kernel_rfl
theorem saturateTransitive_jD : (Rows.saturateTransitiveRow.named == Tryz.prog.varsNamed 12) = true := by kernel_rfl
theorem saturateTransitive_jE : (laidOutB Tryz.prog) = true := by kernel_rfl
theorem saturateTransitive_jF : (mapsRowed Tryz.prog) = true := by kernel_rfl
theorem saturateTransitive_j : joinedFacts Tryz.prog 12 Tryz.f12 Rows.saturateTransitiveSpec Rows.saturateTransitiveRow = true := by
  unfold joinedFacts
  rw [saturateTransitive_jA, saturateTransitive_jB, saturateTransitive_jC, saturateTransitive_jD, saturateTransitive_jE, saturateTransitive_jF]
  kernel_rfl
theorem saturateTransitive_said : Rows.SaturateTransitiveSaid :=
  OpenClaim.holds_of_wide 12 Tryz.f12 rfl rfl rfl rfl rfl rfl rfl ⟨rfl, rfl, rfl, rfl, rfl⟩ rfl rfl rfl rfl rfl (by as_aux_lemma => kernel_rfl) Tryz.func12 saturateTransitive_j
    (of_decide_eq_true (by as_aux_lemma => kernel_rfl)) (by as_aux_lemma => (unfold Func.isWrapper; first | (rw [if_pos (by decide +kernel)]; kernel_rfl) | (rw [if_neg (by decide +kernel)]; exact ⟨rfl, rfl⟩)))
    (fun os started H enc _ => liftedSaturateTransitive os started H enc)
theorem saturateTransitive_fn : Tryz.prog.funcNamed "veilstone/veilstonelaw10.SaturateTransitive" = some 12 := by kernel_rfl
theorem saturateTransitive_st : ([22].all fun u => !Tryz.prog.wantsStandIn u) = true := by kernel_rfl
set_option maxHeartbeats 4000000 in
theorem saturateTransitive_holds : Rows.SaturateTransitiveCardSaid :=
  Claim7.holds_tied_plain_at .later [] [.data, .data, .pinned] true (true, "393138f8ac6bd00fc40efb4314fabf50acdb8921fb25458f65df1bc7408813ed") false
    saturateTransitive_said (fun _ h => by cases h) (by as_aux_lemma => kernel_rfl) (fun _ h => by cases h) saturateTransitive_row_tie rfl ⟨rfl, rfl⟩ (by as_aux_lemma => kernel_rfl) rfl
    (fun f fn hf hfn => by
      obtain rfl : f = 12 := Option.some.inj (saturateTransitive_fn.symm.trans hf) |>.symm
      obtain rfl : fn = Tryz.f12 := (Option.some.inj (Tryz.func12.symm.trans hfn)).symm
      exact ⟨by as_aux_lemma => kernel_rfl, fun j t ht => by
        rw [Tryz.params12] at ht
        have hm : t ∈ [22] := by simpa using Array.mem_of_getElem? ht
        exact (show Tryz.prog.wantsStandIn t = false by simpa using List.all_eq_true.1 saturateTransitive_st t hm)⟩)
    (by as_aux_lemma => kernel_rfl)
end Go.Proofs.YtpdbbglpbngeiaaGreatDoor
