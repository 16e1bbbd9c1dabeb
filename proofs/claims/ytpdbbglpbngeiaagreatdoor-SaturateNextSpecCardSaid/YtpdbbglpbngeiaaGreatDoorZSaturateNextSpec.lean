/-
  The law SaturateNextSpec returns true for every input that the row speaks of, and each argument reads afterwards as before: the tied card. Conditions: those of the given row alone.
-/
import Derived.Test.YtpdbbglpbngeiaaGreatDoorQSaturateNextSpec5
import Derived.Test.YtpdbbglpbngeiaaGreatDoorTie
import Derived.Test.YtpdbbglpbngeiaaGreatDoorCards
import Derived.Test.YtpdbbglpbngeiaaGreatDoorQSaturateNextSpec9
set_option linter.unusedVariables false
set_option linter.unusedSimpArgs false
set_option linter.unusedSectionVars false
namespace Go.Proofs.YtpdbbglpbngeiaaGreatDoor
open Go Go.Sx Go.Proofs
attribute [local irreducible] Code.wp wpList wpAnyH
open Go.Vs Go.ChangeShapes Go.WideShapes Go.ChangeAt Go.RowKit
set_option maxRecDepth 100000 in
theorem liftedSaturateNextSpec (os : Os) (started : os.Started) (H : Type) (enc : TypeId × Value → H) :
    ReturnsInHanded {} Tryz.checked os 4 .any (fun w args => (Rows.saturateNextSpecSpec.pre enc Tryz.prog Tryz.f4 [] false w args ∧ laidMetH Tryz.prog ju_ w) ∧ sizedMet enc Tryz.prog Tryz.f4 (OpenSpec.ofChange Rows.saturateNextSpecSpec) false w args)
      (Rows.saturateNextSpecSpec.post enc Tryz.prog Tryz.f4 false true false false) := by
  refine returnsInHanded_of_change_and (C := Tryz.checked) (X := fun w _ => laidMetH Tryz.prog ju_ w) (fun _ _ _ hh h => h.of_heap hh) own started (by kernel_rfl) Tryz.func4
    (ChangeSpec.witness_shaped (enc := enc) (C := Tryz.checked) (os := os) (X := fun w _ => laidMetH Tryz.prog ju_ w) false (World.laidAll Tryz.prog os ju_) #[.slice none 0 0, .agg #[.slice none 0 0, .slice none 0 0]] 8 (World.laidAll_os _ _ _)
      (World.shaped_of_ZipB (by kernel_rfl) (by kernel_rfl)) (by kernel_rfl) (by kernel_rfl) (by kernel_rfl)
      (by rw [MakeChecks.laidMetH_plain _ _ _ (by kernel_rfl)]; exact laidMet_laidAll _ (by kernel_rfl) (by kernel_rfl))) ?_
  intro W base args ds gs before hval0 hW _ hwt hL _
  have hval : ∀ (j : Nat) t v, Tryz.f4.params[j]? = some t → args[j]? = some v → Value.okWide Tryz.prog W .any base t v := hval0
  have hW' := hW
  obtain ⟨p, q, hA0, hV, rfl, _, _⟩ := hW
  have hA : DataW.TrodAll enc Tryz.prog W 0 (fun _ => true) true Tryz.f4.params.toList args.toList ds p := hA0
  have hts : ∀ t ∈ Tryz.f4.params.toList, t < Tryz.prog.types.size := by
    rw [Tryz.params4, pH_]; decide
  rw [Tryz.params4] at hA hval
  obtain ⟨rfl, rfl⟩ := trodVars_none hV
  have hwt' : wok (DataW.weightsEach Tryz.prog [22, 28] ds) := by
    have e : (Tryz.f4.params.toList ++ Rows.saturateNextSpecSpec.plain.varTypes Tryz.prog) = [22, 28] := by rw [Tryz.params4]; rfl
    have hwt0 : wok (DataW.weightsEach Tryz.prog (Tryz.f4.params.toList ++ Rows.saturateNextSpecSpec.plain.varTypes Tryz.prog) (ds ++ [])) := hwt
    rw [e, List.append_nil] at hwt0
    exact hwt0
  obtain ⟨v0, v1, d0, d1, p0, p1, rfl, rfl, rfl, h0, h1⟩ := trodAll_two hA
  simp only [DataW.weightsEach, ew_] at hwt'
  obtain ⟨lp, adp, capp, rfl, hrowp, hbigp, hlcp, hcapp⟩ := rd_ tysX (hval 0 22 v0 rfl rfl) h0 hwt'.1
  obtain ⟨cc, rfl, hclc⟩ := arg_cl tysX tysZ (hval 1 28 v1 rfl rfl) h1 hwt'.2.1
  have T := (nY_ lp adp capp cc (by omega) hbigp (by have := hclc.la; have := hclc.ma; omega) (by have := hclc.lf; have := hclc.mf; omega)).run (vw W) (vw_sat W) ⟨hrowp, qq_ hL, hclc.ra, hclc.rf, trivial⟩
  refine T.mono ?_
  rintro e w' ⟨_, v', rfl, rfl, _, _, hto⟩
  exact ⟨_, rfl, pM_ kids full hts rfl hW' rfl (by kernel_rfl) Tryz.underlying4 hto⟩
theorem saturateNextSpec_jA : (Rows.saturateNextSpecRow.inPlace == Tryz.prog.inPlace 4) = true := by kernel_rfl
theorem saturateNextSpec_jB : (Rows.saturateNextSpecRow.unfollowed == Tryz.prog.unfollowed 4) = true := by kernel_rfl
theorem saturateNextSpec_jC : (Rows.saturateNextSpecRow.recurses == Tryz.prog.recurses 4) = true := by kernel_rfl
theorem saturateNextSpec_jD : (Rows.saturateNextSpecRow.named == Tryz.prog.varsNamed 4) = true := by kernel_rfl
theorem saturateNextSpec_jE : (laidOutB Tryz.prog) = true := by kernel_rfl
theorem saturateNextSpec_jF : (mapsRowed Tryz.prog) = true := by kernel_rfl
theorem saturateNextSpec_j : joinedFacts Tryz.prog 4 Tryz.f4 Rows.saturateNextSpecSpec Rows.saturateNextSpecRow = true := by
  unfold joinedFacts
  rw [saturateNextSpec_jA, saturateNextSpec_jB, saturateNextSpec_jC, saturateNextSpec_jD, saturateNextSpec_jE, saturateNextSpec_jF]
  kernel_rfl
theorem saturateNextSpec_said : Rows.SaturateNextSpecSaid :=
  OpenClaim.holds_of_wide 4 Tryz.f4 rfl rfl rfl rfl rfl rfl rfl ⟨rfl, rfl, rfl, rfl, rfl⟩ rfl rfl rfl rfl rfl (by as_aux_lemma => kernel_rfl) Tryz.func4 saturateNextSpec_j
    (of_decide_eq_true (by as_aux_lemma => kernel_rfl)) (by as_aux_lemma => (unfold Func.isWrapper; first | (rw [if_pos (by decide +kernel)]; kernel_rfl) | (rw [if_neg (by decide +kernel)]; exact ⟨rfl, rfl⟩)))
    (fun os started H enc _ => liftedSaturateNextSpec os started H enc)
theorem saturateNextSpec_fn : Tryz.prog.funcNamed "veilstone/veilstonelaw10.SaturateNextSpec" = some 4 := by kernel_rfl
theorem saturateNextSpec_st : ([22, 28].all fun u => !Tryz.prog.wantsStandIn u) = true := by kernel_rfl
set_option maxHeartbeats 4000000 in
theorem saturateNextSpec_holds : Rows.SaturateNextSpecCardSaid :=
  Claim7.holds_tied_plain_at .later [] [.data, .data, .pinned] true (true, "393138f8ac6bd00fc40efb4314fabf50acdb8921fb25458f65df1bc7408813ed") false
    saturateNextSpec_said (fun _ h => by cases h) (by as_aux_lemma => kernel_rfl) (fun _ h => by cases h) saturateNextSpec_row_tie rfl ⟨rfl, rfl⟩ (by as_aux_lemma => kernel_rfl) rfl
    (fun f fn hf hfn => by
      obtain rfl : f = 4 := Option.some.inj (saturateNextSpec_fn.symm.trans hf) |>.symm
      obtain rfl : fn = Tryz.f4 := (Option.some.inj (Tryz.func4.symm.trans hfn)).symm
      exact ⟨by as_aux_lemma => kernel_rfl, fun j t ht => by
        rw [Tryz.params4] at ht
        have hm : t ∈ [22, 28] := by simpa using Array.mem_of_getElem? ht
        exact (show Tryz.prog.wantsStandIn t = false by simpa using List.all_eq_true.1 saturateNextSpec_st t hm)⟩)
    (by as_aux_lemma => kernel_rfl)
end Go.Proofs.YtpdbbglpbngeiaaGreatDoor
