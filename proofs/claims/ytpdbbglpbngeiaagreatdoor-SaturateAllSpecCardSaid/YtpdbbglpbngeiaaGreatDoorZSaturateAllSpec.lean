/-
  The law SaturateAllSpec returns true for every input that the row speaks of, and each argument reads afterwards as before: the tied card. Conditions: those of the given row alone.
-/
import Derived.Test.YtpdbbglpbngeiaaGreatDoorQSaturateAllSpec6
import Derived.Test.YtpdbbglpbngeiaaGreatDoorTie
import Derived.Test.YtpdbbglpbngeiaaGreatDoorCards
import Derived.Test.YtpdbbglpbngeiaaGreatDoorQSaturateAllSpec9
set_option linter.unusedVariables false
set_option linter.unusedSimpArgs false
set_option linter.unusedSectionVars false
namespace Go.Proofs.YtpdbbglpbngeiaaGreatDoor
open Go Go.Sx Go.Proofs
attribute [local irreducible] Code.wp wpList wpAnyH
open Go.Vs Go.ChangeShapes Go.WideShapes Go.ChangeAt Go.RowKit
set_option maxRecDepth 100000 in
theorem liftedSaturateAllSpec (os : Os) (started : os.Started) (H : Type) (enc : TypeId × Value → H) :
    ReturnsInHanded {} Tryz.checked os 3 .any (fun w args => (Rows.saturateAllSpecSpec.pre enc Tryz.prog Tryz.f3 [] false w args ∧ laidMetH Tryz.prog ju_ w) ∧ sizedMet enc Tryz.prog Tryz.f3 (OpenSpec.ofChange Rows.saturateAllSpecSpec) false w args)
      (Rows.saturateAllSpecSpec.post enc Tryz.prog Tryz.f3 false true false false) := by
  refine returnsInHanded_of_change_and (C := Tryz.checked) (X := fun w _ => laidMetH Tryz.prog ju_ w) (fun _ _ _ hh h => h.of_heap hh) own started (by kernel_rfl) Tryz.func3
    (ChangeSpec.witness_shaped (enc := enc) (C := Tryz.checked) (os := os) (X := fun w _ => laidMetH Tryz.prog ju_ w) false (World.laidAll Tryz.prog os ju_) #[.slice none 0 0, .int .i64 0] 8 (World.laidAll_os _ _ _)
      (World.shaped_of_ZipB (by kernel_rfl) (by kernel_rfl)) (by kernel_rfl) (by kernel_rfl) (by kernel_rfl)
      (by rw [MakeChecks.laidMetH_plain _ _ _ (by kernel_rfl)]; exact laidMet_laidAll _ (by kernel_rfl) (by kernel_rfl))) ?_
  intro W base args ds gs before hval0 hW _ hwt hL _
  have hval : ∀ (j : Nat) t v, Tryz.f3.params[j]? = some t → args[j]? = some v → Value.okWide Tryz.prog W .any base t v := hval0
  have hW' := hW
  obtain ⟨p, q, hA0, hV, rfl, _, _⟩ := hW
  have hA : DataW.TrodAll enc Tryz.prog W 0 (fun _ => true) true Tryz.f3.params.toList args.toList ds p := hA0
  have hts : ∀ t ∈ Tryz.f3.params.toList, t < Tryz.prog.types.size := by
    rw [Tryz.params3, pD_]; decide
  rw [Tryz.params3] at hA hval
  obtain ⟨rfl, rfl⟩ := trodVars_none hV
  have hwt' : wok (DataW.weightsEach Tryz.prog [22, 3] ds) := by
    have e : (Tryz.f3.params.toList ++ Rows.saturateAllSpecSpec.plain.varTypes Tryz.prog) = [22, 3] := by rw [Tryz.params3]; rfl
    have hwt0 : wok (DataW.weightsEach Tryz.prog (Tryz.f3.params.toList ++ Rows.saturateAllSpecSpec.plain.varTypes Tryz.prog) (ds ++ [])) := hwt
    rw [e, List.append_nil] at hwt0
    exact hwt0
  obtain ⟨v0, v1, d0, d1, p0, p1, rfl, rfl, rfl, h0, h1⟩ := trodAll_two hA
  simp only [DataW.weightsEach, fV_] at hwt'
  obtain ⟨lp, adp, capp, rfl, hrowp, hbigp, hlcp, hcapp⟩ := rb_ tysX (hval 0 22 v0 rfl rfl) h0 hwt'.1
  obtain ⟨nb, rfl, hn1b, hn2b⟩ := rc_ tysX (hval 1 3 v1 rfl rfl) h1
  have T := (oX_ lp adp capp nb (by omega) hbigp).run (vw W) (vw_sat W) ⟨hrowp, qn_ hL, trivial⟩
  refine T.mono ?_
  rintro e w' ⟨_, v', rfl, rfl, _, _, hto⟩
  exact ⟨_, rfl, pI_ kids full hts rfl hW' rfl (by kernel_rfl) Tryz.underlying4 hto⟩
theorem saturateAllSpec_jA : (Rows.saturateAllSpecRow.inPlace == Tryz.prog.inPlace 3) = true := by kernel_rfl
theorem saturateAllSpec_jB : (Rows.saturateAllSpecRow.unfollowed == Tryz.prog.unfollowed 3) = true := by kernel_rfl
theorem saturateAllSpec_jC : (Rows.saturateAllSpecRow.recurses == Tryz.prog.recurses 3) = true := by kernel_rfl
theorem saturateAllSpec_jD : (Rows.saturateAllSpecRow.named == Tryz.prog.varsNamed 3) = true := by kernel_rfl
theorem saturateAllSpec_jE : (laidOutB Tryz.prog) = true := by kernel_rfl
theorem saturateAllSpec_jF : (mapsRowed Tryz.prog) = true := by kernel_rfl
theorem saturateAllSpec_j : joinedFacts Tryz.prog 3 Tryz.f3 Rows.saturateAllSpecSpec Rows.saturateAllSpecRow = true := by
  unfold joinedFacts
  rw [saturateAllSpec_jA, saturateAllSpec_jB, saturateAllSpec_jC, saturateAllSpec_jD, saturateAllSpec_jE, saturateAllSpec_jF]
  kernel_rfl
theorem saturateAllSpec_said : Rows.SaturateAllSpecSaid :=
  OpenClaim.holds_of_wide 3 Tryz.f3 rfl rfl rfl rfl rfl rfl rfl ⟨rfl, rfl, rfl, rfl, rfl⟩ rfl rfl rfl rfl rfl (by as_aux_lemma => kernel_rfl) Tryz.func3 saturateAllSpec_j
    (of_decide_eq_true (by as_aux_lemma => kernel_rfl)) (by as_aux_lemma => (unfold Func.isWrapper; first | (rw [if_pos (by decide +kernel)]; kernel_rfl) | (rw [if_neg (by decide +kernel)]; exact ⟨rfl, rfl⟩)))
    (fun os started H enc _ => liftedSaturateAllSpec os started H enc)
theorem saturateAllSpec_fn : Tryz.prog.funcNamed "veilstone/veilstonelaw10.SaturateAllSpec" = some 3 := by kernel_rfl
theorem saturateAllSpec_st : ([22, 3].all fun u => !Tryz.prog.wantsStandIn u) = true := by kernel_rfl
set_option maxHeartbeats 4000000 in
theorem saturateAllSpec_holds : Rows.SaturateAllSpecCardSaid :=
  Claim7.holds_tied_plain_at .later [] [.data, .data, .pinned] true (true, "393138f8ac6bd00fc40efb4314fabf50acdb8921fb25458f65df1bc7408813ed") false
    saturateAllSpec_said (fun _ h => by cases h) (by as_aux_lemma => kernel_rfl) (fun _ h => by cases h) saturateAllSpec_row_tie rfl ⟨rfl, rfl⟩ (by as_aux_lemma => kernel_rfl) rfl
    (fun f fn hf hfn => by
      obtain rfl : f = 3 := Option.some.inj (saturateAllSpec_fn.symm.trans hf) |>.symm
      obtain rfl : fn = Tryz.f3 := (Option.some.inj (Tryz.func3.symm.trans hfn)).symm
      exact ⟨by as_aux_lemma => kernel_rfl, fun j t ht => by
        rw [Tryz.params3] at ht
        have hm : t ∈ [22, 3] := by simpa using Array.mem_of_getElem? ht
        exact (show Tryz.prog.wantsStandIn t = false by simpa using List.all_eq_true.1 saturateAllSpec_st t hm)⟩)
    (by as_aux_lemma => kernel_rfl)
end Go.Proofs.YtpdbbglpbngeiaaGreatDoor
