/-
  The law SaturateBase returns true for every input that the row speaks of, and each argument reads afterwards as before: the tied card. Conditions: those of the given row alone.
-/
import Derived.Test.YtpdbbglpbngeiaaGreatDoorQSaturateBase9
import Derived.Test.YtpdbbglpbngeiaaGreatDoorTie
import Derived.Test.YtpdbbglpbngeiaaGreatDoorCards
set_option linter.unusedVariables false
set_option linter.unusedSimpArgs false
set_option linter.unusedSectionVars false
namespace Go.Proofs.YtpdbbglpbngeiaaGreatDoor
open Go Go.Sx Go.Proofs
attribute [local irreducible] Code.wp wpList wpAnyH
open Go.Vs Go.ChangeShapes Go.WideShapes Go.ChangeAt Go.RowKit
set_option maxRecDepth 100000 in
theorem liftedSaturateBase (os : Os) (started : os.Started) (H : Type) (enc : TypeId × Value → H) :
    ReturnsInHanded {} Tryz.checked os 14 .any (fun w args => (Rows.saturateBaseSpec.pre enc Tryz.prog Tryz.f14 [] false w args ∧ laidMetH Tryz.prog fA_ w) ∧ sizedMet enc Tryz.prog Tryz.f14 (OpenSpec.ofChange Rows.saturateBaseSpec) false w args)
      (Rows.saturateBaseSpec.post enc Tryz.prog Tryz.f14 false true false false) := by
  refine returnsInHanded_of_change_and (C := Tryz.checked) (X := fun w _ => laidMetH Tryz.prog fA_ w) (fun _ _ _ hh h => h.of_heap hh) own started (by kernel_rfl) Tryz.func14
    (ChangeSpec.witness_shaped (enc := enc) (C := Tryz.checked) (os := os) (X := fun w _ => laidMetH Tryz.prog fA_ w) false (World.laidAll Tryz.prog os fA_) #[.slice none 0 0] 8 (World.laidAll_os _ _ _)
      (World.shaped_of_ZipB (by kernel_rfl) (by kernel_rfl)) (by kernel_rfl) (by kernel_rfl) (by kernel_rfl)
      (by rw [MakeChecks.laidMetH_plain _ _ _ (by kernel_rfl)]; exact laidMet_laidAll _ (by kernel_rfl) (by kernel_rfl))) ?_
  intro W base args ds gs before hval0 hW _ hwt hL _
  have hval : ∀ (j : Nat) t v, Tryz.f14.params[j]? = some t → args[j]? = some v → Value.okWide Tryz.prog W .any base t v := hval0
  have hW' := hW
  obtain ⟨p, q, hA0, hV, rfl, _, _⟩ := hW
  have hA : DataW.TrodAll enc Tryz.prog W 0 (fun _ => true) true Tryz.f14.params.toList args.toList ds p := hA0
  have hts : ∀ t ∈ Tryz.f14.params.toList, t < Tryz.prog.types.size := by
    rw [Tryz.params14, kh_]; decide
  rw [Tryz.params14] at hA hval
  obtain ⟨rfl, rfl⟩ := trodVars_none hV
  have hwt' : wok (DataW.weightsEach Tryz.prog [75] ds) := by
    have e : (Tryz.f14.params.toList ++ Rows.saturateBaseSpec.plain.varTypes Tryz.prog) = [75] := by rw [Tryz.params14]; rfl
    have hwt0 : wok (DataW.weightsEach Tryz.prog (Tryz.f14.params.toList ++ Rows.saturateBaseSpec.plain.varTypes Tryz.prog) (ds ++ [])) := hwt
    rw [e, List.append_nil] at hwt0
    exact hwt0
  obtain ⟨v0, d0, rfl, rfl, h0⟩ := trodAll_one hA
  simp only [DataW.weightsEach, fl_] at hwt'
  obtain ⟨l, ad, cap, rfl, hax, hok, hlc, hcap⟩ := sC_ tysX (hval 0 75 v0 rfl rfl) h0 hwt'.1
  have T := (pe_ l ad cap ⟨hlc, hcap⟩ hok (p := (bk_ l).1) (er := (bk_ l).2) rfl).run (vw W) (vw_sat W) ⟨hax, oi_ hL, rD_ hL, trivial⟩
  refine T.mono ?_
  rintro e w' ⟨_, v', rfl, rfl, _, _, hto⟩
  exact ⟨_, rfl, qS_ qT_ full hts rfl hW' rfl (by kernel_rfl) Tryz.underlying4 hto⟩
theorem saturateBase_jA : (Rows.saturateBaseRow.inPlace == Tryz.prog.inPlace 14) = true := by kernel_rfl
theorem saturateBase_jB : (Rows.saturateBaseRow.unfollowed == Tryz.prog.unfollowed 14) = true := by kernel_rfl
theorem saturateBase_jC : (Rows.saturateBaseRow.recurses == Tryz.prog.recurses 14) = true := by kernel_rfl
theorem saturateBase_jD : (Rows.saturateBaseRow.named == Tryz.prog.varsNamed 14) = true := by kernel_rfl
theorem saturateBase_jE : (laidOutB Tryz.prog) = true := by kernel_rfl
theorem saturateBase_jF : (mapsRowed Tryz.prog) = true := by kernel_rfl
theorem saturateBase_j : joinedFacts Tryz.prog 14 Tryz.f14 Rows.saturateBaseSpec Rows.saturateBaseRow = true := by
  unfold joinedFacts
  rw [saturateBase_jA, saturateBase_jB, saturateBase_jC, saturateBase_jD, saturateBase_jE, saturateBase_jF]
  kernel_rfl
theorem saturateBase_said : Rows.SaturateBaseSaid :=
  OpenClaim.holds_of_wide 14 Tryz.f14 rfl rfl rfl rfl rfl rfl rfl ⟨rfl, rfl, rfl, rfl, rfl⟩ rfl rfl rfl rfl rfl (by as_aux_lemma => kernel_rfl) Tryz.func14 saturateBase_j
    (of_decide_eq_true (by as_aux_lemma => kernel_rfl)) (by as_aux_lemma => (unfold Func.isWrapper; first | (rw [if_pos (by decide +kernel)]; kernel_rfl) | (rw [if_neg (by decide +kernel)]; exact ⟨rfl, rfl⟩)))
    (fun os started H enc _ => liftedSaturateBase os started H enc)
theorem saturateBase_fn : Tryz.prog.funcNamed "veilstone/veilstonelaw10.SaturateBase" = some 14 := by kernel_rfl
theorem saturateBase_st : ([75].all fun u => !Tryz.prog.wantsStandIn u) = true := by kernel_rfl
set_option maxHeartbeats 4000000 in
theorem saturateBase_holds : Rows.SaturateBaseCardSaid :=
  Claim7.holds_tied_plain_at .later [] [.data, .data, .data, .data, .data, .data, .data, .pinned] true (true, "393138f8ac6bd00fc40efb4314fabf50acdb8921fb25458f65df1bc7408813ed") false
    saturateBase_said (fun _ h => by cases h) (by as_aux_lemma => kernel_rfl) (fun _ h => by cases h) saturateBase_row_tie rfl ⟨rfl, rfl⟩ (by as_aux_lemma => kernel_rfl) rfl
    (fun f fn hf hfn => by
      obtain rfl : f = 14 := Option.some.inj (saturateBase_fn.symm.trans hf) |>.symm
      obtain rfl : fn = Tryz.f14 := (Option.some.inj (Tryz.func14.symm.trans hfn)).symm
      exact ⟨by as_aux_lemma => kernel_rfl, fun j t ht => by
        rw [Tryz.params14] at ht
        have hm : t ∈ [75] := by simpa using Array.mem_of_getElem? ht
        exact (show Tryz.prog.wantsStandIn t = false by simpa using List.all_eq_true.1 saturateBase_st t hm)⟩)
    (by as_aux_lemma => kernel_rfl)
end Go.Proofs.YtpdbbglpbngeiaaGreatDoor
