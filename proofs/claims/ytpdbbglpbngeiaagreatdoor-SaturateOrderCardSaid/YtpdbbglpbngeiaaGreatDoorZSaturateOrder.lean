/-
  The law SaturateOrder returns true for every input that the row speaks of, and each argument reads afterwards as before: the tied card. Conditions: those of the given row alone.
-/
import Derived.Test.YtpdbbglpbngeiaaGreatDoorQSaturateOrder6
import Derived.Test.YtpdbbglpbngeiaaGreatDoorTie
import Derived.Test.YtpdbbglpbngeiaaGreatDoorCards
import Derived.Test.YtpdbbglpbngeiaaGreatDoorQSaturateOrder8
set_option linter.unusedVariables false
set_option linter.unusedSimpArgs false
set_option linter.unusedSectionVars false
namespace Go.Proofs.YtpdbbglpbngeiaaGreatDoor
open Go Go.Sx Go.Proofs
set_option linter.unusedVariables false
attribute [local irreducible] Code.wp wpList wpAnyH
open Go.Vs Go.ChangeShapes Go.WideShapes Go.ChangeAt Go.RowKit
set_option maxRecDepth 100000 in
theorem liftedSaturateOrder (os : Os) (started : os.Started) (H : Type) (enc : TypeId × Value → H) :
    ReturnsInHanded {} Tryz.checked os 6 .any (fun w args => (Rows.saturateOrderSpec.pre enc Tryz.prog Tryz.f6 [] false w args ∧ laidMetH Tryz.prog laidL w) ∧ sizedMet enc Tryz.prog Tryz.f6 (OpenSpec.ofChange Rows.saturateOrderSpec) false w args)
      (Rows.saturateOrderSpec.post enc Tryz.prog Tryz.f6 false true false false) := by
  refine returnsInHanded_of_change_and (C := Tryz.checked) (X := fun w _ => laidMetH Tryz.prog laidL w) (fun _ _ _ hh h => h.of_heap hh) own started (by kernel_rfl) Tryz.func6
    (ChangeSpec.witness_shaped (enc := enc) (C := Tryz.checked) (os := os) (X := fun w _ => laidMetH Tryz.prog laidL w) false (World.laidAll Tryz.prog os laidL) #[.slice none 0 0, .int .i64 0] 8 (World.laidAll_os _ _ _)
      (World.shaped_of_ZipB (by kernel_rfl) (by kernel_rfl)) (by kernel_rfl) (by kernel_rfl) (by kernel_rfl)
      (by rw [MakeChecks.laidMetH_plain _ _ _ (by kernel_rfl)]; exact laidMet_laidAll _ (by kernel_rfl) (by kernel_rfl))) ?_
  intro W base args ds gs before hval0 hW _ hwt hL _
  have hval : ∀ (j : Nat) t v, Tryz.f6.params[j]? = some t → args[j]? = some v → Value.okWide Tryz.prog W .any base t v := hval0
  have hW' := hW
  obtain ⟨p, q, hA0, hV, rfl, _, _⟩ := hW
  have hA : DataW.TrodAll enc Tryz.prog W 0 (fun _ => true) true Tryz.f6.params.toList args.toList ds p := hA0
  have hts : ∀ t ∈ Tryz.f6.params.toList, t < Tryz.prog.types.size := by
    rw [Tryz.params6, nTypes]; decide
  rw [Tryz.params6] at hA hval
  obtain ⟨rfl, rfl⟩ := trodVars_none hV
  have hwt' : wok (DataW.weightsEach Tryz.prog [22, 3] ds) := by
    have e : (Tryz.f6.params.toList ++ Rows.saturateOrderSpec.plain.varTypes Tryz.prog) = [22, 3] := by rw [Tryz.params6]; rfl
    have hwt0 : wok (DataW.weightsEach Tryz.prog (Tryz.f6.params.toList ++ Rows.saturateOrderSpec.plain.varTypes Tryz.prog) (ds ++ [])) := hwt
    rw [e, List.append_nil] at hwt0
    exact hwt0
  obtain ⟨v0, v1, d0, d1, p0, p1, rfl, rfl, rfl, h0, h1⟩ := trodAll_two hA
  simp only [DataW.weightsEach, wok_append] at hwt'
  obtain ⟨lp, adp, capp, rfl, hrowp, hbigp, hlcp, hcapp⟩ := arg_pcs tysX (hval 0 22 v0 rfl rfl) h0 hwt'.1
  obtain ⟨nat, rfl, hn1at, hn2at⟩ := arg_int tysX (hval 1 3 v1 rfl rfl) h1
  have T := (satOrder_c lp adp capp nat (by omega) hlcp (by omega) hbigp).run (vw W) (vw_sat W) ⟨hrowp, tabN_of hL, trivial⟩
  refine T.mono ?_
  rintro e w' ⟨_, v', rfl, rfl, _, _, hto⟩
  exact ⟨_, rfl, law_post kids full hts rfl hW' rfl (by kernel_rfl) Tryz.underlying4 hto⟩
theorem saturateOrder_jA : (Rows.saturateOrderRow.inPlace == Tryz.prog.inPlace 6) = true := by kernel_rfl
theorem saturateOrder_jB : (Rows.saturateOrderRow.unfollowed == Tryz.prog.unfollowed 6) = true := by kernel_rfl
theorem saturateOrder_jC : (Rows.saturateOrderRow.recurses == Tryz.prog.recurses 6) = true := by kernel_rfl
theorem saturateOrder_jD : (Rows.saturateOrderRow.named == Tryz.prog.varsNamed 6) = true := by kernel_rfl
theorem saturateOrder_jE : (laidOutB Tryz.prog) = true := by kernel_rfl
theorem saturateOrder_jF : (mapsRowed Tryz.prog) = true := by kernel_rfl
theorem saturateOrder_j : joinedFacts Tryz.prog 6 Tryz.f6 Rows.saturateOrderSpec Rows.saturateOrderRow = true := by
  unfold joinedFacts
  rw [saturateOrder_jA, saturateOrder_jB, saturateOrder_jC, saturateOrder_jD, saturateOrder_jE, saturateOrder_jF]
  kernel_rfl
theorem saturateOrder_said : Rows.SaturateOrderSaid :=
  OpenClaim.holds_of_wide 6 Tryz.f6 rfl rfl rfl rfl rfl rfl rfl ⟨rfl, rfl, rfl, rfl, rfl⟩ rfl rfl rfl rfl rfl (by as_aux_lemma => kernel_rfl) Tryz.func6 saturateOrder_j
    (of_decide_eq_true (by as_aux_lemma => kernel_rfl)) (by as_aux_lemma => (unfold Func.isWrapper; first | (rw [if_pos (by decide +kernel)]; kernel_rfl) | (rw [if_neg (by decide +kernel)]; exact ⟨rfl, rfl⟩)))
    (fun os started H enc _ => liftedSaturateOrder os started H enc)
theorem saturateOrder_fn : Tryz.prog.funcNamed "veilstone/veilstonelaw10.SaturateOrder" = some 6 := by kernel_rfl
theorem saturateOrder_st : ([22, 3].all fun u => !Tryz.prog.wantsStandIn u) = true := by kernel_rfl
set_option maxHeartbeats 4000000 in
theorem saturateOrder_holds : Rows.SaturateOrderCardSaid :=
  Claim7.holds_tied_plain_at .later [] [.data, .data, .pinned] true (true, "393138f8ac6bd00fc40efb4314fabf50acdb8921fb25458f65df1bc7408813ed") false
    saturateOrder_said (fun _ h => by cases h) (by as_aux_lemma => kernel_rfl) (fun _ h => by cases h) saturateOrder_row_tie rfl ⟨rfl, rfl⟩ (by as_aux_lemma => kernel_rfl) rfl
    (fun f fn hf hfn => by
      obtain rfl : f = 6 := Option.some.inj (saturateOrder_fn.symm.trans hf) |>.symm
      obtain rfl : fn = Tryz.f6 := (Option.some.inj (Tryz.func6.symm.trans hfn)).symm
      exact ⟨by as_aux_lemma => kernel_rfl, fun j t ht => by
        rw [Tryz.params6] at ht
        have hm : t ∈ [22, 3] := by simpa using Array.mem_of_getElem? ht
        exact (show Tryz.prog.wantsStandIn t = false by simpa using List.all_eq_true.1 saturateOrder_st t hm)⟩)
    (by as_aux_lemma => kernel_rfl)
end Go.Proofs.YtpdbbglpbngeiaaGreatDoor
