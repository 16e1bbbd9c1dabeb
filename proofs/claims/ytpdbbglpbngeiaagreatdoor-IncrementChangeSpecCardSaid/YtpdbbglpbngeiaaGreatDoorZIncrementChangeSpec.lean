/-
  The law IncrementChangeSpec returns true for every input that the row speaks of, and each argument reads afterwards as before: the tied card. Conditions: those of the given row alone.
-/
import Derived.Test.YtpdbbglpbngeiaaGreatDoorQIncrementChangeSpec5
import Derived.Test.YtpdbbglpbngeiaaGreatDoorTie
import Derived.Test.YtpdbbglpbngeiaaGreatDoorCards
import Derived.Test.YtpdbbglpbngeiaaGreatDoorQIncrementChangeSpec8
set_option linter.unusedVariables false
set_option linter.unusedSimpArgs false
set_option linter.unusedSectionVars false
namespace Go.Proofs.YtpdbbglpbngeiaaGreatDoor
open Go Go.Sx Go.Proofs
attribute [local irreducible] Code.wp wpList wpAnyH
open Go.Vs Go.ChangeShapes Go.WideShapes Go.ChangeAt Go.RowKit
set_option maxRecDepth 100000 in
theorem liftedIncrementChangeSpec (os : Os) (started : os.Started) (H : Type) (enc : TypeId × Value → H) :
    ReturnsInHanded {} Tryz.checked os 8 .any (fun w args => (Rows.incrementChangeSpecSpec.pre enc Tryz.prog Tryz.f8 [] false w args ∧ laidMetH Tryz.prog ja_ w) ∧ sizedMet enc Tryz.prog Tryz.f8 (OpenSpec.ofChange Rows.incrementChangeSpecSpec) false w args)
      (Rows.incrementChangeSpecSpec.post enc Tryz.prog Tryz.f8 false true false false) := by
  refine returnsInHanded_of_change_and (C := Tryz.checked) (X := fun w _ => laidMetH Tryz.prog ja_ w) (fun _ _ _ hh h => h.of_heap hh) own started (by kernel_rfl) Tryz.func8
    (ChangeSpec.witness_shaped (enc := enc) (C := Tryz.checked) (os := os) (X := fun w _ => laidMetH Tryz.prog ja_ w) false (World.laidAll Tryz.prog os ja_) #[.slice none 0 0, .slice none 0 0, .slice none 0 0, .int .i64 0] 8 (World.laidAll_os _ _ _)
      (World.shaped_of_ZipB (by kernel_rfl) (by kernel_rfl)) (by kernel_rfl) (by kernel_rfl) (by kernel_rfl)
      (by rw [MakeChecks.laidMetH_plain _ _ _ (by kernel_rfl)]; exact laidMet_laidAll _ (by kernel_rfl) (by kernel_rfl))) ?_
  intro W base args ds gs before hval0 hW _ hwt hL _
  have hval : ∀ (j : Nat) t v, Tryz.f8.params[j]? = some t → args[j]? = some v → Value.okWide Tryz.prog W .any base t v := hval0
  have hW' := hW
  obtain ⟨p, q, hA0, hV, rfl, _, _⟩ := hW
  have hA : DataW.TrodAll enc Tryz.prog W 0 (fun _ => true) true Tryz.f8.params.toList args.toList ds p := hA0
  have hts : ∀ t ∈ Tryz.f8.params.toList, t < Tryz.prog.types.size := by
    rw [Tryz.params8, oV_]; decide
  rw [Tryz.params8] at hA hval
  obtain ⟨rfl, rfl⟩ := trodVars_none hV
  have hwt' : wok (DataW.weightsEach Tryz.prog [22, 22, 58, 3] ds) := by
    have e : (Tryz.f8.params.toList ++ Rows.incrementChangeSpecSpec.plain.varTypes Tryz.prog) = [22, 22, 58, 3] := by rw [Tryz.params8]; rfl
    have hwt0 : wok (DataW.weightsEach Tryz.prog (Tryz.f8.params.toList ++ Rows.incrementChangeSpecSpec.plain.varTypes Tryz.prog) (ds ++ [])) := hwt
    rw [e, List.append_nil] at hwt0
    exact hwt0
  obtain ⟨v0, v1, v2, v3, d0, d1, d2, d3, p0, p1, p2, p3, rfl, rfl, rfl, h0, h1, h2, h3⟩ := trodAll_four hA
  simp only [DataW.weightsEach, fO_] at hwt'
  obtain ⟨lo, ado, capo, rfl, hrowo, hbigo, hlco, hcapo, hzo⟩ := nh_ pL_ (hval 0 22 v0 rfl rfl) h0 hwt'.1
  obtain ⟨lp, adp, capp, rfl, hrowp, hbigp, hlcp, hcapp, hzp⟩ := nh_ pL_ (hval 1 22 v1 rfl rfl) h1 hwt'.2.1
  obtain ⟨lh, adh, caph, rfl, hrowh, hiih, hlch, hcaph⟩ := px_ pL_ tysY (hval 2 58 v2 rfl rfl) h2 hwt'.2.2.1
  obtain ⟨nb, rfl, hn1b, hn2b⟩ := qy_ pL_ (hval 3 3 v3 rfl rfl) h3
  have T := (lS_ lo lp ado adp capo capp lh adh caph nb hlco hcapo hzo hbigo hlcp hcapp hzp hbigp (by omega)).run (vw W) (vw_sat W) ⟨hrowo, hrowp, hrowh, pM_ hL, trivial⟩
  refine T.mono ?_
  rintro e w' ⟨_, v', rfl, rfl, _, _, hto⟩
  exact ⟨_, rfl, pa_ kids full hts rfl hW' rfl (by kernel_rfl) Tryz.underlying4 hto⟩
theorem incrementChangeSpec_jA : (Rows.incrementChangeSpecRow.inPlace == Tryz.prog.inPlace 8) = true := by kernel_rfl
theorem incrementChangeSpec_jB : (Rows.incrementChangeSpecRow.unfollowed == Tryz.prog.unfollowed 8) = true := by kernel_rfl
theorem incrementChangeSpec_jC : (Rows.incrementChangeSpecRow.recurses == Tryz.prog.recurses 8) = true := by kernel_rfl
theorem incrementChangeSpec_jD : (Rows.incrementChangeSpecRow.named == Tryz.prog.varsNamed 8) = true := by kernel_rfl
theorem incrementChangeSpec_jE : (laidOutB Tryz.prog) = true := by kernel_rfl
theorem incrementChangeSpec_jF : (mapsRowed Tryz.prog) = true := by kernel_rfl
theorem incrementChangeSpec_j : joinedFacts Tryz.prog 8 Tryz.f8 Rows.incrementChangeSpecSpec Rows.incrementChangeSpecRow = true := by
  unfold joinedFacts
  rw [incrementChangeSpec_jA, incrementChangeSpec_jB, incrementChangeSpec_jC, incrementChangeSpec_jD, incrementChangeSpec_jE, incrementChangeSpec_jF]
  kernel_rfl
theorem incrementChangeSpec_said : Rows.IncrementChangeSpecSaid :=
  OpenClaim.holds_of_wide 8 Tryz.f8 rfl rfl rfl rfl rfl rfl rfl ⟨rfl, rfl, rfl, rfl, rfl⟩ rfl rfl rfl rfl rfl (by as_aux_lemma => kernel_rfl) Tryz.func8 incrementChangeSpec_j
    (of_decide_eq_true (by as_aux_lemma => kernel_rfl)) (by as_aux_lemma => (unfold Func.isWrapper; first | (rw [if_pos (by decide +kernel)]; kernel_rfl) | (rw [if_neg (by decide +kernel)]; exact ⟨rfl, rfl⟩)))
    (fun os started H enc _ => liftedIncrementChangeSpec os started H enc)
theorem incrementChangeSpec_fn : Tryz.prog.funcNamed "veilstone/veilstonelaw13.IncrementChangeSpec" = some 8 := by kernel_rfl
theorem incrementChangeSpec_st : ([22, 22, 58, 3].all fun u => !Tryz.prog.wantsStandIn u) = true := by kernel_rfl
set_option maxHeartbeats 4000000 in
theorem incrementChangeSpec_holds : Rows.IncrementChangeSpecCardSaid :=
  Claim7.holds_tied_plain_at .later [] [.data, .data, .pinned] true (true, "393138f8ac6bd00fc40efb4314fabf50acdb8921fb25458f65df1bc7408813ed") false
    incrementChangeSpec_said (fun _ h => by cases h) (by as_aux_lemma => kernel_rfl) (fun _ h => by cases h) incrementChangeSpec_row_tie rfl ⟨rfl, rfl⟩ (by as_aux_lemma => kernel_rfl) rfl
    (fun f fn hf hfn => by
      obtain rfl : f = 8 := Option.some.inj (incrementChangeSpec_fn.symm.trans hf) |>.symm
      obtain rfl : fn = Tryz.f8 := (Option.some.inj (Tryz.func8.symm.trans hfn)).symm
      exact ⟨by as_aux_lemma => kernel_rfl, fun j t ht => by
        rw [Tryz.params8] at ht
        have hm : t ∈ [22, 22, 58, 3] := by simpa using Array.mem_of_getElem? ht
        exact (show Tryz.prog.wantsStandIn t = false by simpa using List.all_eq_true.1 incrementChangeSpec_st t hm)⟩)
    (by as_aux_lemma => kernel_rfl)
end Go.Proofs.YtpdbbglpbngeiaaGreatDoor
