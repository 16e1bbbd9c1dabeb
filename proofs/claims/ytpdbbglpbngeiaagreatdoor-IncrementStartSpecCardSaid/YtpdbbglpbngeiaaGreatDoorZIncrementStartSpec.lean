/-
  The law IncrementStartSpec returns true for every input that the row speaks of, and each argument reads afterwards as before: the tied card. Conditions: those of the given row alone.
-/
import Derived.Test.YtpdbbglpbngeiaaGreatDoorQIncrementStartSpec5
import Derived.Test.YtpdbbglpbngeiaaGreatDoorTie
import Derived.Test.YtpdbbglpbngeiaaGreatDoorCards
import Derived.Test.YtpdbbglpbngeiaaGreatDoorQIncrementStartSpec8
set_option linter.unusedVariables false
set_option linter.unusedSimpArgs false
set_option linter.unusedSectionVars false
namespace Go.Proofs.YtpdbbglpbngeiaaGreatDoor
open Go Go.Sx Go.Proofs
attribute [local irreducible] Code.wp wpList wpAnyH
open Go.Vs Go.ChangeShapes Go.WideShapes Go.ChangeAt Go.RowKit
set_option maxRecDepth 100000 in
theorem liftedIncrementStartSpec (os : Os) (started : os.Started) (H : Type) (enc : TypeId × Value → H) :
    ReturnsInHanded {} Tryz.checked os 7 .any (fun w args => (Rows.incrementStartSpecSpec.pre enc Tryz.prog Tryz.f7 [] false w args ∧ laidMetH Tryz.prog iV_ w) ∧ sizedMet enc Tryz.prog Tryz.f7 (OpenSpec.ofChange Rows.incrementStartSpecSpec) false w args)
      (Rows.incrementStartSpecSpec.post enc Tryz.prog Tryz.f7 false true false false) := by
  refine returnsInHanded_of_change_and (C := Tryz.checked) (X := fun w _ => laidMetH Tryz.prog iV_ w) (fun _ _ _ hh h => h.of_heap hh) own started (by kernel_rfl) Tryz.func7
    (ChangeSpec.witness_shaped (enc := enc) (C := Tryz.checked) (os := os) (X := fun w _ => laidMetH Tryz.prog iV_ w) false (World.laidAll Tryz.prog os iV_) #[.slice none 0 0, .int .i64 0, .agg #[.slice none 0 0, .slice none 0 0, .slice none 0 0]] 8 (World.laidAll_os _ _ _)
      (World.shaped_of_ZipB (by kernel_rfl) (by kernel_rfl)) (by kernel_rfl) (by kernel_rfl) (by kernel_rfl)
      (by rw [MakeChecks.laidMetH_plain _ _ _ (by kernel_rfl)]; exact laidMet_laidAll _ (by kernel_rfl) (by kernel_rfl))) ?_
  intro W base args ds gs before hval0 hW _ hwt hL _
  have hval : ∀ (j : Nat) t v, Tryz.f7.params[j]? = some t → args[j]? = some v → Value.okWide Tryz.prog W .any base t v := hval0
  have hW' := hW
  obtain ⟨p, q, hA0, hV, rfl, _, _⟩ := hW
  have hA : DataW.TrodAll enc Tryz.prog W 0 (fun _ => true) true Tryz.f7.params.toList args.toList ds p := hA0
  have hts : ∀ t ∈ Tryz.f7.params.toList, t < Tryz.prog.types.size := by
    rw [Tryz.params7, oO_]; decide
  rw [Tryz.params7] at hA hval
  obtain ⟨rfl, rfl⟩ := trodVars_none hV
  have hwt' : wok (DataW.weightsEach Tryz.prog [22, 3, 50] ds) := by
    have e : (Tryz.f7.params.toList ++ Rows.incrementStartSpecSpec.plain.varTypes Tryz.prog) = [22, 3, 50] := by rw [Tryz.params7]; rfl
    have hwt0 : wok (DataW.weightsEach Tryz.prog (Tryz.f7.params.toList ++ Rows.incrementStartSpecSpec.plain.varTypes Tryz.prog) (ds ++ [])) := hwt
    rw [e, List.append_nil] at hwt0
    exact hwt0
  obtain ⟨v0, v1, v2, d0, d1, d2, p0, p1, p2, rfl, rfl, rfl, h0, h1, h2⟩ := trodAll_three hA
  simp only [DataW.weightsEach, ei_] at hwt'
  obtain ⟨lp, adp, capp, rfl, hrowp, hbigp, hlcp, hcapp, hzp⟩ := qq_ tysX (hval 0 22 v0 rfl rfl) h0 hwt'.1
  obtain ⟨nb, rfl, hn1b, hn2b⟩ := qr_ tysX (hval 1 3 v1 rfl rfl) h1
  obtain ⟨ww, rfl, hww⟩ := arg_wk tysX tysZ tysY (hval 2 50 v2 rfl rfl) h2 hwt'.2.2.1
  have T := (mv_ lp adp capp nb ww hlcp hcapp hzp hbigp (by have := hww.le; have := hww.mx; omega) hww.le hww.nz hww.big (by have := hww.cl.lf; have := hww.cl.mf; omega) (by have := hww.cl.la; have := hww.cl.ma; omega) (fun f hf => ⟨(hww.cl.bf f hf).a, (hww.cl.bf f hf).b, (hww.cl.bf f hf).r⟩)).run (vw W) (vw_sat W) ⟨hrowp, hww.row, hww.cl.ra, hww.cl.rf, pD_ hL, trivial⟩
  refine T.mono ?_
  rintro e w' ⟨_, v', rfl, rfl, _, _, hto⟩
  exact ⟨_, rfl, oT_ kids full hts rfl hW' rfl (by kernel_rfl) Tryz.underlying4 hto⟩
theorem incrementStartSpec_jA : (Rows.incrementStartSpecRow.inPlace == Tryz.prog.inPlace 7) = true := by kernel_rfl
theorem incrementStartSpec_jB : (Rows.incrementStartSpecRow.unfollowed == Tryz.prog.unfollowed 7) = true := by kernel_rfl
theorem incrementStartSpec_jC : (Rows.incrementStartSpecRow.recurses == Tryz.prog.recurses 7) = true := by kernel_rfl
theorem incrementStartSpec_jD : (Rows.incrementStartSpecRow.named == Tryz.prog.varsNamed 7) = true := by kernel_rfl
theorem incrementStartSpec_jE : (laidOutB Tryz.prog) = true := by kernel_rfl
theorem incrementStartSpec_jF : (mapsRowed Tryz.prog) = true := by kernel_rfl
theorem incrementStartSpec_j : joinedFacts Tryz.prog 7 Tryz.f7 Rows.incrementStartSpecSpec Rows.incrementStartSpecRow = true := by
  unfold joinedFacts
  rw [incrementStartSpec_jA, incrementStartSpec_jB, incrementStartSpec_jC, incrementStartSpec_jD, incrementStartSpec_jE, incrementStartSpec_jF]
  kernel_rfl
theorem incrementStartSpec_said : Rows.IncrementStartSpecSaid :=
  OpenClaim.holds_of_wide 7 Tryz.f7 rfl rfl rfl rfl rfl rfl rfl ⟨rfl, rfl, rfl, rfl, rfl⟩ rfl rfl rfl rfl rfl (by as_aux_lemma => kernel_rfl) Tryz.func7 incrementStartSpec_j
    (of_decide_eq_true (by as_aux_lemma => kernel_rfl)) (by as_aux_lemma => (unfold Func.isWrapper; first | (rw [if_pos (by decide +kernel)]; kernel_rfl) | (rw [if_neg (by decide +kernel)]; exact ⟨rfl, rfl⟩)))
    (fun os started H enc _ => liftedIncrementStartSpec os started H enc)
theorem incrementStartSpec_fn : Tryz.prog.funcNamed "veilstone/veilstonelaw13.IncrementStartSpec" = some 7 := by kernel_rfl
theorem incrementStartSpec_st : ([22, 3, 50].all fun u => !Tryz.prog.wantsStandIn u) = true := by kernel_rfl
set_option maxHeartbeats 4000000 in
theorem incrementStartSpec_holds : Rows.IncrementStartSpecCardSaid :=
  Claim7.holds_tied_plain_at .later [] [.data, .data, .pinned] true (true, "393138f8ac6bd00fc40efb4314fabf50acdb8921fb25458f65df1bc7408813ed") false
    incrementStartSpec_said (fun _ h => by cases h) (by as_aux_lemma => kernel_rfl) (fun _ h => by cases h) incrementStartSpec_row_tie rfl ⟨rfl, rfl⟩ (by as_aux_lemma => kernel_rfl) rfl
    (fun f fn hf hfn => by
      obtain rfl : f = 7 := Option.some.inj (incrementStartSpec_fn.symm.trans hf) |>.symm
      obtain rfl : fn = Tryz.f7 := (Option.some.inj (Tryz.func7.symm.trans hfn)).symm
      exact ⟨by as_aux_lemma => kernel_rfl, fun j t ht => by
        rw [Tryz.params7] at ht
        have hm : t ∈ [22, 3, 50] := by simpa using Array.mem_of_getElem? ht
        exact (show Tryz.prog.wantsStandIn t = false by simpa using List.all_eq_true.1 incrementStartSpec_st t hm)⟩)
    (by as_aux_lemma => kernel_rfl)
end Go.Proofs.YtpdbbglpbngeiaaGreatDoor
