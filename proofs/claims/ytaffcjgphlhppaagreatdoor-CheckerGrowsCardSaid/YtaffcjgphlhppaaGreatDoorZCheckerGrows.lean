/-
  The law CheckerGrows returns true for every input that the row speaks of, and each argument reads afterwards as before: the tied card. Conditions: those of the given row alone.
-/
import Derived.Test.YtaffcjgphlhppaaGreatDoorQCheckerGrows13
import Derived.Test.YtaffcjgphlhppaaGreatDoorTie
import Derived.Test.YtaffcjgphlhppaaGreatDoorCards
import Derived.Test.YtaffcjgphlhppaaGreatDoorQCheckerGrows12
set_option linter.unusedVariables false
set_option linter.unusedSimpArgs false
set_option linter.unusedSectionVars false
namespace Go.Proofs.YtaffcjgphlhppaaGreatDoor
open Go Go.Sx Go.Proofs
attribute [local irreducible] Code.wp wpList wpAnyH
open Go.Vs Go.ChangeShapes Go.WideShapes Go.ChangeAt Go.RowKit
theorem iF_ {H : Type} {enc : TypeId × Value → H} {P : Program} {w : World} {base : Nat} {spare : Nat → Bool} {held : Bool} {t t' t'' t3 t4 : TypeId} {args : Array Value} {ds : List (DataW H)} {ps : List MemPlace} (h : DataW.TrodAll enc P w base spare held [t, t', t'', t3, t4] args.toList ds ps) :
    ∃ v v' v'' v3 v4 d d' d'' d3 d4 p p' p'' p3 p4, args = #[v, v', v'', v3, v4] ∧ ds = [d, d', d'', d3, d4] ∧ ps = p ++ p' ++ p'' ++ p3 ++ p4 ∧ DataW.Trod enc P w base spare held t v d p ∧ DataW.Trod enc P w base spare held t' v' d' p' ∧ DataW.Trod enc P w base spare held t'' v'' d'' p'' ∧ DataW.Trod enc P w base spare held t3 v3 d3 p3 ∧ DataW.Trod enc P w base spare held t4 v4 d4 p4 := by
  obtain ⟨v, vs, d, ds', p, q, hargs, rfl, rfl, hd, hrest⟩ := trodAll_cons h
  obtain ⟨v', vs', d', ds'', p', q', rfl, rfl, rfl, hd', hrest'⟩ := trodAll_cons hrest
  obtain ⟨v'', vs'', d'', ds''', p'', q'', rfl, rfl, rfl, hd'', hrest''⟩ := trodAll_cons hrest'
  obtain ⟨v3, vs3, d3, ds3, p3, q3, rfl, rfl, rfl, hd3, hrest3⟩ := trodAll_cons hrest''
  obtain ⟨v4, vs4, d4, ds4, p4, q4, rfl, rfl, rfl, hd4, hrest4⟩ := trodAll_cons hrest3
  obtain ⟨rfl, rfl, rfl⟩ := trodAll_nil hrest4
  exact ⟨v, v', v'', v3, v4, d, d', d'', d3, d4, p, p', p'', p3, p4, by cases args; simp_all, rfl, by simp, hd, hd', hd'', hd3, hd4⟩
set_option maxRecDepth 100000 in
theorem liftedCheckerGrows (os : Os) (started : os.Started) (H : Type) (enc : TypeId × Value → H) :
    ReturnsInHanded {} Tryz.checked os 4 .any (fun w args => (Rows.checkerGrowsSpec.pre enc Tryz.prog Tryz.f4 [] false w args ∧ laidMetH Tryz.prog ei_ w) ∧ sizedMet enc Tryz.prog Tryz.f4 (OpenSpec.ofChange Rows.checkerGrowsSpec) false w args)
      (Rows.checkerGrowsSpec.post enc Tryz.prog Tryz.f4 false true false false) := by
  refine returnsInHanded_of_change_and (C := Tryz.checked) (X := fun w _ => laidMetH Tryz.prog ei_ w) (fun _ _ _ hh h => h.of_heap hh) own started (by kernel_rfl) Tryz.func4
    (ChangeSpec.witness_shaped (enc := enc) (C := Tryz.checked) (os := os) (X := fun w _ => laidMetH Tryz.prog ei_ w) false (World.laidAll Tryz.prog os ei_) #[.slice none 0 0, .slice none 0 0, .agg #[.int .i64 0, str [], str [], str [], .int .i64 0, .int .i64 0], .agg #[.slice none 0 0], .int .i64 0] 8 (World.laidAll_os _ _ _)
      (World.shaped_of_ZipB (by kernel_rfl) (by kernel_rfl)) (by kernel_rfl) (by kernel_rfl) (by kernel_rfl)
      (by rw [MakeChecks.laidMetH_plain _ _ _ (by kernel_rfl)]; exact laidMet_laidAll _ (by kernel_rfl) (by kernel_rfl))) ?_
  intro W base args ds gs before hval0 hW _ hwt hL _
  have hval : ∀ (j : Nat) t v, Tryz.f4.params[j]? = some t → args[j]? = some v → Value.okWide Tryz.prog W .any base t v := hval0
  have hW' := hW
  obtain ⟨p, q, hA0, hV, rfl, _, _⟩ := hW
  have hA : DataW.TrodAll enc Tryz.prog W 0 (fun _ => true) true Tryz.f4.params.toList args.toList ds p := hA0
  have hts : ∀ t ∈ Tryz.f4.params.toList, t < Tryz.prog.types.size := by
    rw [Tryz.params4, hv_]; decide
  rw [Tryz.params4] at hA hval
  obtain ⟨rfl, rfl⟩ := trodVars_none hV
  have hwt' : wok (DataW.weightsEach Tryz.prog [22, 22, 24, 27, 3] ds) := by
    have e : (Tryz.f4.params.toList ++ Rows.checkerGrowsSpec.plain.varTypes Tryz.prog) = [22, 22, 24, 27, 3] := by rw [Tryz.params4]; rfl
    have hwt0 : wok (DataW.weightsEach Tryz.prog (Tryz.f4.params.toList ++ Rows.checkerGrowsSpec.plain.varTypes Tryz.prog) (ds ++ [])) := hwt
    rw [e, List.append_nil] at hwt0
    exact hwt0
  obtain ⟨v0, v1, v2, v3, v4, d0, d1, d2, d3, d4, p0, p1, p2, p3, p4, rfl, rfl, rfl, h0, h1, h2, h3, h4⟩ := iF_ hA
  simp only [DataW.weightsEach, dd_] at hwt'
  obtain ⟨p0, pad0, pcap0, rfl, hrp0, hbig0, hpc0, hpm0, hpz0⟩ := lp_ mp_ (hval 0 22 v0 rfl rfl) h0 hwt'.1
  obtain ⟨p1, pad1, pcap1, rfl, hrp1, hbig1, hpc1, hpm1, hpz1⟩ := lp_ mp_ (hval 1 22 v1 rfl rfl) h1 hwt'.2.1
  obtain ⟨f, rfl, hf⟩ := arg_fc mp_ tysR (hval 2 24 v2 rfl rfl) h2 hwt'.2.2.1
  obtain ⟨l, ad, cap, rfl, hrow, hst, hlc, hcap⟩ := oX_ mp_ tysR (hval 3 27 v3 rfl rfl) h3 hwt'.2.2.2.1
  obtain ⟨n, rfl, hn1, hn2⟩ := oY_ mp_ (hval 4 3 v4 rfl rfl) h4
  have T := (checkerGrows_c p0 pad0 pcap0 (by omega) hbig0 hpc0 hpz0 p1 pad1 pcap1 (by omega) hbig1 hpc1 hpz1 f hf.hi l ad cap (by omega) (fun s hs => (hst s hs).fact.lim) hlc n).run (vw W) (vw_sat W) ⟨hrp0, hrp1, hrow, (fun s hs => (hst s hs).row), nW_ hL, kU_ hL, trivial⟩
  refine T.mono ?_
  rintro e w' ⟨_, v', rfl, rfl, _, _, hto⟩
  exact ⟨_, rfl, mW_ nf_ full hts rfl hW' rfl (by kernel_rfl) Tryz.underlying4 hto⟩
theorem checkerGrows_jA : (Rows.checkerGrowsRow.inPlace == Tryz.prog.inPlace 4) = true := by kernel_rfl
theorem checkerGrows_jB : (Rows.checkerGrowsRow.unfollowed == Tryz.prog.unfollowed 4) = true := by kernel_rfl
theorem checkerGrows_jC : (Rows.checkerGrowsRow.recurses == Tryz.prog.recurses 4) = true := by kernel_rfl
theorem checkerGrows_jD : (Rows.checkerGrowsRow.named == Tryz.prog.varsNamed 4) = true := by kernel_rfl
theorem checkerGrows_jE : (laidOutB Tryz.prog) = true := by kernel_rfl
theorem checkerGrows_jF : (mapsRowed Tryz.prog) = true := by kernel_rfl
theorem checkerGrows_j : joinedFacts Tryz.prog 4 Tryz.f4 Rows.checkerGrowsSpec Rows.checkerGrowsRow = true := by
  unfold joinedFacts
  rw [checkerGrows_jA, checkerGrows_jB, checkerGrows_jC, checkerGrows_jD, checkerGrows_jE, checkerGrows_jF]
  kernel_rfl
theorem checkerGrows_said : Rows.CheckerGrowsSaid :=
  OpenClaim.holds_of_wide 4 Tryz.f4 rfl rfl rfl rfl rfl rfl rfl ⟨rfl, rfl, rfl, rfl, rfl⟩ rfl rfl rfl rfl rfl (by as_aux_lemma => kernel_rfl) Tryz.func4 checkerGrows_j
    (of_decide_eq_true (by as_aux_lemma => kernel_rfl)) (by as_aux_lemma => (unfold Func.isWrapper; first | (rw [if_pos (by decide +kernel)]; kernel_rfl) | (rw [if_neg (by decide +kernel)]; exact ⟨rfl, rfl⟩)))
    (fun os started H enc _ => liftedCheckerGrows os started H enc)
theorem checkerGrows_fn : Tryz.prog.funcNamed "veilstone/veilstonelaw12.CheckerGrows" = some 4 := by kernel_rfl
theorem checkerGrows_st : ([22, 22, 24, 27, 3].all fun u => !Tryz.prog.wantsStandIn u) = true := by kernel_rfl
set_option maxHeartbeats 4000000 in
theorem checkerGrows_holds : Rows.CheckerGrowsCardSaid :=
  Claim7.holds_tied_plain_at .later [] [.data, .data, .data, .data, .data, .data, .data, .pinned] true (true, "f877dabc3300b750e26d0499c44caa625d2658d13b9373800241500b545656be") false
    checkerGrows_said (fun _ h => by cases h) (by as_aux_lemma => kernel_rfl) (fun _ h => by cases h) checkerGrows_row_tie rfl ⟨rfl, rfl⟩ (by as_aux_lemma => kernel_rfl) rfl
    (fun f fn hf hfn => by
      obtain rfl : f = 4 := Option.some.inj (checkerGrows_fn.symm.trans hf) |>.symm
      obtain rfl : fn = Tryz.f4 := (Option.some.inj (Tryz.func4.symm.trans hfn)).symm
      exact ⟨by as_aux_lemma => kernel_rfl, fun j t ht => by
        rw [Tryz.params4] at ht
        have hm : t ∈ [22, 22, 24, 27, 3] := by simpa using Array.mem_of_getElem? ht
        exact (show Tryz.prog.wantsStandIn t = false by simpa using List.all_eq_true.1 checkerGrows_st t hm)⟩)
    (by as_aux_lemma => kernel_rfl)
end Go.Proofs.YtaffcjgphlhppaaGreatDoor
