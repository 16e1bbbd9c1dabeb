/-
  Part of the proof of the law NormalLists over this seat (no condition).
-/
import Derived.Test.YtoafjmalfclpoaaGreatDoorPk6
import Derived.Test.YtoafjmalfclpoaaGreatDoorQNormalLists3
set_option linter.unusedVariables false
set_option linter.unusedSimpArgs false
set_option linter.unusedSectionVars false
/-
  My own contracts.
-/
namespace Go.Proofs.YtoafjmalfclpoaaGreatDoor
open Go Go.Sx Go.Proofs
set_option linter.unusedVariables false
attribute [local irreducible] Code.wp wpList wpAnyH

open Go.Vs
theorem normalLists_c (l : List Pc) (ad : Option Addr) (cap : Nat) (ax : Int) (hl : l.length ≤ cap ∧ cap ≤ 1099511627744) (hbig : ∀ p ∈ l, p.big) : Tri Tryz.prog 8 #[.slice ad (List.length l) cap, .int .i64 ax] [] [rowF ad (List.flatMap Pc.cells l), tabs] (fun _ : Unit => .bool true) (fun _ => []) (fun _ => []) := by
 refine tri_of_body Tryz.func8 rfl rfl Tryz.ntmps8 rfl fun v0 => ?_
 refine run_seq ?_
 refine run_region ?_
 refine ops_val (yld_assign rfl) rfl ?_
 refine ops_nil ?_
 refine fin_next rfl ?_
 refine run_seq ?_
 refine run_seq ?_
 refine run_region ?_
 refine ops_call (sane_c) rfl pf_nil (fun v _ h => by exact ⟨h.2.1, trivial⟩) rfl fun _ => ?_
 refine ops_val (yld_not rfl) rfl ?_
 refine ops_nil ?_
 refine fin_next rfl ?_
 refine run_cond_f rfl ?_
 refine run_skip ?_
 refine fin_next rfl ?_
 refine run_seq ?_
 refine run_seq ?_
 refine run_region ?_
 refine ops_val (yld_move rfl) rfl ?_
 refine ops_call (short_c l ad cap (by omega) hbig) rfl pf_nil (fun v _ h => by exact ⟨h.1, trivial⟩) rfl fun ⟨sb, hsb⟩ => ?_
 dsimp only
 refine ops_val (yld_not rfl) rfl ?_
 refine ops_nil ?_
 refine fin_next rfl ?_
 cases sb
 ·
  refine run_cond_t rfl ?_
  refine run_seq ?_
  refine run_region ?_
  refine ops_val (yld_assign rfl) rfl ?_
  refine ops_nil ?_
  refine fin_next rfl ?_
  refine run_ret ?_
  exact ret1 Tryz.results8 () rfl pf_nil (fun _ _ _ => trivial)
 ·
  obtain ⟨hl60, hsm⟩ := hsb rfl
  refine run_cond_f rfl ?_
  refine run_skip ?_
  refine fin_next rfl ?_
  refine run_seq ?_
  refine run_region ?_
  refine ops_val (yld_move rfl) rfl ?_
  refine ops_call (check_c l ad cap (by omega) hsm) rfl pf_nil (fun v _ h => by exact ⟨h.1, h.2.1, trivial⟩) rfl fun _ => ?_
  refine ops_val (yld_move rfl) rfl ?_
  refine ops_call (rCheck_c l ad cap (by omega) hsm) rfl pf_nil (fun v _ h => by exact ⟨h.1, trivial⟩) rfl fun _ => ?_
  refine ops_valB (yld_eql rfl rfl) rfl fun r1 hr1 => ?_
  refine ops_val (yld_move rfl) rfl ?_
  cases r1
  ·
   replace hr1 := ne_of_beq_false hr1
   exact absurd rfl hr1
  ·
   replace hr1 := eq_of_beq hr1
   refine ops_yes rfl rfl ?_
   refine ops_val (yld_move rfl) rfl ?_
   refine ops_yes rfl rfl ?_
   refine ops_call (atoms_c l ad cap (by omega)) rfl pf_nil (fun v _ h => by exact ⟨h.1, trivial⟩) rfl fun ⟨⟨a1, c1⟩, hc1⟩ => ?_
   dsimp only
   refine ops_yes rfl rfl ?_
   refine ops_val (yld_move rfl) rfl ?_
   refine ops_yes rfl rfl ?_
   refine ops_call (rAtoms_c l ad cap (by omega)) rfl pf_nil (fun v _ h => by exact ⟨h.2.1, trivial⟩) rfl fun ⟨⟨a2, c2⟩, hc2⟩ => ?_
   dsimp only
   refine ops_yes rfl rfl ?_
   refine ops_callB (sameS_c (atomsL l) (atomsF l) a1 a2 c1 c2 (by have := atomsL_len l; omega) (by have := atomsF_len l; omega)) rfl pf_nil (fun v _ h => by exact ⟨h.2.1, h.1, trivial⟩) rfl fun r2 hr2 => ?_
   refine ops_val (yld_pick_t rfl rfl) rfl ?_
   refine ops_val (yld_move rfl) rfl ?_
   cases r2
   ·
    replace hr2 := of_decide_eq_false hr2
    exact absurd (atoms_eq l) hr2
   ·
    replace hr2 := of_decide_eq_true hr2
    refine ops_yes rfl rfl ?_
    refine ops_val (yld_move rfl) rfl ?_
    refine ops_yes rfl rfl ?_
    refine ops_val (yld_move rfl) rfl ?_
    refine ops_yes rfl rfl ?_
    refine ops_call (of_c l ad cap ax (by omega)) rfl pf_nil (fun v _ h => by exact ⟨h.2.2.1, trivial⟩) rfl fun ⟨⟨a3, c3⟩, hc3⟩ => ?_
    dsimp only
    refine ops_yes rfl rfl ?_
    refine ops_val (yld_move rfl) rfl ?_
    refine ops_yes rfl rfl ?_
    refine ops_val (yld_move rfl) rfl ?_
    refine ops_yes rfl rfl ?_
    refine ops_call (rOf_c l ad cap ax (by omega)) rfl pf_nil (fun v _ h => by exact ⟨h.2.2.2.1, trivial⟩) rfl fun ⟨⟨a4, c4⟩, hc4⟩ => ?_
    dsimp only
    refine ops_yes rfl rfl ?_
    refine ops_callB (sameI_c (ofs ax 0 l) (ofs ax 0 l) a3 a4 c3 c4 (by have := ofs_len ax l 0; omega) (by have := ofs_len ax l 0; omega)) rfl pf_nil (fun v _ h => by exact ⟨h.2.1, h.1, trivial⟩) rfl fun r3 hr3 => ?_
    refine ops_val (yld_pick_t rfl rfl) rfl ?_
    refine ops_val (yld_assign rfl) rfl ?_
    refine ops_nil ?_
    refine fin_next rfl ?_
    refine run_ret ?_
    exact ret1 Tryz.results8 () (get_bool rfl (by rw [← hr3]; exact decide_eq_true rfl)) pf_nil (fun _ _ _ => trivial)

end Go.Proofs.YtoafjmalfclpoaaGreatDoor
