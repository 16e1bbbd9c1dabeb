/-
  Part of the proof of the law NormalLists over this seat (no condition).
-/
import Derived.Test.YtoafjmalfclpoaaGreatDoorQNormalLists2
import Derived.Test.YtoafjmalfclpoaaGreatDoorQNormalLists1
set_option linter.unusedVariables false
set_option linter.unusedSimpArgs false
set_option linter.unusedSectionVars false
/-
  My own contracts.
-/
namespace Go.Proofs.YtoafjmalfclpoaaGreatDoor
open Go Go.Sx Go.Proofs
set_option linter.unusedVariables false
attribute [local irreducible] Code.wp wpList wpAnyH

open Go.Vs
theorem rAtom_c (s : Str) (hs : s.length ≤ 140737488351232) : Fn0 Tryz.prog 124 #[str s] (.bool (atomS s)) := by
 refine tri_of_body Tryz.func124 rfl rfl Tryz.ntmps124 rfl fun v0 => ?_
 refine run_seq ?_
 refine run_region ?_
 refine ops_val (yld_assign rfl) rfl ?_
 refine ops_nil ?_
 refine fin_next rfl ?_
 refine run_seq ?_
 refine run_region ?_
 refine ops_val (yld_move rfl) rfl ?_
 refine ops_val (yld_lenT Tryz.runUnderlying9 rfl) rfl ?_
 refine ops_val (yld_assign rfl) rfl ?_
 refine ops_nil ?_
 refine fin_next rfl ?_
 refine run_seq ?_
 refine run_seq ?_
 refine run_region ?_
 refine ops_val (yld_move rfl) rfl ?_
 refine ops_valB (yld_seql rfl rfl) rfl fun r1 hr1 => ?_
 refine ops_val (yld_move rfl) rfl ?_
 cases r1
 ·
  replace hr1 := ne_of_beq_false hr1
  refine ops_yes rfl rfl ?_
  refine ops_val (yld_move rfl) rfl ?_
  refine ops_yes rfl rfl ?_
  refine ops_valB (yld_seql rfl rfl) rfl fun r2 hr2 => ?_
  refine ops_val (yld_pick_f rfl rfl) rfl ?_
  refine ops_val (yld_move rfl) rfl ?_
  cases r2
  ·
   replace hr2 := ne_of_beq_false hr2
   refine ops_yes rfl rfl ?_
   refine ops_val (yld_move rfl) rfl ?_
   refine ops_yes rfl rfl ?_
   refine ops_call (rCheckName_c _) rfl pf_nil (fun _ _ _ => by exact trivial) rfl fun _ => ?_
   refine ops_yes rfl rfl ?_
   refine ops_valB (yld_eq (yld_eql rfl rfl) (congrArg Value.bool (pn_eq _))) rfl fun r3 hr3 => ?_
   refine ops_val (yld_pick_f rfl rfl) rfl ?_
   refine ops_nil ?_
   refine fin_next rfl ?_
   cases r3
   ·
    refine run_cond_f rfl ?_
    refine run_skip ?_
    refine fin_next rfl ?_
    refine run_seq ?_
    refine run_seq ?_
    refine run_region ?_
    refine ops_val (yld_move rfl) rfl ?_
    refine ops_valB (yld_lss rfl rfl) rfl fun r4 hr4 => ?_
    refine ops_nil ?_
    refine fin_next rfl ?_
    cases r4
    ·
     replace hr4 := of_decide_eq_false hr4
     obtain ⟨c, hc⟩ : ∃ c, s[0]? = some c := ⟨_, List.getElem?_eq_getElem (by omega)⟩
     obtain ⟨e, he⟩ : ∃ e, s[s.length - 1]? = some e := ⟨_, List.getElem?_eq_getElem (by omega)⟩
     have hc123 : (s[0]? = some 123) ↔ ((c.toNat : Int) = 123) := by
                  rw [hc]; simp only [Option.some.injEq]; exact ⟨fun q => by subst q; rfl, fun q => UInt8.toNat_inj.1 (by show c.toNat = 123; omega)⟩
     have he125 : (s[s.length - 1]? = some 125) ↔ ((e.toNat : Int) = 125) := by
                  rw [he]; simp only [Option.some.injEq]; exact ⟨fun q => by subst q; rfl, fun q => UInt8.toNat_inj.1 (by show e.toNat = 125; omega)⟩
     have hc60 : (s[0]? = some 60) ↔ ((c.toNat : Int) = 60) := by
                  rw [hc]; simp only [Option.some.injEq]; exact ⟨fun q => by subst q; rfl, fun q => UInt8.toNat_inj.1 (by show c.toNat = 60; omega)⟩
     have he62 : (s[s.length - 1]? = some 62) ↔ ((e.toNat : Int) = 62) := by
                  rw [he]; simp only [Option.some.injEq]; exact ⟨fun q => by subst q; rfl, fun q => UInt8.toNat_inj.1 (by show e.toNat = 62; omega)⟩
     refine run_cond_f rfl ?_
     refine run_skip ?_
     refine fin_next rfl ?_
     refine run_seq ?_
     refine run_region ?_
     refine ops_val (yld_move rfl) rfl ?_
     refine ops_val (yld_indexT Tryz.runUnderlying9 rfl rfl (by decide) hc) rfl ?_
     refine ops_valB (yld_eql rfl rfl) rfl fun r5 hr5 => ?_
     refine ops_val (yld_move rfl) rfl ?_
     cases r5
     ·
      replace hr5 := ne_of_beq_false hr5
      refine ops_no rfl rfl rfl rfl ?_
      refine ops_no rfl rfl rfl rfl ?_
      refine ops_no rfl rfl rfl rfl ?_
      refine ops_no rfl rfl rfl rfl ?_
      refine ops_no rfl rfl rfl rfl ?_
      refine ops_val (yld_pick_f rfl rfl) rfl ?_
      refine ops_val (yld_move rfl) rfl ?_
      refine ops_no rfl rfl rfl rfl ?_
      refine ops_no rfl rfl rfl rfl ?_
      refine ops_no rfl rfl rfl rfl ?_
      refine ops_no rfl rfl rfl rfl ?_
      refine ops_no rfl rfl rfl rfl ?_
      refine ops_no rfl rfl rfl rfl ?_
      refine ops_val (yld_pick_f rfl rfl) rfl ?_
      refine ops_val (yld_move rfl) rfl ?_
      refine ops_yes rfl rfl ?_
      refine ops_val (yld_move rfl) rfl ?_
      refine ops_yes rfl rfl ?_
      refine ops_val (yld_indexT Tryz.runUnderlying9 rfl rfl (by decide) hc) rfl ?_
      refine ops_yes rfl rfl ?_
      refine ops_valB (yld_eql rfl rfl) rfl fun r6 hr6 => ?_
      refine ops_yes rfl rfl ?_
      refine ops_val (yld_move rfl) rfl ?_
      cases r6
      ·
       replace hr6 := ne_of_beq_false hr6
       refine ops_no rfl rfl rfl rfl ?_
       refine ops_no rfl rfl rfl rfl ?_
       refine ops_no rfl rfl rfl rfl ?_
       refine ops_no rfl rfl rfl rfl ?_
       refine ops_no rfl rfl rfl rfl ?_
       refine ops_yes rfl rfl ?_
       refine ops_val (yld_pick_f rfl rfl) rfl ?_
       refine ops_val (yld_pick_f rfl rfl) rfl ?_
       refine ops_val (yld_assign rfl) rfl ?_
       refine ops_nil ?_
       refine fin_next rfl ?_
       refine run_ret ?_
       exact ret1 Tryz.results124 () (get_bool rfl (by rw [← ratom_eq]; unfold ratomS; first | (simp only [hc123, he125, hc60, he62]; subst_vars; rw [Bool.eq_iff_iff]; simp [*] <;> omega) | (simp_all; done) | (simp_all; omega))) (.refl _) (fun _ _ _ => trivial)
      ·
       replace hr6 := eq_of_beq hr6
       refine ops_yes rfl rfl ?_
       refine ops_val (yld_move rfl) rfl ?_
       refine ops_yes rfl rfl ?_
       refine ops_val (yld_move rfl) rfl ?_
       refine ops_yes rfl rfl ?_
       refine ops_val (yld_arith rfl rfl rfl (wrap64 (by omega) (by omega))) rfl ?_
       refine ops_yes rfl rfl ?_
       refine ops_val (yld_indexT Tryz.runUnderlying9 rfl rfl (by omega) (show s[((s.length : Int) - 1).toNat]? = some e by rw [show ((s.length : Int) - 1).toNat = s.length - 1 by omega]; exact he)) rfl ?_
       refine ops_yes rfl rfl ?_
       refine ops_valB (yld_eql rfl rfl) rfl fun r7 hr7 => ?_
       refine ops_yes rfl rfl ?_
       refine ops_val (yld_pick_t rfl rfl) rfl ?_
       refine ops_val (yld_pick_f rfl rfl) rfl ?_
       refine ops_val (yld_assign rfl) rfl ?_
       refine ops_nil ?_
       refine fin_next rfl ?_
       refine run_ret ?_
       exact ret1 Tryz.results124 () (get_bool rfl (by rw [← ratom_eq]; unfold ratomS; first | (simp only [hc123, he125, hc60, he62]; subst_vars; rw [Bool.eq_iff_iff]; simp [*] <;> omega) | (simp_all; done) | (simp_all; omega))) (.refl _) (fun _ _ _ => trivial)
     ·
      replace hr5 := eq_of_beq hr5
      refine ops_yes rfl rfl ?_
      refine ops_val (yld_move rfl) rfl ?_
      refine ops_yes rfl rfl ?_
      refine ops_val (yld_move rfl) rfl ?_
      refine ops_yes rfl rfl ?_
      refine ops_val (yld_arith rfl rfl rfl (wrap64 (by omega) (by omega))) rfl ?_
      refine ops_yes rfl rfl ?_
      refine ops_val (yld_indexT Tryz.runUnderlying9 rfl rfl (by omega) (show s[((s.length : Int) - 1).toNat]? = some e by rw [show ((s.length : Int) - 1).toNat = s.length - 1 by omega]; exact he)) rfl ?_
      refine ops_yes rfl rfl ?_
      refine ops_valB (yld_eql rfl rfl) rfl fun r8 hr8 => ?_
      refine ops_val (yld_pick_t rfl rfl) rfl ?_
      refine ops_val (yld_move rfl) rfl ?_
      cases r8
      ·
       replace hr8 := ne_of_beq_false hr8
       refine ops_no rfl rfl rfl rfl ?_
       refine ops_no rfl rfl rfl rfl ?_
       refine ops_no rfl rfl rfl rfl ?_
       refine ops_no rfl rfl rfl rfl ?_
       refine ops_no rfl rfl rfl rfl ?_
       refine ops_no rfl rfl rfl rfl ?_
       refine ops_val (yld_pick_f rfl rfl) rfl ?_
       refine ops_val (yld_move rfl) rfl ?_
       refine ops_yes rfl rfl ?_
       refine ops_val (yld_move rfl) rfl ?_
       refine ops_yes rfl rfl ?_
       refine ops_val (yld_indexT Tryz.runUnderlying9 rfl rfl (by decide) hc) rfl ?_
       refine ops_yes rfl rfl ?_
       refine ops_valB (yld_eql rfl rfl) rfl fun r9 hr9 => ?_
       refine ops_yes rfl rfl ?_
       refine ops_val (yld_move rfl) rfl ?_
       cases r9
       ·
        replace hr9 := ne_of_beq_false hr9
        refine ops_no rfl rfl rfl rfl ?_
        refine ops_no rfl rfl rfl rfl ?_
        refine ops_no rfl rfl rfl rfl ?_
        refine ops_no rfl rfl rfl rfl ?_
        refine ops_no rfl rfl rfl rfl ?_
        refine ops_yes rfl rfl ?_
        refine ops_val (yld_pick_f rfl rfl) rfl ?_
        refine ops_val (yld_pick_f rfl rfl) rfl ?_
        refine ops_val (yld_assign rfl) rfl ?_
        refine ops_nil ?_
        refine fin_next rfl ?_
        refine run_ret ?_
        exact ret1 Tryz.results124 () (get_bool rfl (by rw [← ratom_eq]; unfold ratomS; first | (simp only [hc123, he125, hc60, he62]; subst_vars; rw [Bool.eq_iff_iff]; simp [*] <;> omega) | (simp_all; done) | (simp_all; omega))) (.refl _) (fun _ _ _ => trivial)
       ·
        replace hr9 := eq_of_beq hr9
        refine ops_yes rfl rfl ?_
        refine ops_val (yld_move rfl) rfl ?_
        refine ops_yes rfl rfl ?_
        refine ops_val (yld_move rfl) rfl ?_
        refine ops_yes rfl rfl ?_
        refine ops_val (yld_arith rfl rfl rfl (wrap64 (by omega) (by omega))) rfl ?_
        refine ops_yes rfl rfl ?_
        refine ops_val (yld_indexT Tryz.runUnderlying9 rfl rfl (by omega) (show s[((s.length : Int) - 1).toNat]? = some e by rw [show ((s.length : Int) - 1).toNat = s.length - 1 by omega]; exact he)) rfl ?_
        refine ops_yes rfl rfl ?_
        refine ops_valB (yld_eql rfl rfl) rfl fun r10 hr10 => ?_
        refine ops_yes rfl rfl ?_
        refine ops_val (yld_pick_t rfl rfl) rfl ?_
        refine ops_val (yld_pick_f rfl rfl) rfl ?_
        refine ops_val (yld_assign rfl) rfl ?_
        refine ops_nil ?_
        refine fin_next rfl ?_
        refine run_ret ?_
        exact ret1 Tryz.results124 () (get_bool rfl (by rw [← ratom_eq]; unfold ratomS; first | (simp only [hc123, he125, hc60, he62]; subst_vars; rw [Bool.eq_iff_iff]; simp [*] <;> omega) | (simp_all; done) | (simp_all; omega))) (.refl _) (fun _ _ _ => trivial)
      ·
       replace hr8 := eq_of_beq hr8
       refine ops_yes rfl rfl ?_
       refine ops_val (yld_move rfl) rfl ?_
       refine ops_yes rfl rfl ?_
       refine ops_val (yld_move rfl) rfl ?_
       refine ops_yes rfl rfl ?_
       refine ops_val (yld_arith rfl rfl rfl (wrap64 (by omega) (by omega))) rfl ?_
       refine ops_yes rfl rfl ?_
       refine ops_val (yld_sliceT (i := 1) (j := s.length - 1) (kl := .i64) (kh := .i64) Tryz.runUnderlying9 rfl rfl (show _ = some (Value.int .i64 ((s.length - 1 : Nat) : Int)) by rw [show ((s.length - 1 : Nat) : Int) = (s.length : Int) - 1 by omega]; rfl) (by omega) (by omega)) rfl ?_
       refine ops_yes rfl rfl ?_
       refine ops_call (rCheckName_c _) rfl pf_nil (fun _ _ _ => by exact trivial) rfl fun _ => ?_
       refine ops_yes rfl rfl ?_
       refine ops_valB (yld_eq (yld_eql rfl rfl) (congrArg Value.bool (pn_eq _))) rfl fun r11 hr11 => ?_
       refine ops_val (yld_pick_t rfl rfl) rfl ?_
       refine ops_val (yld_move rfl) rfl ?_
       cases r11
       ·
        refine ops_yes rfl rfl ?_
        refine ops_val (yld_move rfl) rfl ?_
        refine ops_yes rfl rfl ?_
        refine ops_val (yld_indexT Tryz.runUnderlying9 rfl rfl (by decide) hc) rfl ?_
        refine ops_yes rfl rfl ?_
        refine ops_valB (yld_eql rfl rfl) rfl fun r12 hr12 => ?_
        refine ops_yes rfl rfl ?_
        refine ops_val (yld_move rfl) rfl ?_
        cases r12
        ·
         replace hr12 := ne_of_beq_false hr12
         refine ops_no rfl rfl rfl rfl ?_
         refine ops_no rfl rfl rfl rfl ?_
         refine ops_no rfl rfl rfl rfl ?_
         refine ops_no rfl rfl rfl rfl ?_
         refine ops_no rfl rfl rfl rfl ?_
         refine ops_yes rfl rfl ?_
         refine ops_val (yld_pick_f rfl rfl) rfl ?_
         refine ops_val (yld_pick_f rfl rfl) rfl ?_
         refine ops_val (yld_assign rfl) rfl ?_
         refine ops_nil ?_
         refine fin_next rfl ?_
         refine run_ret ?_
         exact ret1 Tryz.results124 () (get_bool rfl (by rw [← ratom_eq]; unfold ratomS; first | (simp only [hc123, he125, hc60, he62]; subst_vars; rw [Bool.eq_iff_iff]; simp [*] <;> omega) | (simp_all; done) | (simp_all; omega))) (.refl _) (fun _ _ _ => trivial)
        ·
         replace hr12 := eq_of_beq hr12
         refine ops_yes rfl rfl ?_
         refine ops_val (yld_move rfl) rfl ?_
         refine ops_yes rfl rfl ?_
         refine ops_val (yld_move rfl) rfl ?_
         refine ops_yes rfl rfl ?_
         refine ops_val (yld_arith rfl rfl rfl (wrap64 (by omega) (by omega))) rfl ?_
         refine ops_yes rfl rfl ?_
         refine ops_val (yld_indexT Tryz.runUnderlying9 rfl rfl (by omega) (show s[((s.length : Int) - 1).toNat]? = some e by rw [show ((s.length : Int) - 1).toNat = s.length - 1 by omega]; exact he)) rfl ?_
         refine ops_yes rfl rfl ?_
         refine ops_valB (yld_eql rfl rfl) rfl fun r13 hr13 => ?_
         refine ops_yes rfl rfl ?_
         refine ops_val (yld_pick_t rfl rfl) rfl ?_
         refine ops_val (yld_pick_f rfl rfl) rfl ?_
         refine ops_val (yld_assign rfl) rfl ?_
         refine ops_nil ?_
         refine fin_next rfl ?_
         refine run_ret ?_
         exact ret1 Tryz.results124 () (get_bool rfl (by rw [← ratom_eq]; unfold ratomS; first | (simp only [hc123, he125, hc60, he62]; subst_vars; rw [Bool.eq_iff_iff]; simp [*] <;> omega) | (simp_all; done) | (simp_all; omega))) (.refl _) (fun _ _ _ => trivial)
       ·
        refine ops_no rfl rfl rfl rfl ?_
        refine ops_no rfl rfl rfl rfl ?_
        refine ops_no rfl rfl rfl rfl ?_
        refine ops_no rfl rfl rfl rfl ?_
        refine ops_no rfl rfl rfl rfl ?_
        refine ops_no rfl rfl rfl rfl ?_
        refine ops_no rfl rfl rfl rfl ?_
        refine ops_no rfl rfl rfl rfl ?_
        refine ops_no rfl rfl rfl rfl ?_
        refine ops_no rfl rfl rfl rfl ?_
        refine ops_val (yld_pick_t rfl rfl) rfl ?_
        refine ops_val (yld_assign rfl) rfl ?_
        refine ops_nil ?_
        refine fin_next rfl ?_
        refine run_ret ?_
        exact ret1 Tryz.results124 () (get_bool rfl (by rw [← ratom_eq]; unfold ratomS; first | (simp only [hc123, he125, hc60, he62]; subst_vars; rw [Bool.eq_iff_iff]; simp [*] <;> omega) | (simp_all; done) | (simp_all; omega))) (.refl _) (fun _ _ _ => trivial)
    ·
     replace hr4 := of_decide_eq_true hr4
     refine run_cond_t rfl ?_
     refine run_seq ?_
     refine run_region ?_
     refine ops_val (yld_assign rfl) rfl ?_
     refine ops_nil ?_
     refine fin_next rfl ?_
     refine run_ret ?_
     exact ret1 Tryz.results124 () (get_bool rfl (by rw [← ratom_eq]; unfold ratomS; first | (simp only [hc123, he125, hc60, he62]; subst_vars; rw [Bool.eq_iff_iff]; simp [*] <;> omega) | (simp_all; done) | (simp_all; omega))) (.refl _) (fun _ _ _ => trivial)
   ·
    refine run_cond_t rfl ?_
    refine run_seq ?_
    refine run_region ?_
    refine ops_val (yld_assign rfl) rfl ?_
    refine ops_nil ?_
    refine fin_next rfl ?_
    refine run_ret ?_
    exact ret1 Tryz.results124 () (get_bool rfl (by rw [← ratom_eq]; unfold ratomS; first | (simp only [hc123, he125, hc60, he62]; subst_vars; rw [Bool.eq_iff_iff]; simp [*] <;> omega) | (simp_all; done) | (simp_all; omega))) (.refl _) (fun _ _ _ => trivial)
  ·
   replace hr2 := eq_of_beq hr2
   refine ops_no rfl rfl rfl rfl ?_
   refine ops_no rfl rfl rfl rfl ?_
   refine ops_no rfl rfl rfl rfl ?_
   refine ops_val (yld_pick_t rfl rfl) rfl ?_
   refine ops_nil ?_
   refine fin_next rfl ?_
   refine run_cond_t rfl ?_
   refine run_seq ?_
   refine run_region ?_
   refine ops_val (yld_assign rfl) rfl ?_
   refine ops_nil ?_
   refine fin_next rfl ?_
   refine run_ret ?_
   exact ret1 Tryz.results124 () (get_bool rfl (by rw [← ratom_eq]; unfold ratomS; first | (simp only [hc123, he125, hc60, he62]; subst_vars; rw [Bool.eq_iff_iff]; simp [*] <;> omega) | (simp_all; done) | (simp_all; omega))) (.refl _) (fun _ _ _ => trivial)
 ·
  replace hr1 := eq_of_beq hr1
  refine ops_no rfl rfl rfl rfl ?_
  refine ops_no rfl rfl rfl rfl ?_
  refine ops_val (yld_pick_t rfl rfl) rfl ?_
  refine ops_val (yld_move rfl) rfl ?_
  refine ops_no rfl rfl rfl rfl ?_
  refine ops_no rfl rfl rfl rfl ?_
  refine ops_no rfl rfl rfl rfl ?_
  refine ops_val (yld_pick_t rfl rfl) rfl ?_
  refine ops_nil ?_
  refine fin_next rfl ?_
  refine run_cond_t rfl ?_
  refine run_seq ?_
  refine run_region ?_
  refine ops_val (yld_assign rfl) rfl ?_
  refine ops_nil ?_
  refine fin_next rfl ?_
  refine run_ret ?_
  exact ret1 Tryz.results124 () (get_bool rfl (by rw [← ratom_eq]; unfold ratomS; first | (simp only [hc123, he125, hc60, he62]; subst_vars; rw [Bool.eq_iff_iff]; simp [*] <;> omega) | (simp_all; done) | (simp_all; omega))) (.refl _) (fun _ _ _ => trivial)

theorem rRole_c (s : Str) (hs : s.length ≤ 17592186044414) : Fn0 Tryz.prog 125 #[str s] (.bool (roleS s)) := by
 refine tri_of_body Tryz.func125 rfl rfl Tryz.ntmps125 rfl fun v0 => ?_
 refine run_seq ?_
 refine run_region ?_
 refine ops_val (yld_assign rfl) rfl ?_
 refine ops_nil ?_
 refine fin_next rfl ?_
 refine run_seq ?_
 refine run_region ?_
 refine ops_val (yld_assign rfl) rfl ?_
 refine ops_nil ?_
 refine fin_next rfl ?_
 refine run_seq ?_
 refine run_region ?_
 refine ops_val (yld_assign rfl) rfl ?_
 refine ops_nil ?_
 refine fin_next rfl ?_
 refine run_seq ?_
 refine run_seq ?_
 refine run_region ?_
 refine ops_val (yld_assign rfl) rfl ?_
 refine ops_nil ?_
 refine fin_next rfl ?_
 refine run_block ?_
 refine ok_fr [(0, str s), (3, .int .i64 ((0 : Nat) : Int)), (4, .int .i64 (List.length ([] : List Str) : Int)), (5, .int .i64 ((0 : Nat) : Int))] ⟨rfl, rfl, rfl, rfl, trivial⟩ ?_
 refine run_loop (ι := {z : Nat × Nat × List Str // RInv s z.1 z.2.1 z.2.2 ∨ REnd s z.2.1 z.2.2}) (fun z => [(0, str s), (3, .int .i64 (z.1.1 : Int)), (4, .int .i64 (List.length z.1.2.2 : Int)), (5, .int .i64 (z.1.2.1 : Int))]) (fun _ => _) (fun _ => _) (fun z => s.length + 1 - z.1.2.1) ⟨(0, 0, []), .inl (RInv.start s)⟩ ?_
 rintro ⟨⟨a, i, dn⟩, hz⟩
 dsimp only at hz
 dsimp only
 have hdl : dn.length ≤ s.length + 1 := hz.elim RInv.len REnd.len
 have hil : i ≤ s.length + 1 := hz.elim (fun q => by have := q.il; omega) (fun q => by have := q.il; omega)
 refine ok_fr [(0, str s), (3, .int .i64 (a : Int)), (4, .int .i64 (List.length dn : Int)), (5, .int .i64 (i : Int))] ⟨rfl, rfl, rfl, rfl, trivial⟩ ?_
 refine run_seq ?_
 refine run_seq ?_
 refine run_region ?_
 refine ops_val (yld_move rfl) rfl ?_
 refine ops_val (yld_move rfl) rfl ?_
 refine ops_val (yld_lenT Tryz.runUnderlying9 rfl) rfl ?_
 refine ops_valB (yld_leq rfl rfl) rfl fun r1 hr1 => ?_
 refine ops_nil ?_
 refine fin_next rfl ?_
 cases r1
 ·
  replace hr1 := of_decide_eq_false hr1
  replace hz : REnd s i dn := hz.elim (fun q => by have := q.il; omega) id
  refine run_cond_f rfl ?_
  refine run_exit rfl ?_
  refine fin_next rfl ?_
  refine run_seq ?_
  refine run_region ?_
  refine ops_val (yld_move rfl) rfl ?_
  refine ops_valB (yld_leq rfl rfl) rfl fun r2 hr2 => ?_
  refine ops_val (yld_assign rfl) rfl ?_
  refine ops_nil ?_
  refine fin_next rfl ?_
  refine run_ret ?_
  exact ret1 Tryz.results125 () (get_bool rfl (by subst_vars; exact hz.role.symm)) (.refl _) (fun _ _ _ => trivial)
 ·
  replace hr1 := of_decide_eq_true hr1
  replace hz : RInv s a i dn := hz.elim id (fun q => by have := q.il; omega)
  refine run_cond_t rfl ?_
  refine run_skip ?_
  refine fin_next rfl ?_
  refine run_seq ?_
  refine run_block ?_
  refine run_seq ?_
  refine run_seq ?_
  refine run_region ?_
  refine ops_val (yld_move rfl) rfl ?_
  refine ops_val (yld_move rfl) rfl ?_
  refine ops_val (yld_lenT Tryz.runUnderlying9 rfl) rfl ?_
  refine ops_valB (yld_lss rfl rfl) rfl fun r3 hr3 => ?_
  refine ops_val (yld_move rfl) rfl ?_
  cases r3
  ·
   replace hr3 := of_decide_eq_false hr3
   refine ops_no rfl rfl rfl rfl ?_
   refine ops_no rfl rfl rfl rfl ?_
   refine ops_no rfl rfl rfl rfl ?_
   refine ops_no rfl rfl rfl rfl ?_
   refine ops_val (yld_pick_f rfl rfl) rfl ?_
   refine ops_nil ?_
   refine fin_next rfl ?_
   refine run_cond_f rfl ?_
   refine run_skip ?_
   refine fin_next rfl ?_
   refine run_seq ?_
   refine run_seq ?_
   refine run_region ?_
   refine ops_val (yld_move rfl) rfl ?_
   refine ops_val (yld_move rfl) rfl ?_
   refine ops_val (yld_move rfl) rfl ?_
   refine ops_val (yld_sliceT (i := a) (j := i) (kl := .i64) (kh := .i64) Tryz.runUnderlying9 rfl rfl rfl hz.le (by omega)) rfl ?_
   refine ops_call (rCheckName_c _) rfl pf_nil (fun _ _ _ => by exact trivial) rfl fun _ => ?_
   refine ops_valB (yld_eq (yld_neq rfl rfl) (congrArg Value.bool (pn_ne _))) rfl fun r4 hr4 => ?_
   refine ops_nil ?_
   refine fin_next rfl ?_
   cases r4
   ·
    refine run_cond_f rfl ?_
    refine run_skip ?_
    refine fin_next rfl ?_
    refine run_seq ?_
    refine run_region ?_
    refine ops_val (yld_move rfl) rfl ?_
    refine ops_val (yld_arith rfl rfl rfl (wrap64 (by omega) (by omega))) rfl ?_
    refine ops_val (yld_assign rfl) rfl ?_
    refine ops_nil ?_
    refine fin_next rfl ?_
    refine run_region ?_
    refine ops_val (yld_move rfl) rfl ?_
    refine ops_val (yld_arith rfl rfl rfl (wrap64 (by omega) (by omega))) rfl ?_
    refine ops_val (yld_assign rfl) rfl ?_
    refine ops_nil ?_
    refine fin_next rfl ?_
    refine run_region ?_
    refine ops_val (yld_move rfl) rfl ?_
    refine ops_val (yld_arith rfl rfl rfl (wrap64 (by omega) (by omega))) rfl ?_
    refine ops_val (yld_assign rfl) rfl ?_
    refine ops_nil ?_
    refine fin_inv rfl ?_
    exact ok_again ⟨(i + 1, i + 1, dn ++ [segS s a i]), .inr (hz.finN (by omega) (by simp_all [segS]))⟩ (by dsimp only; omega) ⟨rfl, rfl, (get_int rfl (by simp)), rfl, trivial⟩ pf_nil (fun _ _ h => h)
   ·
    refine run_cond_t rfl ?_
    refine run_seq ?_
    refine run_region ?_
    refine ops_val (yld_assign rfl) rfl ?_
    refine ops_nil ?_
    refine fin_next rfl ?_
    refine run_ret ?_
    exact ret1 Tryz.results125 () (get_bool rfl (by symm; exact role_bad (x := segS s a i) (by rw [hz.fin (by omega)]; simp) (by simp_all [segS]))) (.refl _) (fun _ _ _ => trivial)
  ·
   replace hr3 := of_decide_eq_true hr3
   obtain ⟨c, hc⟩ : ∃ c, s[i]? = some c := ⟨_, List.getElem?_eq_getElem (by omega)⟩
   refine ops_yes rfl rfl ?_
   refine ops_val (yld_move rfl) rfl ?_
   refine ops_yes rfl rfl ?_
   refine ops_val (yld_move rfl) rfl ?_
   refine ops_yes rfl rfl ?_
   refine ops_val (yld_indexT Tryz.runUnderlying9 rfl rfl (by omega) hc) rfl ?_
   refine ops_yes rfl rfl ?_
   refine ops_valB (yld_neq rfl rfl) rfl fun r5 hr5 => ?_
   refine ops_val (yld_pick_t rfl rfl) rfl ?_
   refine ops_nil ?_
   refine fin_next rfl ?_
   cases r5
   ·
    replace hr5 := eq_of_bne hr5
    obtain rfl : c = 46 := UInt8.toNat_inj.1 (by show c.toNat = 46; omega)
    refine run_cond_f rfl ?_
    refine run_skip ?_
    refine fin_next rfl ?_
    refine run_seq ?_
    refine run_seq ?_
    refine run_region ?_
    refine ops_val (yld_move rfl) rfl ?_
    refine ops_val (yld_move rfl) rfl ?_
    refine ops_val (yld_move rfl) rfl ?_
    refine ops_val (yld_sliceT (i := a) (j := i) (kl := .i64) (kh := .i64) Tryz.runUnderlying9 rfl rfl rfl hz.le (by omega)) rfl ?_
    refine ops_call (rCheckName_c _) rfl pf_nil (fun _ _ _ => by exact trivial) rfl fun _ => ?_
    refine ops_valB (yld_eq (yld_neq rfl rfl) (congrArg Value.bool (pn_ne _))) rfl fun r6 hr6 => ?_
    refine ops_nil ?_
    refine fin_next rfl ?_
    cases r6
    ·
     refine run_cond_f rfl ?_
     refine run_skip ?_
     refine fin_next rfl ?_
     refine run_seq ?_
     refine run_region ?_
     refine ops_val (yld_move rfl) rfl ?_
     refine ops_val (yld_arith rfl rfl rfl (wrap64 (by omega) (by omega))) rfl ?_
     refine ops_val (yld_assign rfl) rfl ?_
     refine ops_nil ?_
     refine fin_next rfl ?_
     refine run_region ?_
     refine ops_val (yld_move rfl) rfl ?_
     refine ops_val (yld_arith rfl rfl rfl (wrap64 (by omega) (by omega))) rfl ?_
     refine ops_val (yld_assign rfl) rfl ?_
     refine ops_nil ?_
     refine fin_next rfl ?_
     refine run_region ?_
     refine ops_val (yld_move rfl) rfl ?_
     refine ops_val (yld_arith rfl rfl rfl (wrap64 (by omega) (by omega))) rfl ?_
     refine ops_val (yld_assign rfl) rfl ?_
     refine ops_nil ?_
     refine fin_inv rfl ?_
     exact ok_again ⟨(i + 1, i + 1, dn ++ [segS s a i]), .inl (hz.dotN hc (by simp_all [segS]))⟩ (by dsimp only; omega) ⟨rfl, rfl, (get_int rfl (by simp)), rfl, trivial⟩ pf_nil (fun _ _ h => h)
    ·
     refine run_cond_t rfl ?_
     refine run_seq ?_
     refine run_region ?_
     refine ops_val (yld_assign rfl) rfl ?_
     refine ops_nil ?_
     refine fin_next rfl ?_
     refine run_ret ?_
     exact ret1 Tryz.results125 () (get_bool rfl (by symm; exact role_bad (x := segS s a i) (by rw [hz.dot hc]; simp) (by simp_all [segS]))) (.refl _) (fun _ _ _ => trivial)
   ·
    replace hr5 := ne_of_bne hr5
    refine run_cond_t rfl ?_
    refine run_exit rfl ?_
    refine fin_next rfl ?_
    refine run_region ?_
    refine ops_val (yld_move rfl) rfl ?_
    refine ops_val (yld_arith rfl rfl rfl (wrap64 (by omega) (by omega))) rfl ?_
    refine ops_val (yld_assign rfl) rfl ?_
    refine ops_nil ?_
    refine fin_inv rfl ?_
    exact ok_again ⟨(a, i + 1, dn), .inl (hz.next hc (by intro q; subst q; simp_all))⟩ (by dsimp only; omega) ⟨rfl, rfl, rfl, rfl, trivial⟩ pf_nil (fun _ _ h => h)

theorem pc_eta (p : Pc) : p = ⟨p.kind, p.a, p.b, p.c, p.r, p.s, p.t, p.lo, p.hi, p.frm⟩ := rfl

set_option maxHeartbeats 4000000 in
theorem rValid_c (p : Pc) (hp : p.sm) : Fn0 Tryz.prog 67 #[Pc.val p] (.bool p.valid) := by
 refine tri_of_body Tryz.func67 rfl rfl Tryz.ntmps67 rfl fun v0 => ?_
 obtain ⟨ha, hb, hc, hr, hs, ht⟩ := hp
 refine run_seq ?_
 refine run_region ?_
 refine ops_box rfl rfl fun b1 => ?_
 refine ops_val (yld_assign rfl) rfl ?_
 refine ops_nil ?_
 refine fin_next rfl ?_
 refine run_seq ?_
 refine run_seq ?_
 refine run_region ?_
 refine ops_val (yld_field Tryz.runUnderlying31 rfl rfl rfl Tryz.sizeOf3) rfl ?_
 refine ops_val (yld_load 0 Tryz.isAgg3 rfl rfl rfl) rfl ?_
 refine ops_valB (yld_lss rfl rfl) rfl fun r1 hr1 => ?_
 refine ops_val (yld_move rfl) rfl ?_
 refine ops_cut 4 ((decide ((Pc.frm p) < (-1))) || (decide (1024 ≤ (Pc.frm p)))) (fun r => [(0, Pc.val p), (1, .pointer (some ⟨b1, 0, none⟩)), (2, .bool false), (13, .bool r)]) ?_ fun r2 hr2 => ?_
 ·
  cases r1
  ·
   have qr2 := hr1
   replace hr1 := of_decide_eq_false hr1
   refine ops_yes rfl rfl ?_
   refine ops_val (yld_field Tryz.runUnderlying31 rfl rfl rfl Tryz.sizeOf3) rfl ?_
   refine ops_yes rfl rfl ?_
   refine ops_val (yld_load 0 Tryz.isAgg3 rfl rfl rfl) rfl ?_
   refine ops_yes rfl rfl ?_
   refine ops_valB (yld_geq rfl rfl) rfl fun r3 hr3 => ?_
   refine ops_val (yld_pick_f rfl rfl) rfl ?_
   refine ops_nil ?_
   refine fin_inv rfl ?_
   exact met ⟨rfl, rfl, rfl, (get_bool rfl (jof qr2 hr3)), trivial⟩
  ·
   have qr2 := hr1
   replace hr1 := of_decide_eq_true hr1
   refine ops_no rfl rfl rfl rfl ?_
   refine ops_no rfl rfl rfl rfl ?_
   refine ops_no rfl rfl rfl rfl ?_
   refine ops_val (yld_pick_t rfl rfl) rfl ?_
   refine ops_nil ?_
   refine fin_inv rfl ?_
   exact met ⟨rfl, rfl, rfl, (get_bool rfl (jot qr2)), trivial⟩
 ·
  refine ops_nil ?_
  refine fin_next rfl ?_
  cases r2
  ·
   simp at hr2
   refine run_cond_f rfl ?_
   refine run_skip ?_
   refine fin_next rfl ?_
   refine run_seq ?_
   refine run_region ?_
   refine ops_val (yld_field Tryz.runUnderlying31 rfl rfl rfl Tryz.sizeOf3) rfl ?_
   refine ops_val (yld_load 0 Tryz.isAgg3 rfl rfl rfl) rfl ?_
   refine ops_val (yld_field Tryz.runUnderlying31 rfl rfl rfl Tryz.sizeOf3) rfl ?_
   refine ops_val (yld_load 0 Tryz.isAgg3 rfl rfl rfl) rfl ?_
   refine ops_val (yld_struct strt31 rfl rfl) rfl ?_
   refine ops_alloc Tryz.zeroValue31 rfl fun b2 => ?_
   refine ops_store 0 Tryz.sizeOf31 rfl rfl rfl rfl rfl rfl ?_
   refine ops_nil ?_
   refine fin_next rfl ?_
   refine run_seq ?_
   refine run_region ?_
   refine ops_val (yld_assign rfl) rfl ?_
   refine ops_nil ?_
   refine fin_next rfl ?_
   refine run_seq ?_
   refine run_seq ?_
   refine run_region ?_
   refine ops_val (yld_field Tryz.runUnderlying31 rfl rfl rfl Tryz.sizeOf3) rfl ?_
   refine ops_val (yld_load 1 Tryz.isAgg3 rfl rfl rfl) rfl ?_
   refine ops_nil ?_
   refine fin_next rfl ?_
   refine run_block ?_
   refine run_seq ?_
   refine run_region ?_
   refine ops_valB (yld_eql rfl rfl) rfl fun r4 hr4 => ?_
   refine ops_val (yld_assign rfl) rfl ?_
   refine ops_nil ?_
   refine fin_next rfl ?_
   cases r4
   ·
    replace hr4 := ne_of_beq_false hr4
    refine run_cond_f rfl ?_
    refine run_seq ?_
    refine run_region ?_
    refine ops_valB (yld_eql rfl rfl) rfl fun r5 hr5 => ?_
    refine ops_val (yld_assign rfl) rfl ?_
    refine ops_nil ?_
    refine fin_next rfl ?_
    cases r5
    ·
     replace hr5 := ne_of_beq_false hr5
     refine run_cond_f rfl ?_
     refine run_seq ?_
     refine run_seq ?_
     refine run_region ?_
     refine ops_valB (yld_eql rfl rfl) rfl fun r6 hr6 => ?_
     refine ops_val (yld_assign rfl) rfl ?_
     refine ops_nil ?_
     refine fin_next rfl ?_
     cases r6
     ·
      replace hr6 := ne_of_beq_false hr6
      refine run_cond_f rfl ?_
      refine run_region ?_
      refine ops_valB (yld_eql rfl rfl) rfl fun r7 hr7 => ?_
      refine ops_val (yld_assign rfl) rfl ?_
      refine ops_nil ?_
      refine fin_next rfl ?_
      cases r7
      ·
       replace hr7 := ne_of_beq_false hr7
       refine run_cond_f rfl ?_
       refine run_seq ?_
       refine run_region ?_
       refine ops_valB (yld_eql rfl rfl) rfl fun r8 hr8 => ?_
       refine ops_val (yld_assign rfl) rfl ?_
       refine ops_nil ?_
       refine fin_next rfl ?_
       cases r8
       ·
        replace hr8 := ne_of_beq_false hr8
        refine run_cond_f rfl ?_
        refine run_seq ?_
        refine run_region ?_
        refine ops_valB (yld_eql rfl rfl) rfl fun r9 hr9 => ?_
        refine ops_val (yld_assign rfl) rfl ?_
        refine ops_nil ?_
        refine fin_next rfl ?_
        cases r9
        ·
         replace hr9 := ne_of_beq_false hr9
         refine run_cond_f rfl ?_
         refine run_seq ?_
         refine run_region ?_
         refine ops_valB (yld_eql rfl rfl) rfl fun r10 hr10 => ?_
         refine ops_val (yld_assign rfl) rfl ?_
         refine ops_nil ?_
         refine fin_next rfl ?_
         cases r10
         ·
          replace hr10 := ne_of_beq_false hr10
          refine run_cond_f rfl ?_
          refine run_seq ?_
          refine run_seq ?_
          refine run_region ?_
          refine ops_valB (yld_eql rfl rfl) rfl fun r11 hr11 => ?_
          refine ops_val (yld_assign rfl) rfl ?_
          refine ops_nil ?_
          refine fin_next rfl ?_
          cases r11
          ·
           replace hr11 := ne_of_beq_false hr11
           refine run_cond_f rfl ?_
           refine run_region ?_
           refine ops_valB (yld_eql rfl rfl) rfl fun r12 hr12 => ?_
           refine ops_val (yld_assign rfl) rfl ?_
           refine ops_nil ?_
           refine fin_next rfl ?_
           cases r12
           ·
            replace hr12 := ne_of_beq_false hr12
            refine run_cond_f rfl ?_
            refine run_skip ?_
            refine fin_next rfl ?_
            refine run_seq ?_
            refine run_region ?_
            refine ops_val (yld_move rfl) rfl ?_
            refine ops_val (yld_move rfl) rfl ?_
            refine ops_no rfl rfl rfl rfl ?_
            refine ops_no rfl rfl rfl rfl ?_
            refine ops_no rfl rfl rfl rfl ?_
            refine ops_val (yld_pick_f rfl rfl) rfl ?_
            refine ops_val (yld_assign rfl) rfl ?_
            refine ops_nil ?_
            refine fin_next rfl ?_
            refine run_ret ?_
            exact ret1 Tryz.results67 () (get_bool rfl (by obtain ⟨kind, a, b, c, r, s, t, lo, hi, frm⟩ := p; dsimp only at *; symm; exact vp_no _ (by omega))) pf_nil (fun _ _ _ => trivial)
           ·
            replace hr12 := eq_of_beq hr12
            refine run_cond_t rfl ?_
            refine run_seq ?_
            refine run_region ?_
            refine ops_val (yld_field Tryz.runUnderlying31 rfl rfl rfl Tryz.sizeOf9) rfl ?_
            refine ops_val (yld_load 1 Tryz.isAgg9 rfl rfl rfl) rfl ?_
            refine ops_val (yld_field Tryz.runUnderlying31 rfl rfl rfl Tryz.sizeOf9) rfl ?_
            refine ops_store 0 Tryz.sizeOf9 rfl rfl rfl rfl rfl rfl ?_
            refine ops_nil ?_
            refine fin_next rfl ?_
            refine run_seq ?_
            refine run_region ?_
            refine ops_val (yld_field Tryz.runUnderlying31 rfl rfl rfl Tryz.sizeOf3) rfl ?_
            refine ops_val (yld_load 1 Tryz.isAgg3 rfl rfl rfl) rfl ?_
            refine ops_val (yld_field Tryz.runUnderlying31 rfl rfl rfl Tryz.sizeOf3) rfl ?_
            refine ops_store 0 Tryz.sizeOf3 rfl rfl rfl rfl rfl rfl ?_
            refine ops_nil ?_
            refine fin_next rfl ?_
            refine run_seq ?_
            refine run_region ?_
            refine ops_val (yld_field Tryz.runUnderlying31 rfl rfl rfl Tryz.sizeOf3) rfl ?_
            refine ops_val (yld_load 1 Tryz.isAgg3 rfl rfl rfl) rfl ?_
            refine ops_val (yld_field Tryz.runUnderlying31 rfl rfl rfl Tryz.sizeOf3) rfl ?_
            refine ops_store 0 Tryz.sizeOf3 rfl rfl rfl rfl rfl rfl ?_
            refine ops_nil ?_
            refine fin_next rfl ?_
            refine run_seq ?_
            refine run_region ?_
            refine ops_val (yld_field Tryz.runUnderlying31 rfl rfl rfl Tryz.sizeOf9) rfl ?_
            refine ops_val (yld_load 1 Tryz.isAgg9 rfl rfl rfl) rfl ?_
            refine ops_val (yld_assign rfl) rfl ?_
            refine ops_nil ?_
            refine fin_next rfl ?_
            refine run_seq ?_
            refine run_seq ?_
            refine run_region ?_
            refine ops_val (yld_field Tryz.runUnderlying31 rfl rfl rfl Tryz.sizeOf3) rfl ?_
            refine ops_val (yld_load 1 Tryz.isAgg3 rfl rfl rfl) rfl ?_
            refine ops_valB (yld_eql rfl rfl) rfl fun r13 hr13 => ?_
            refine ops_nil ?_
            refine fin_next rfl ?_
            cases r13
            ·
             replace hr13 := ne_of_beq_false hr13
             refine run_cond_f rfl ?_
             refine run_seq ?_
             refine run_region ?_
             refine ops_val (yld_field Tryz.runUnderlying31 rfl rfl rfl Tryz.sizeOf9) rfl ?_
             refine ops_val (yld_load 1 Tryz.isAgg9 rfl rfl rfl) rfl ?_
             refine ops_val (yld_field Tryz.runUnderlying31 rfl rfl rfl Tryz.sizeOf9) rfl ?_
             refine ops_store 0 Tryz.sizeOf9 rfl rfl rfl rfl rfl rfl ?_
             refine ops_nil ?_
             refine fin_next rfl ?_
             refine run_region ?_
             refine ops_val (yld_field Tryz.runUnderlying31 rfl rfl rfl Tryz.sizeOf9) rfl ?_
             refine ops_val (yld_load 1 Tryz.isAgg9 rfl rfl rfl) rfl ?_
             refine ops_val (yld_assign rfl) rfl ?_
             refine ops_nil ?_
             refine fin_next rfl ?_
             refine run_region ?_
             refine ops_val (yld_move rfl) rfl ?_
             refine ops_callB (rAtom_c _ (by omega)) rfl pf_nil (fun _ _ _ => by exact trivial) rfl fun r14 hr14 => ?_
             refine ops_val (yld_move rfl) rfl ?_
             refine ops_cut 5 ((atomS (Pc.c p)) && (personS (Pc.r p))) (fun r => [(0, Pc.val p), (1, .pointer (some ⟨b1, 0, none⟩)), (2, .bool false), (13, .bool false), (14, .pointer (some ⟨b1, 0, none⟩)), (15, .int .i64 (Pc.kind p)), (16, .pointer (some ⟨b1, 9, none⟩)), (17, .int .i64 (Pc.frm p)), (18, Pc.val (Pc.mk (Pc.kind p) [] [] [] [] [] [] 0 0 (Pc.frm p))), (3, .pointer (some ⟨b2, 0, none⟩)), (4, .bool false), (19, .pointer (some ⟨b1, 0, none⟩)), (20, .int .i64 (Pc.kind p)), (22, .bool false), (21, .bool false), (38, .bool false), (37, .bool false), (62, .bool false), (61, .bool false), (63, .bool false), (87, .bool false), (86, .bool false), (103, .bool false), (102, .bool false), (127, .bool false), (126, .bool false), (135, .bool false), (134, .bool true), (136, .bool true), (137, .pointer (some ⟨b1, 4, none⟩)), (138, str (Pc.r p)), (139, .pointer (some ⟨b2, 4, none⟩)), (140, .pointer (some ⟨b1, 7, none⟩)), (141, .int .i64 (Pc.lo p)), (142, .pointer (some ⟨b2, 7, none⟩)), (143, .pointer (some ⟨b1, 8, none⟩)), (144, .int .i64 (Pc.hi p)), (145, .pointer (some ⟨b2, 8, none⟩)), (146, .pointer (some ⟨b1, 1, none⟩)), (147, str (Pc.a p)), (148, .pointer (some ⟨b1, 0, none⟩)), (149, .int .i64 (Pc.kind p)), (150, .bool false), (154, .pointer (some ⟨b1, 3, none⟩)), (155, str (Pc.c p)), (156, .pointer (some ⟨b2, 3, none⟩)), (157, .pointer (some ⟨b1, 3, none⟩)), (158, str (Pc.c p)), (166, .bool r)]) ?_ fun r15 hr15 => ?_
             ·
              cases r14
              ·
               have qr15 := hr14
               refine ops_no rfl rfl rfl rfl ?_
               refine ops_no rfl rfl rfl rfl ?_
               refine ops_no rfl rfl rfl rfl ?_
               refine ops_no rfl rfl rfl rfl ?_
               refine ops_val (yld_pick_f rfl rfl) rfl ?_
               refine ops_nil ?_
               refine fin_inv rfl ?_
               exact met ⟨rfl, rfl, rfl, rfl, rfl, rfl, rfl, rfl, rfl, rfl, rfl, rfl, rfl, rfl, rfl, rfl, rfl, rfl, rfl, rfl, rfl, rfl, rfl, rfl, rfl, rfl, rfl, rfl, rfl, rfl, rfl, rfl, rfl, rfl, rfl, rfl, rfl, rfl, rfl, rfl, rfl, rfl, rfl, rfl, rfl, rfl, rfl, rfl, (get_bool rfl (jaf qr15)), trivial⟩
              ·
               have qr15 := hr14
               refine ops_yes rfl rfl ?_
               refine ops_val (yld_field Tryz.runUnderlying31 rfl rfl rfl Tryz.sizeOf9) rfl ?_
               refine ops_yes rfl rfl ?_
               refine ops_val (yld_load 1 Tryz.isAgg9 rfl rfl rfl) rfl ?_
               refine ops_yes rfl rfl ?_
               refine ops_call (rCheckName_c _) rfl pf_nil (fun _ _ _ => by exact trivial) rfl fun _ => ?_
               refine ops_yes rfl rfl ?_
               refine ops_valB (yld_eq (yld_eql rfl rfl) (congrArg Value.bool (pn_eq _))) rfl fun r16 hr16 => ?_
               refine ops_val (yld_pick_t rfl rfl) rfl ?_
               refine ops_nil ?_
               refine fin_inv rfl ?_
               exact met ⟨rfl, rfl, rfl, rfl, rfl, rfl, rfl, rfl, rfl, rfl, rfl, rfl, rfl, rfl, rfl, rfl, rfl, rfl, rfl, rfl, rfl, rfl, rfl, rfl, rfl, rfl, rfl, rfl, rfl, rfl, rfl, rfl, rfl, rfl, rfl, rfl, rfl, rfl, rfl, rfl, rfl, rfl, rfl, rfl, rfl, rfl, rfl, rfl, (get_bool rfl (jat qr15 hr16)), trivial⟩
             ·
              refine ops_val (yld_move rfl) rfl ?_
              refine ops_cut 6 ((((atomS (Pc.c p)) && (personS (Pc.r p)))) && (decide ((Pc.lo p) ≤ (Pc.hi p)))) (fun r => [(0, Pc.val p), (1, .pointer (some ⟨b1, 0, none⟩)), (2, .bool false), (13, .bool false), (14, .pointer (some ⟨b1, 0, none⟩)), (15, .int .i64 (Pc.kind p)), (16, .pointer (some ⟨b1, 9, none⟩)), (17, .int .i64 (Pc.frm p)), (18, Pc.val (Pc.mk (Pc.kind p) [] [] [] [] [] [] 0 0 (Pc.frm p))), (3, .pointer (some ⟨b2, 0, none⟩)), (4, .bool false), (19, .pointer (some ⟨b1, 0, none⟩)), (20, .int .i64 (Pc.kind p)), (22, .bool false), (21, .bool false), (38, .bool false), (37, .bool false), (62, .bool false), (61, .bool false), (63, .bool false), (87, .bool false), (86, .bool false), (103, .bool false), (102, .bool false), (127, .bool false), (126, .bool false), (135, .bool false), (134, .bool true), (136, .bool true), (137, .pointer (some ⟨b1, 4, none⟩)), (138, str (Pc.r p)), (139, .pointer (some ⟨b2, 4, none⟩)), (140, .pointer (some ⟨b1, 7, none⟩)), (141, .int .i64 (Pc.lo p)), (142, .pointer (some ⟨b2, 7, none⟩)), (143, .pointer (some ⟨b1, 8, none⟩)), (144, .int .i64 (Pc.hi p)), (145, .pointer (some ⟨b2, 8, none⟩)), (146, .pointer (some ⟨b1, 1, none⟩)), (147, str (Pc.a p)), (148, .pointer (some ⟨b1, 0, none⟩)), (149, .int .i64 (Pc.kind p)), (150, .bool false), (154, .pointer (some ⟨b1, 3, none⟩)), (155, str (Pc.c p)), (156, .pointer (some ⟨b2, 3, none⟩)), (157, .pointer (some ⟨b1, 3, none⟩)), (158, str (Pc.c p)), (173, .bool r)]) ?_ fun r17 hr17 => ?_
              ·
               cases r15
               ·
                have qr17 := hr15
                simp at hr15
                refine ops_no rfl rfl rfl rfl ?_
                refine ops_no rfl rfl rfl rfl ?_
                refine ops_no rfl rfl rfl rfl ?_
                refine ops_no rfl rfl rfl rfl ?_
                refine ops_no rfl rfl rfl rfl ?_
                refine ops_val (yld_pick_f rfl rfl) rfl ?_
                refine ops_nil ?_
                refine fin_inv rfl ?_
                exact met ⟨rfl, rfl, rfl, rfl, rfl, rfl, rfl, rfl, rfl, rfl, rfl, rfl, rfl, rfl, rfl, rfl, rfl, rfl, rfl, rfl, rfl, rfl, rfl, rfl, rfl, rfl, rfl, rfl, rfl, rfl, rfl, rfl, rfl, rfl, rfl, rfl, rfl, rfl, rfl, rfl, rfl, rfl, rfl, rfl, rfl, rfl, rfl, rfl, (get_bool rfl (jaf qr17)), trivial⟩
               ·
                have qr17 := hr15
                simp at hr15
                refine ops_yes rfl rfl ?_
                refine ops_val (yld_field Tryz.runUnderlying31 rfl rfl rfl Tryz.sizeOf3) rfl ?_
                refine ops_yes rfl rfl ?_
                refine ops_val (yld_load 1 Tryz.isAgg3 rfl rfl rfl) rfl ?_
                refine ops_yes rfl rfl ?_
                refine ops_val (yld_field Tryz.runUnderlying31 rfl rfl rfl Tryz.sizeOf3) rfl ?_
                refine ops_yes rfl rfl ?_
                refine ops_val (yld_load 1 Tryz.isAgg3 rfl rfl rfl) rfl ?_
                refine ops_yes rfl rfl ?_
                refine ops_valB (yld_leq rfl rfl) rfl fun r18 hr18 => ?_
                refine ops_val (yld_pick_t rfl rfl) rfl ?_
                refine ops_nil ?_
                refine fin_inv rfl ?_
                exact met ⟨rfl, rfl, rfl, rfl, rfl, rfl, rfl, rfl, rfl, rfl, rfl, rfl, rfl, rfl, rfl, rfl, rfl, rfl, rfl, rfl, rfl, rfl, rfl, rfl, rfl, rfl, rfl, rfl, rfl, rfl, rfl, rfl, rfl, rfl, rfl, rfl, rfl, rfl, rfl, rfl, rfl, rfl, rfl, rfl, rfl, rfl, rfl, rfl, (get_bool rfl (jat qr17 hr18)), trivial⟩
              ·
               refine ops_val (yld_move rfl) rfl ?_
               refine ops_cut 4 ((((((atomS (Pc.c p)) && (personS (Pc.r p)))) && (decide ((Pc.lo p) ≤ (Pc.hi p))))) && (decide ((-1099511627776) ≤ (Pc.lo p)))) (fun r => [(0, Pc.val p), (1, .pointer (some ⟨b1, 0, none⟩)), (2, .bool false), (13, .bool false), (14, .pointer (some ⟨b1, 0, none⟩)), (15, .int .i64 (Pc.kind p)), (16, .pointer (some ⟨b1, 9, none⟩)), (17, .int .i64 (Pc.frm p)), (18, Pc.val (Pc.mk (Pc.kind p) [] [] [] [] [] [] 0 0 (Pc.frm p))), (3, .pointer (some ⟨b2, 0, none⟩)), (4, .bool false), (19, .pointer (some ⟨b1, 0, none⟩)), (20, .int .i64 (Pc.kind p)), (22, .bool false), (21, .bool false), (38, .bool false), (37, .bool false), (62, .bool false), (61, .bool false), (63, .bool false), (87, .bool false), (86, .bool false), (103, .bool false), (102, .bool false), (127, .bool false), (126, .bool false), (135, .bool false), (134, .bool true), (136, .bool true), (137, .pointer (some ⟨b1, 4, none⟩)), (138, str (Pc.r p)), (139, .pointer (some ⟨b2, 4, none⟩)), (140, .pointer (some ⟨b1, 7, none⟩)), (141, .int .i64 (Pc.lo p)), (142, .pointer (some ⟨b2, 7, none⟩)), (143, .pointer (some ⟨b1, 8, none⟩)), (144, .int .i64 (Pc.hi p)), (145, .pointer (some ⟨b2, 8, none⟩)), (146, .pointer (some ⟨b1, 1, none⟩)), (147, str (Pc.a p)), (148, .pointer (some ⟨b1, 0, none⟩)), (149, .int .i64 (Pc.kind p)), (150, .bool false), (154, .pointer (some ⟨b1, 3, none⟩)), (155, str (Pc.c p)), (156, .pointer (some ⟨b2, 3, none⟩)), (157, .pointer (some ⟨b1, 3, none⟩)), (158, str (Pc.c p)), (178, .bool r)]) ?_ fun r19 hr19 => ?_
               ·
                cases r17
                ·
                 have qr19 := hr17
                 simp at hr17
                 refine ops_no rfl rfl rfl rfl ?_
                 refine ops_no rfl rfl rfl rfl ?_
                 refine ops_no rfl rfl rfl rfl ?_
                 refine ops_val (yld_pick_f rfl rfl) rfl ?_
                 refine ops_nil ?_
                 refine fin_inv rfl ?_
                 exact met ⟨rfl, rfl, rfl, rfl, rfl, rfl, rfl, rfl, rfl, rfl, rfl, rfl, rfl, rfl, rfl, rfl, rfl, rfl, rfl, rfl, rfl, rfl, rfl, rfl, rfl, rfl, rfl, rfl, rfl, rfl, rfl, rfl, rfl, rfl, rfl, rfl, rfl, rfl, rfl, rfl, rfl, rfl, rfl, rfl, rfl, rfl, rfl, rfl, (get_bool rfl (jaf qr19)), trivial⟩
                ·
                 have qr19 := hr17
                 simp at hr17
                 refine ops_yes rfl rfl ?_
                 refine ops_val (yld_field Tryz.runUnderlying31 rfl rfl rfl Tryz.sizeOf3) rfl ?_
                 refine ops_yes rfl rfl ?_
                 refine ops_val (yld_load 1 Tryz.isAgg3 rfl rfl rfl) rfl ?_
                 refine ops_yes rfl rfl ?_
                 refine ops_valB (yld_geq rfl rfl) rfl fun r20 hr20 => ?_
                 refine ops_val (yld_pick_t rfl rfl) rfl ?_
                 refine ops_nil ?_
                 refine fin_inv rfl ?_
                 exact met ⟨rfl, rfl, rfl, rfl, rfl, rfl, rfl, rfl, rfl, rfl, rfl, rfl, rfl, rfl, rfl, rfl, rfl, rfl, rfl, rfl, rfl, rfl, rfl, rfl, rfl, rfl, rfl, rfl, rfl, rfl, rfl, rfl, rfl, rfl, rfl, rfl, rfl, rfl, rfl, rfl, rfl, rfl, rfl, rfl, rfl, rfl, rfl, rfl, (get_bool rfl (jat qr19 hr20)), trivial⟩
               ·
                refine ops_val (yld_move rfl) rfl ?_
                refine ops_cut 4 ((((((((atomS (Pc.c p)) && (personS (Pc.r p)))) && (decide ((Pc.lo p) ≤ (Pc.hi p))))) && (decide ((-1099511627776) ≤ (Pc.lo p))))) && (decide ((Pc.hi p) ≤ 1099511627776))) (fun r => [(0, Pc.val p), (1, .pointer (some ⟨b1, 0, none⟩)), (2, .bool false), (13, .bool false), (14, .pointer (some ⟨b1, 0, none⟩)), (15, .int .i64 (Pc.kind p)), (16, .pointer (some ⟨b1, 9, none⟩)), (17, .int .i64 (Pc.frm p)), (18, Pc.val (Pc.mk (Pc.kind p) [] [] [] [] [] [] 0 0 (Pc.frm p))), (3, .pointer (some ⟨b2, 0, none⟩)), (4, .bool false), (19, .pointer (some ⟨b1, 0, none⟩)), (20, .int .i64 (Pc.kind p)), (22, .bool false), (21, .bool false), (38, .bool false), (37, .bool false), (62, .bool false), (61, .bool false), (63, .bool false), (87, .bool false), (86, .bool false), (103, .bool false), (102, .bool false), (127, .bool false), (126, .bool false), (135, .bool false), (134, .bool true), (136, .bool true), (137, .pointer (some ⟨b1, 4, none⟩)), (138, str (Pc.r p)), (139, .pointer (some ⟨b2, 4, none⟩)), (140, .pointer (some ⟨b1, 7, none⟩)), (141, .int .i64 (Pc.lo p)), (142, .pointer (some ⟨b2, 7, none⟩)), (143, .pointer (some ⟨b1, 8, none⟩)), (144, .int .i64 (Pc.hi p)), (145, .pointer (some ⟨b2, 8, none⟩)), (146, .pointer (some ⟨b1, 1, none⟩)), (147, str (Pc.a p)), (148, .pointer (some ⟨b1, 0, none⟩)), (149, .int .i64 (Pc.kind p)), (150, .bool false), (154, .pointer (some ⟨b1, 3, none⟩)), (155, str (Pc.c p)), (156, .pointer (some ⟨b2, 3, none⟩)), (157, .pointer (some ⟨b1, 3, none⟩)), (158, str (Pc.c p)), (183, .bool r)]) ?_ fun r21 hr21 => ?_
                ·
                 cases r19
                 ·
                  have qr21 := hr19
                  simp at hr19
                  refine ops_no rfl rfl rfl rfl ?_
                  refine ops_no rfl rfl rfl rfl ?_
                  refine ops_no rfl rfl rfl rfl ?_
                  refine ops_val (yld_pick_f rfl rfl) rfl ?_
                  refine ops_nil ?_
                  refine fin_inv rfl ?_
                  exact met ⟨rfl, rfl, rfl, rfl, rfl, rfl, rfl, rfl, rfl, rfl, rfl, rfl, rfl, rfl, rfl, rfl, rfl, rfl, rfl, rfl, rfl, rfl, rfl, rfl, rfl, rfl, rfl, rfl, rfl, rfl, rfl, rfl, rfl, rfl, rfl, rfl, rfl, rfl, rfl, rfl, rfl, rfl, rfl, rfl, rfl, rfl, rfl, rfl, (get_bool rfl (jaf qr21)), trivial⟩
                 ·
                  have qr21 := hr19
                  simp at hr19
                  refine ops_yes rfl rfl ?_
                  refine ops_val (yld_field Tryz.runUnderlying31 rfl rfl rfl Tryz.sizeOf3) rfl ?_
                  refine ops_yes rfl rfl ?_
                  refine ops_val (yld_load 1 Tryz.isAgg3 rfl rfl rfl) rfl ?_
                  refine ops_yes rfl rfl ?_
                  refine ops_valB (yld_leq rfl rfl) rfl fun r22 hr22 => ?_
                  refine ops_val (yld_pick_t rfl rfl) rfl ?_
                  refine ops_nil ?_
                  refine fin_inv rfl ?_
                  exact met ⟨rfl, rfl, rfl, rfl, rfl, rfl, rfl, rfl, rfl, rfl, rfl, rfl, rfl, rfl, rfl, rfl, rfl, rfl, rfl, rfl, rfl, rfl, rfl, rfl, rfl, rfl, rfl, rfl, rfl, rfl, rfl, rfl, rfl, rfl, rfl, rfl, rfl, rfl, rfl, rfl, rfl, rfl, rfl, rfl, rfl, rfl, rfl, rfl, (get_bool rfl (jat qr21 hr22)), trivial⟩
                ·
                 refine ops_val (yld_assign rfl) rfl ?_
                 refine ops_nil ?_
                 refine fin_next rfl ?_
                 refine run_seq ?_
                 refine run_region ?_
                 refine ops_val (yld_move rfl) rfl ?_
                 refine ops_val (yld_move rfl) rfl ?_
                 refine ops_cut 4 ((((((((((atomS (Pc.c p)) && (personS (Pc.r p)))) && (decide ((Pc.lo p) ≤ (Pc.hi p))))) && (decide ((-1099511627776) ≤ (Pc.lo p))))) && (decide ((Pc.hi p) ≤ 1099511627776)))) && (decide (p = (Pc.mk (Pc.kind p) [] [] (Pc.c p) (Pc.r p) [] [] (Pc.lo p) (Pc.hi p) (Pc.frm p))))) (fun r => [(0, Pc.val p), (1, .pointer (some ⟨b1, 0, none⟩)), (2, .bool false), (13, .bool false), (14, .pointer (some ⟨b1, 0, none⟩)), (15, .int .i64 (Pc.kind p)), (16, .pointer (some ⟨b1, 9, none⟩)), (17, .int .i64 (Pc.frm p)), (18, Pc.val (Pc.mk (Pc.kind p) [] [] [] [] [] [] 0 0 (Pc.frm p))), (3, .pointer (some ⟨b2, 0, none⟩)), (19, .pointer (some ⟨b1, 0, none⟩)), (20, .int .i64 (Pc.kind p)), (22, .bool false), (21, .bool false), (38, .bool false), (37, .bool false), (62, .bool false), (61, .bool false), (63, .bool false), (87, .bool false), (86, .bool false), (103, .bool false), (102, .bool false), (127, .bool false), (126, .bool false), (135, .bool false), (134, .bool true), (136, .bool true), (137, .pointer (some ⟨b1, 4, none⟩)), (138, str (Pc.r p)), (139, .pointer (some ⟨b2, 4, none⟩)), (140, .pointer (some ⟨b1, 7, none⟩)), (141, .int .i64 (Pc.lo p)), (142, .pointer (some ⟨b2, 7, none⟩)), (143, .pointer (some ⟨b1, 8, none⟩)), (144, .int .i64 (Pc.hi p)), (145, .pointer (some ⟨b2, 8, none⟩)), (146, .pointer (some ⟨b1, 1, none⟩)), (147, str (Pc.a p)), (148, .pointer (some ⟨b1, 0, none⟩)), (149, .int .i64 (Pc.kind p)), (150, .bool false), (154, .pointer (some ⟨b1, 3, none⟩)), (155, str (Pc.c p)), (156, .pointer (some ⟨b2, 3, none⟩)), (157, .pointer (some ⟨b1, 3, none⟩)), (158, str (Pc.c p)), (183, .bool r21), (189, .bool r)]) ?_ fun r23 hr23 => ?_
                 ·
                  cases r21
                  ·
                   have qr23 := hr21
                   simp at hr21
                   refine ops_no rfl rfl rfl rfl ?_
                   refine ops_no rfl rfl rfl rfl ?_
                   refine ops_no rfl rfl rfl rfl ?_
                   refine ops_val (yld_pick_f rfl rfl) rfl ?_
                   refine ops_nil ?_
                   refine fin_inv rfl ?_
                   exact met ⟨rfl, rfl, rfl, rfl, rfl, rfl, rfl, rfl, rfl, rfl, rfl, rfl, rfl, rfl, rfl, rfl, rfl, rfl, rfl, rfl, rfl, rfl, rfl, rfl, rfl, rfl, rfl, rfl, rfl, rfl, rfl, rfl, rfl, rfl, rfl, rfl, rfl, rfl, rfl, rfl, rfl, rfl, rfl, rfl, rfl, rfl, rfl, rfl, (get_bool rfl (jaf qr23)), trivial⟩
                  ·
                   have qr23 := hr21
                   simp at hr21
                   refine ops_yes rfl rfl ?_
                   refine ops_val (yld_loadS 1 Tryz.isAgg31 Tryz.sizeOf31 rfl rfl rfl) rfl ?_
                   refine ops_yes rfl rfl ?_
                   refine ops_val (yld_loadS 0 Tryz.isAgg31 Tryz.sizeOf31 rfl rfl rfl) rfl ?_
                   refine ops_yes rfl rfl ?_
                   refine ops_valB (yld_eqlPc (p := p) (q := (Pc.mk (Pc.kind p) [] [] (Pc.c p) (Pc.r p) [] [] (Pc.lo p) (Pc.hi p) (Pc.frm p))) rfl rfl) rfl fun r24 hr24 => ?_
                   refine ops_val (yld_pick_t rfl rfl) rfl ?_
                   refine ops_nil ?_
                   refine fin_inv rfl ?_
                   exact met ⟨rfl, rfl, rfl, rfl, rfl, rfl, rfl, rfl, rfl, rfl, rfl, rfl, rfl, rfl, rfl, rfl, rfl, rfl, rfl, rfl, rfl, rfl, rfl, rfl, rfl, rfl, rfl, rfl, rfl, rfl, rfl, rfl, rfl, rfl, rfl, rfl, rfl, rfl, rfl, rfl, rfl, rfl, rfl, rfl, rfl, rfl, rfl, rfl, (get_bool rfl (jat qr23 hr24)), trivial⟩
                 ·
                  refine ops_val (yld_assign rfl) rfl ?_
                  refine ops_nil ?_
                  refine fin_next rfl ?_
                  refine run_ret ?_
                  exact ret1 Tryz.results67 () (get_bool rfl (by rw [← hr23]; obtain ⟨kind, a, b, c, r, s, t, lo, hi, frm⟩ := p; dsimp only at *; subst kind; rw [Bool.eq_iff_iff, vp_gen 9 ⟨false, false, true, true, false, false, true⟩ rfl (by omega)]; simp only [fld_t, fld_f, Bool.and_eq_true, decide_eq_true_eq, Pc.mk.injEq, if_true, Bool.false_eq_true, if_false]; constructor <;> intro h <;> simp_all <;> omega)) pf_nil (fun _ _ _ => trivial)
            ·
             replace hr13 := eq_of_beq hr13
             exfalso; omega
          ·
           replace hr11 := eq_of_beq hr11
           refine run_cond_t rfl ?_
           refine run_skip ?_
           refine fin_next rfl ?_
           refine run_cond_t rfl ?_
           refine run_seq ?_
           refine run_region ?_
           refine ops_val (yld_field Tryz.runUnderlying31 rfl rfl rfl Tryz.sizeOf9) rfl ?_
           refine ops_val (yld_load 1 Tryz.isAgg9 rfl rfl rfl) rfl ?_
           refine ops_val (yld_field Tryz.runUnderlying31 rfl rfl rfl Tryz.sizeOf9) rfl ?_
           refine ops_store 0 Tryz.sizeOf9 rfl rfl rfl rfl rfl rfl ?_
           refine ops_nil ?_
           refine fin_next rfl ?_
           refine run_seq ?_
           refine run_region ?_
           refine ops_val (yld_field Tryz.runUnderlying31 rfl rfl rfl Tryz.sizeOf3) rfl ?_
           refine ops_val (yld_load 1 Tryz.isAgg3 rfl rfl rfl) rfl ?_
           refine ops_val (yld_field Tryz.runUnderlying31 rfl rfl rfl Tryz.sizeOf3) rfl ?_
           refine ops_store 0 Tryz.sizeOf3 rfl rfl rfl rfl rfl rfl ?_
           refine ops_nil ?_
           refine fin_next rfl ?_
           refine run_seq ?_
           refine run_region ?_
           refine ops_val (yld_field Tryz.runUnderlying31 rfl rfl rfl Tryz.sizeOf3) rfl ?_
           refine ops_val (yld_load 1 Tryz.isAgg3 rfl rfl rfl) rfl ?_
           refine ops_val (yld_field Tryz.runUnderlying31 rfl rfl rfl Tryz.sizeOf3) rfl ?_
           refine ops_store 0 Tryz.sizeOf3 rfl rfl rfl rfl rfl rfl ?_
           refine ops_nil ?_
           refine fin_next rfl ?_
           refine run_seq ?_
           refine run_region ?_
           refine ops_val (yld_field Tryz.runUnderlying31 rfl rfl rfl Tryz.sizeOf9) rfl ?_
           refine ops_val (yld_load 1 Tryz.isAgg9 rfl rfl rfl) rfl ?_
           refine ops_val (yld_assign rfl) rfl ?_
           refine ops_nil ?_
           refine fin_next rfl ?_
           refine run_seq ?_
           refine run_seq ?_
           refine run_region ?_
           refine ops_val (yld_field Tryz.runUnderlying31 rfl rfl rfl Tryz.sizeOf3) rfl ?_
           refine ops_val (yld_load 1 Tryz.isAgg3 rfl rfl rfl) rfl ?_
           refine ops_valB (yld_eql rfl rfl) rfl fun r25 hr25 => ?_
           refine ops_nil ?_
           refine fin_next rfl ?_
           cases r25
           ·
            replace hr25 := ne_of_beq_false hr25
            exfalso; omega
           ·
            replace hr25 := eq_of_beq hr25
            refine run_cond_t rfl ?_
            refine run_region ?_
            refine ops_val (yld_field Tryz.runUnderlying31 rfl rfl rfl Tryz.sizeOf9) rfl ?_
            refine ops_val (yld_load 1 Tryz.isAgg9 rfl rfl rfl) rfl ?_
            refine ops_val (yld_field Tryz.runUnderlying31 rfl rfl rfl Tryz.sizeOf9) rfl ?_
            refine ops_store 0 Tryz.sizeOf9 rfl rfl rfl rfl rfl rfl ?_
            refine ops_nil ?_
            refine fin_next rfl ?_
            refine run_region ?_
            refine ops_val (yld_move rfl) rfl ?_
            refine ops_callB (rAtom_c _ (by omega)) rfl pf_nil (fun _ _ _ => by exact trivial) rfl fun r26 hr26 => ?_
            refine ops_val (yld_move rfl) rfl ?_
            refine ops_cut 5 ((atomS (Pc.a p)) && (personS (Pc.r p))) (fun r => [(0, Pc.val p), (1, .pointer (some ⟨b1, 0, none⟩)), (2, .bool false), (13, .bool false), (14, .pointer (some ⟨b1, 0, none⟩)), (15, .int .i64 (Pc.kind p)), (16, .pointer (some ⟨b1, 9, none⟩)), (17, .int .i64 (Pc.frm p)), (18, Pc.val (Pc.mk (Pc.kind p) [] [] [] [] [] [] 0 0 (Pc.frm p))), (3, .pointer (some ⟨b2, 0, none⟩)), (4, .bool false), (19, .pointer (some ⟨b1, 0, none⟩)), (20, .int .i64 (Pc.kind p)), (22, .bool false), (21, .bool false), (38, .bool false), (37, .bool false), (62, .bool false), (61, .bool false), (63, .bool false), (87, .bool false), (86, .bool false), (103, .bool false), (102, .bool false), (127, .bool false), (126, .bool false), (135, .bool true), (134, .bool true), (137, .pointer (some ⟨b1, 4, none⟩)), (138, str (Pc.r p)), (139, .pointer (some ⟨b2, 4, none⟩)), (140, .pointer (some ⟨b1, 7, none⟩)), (141, .int .i64 (Pc.lo p)), (142, .pointer (some ⟨b2, 7, none⟩)), (143, .pointer (some ⟨b1, 8, none⟩)), (144, .int .i64 (Pc.hi p)), (145, .pointer (some ⟨b2, 8, none⟩)), (146, .pointer (some ⟨b1, 1, none⟩)), (147, str (Pc.a p)), (148, .pointer (some ⟨b1, 0, none⟩)), (149, .int .i64 (Pc.kind p)), (150, .bool true), (151, .pointer (some ⟨b1, 1, none⟩)), (152, str (Pc.a p)), (153, .pointer (some ⟨b2, 1, none⟩)), (166, .bool r)]) ?_ fun r27 hr27 => ?_
            ·
             cases r26
             ·
              have qr27 := hr26
              refine ops_no rfl rfl rfl rfl ?_
              refine ops_no rfl rfl rfl rfl ?_
              refine ops_no rfl rfl rfl rfl ?_
              refine ops_no rfl rfl rfl rfl ?_
              refine ops_val (yld_pick_f rfl rfl) rfl ?_
              refine ops_nil ?_
              refine fin_inv rfl ?_
              exact met ⟨rfl, rfl, rfl, rfl, rfl, rfl, rfl, rfl, rfl, rfl, rfl, rfl, rfl, rfl, rfl, rfl, rfl, rfl, rfl, rfl, rfl, rfl, rfl, rfl, rfl, rfl, rfl, rfl, rfl, rfl, rfl, rfl, rfl, rfl, rfl, rfl, rfl, rfl, rfl, rfl, rfl, rfl, rfl, rfl, rfl, (get_bool rfl (jaf qr27)), trivial⟩
             ·
              have qr27 := hr26
              refine ops_yes rfl rfl ?_
              refine ops_val (yld_field Tryz.runUnderlying31 rfl rfl rfl Tryz.sizeOf9) rfl ?_
              refine ops_yes rfl rfl ?_
              refine ops_val (yld_load 1 Tryz.isAgg9 rfl rfl rfl) rfl ?_
              refine ops_yes rfl rfl ?_
              refine ops_call (rCheckName_c _) rfl pf_nil (fun _ _ _ => by exact trivial) rfl fun _ => ?_
              refine ops_yes rfl rfl ?_
              refine ops_valB (yld_eq (yld_eql rfl rfl) (congrArg Value.bool (pn_eq _))) rfl fun r28 hr28 => ?_
              refine ops_val (yld_pick_t rfl rfl) rfl ?_
              refine ops_nil ?_
              refine fin_inv rfl ?_
              exact met ⟨rfl, rfl, rfl, rfl, rfl, rfl, rfl, rfl, rfl, rfl, rfl, rfl, rfl, rfl, rfl, rfl, rfl, rfl, rfl, rfl, rfl, rfl, rfl, rfl, rfl, rfl, rfl, rfl, rfl, rfl, rfl, rfl, rfl, rfl, rfl, rfl, rfl, rfl, rfl, rfl, rfl, rfl, rfl, rfl, rfl, (get_bool rfl (jat qr27 hr28)), trivial⟩
            ·
             refine ops_val (yld_move rfl) rfl ?_
             refine ops_cut 6 ((((atomS (Pc.a p)) && (personS (Pc.r p)))) && (decide ((Pc.lo p) ≤ (Pc.hi p)))) (fun r => [(0, Pc.val p), (1, .pointer (some ⟨b1, 0, none⟩)), (2, .bool false), (13, .bool false), (14, .pointer (some ⟨b1, 0, none⟩)), (15, .int .i64 (Pc.kind p)), (16, .pointer (some ⟨b1, 9, none⟩)), (17, .int .i64 (Pc.frm p)), (18, Pc.val (Pc.mk (Pc.kind p) [] [] [] [] [] [] 0 0 (Pc.frm p))), (3, .pointer (some ⟨b2, 0, none⟩)), (4, .bool false), (19, .pointer (some ⟨b1, 0, none⟩)), (20, .int .i64 (Pc.kind p)), (22, .bool false), (21, .bool false), (38, .bool false), (37, .bool false), (62, .bool false), (61, .bool false), (63, .bool false), (87, .bool false), (86, .bool false), (103, .bool false), (102, .bool false), (127, .bool false), (126, .bool false), (135, .bool true), (134, .bool true), (137, .pointer (some ⟨b1, 4, none⟩)), (138, str (Pc.r p)), (139, .pointer (some ⟨b2, 4, none⟩)), (140, .pointer (some ⟨b1, 7, none⟩)), (141, .int .i64 (Pc.lo p)), (142, .pointer (some ⟨b2, 7, none⟩)), (143, .pointer (some ⟨b1, 8, none⟩)), (144, .int .i64 (Pc.hi p)), (145, .pointer (some ⟨b2, 8, none⟩)), (146, .pointer (some ⟨b1, 1, none⟩)), (147, str (Pc.a p)), (148, .pointer (some ⟨b1, 0, none⟩)), (149, .int .i64 (Pc.kind p)), (150, .bool true), (151, .pointer (some ⟨b1, 1, none⟩)), (152, str (Pc.a p)), (153, .pointer (some ⟨b2, 1, none⟩)), (173, .bool r)]) ?_ fun r29 hr29 => ?_
             ·
              cases r27
              ·
               have qr29 := hr27
               simp at hr27
               refine ops_no rfl rfl rfl rfl ?_
               refine ops_no rfl rfl rfl rfl ?_
               refine ops_no rfl rfl rfl rfl ?_
               refine ops_no rfl rfl rfl rfl ?_
               refine ops_no rfl rfl rfl rfl ?_
               refine ops_val (yld_pick_f rfl rfl) rfl ?_
               refine ops_nil ?_
               refine fin_inv rfl ?_
               exact met ⟨rfl, rfl, rfl, rfl, rfl, rfl, rfl, rfl, rfl, rfl, rfl, rfl, rfl, rfl, rfl, rfl, rfl, rfl, rfl, rfl, rfl, rfl, rfl, rfl, rfl, rfl, rfl, rfl, rfl, rfl, rfl, rfl, rfl, rfl, rfl, rfl, rfl, rfl, rfl, rfl, rfl, rfl, rfl, rfl, rfl, (get_bool rfl (jaf qr29)), trivial⟩
              ·
               have qr29 := hr27
               simp at hr27
               refine ops_yes rfl rfl ?_
               refine ops_val (yld_field Tryz.runUnderlying31 rfl rfl rfl Tryz.sizeOf3) rfl ?_
               refine ops_yes rfl rfl ?_
               refine ops_val (yld_load 1 Tryz.isAgg3 rfl rfl rfl) rfl ?_
               refine ops_yes rfl rfl ?_
               refine ops_val (yld_field Tryz.runUnderlying31 rfl rfl rfl Tryz.sizeOf3) rfl ?_
               refine ops_yes rfl rfl ?_
               refine ops_val (yld_load 1 Tryz.isAgg3 rfl rfl rfl) rfl ?_
               refine ops_yes rfl rfl ?_
               refine ops_valB (yld_leq rfl rfl) rfl fun r30 hr30 => ?_
               refine ops_val (yld_pick_t rfl rfl) rfl ?_
               refine ops_nil ?_
               refine fin_inv rfl ?_
               exact met ⟨rfl, rfl, rfl, rfl, rfl, rfl, rfl, rfl, rfl, rfl, rfl, rfl, rfl, rfl, rfl, rfl, rfl, rfl, rfl, rfl, rfl, rfl, rfl, rfl, rfl, rfl, rfl, rfl, rfl, rfl, rfl, rfl, rfl, rfl, rfl, rfl, rfl, rfl, rfl, rfl, rfl, rfl, rfl, rfl, rfl, (get_bool rfl (jat qr29 hr30)), trivial⟩
             ·
              refine ops_val (yld_move rfl) rfl ?_
              refine ops_cut 4 ((((((atomS (Pc.a p)) && (personS (Pc.r p)))) && (decide ((Pc.lo p) ≤ (Pc.hi p))))) && (decide ((-1099511627776) ≤ (Pc.lo p)))) (fun r => [(0, Pc.val p), (1, .pointer (some ⟨b1, 0, none⟩)), (2, .bool false), (13, .bool false), (14, .pointer (some ⟨b1, 0, none⟩)), (15, .int .i64 (Pc.kind p)), (16, .pointer (some ⟨b1, 9, none⟩)), (17, .int .i64 (Pc.frm p)), (18, Pc.val (Pc.mk (Pc.kind p) [] [] [] [] [] [] 0 0 (Pc.frm p))), (3, .pointer (some ⟨b2, 0, none⟩)), (4, .bool false), (19, .pointer (some ⟨b1, 0, none⟩)), (20, .int .i64 (Pc.kind p)), (22, .bool false), (21, .bool false), (38, .bool false), (37, .bool false), (62, .bool false), (61, .bool false), (63, .bool false), (87, .bool false), (86, .bool false), (103, .bool false), (102, .bool false), (127, .bool false), (126, .bool false), (135, .bool true), (134, .bool true), (137, .pointer (some ⟨b1, 4, none⟩)), (138, str (Pc.r p)), (139, .pointer (some ⟨b2, 4, none⟩)), (140, .pointer (some ⟨b1, 7, none⟩)), (141, .int .i64 (Pc.lo p)), (142, .pointer (some ⟨b2, 7, none⟩)), (143, .pointer (some ⟨b1, 8, none⟩)), (144, .int .i64 (Pc.hi p)), (145, .pointer (some ⟨b2, 8, none⟩)), (146, .pointer (some ⟨b1, 1, none⟩)), (147, str (Pc.a p)), (148, .pointer (some ⟨b1, 0, none⟩)), (149, .int .i64 (Pc.kind p)), (150, .bool true), (151, .pointer (some ⟨b1, 1, none⟩)), (152, str (Pc.a p)), (153, .pointer (some ⟨b2, 1, none⟩)), (178, .bool r)]) ?_ fun r31 hr31 => ?_
              ·
               cases r29
               ·
                have qr31 := hr29
                simp at hr29
                refine ops_no rfl rfl rfl rfl ?_
                refine ops_no rfl rfl rfl rfl ?_
                refine ops_no rfl rfl rfl rfl ?_
                refine ops_val (yld_pick_f rfl rfl) rfl ?_
                refine ops_nil ?_
                refine fin_inv rfl ?_
                exact met ⟨rfl, rfl, rfl, rfl, rfl, rfl, rfl, rfl, rfl, rfl, rfl, rfl, rfl, rfl, rfl, rfl, rfl, rfl, rfl, rfl, rfl, rfl, rfl, rfl, rfl, rfl, rfl, rfl, rfl, rfl, rfl, rfl, rfl, rfl, rfl, rfl, rfl, rfl, rfl, rfl, rfl, rfl, rfl, rfl, rfl, (get_bool rfl (jaf qr31)), trivial⟩
               ·
                have qr31 := hr29
                simp at hr29
                refine ops_yes rfl rfl ?_
                refine ops_val (yld_field Tryz.runUnderlying31 rfl rfl rfl Tryz.sizeOf3) rfl ?_
                refine ops_yes rfl rfl ?_
                refine ops_val (yld_load 1 Tryz.isAgg3 rfl rfl rfl) rfl ?_
                refine ops_yes rfl rfl ?_
                refine ops_valB (yld_geq rfl rfl) rfl fun r32 hr32 => ?_
                refine ops_val (yld_pick_t rfl rfl) rfl ?_
                refine ops_nil ?_
                refine fin_inv rfl ?_
                exact met ⟨rfl, rfl, rfl, rfl, rfl, rfl, rfl, rfl, rfl, rfl, rfl, rfl, rfl, rfl, rfl, rfl, rfl, rfl, rfl, rfl, rfl, rfl, rfl, rfl, rfl, rfl, rfl, rfl, rfl, rfl, rfl, rfl, rfl, rfl, rfl, rfl, rfl, rfl, rfl, rfl, rfl, rfl, rfl, rfl, rfl, (get_bool rfl (jat qr31 hr32)), trivial⟩
              ·
               refine ops_val (yld_move rfl) rfl ?_
               refine ops_cut 4 ((((((((atomS (Pc.a p)) && (personS (Pc.r p)))) && (decide ((Pc.lo p) ≤ (Pc.hi p))))) && (decide ((-1099511627776) ≤ (Pc.lo p))))) && (decide ((Pc.hi p) ≤ 1099511627776))) (fun r => [(0, Pc.val p), (1, .pointer (some ⟨b1, 0, none⟩)), (2, .bool false), (13, .bool false), (14, .pointer (some ⟨b1, 0, none⟩)), (15, .int .i64 (Pc.kind p)), (16, .pointer (some ⟨b1, 9, none⟩)), (17, .int .i64 (Pc.frm p)), (18, Pc.val (Pc.mk (Pc.kind p) [] [] [] [] [] [] 0 0 (Pc.frm p))), (3, .pointer (some ⟨b2, 0, none⟩)), (4, .bool false), (19, .pointer (some ⟨b1, 0, none⟩)), (20, .int .i64 (Pc.kind p)), (22, .bool false), (21, .bool false), (38, .bool false), (37, .bool false), (62, .bool false), (61, .bool false), (63, .bool false), (87, .bool false), (86, .bool false), (103, .bool false), (102, .bool false), (127, .bool false), (126, .bool false), (135, .bool true), (134, .bool true), (137, .pointer (some ⟨b1, 4, none⟩)), (138, str (Pc.r p)), (139, .pointer (some ⟨b2, 4, none⟩)), (140, .pointer (some ⟨b1, 7, none⟩)), (141, .int .i64 (Pc.lo p)), (142, .pointer (some ⟨b2, 7, none⟩)), (143, .pointer (some ⟨b1, 8, none⟩)), (144, .int .i64 (Pc.hi p)), (145, .pointer (some ⟨b2, 8, none⟩)), (146, .pointer (some ⟨b1, 1, none⟩)), (147, str (Pc.a p)), (148, .pointer (some ⟨b1, 0, none⟩)), (149, .int .i64 (Pc.kind p)), (150, .bool true), (151, .pointer (some ⟨b1, 1, none⟩)), (152, str (Pc.a p)), (153, .pointer (some ⟨b2, 1, none⟩)), (183, .bool r)]) ?_ fun r33 hr33 => ?_
               ·
                cases r31
                ·
                 have qr33 := hr31
                 simp at hr31
                 refine ops_no rfl rfl rfl rfl ?_
                 refine ops_no rfl rfl rfl rfl ?_
                 refine ops_no rfl rfl rfl rfl ?_
                 refine ops_val (yld_pick_f rfl rfl) rfl ?_
                 refine ops_nil ?_
                 refine fin_inv rfl ?_
                 exact met ⟨rfl, rfl, rfl, rfl, rfl, rfl, rfl, rfl, rfl, rfl, rfl, rfl, rfl, rfl, rfl, rfl, rfl, rfl, rfl, rfl, rfl, rfl, rfl, rfl, rfl, rfl, rfl, rfl, rfl, rfl, rfl, rfl, rfl, rfl, rfl, rfl, rfl, rfl, rfl, rfl, rfl, rfl, rfl, rfl, rfl, (get_bool rfl (jaf qr33)), trivial⟩
                ·
                 have qr33 := hr31
                 simp at hr31
                 refine ops_yes rfl rfl ?_
                 refine ops_val (yld_field Tryz.runUnderlying31 rfl rfl rfl Tryz.sizeOf3) rfl ?_
                 refine ops_yes rfl rfl ?_
                 refine ops_val (yld_load 1 Tryz.isAgg3 rfl rfl rfl) rfl ?_
                 refine ops_yes rfl rfl ?_
                 refine ops_valB (yld_leq rfl rfl) rfl fun r34 hr34 => ?_
                 refine ops_val (yld_pick_t rfl rfl) rfl ?_
                 refine ops_nil ?_
                 refine fin_inv rfl ?_
                 exact met ⟨rfl, rfl, rfl, rfl, rfl, rfl, rfl, rfl, rfl, rfl, rfl, rfl, rfl, rfl, rfl, rfl, rfl, rfl, rfl, rfl, rfl, rfl, rfl, rfl, rfl, rfl, rfl, rfl, rfl, rfl, rfl, rfl, rfl, rfl, rfl, rfl, rfl, rfl, rfl, rfl, rfl, rfl, rfl, rfl, rfl, (get_bool rfl (jat qr33 hr34)), trivial⟩
               ·
                refine ops_val (yld_assign rfl) rfl ?_
                refine ops_nil ?_
                refine fin_next rfl ?_
                refine run_seq ?_
                refine run_region ?_
                refine ops_val (yld_move rfl) rfl ?_
                refine ops_val (yld_move rfl) rfl ?_
                refine ops_cut 4 ((((((((((atomS (Pc.a p)) && (personS (Pc.r p)))) && (decide ((Pc.lo p) ≤ (Pc.hi p))))) && (decide ((-1099511627776) ≤ (Pc.lo p))))) && (decide ((Pc.hi p) ≤ 1099511627776)))) && (decide (p = (Pc.mk (Pc.kind p) (Pc.a p) [] [] (Pc.r p) [] [] (Pc.lo p) (Pc.hi p) (Pc.frm p))))) (fun r => [(0, Pc.val p), (1, .pointer (some ⟨b1, 0, none⟩)), (2, .bool false), (13, .bool false), (14, .pointer (some ⟨b1, 0, none⟩)), (15, .int .i64 (Pc.kind p)), (16, .pointer (some ⟨b1, 9, none⟩)), (17, .int .i64 (Pc.frm p)), (18, Pc.val (Pc.mk (Pc.kind p) [] [] [] [] [] [] 0 0 (Pc.frm p))), (3, .pointer (some ⟨b2, 0, none⟩)), (19, .pointer (some ⟨b1, 0, none⟩)), (20, .int .i64 (Pc.kind p)), (22, .bool false), (21, .bool false), (38, .bool false), (37, .bool false), (62, .bool false), (61, .bool false), (63, .bool false), (87, .bool false), (86, .bool false), (103, .bool false), (102, .bool false), (127, .bool false), (126, .bool false), (135, .bool true), (134, .bool true), (137, .pointer (some ⟨b1, 4, none⟩)), (138, str (Pc.r p)), (139, .pointer (some ⟨b2, 4, none⟩)), (140, .pointer (some ⟨b1, 7, none⟩)), (141, .int .i64 (Pc.lo p)), (142, .pointer (some ⟨b2, 7, none⟩)), (143, .pointer (some ⟨b1, 8, none⟩)), (144, .int .i64 (Pc.hi p)), (145, .pointer (some ⟨b2, 8, none⟩)), (146, .pointer (some ⟨b1, 1, none⟩)), (147, str (Pc.a p)), (148, .pointer (some ⟨b1, 0, none⟩)), (149, .int .i64 (Pc.kind p)), (150, .bool true), (151, .pointer (some ⟨b1, 1, none⟩)), (152, str (Pc.a p)), (153, .pointer (some ⟨b2, 1, none⟩)), (183, .bool r33), (189, .bool r)]) ?_ fun r35 hr35 => ?_
                ·
                 cases r33
                 ·
                  have qr35 := hr33
                  simp at hr33
                  refine ops_no rfl rfl rfl rfl ?_
                  refine ops_no rfl rfl rfl rfl ?_
                  refine ops_no rfl rfl rfl rfl ?_
                  refine ops_val (yld_pick_f rfl rfl) rfl ?_
                  refine ops_nil ?_
                  refine fin_inv rfl ?_
                  exact met ⟨rfl, rfl, rfl, rfl, rfl, rfl, rfl, rfl, rfl, rfl, rfl, rfl, rfl, rfl, rfl, rfl, rfl, rfl, rfl, rfl, rfl, rfl, rfl, rfl, rfl, rfl, rfl, rfl, rfl, rfl, rfl, rfl, rfl, rfl, rfl, rfl, rfl, rfl, rfl, rfl, rfl, rfl, rfl, rfl, rfl, (get_bool rfl (jaf qr35)), trivial⟩
                 ·
                  have qr35 := hr33
                  simp at hr33
                  refine ops_yes rfl rfl ?_
                  refine ops_val (yld_loadS 1 Tryz.isAgg31 Tryz.sizeOf31 rfl rfl rfl) rfl ?_
                  refine ops_yes rfl rfl ?_
                  refine ops_val (yld_loadS 0 Tryz.isAgg31 Tryz.sizeOf31 rfl rfl rfl) rfl ?_
                  refine ops_yes rfl rfl ?_
                  refine ops_valB (yld_eqlPc (p := p) (q := (Pc.mk (Pc.kind p) (Pc.a p) [] [] (Pc.r p) [] [] (Pc.lo p) (Pc.hi p) (Pc.frm p))) rfl rfl) rfl fun r36 hr36 => ?_
                  refine ops_val (yld_pick_t rfl rfl) rfl ?_
                  refine ops_nil ?_
                  refine fin_inv rfl ?_
                  exact met ⟨rfl, rfl, rfl, rfl, rfl, rfl, rfl, rfl, rfl, rfl, rfl, rfl, rfl, rfl, rfl, rfl, rfl, rfl, rfl, rfl, rfl, rfl, rfl, rfl, rfl, rfl, rfl, rfl, rfl, rfl, rfl, rfl, rfl, rfl, rfl, rfl, rfl, rfl, rfl, rfl, rfl, rfl, rfl, rfl, rfl, (get_bool rfl (jat qr35 hr36)), trivial⟩
                ·
                 refine ops_val (yld_assign rfl) rfl ?_
                 refine ops_nil ?_
                 refine fin_next rfl ?_
                 refine run_ret ?_
                 exact ret1 Tryz.results67 () (get_bool rfl (by rw [← hr35]; obtain ⟨kind, a, b, c, r, s, t, lo, hi, frm⟩ := p; dsimp only at *; subst kind; rw [Bool.eq_iff_iff, vp_gen 8 ⟨true, false, false, true, false, false, true⟩ rfl (by omega)]; simp only [fld_t, fld_f, Bool.and_eq_true, decide_eq_true_eq, Pc.mk.injEq, if_true, Bool.false_eq_true, if_false]; constructor <;> intro h <;> simp_all <;> omega)) pf_nil (fun _ _ _ => trivial)
         ·
          replace hr10 := eq_of_beq hr10
          refine run_cond_t rfl ?_
          refine run_seq ?_
          refine run_region ?_
          refine ops_val (yld_field Tryz.runUnderlying31 rfl rfl rfl Tryz.sizeOf9) rfl ?_
          refine ops_val (yld_load 1 Tryz.isAgg9 rfl rfl rfl) rfl ?_
          refine ops_val (yld_field Tryz.runUnderlying31 rfl rfl rfl Tryz.sizeOf9) rfl ?_
          refine ops_store 0 Tryz.sizeOf9 rfl rfl rfl rfl rfl rfl ?_
          refine ops_nil ?_
          refine fin_next rfl ?_
          refine run_region ?_
          refine ops_val (yld_field Tryz.runUnderlying31 rfl rfl rfl Tryz.sizeOf9) rfl ?_
          refine ops_val (yld_load 1 Tryz.isAgg9 rfl rfl rfl) rfl ?_
          refine ops_callB (rRole_c _ (by omega)) rfl pf_nil (fun _ _ _ => by exact trivial) rfl fun r37 hr37 => ?_
          refine ops_val (yld_assign rfl) rfl ?_
          refine ops_nil ?_
          refine fin_next rfl ?_
          refine run_seq ?_
          refine run_region ?_
          refine ops_val (yld_move rfl) rfl ?_
          refine ops_val (yld_move rfl) rfl ?_
          refine ops_cut 4 ((roleS (Pc.r p)) && (decide (p = (Pc.mk (Pc.kind p) [] [] [] (Pc.r p) [] [] 0 0 (Pc.frm p))))) (fun r => [(0, Pc.val p), (1, .pointer (some ⟨b1, 0, none⟩)), (2, .bool false), (13, .bool false), (14, .pointer (some ⟨b1, 0, none⟩)), (15, .int .i64 (Pc.kind p)), (16, .pointer (some ⟨b1, 9, none⟩)), (17, .int .i64 (Pc.frm p)), (18, Pc.val (Pc.mk (Pc.kind p) [] [] [] [] [] [] 0 0 (Pc.frm p))), (3, .pointer (some ⟨b2, 0, none⟩)), (19, .pointer (some ⟨b1, 0, none⟩)), (20, .int .i64 (Pc.kind p)), (22, .bool false), (21, .bool false), (38, .bool false), (37, .bool false), (62, .bool false), (61, .bool false), (63, .bool false), (87, .bool false), (86, .bool false), (103, .bool false), (102, .bool false), (127, .bool true), (126, .bool true), (128, .pointer (some ⟨b1, 4, none⟩)), (129, str (Pc.r p)), (130, .pointer (some ⟨b2, 4, none⟩)), (131, .pointer (some ⟨b1, 4, none⟩)), (132, str (Pc.r p)), (133, .bool r37), (189, .bool r)]) ?_ fun r38 hr38 => ?_
          ·
           cases r37
           ·
            have qr38 := hr37
            refine ops_no rfl rfl rfl rfl ?_
            refine ops_no rfl rfl rfl rfl ?_
            refine ops_no rfl rfl rfl rfl ?_
            refine ops_val (yld_pick_f rfl rfl) rfl ?_
            refine ops_nil ?_
            refine fin_inv rfl ?_
            exact met ⟨rfl, rfl, rfl, rfl, rfl, rfl, rfl, rfl, rfl, rfl, rfl, rfl, rfl, rfl, rfl, rfl, rfl, rfl, rfl, rfl, rfl, rfl, rfl, rfl, rfl, rfl, rfl, rfl, rfl, rfl, rfl, (get_bool rfl (jaf qr38)), trivial⟩
           ·
            have qr38 := hr37
            refine ops_yes rfl rfl ?_
            refine ops_val (yld_loadS 1 Tryz.isAgg31 Tryz.sizeOf31 rfl rfl rfl) rfl ?_
            refine ops_yes rfl rfl ?_
            refine ops_val (yld_loadS 0 Tryz.isAgg31 Tryz.sizeOf31 rfl rfl rfl) rfl ?_
            refine ops_yes rfl rfl ?_
            refine ops_valB (yld_eqlPc (p := p) (q := (Pc.mk (Pc.kind p) [] [] [] (Pc.r p) [] [] 0 0 (Pc.frm p))) rfl rfl) rfl fun r39 hr39 => ?_
            refine ops_val (yld_pick_t rfl rfl) rfl ?_
            refine ops_nil ?_
            refine fin_inv rfl ?_
            exact met ⟨rfl, rfl, rfl, rfl, rfl, rfl, rfl, rfl, rfl, rfl, rfl, rfl, rfl, rfl, rfl, rfl, rfl, rfl, rfl, rfl, rfl, rfl, rfl, rfl, rfl, rfl, rfl, rfl, rfl, rfl, rfl, (get_bool rfl (jat qr38 hr39)), trivial⟩
          ·
           refine ops_val (yld_assign rfl) rfl ?_
           refine ops_nil ?_
           refine fin_next rfl ?_
           refine run_ret ?_
           exact ret1 Tryz.results67 () (get_bool rfl (by rw [← hr38]; obtain ⟨kind, a, b, c, r, s, t, lo, hi, frm⟩ := p; dsimp only at *; subst kind; rw [Bool.eq_iff_iff, vp_gen 7 ⟨false, false, false, true, false, false, false⟩ rfl (by omega)]; simp only [fld_t, fld_f, Bool.and_eq_true, decide_eq_true_eq, Pc.mk.injEq, if_true, Bool.false_eq_true, if_false]; constructor <;> intro h <;> simp_all <;> omega)) pf_nil (fun _ _ _ => trivial)
        ·
         replace hr9 := eq_of_beq hr9
         refine run_cond_t rfl ?_
         refine run_seq ?_
         refine run_region ?_
         refine ops_val (yld_field Tryz.runUnderlying31 rfl rfl rfl Tryz.sizeOf9) rfl ?_
         refine ops_val (yld_load 1 Tryz.isAgg9 rfl rfl rfl) rfl ?_
         refine ops_val (yld_field Tryz.runUnderlying31 rfl rfl rfl Tryz.sizeOf9) rfl ?_
         refine ops_store 0 Tryz.sizeOf9 rfl rfl rfl rfl rfl rfl ?_
         refine ops_nil ?_
         refine fin_next rfl ?_
         refine run_seq ?_
         refine run_region ?_
         refine ops_val (yld_field Tryz.runUnderlying31 rfl rfl rfl Tryz.sizeOf9) rfl ?_
         refine ops_val (yld_load 1 Tryz.isAgg9 rfl rfl rfl) rfl ?_
         refine ops_val (yld_field Tryz.runUnderlying31 rfl rfl rfl Tryz.sizeOf9) rfl ?_
         refine ops_store 0 Tryz.sizeOf9 rfl rfl rfl rfl rfl rfl ?_
         refine ops_nil ?_
         refine fin_next rfl ?_
         refine run_seq ?_
         refine run_region ?_
         refine ops_val (yld_field Tryz.runUnderlying31 rfl rfl rfl Tryz.sizeOf9) rfl ?_
         refine ops_val (yld_load 1 Tryz.isAgg9 rfl rfl rfl) rfl ?_
         refine ops_val (yld_field Tryz.runUnderlying31 rfl rfl rfl Tryz.sizeOf9) rfl ?_
         refine ops_store 0 Tryz.sizeOf9 rfl rfl rfl rfl rfl rfl ?_
         refine ops_nil ?_
         refine fin_next rfl ?_
         refine run_region ?_
         refine ops_val (yld_field Tryz.runUnderlying31 rfl rfl rfl Tryz.sizeOf9) rfl ?_
         refine ops_val (yld_load 1 Tryz.isAgg9 rfl rfl rfl) rfl ?_
         refine ops_callB (rRole_c _ (by omega)) rfl pf_nil (fun _ _ _ => by exact trivial) rfl fun r40 hr40 => ?_
         refine ops_val (yld_move rfl) rfl ?_
         refine ops_cut 4 ((roleS (Pc.r p)) && (roleS (Pc.s p))) (fun r => [(0, Pc.val p), (1, .pointer (some ⟨b1, 0, none⟩)), (2, .bool false), (13, .bool false), (14, .pointer (some ⟨b1, 0, none⟩)), (15, .int .i64 (Pc.kind p)), (16, .pointer (some ⟨b1, 9, none⟩)), (17, .int .i64 (Pc.frm p)), (18, Pc.val (Pc.mk (Pc.kind p) [] [] [] [] [] [] 0 0 (Pc.frm p))), (3, .pointer (some ⟨b2, 0, none⟩)), (4, .bool false), (19, .pointer (some ⟨b1, 0, none⟩)), (20, .int .i64 (Pc.kind p)), (22, .bool false), (21, .bool false), (38, .bool false), (37, .bool false), (62, .bool false), (61, .bool false), (63, .bool false), (87, .bool false), (86, .bool false), (103, .bool true), (102, .bool true), (104, .pointer (some ⟨b1, 4, none⟩)), (105, str (Pc.r p)), (106, .pointer (some ⟨b2, 4, none⟩)), (107, .pointer (some ⟨b1, 5, none⟩)), (108, str (Pc.s p)), (109, .pointer (some ⟨b2, 5, none⟩)), (110, .pointer (some ⟨b1, 6, none⟩)), (111, str (Pc.t p)), (112, .pointer (some ⟨b2, 6, none⟩)), (120, .bool r)]) ?_ fun r41 hr41 => ?_
         ·
          cases r40
          ·
           have qr41 := hr40
           refine ops_no rfl rfl rfl rfl ?_
           refine ops_no rfl rfl rfl rfl ?_
           refine ops_no rfl rfl rfl rfl ?_
           refine ops_val (yld_pick_f rfl rfl) rfl ?_
           refine ops_nil ?_
           refine fin_inv rfl ?_
           exact met ⟨rfl, rfl, rfl, rfl, rfl, rfl, rfl, rfl, rfl, rfl, rfl, rfl, rfl, rfl, rfl, rfl, rfl, rfl, rfl, rfl, rfl, rfl, rfl, rfl, rfl, rfl, rfl, rfl, rfl, rfl, rfl, rfl, rfl, (get_bool rfl (jaf qr41)), trivial⟩
          ·
           have qr41 := hr40
           refine ops_yes rfl rfl ?_
           refine ops_val (yld_field Tryz.runUnderlying31 rfl rfl rfl Tryz.sizeOf9) rfl ?_
           refine ops_yes rfl rfl ?_
           refine ops_val (yld_load 1 Tryz.isAgg9 rfl rfl rfl) rfl ?_
           refine ops_yes rfl rfl ?_
           refine ops_callB (rRole_c _ (by omega)) rfl pf_nil (fun _ _ _ => by exact trivial) rfl fun r42 hr42 => ?_
           refine ops_val (yld_pick_t rfl rfl) rfl ?_
           refine ops_nil ?_
           refine fin_inv rfl ?_
           exact met ⟨rfl, rfl, rfl, rfl, rfl, rfl, rfl, rfl, rfl, rfl, rfl, rfl, rfl, rfl, rfl, rfl, rfl, rfl, rfl, rfl, rfl, rfl, rfl, rfl, rfl, rfl, rfl, rfl, rfl, rfl, rfl, rfl, rfl, (get_bool rfl (jat qr41 hr42)), trivial⟩
         ·
          refine ops_val (yld_move rfl) rfl ?_
          refine ops_cut 4 ((((roleS (Pc.r p)) && (roleS (Pc.s p)))) && (roleS (Pc.t p))) (fun r => [(0, Pc.val p), (1, .pointer (some ⟨b1, 0, none⟩)), (2, .bool false), (13, .bool false), (14, .pointer (some ⟨b1, 0, none⟩)), (15, .int .i64 (Pc.kind p)), (16, .pointer (some ⟨b1, 9, none⟩)), (17, .int .i64 (Pc.frm p)), (18, Pc.val (Pc.mk (Pc.kind p) [] [] [] [] [] [] 0 0 (Pc.frm p))), (3, .pointer (some ⟨b2, 0, none⟩)), (4, .bool false), (19, .pointer (some ⟨b1, 0, none⟩)), (20, .int .i64 (Pc.kind p)), (22, .bool false), (21, .bool false), (38, .bool false), (37, .bool false), (62, .bool false), (61, .bool false), (63, .bool false), (87, .bool false), (86, .bool false), (103, .bool true), (102, .bool true), (104, .pointer (some ⟨b1, 4, none⟩)), (105, str (Pc.r p)), (106, .pointer (some ⟨b2, 4, none⟩)), (107, .pointer (some ⟨b1, 5, none⟩)), (108, str (Pc.s p)), (109, .pointer (some ⟨b2, 5, none⟩)), (110, .pointer (some ⟨b1, 6, none⟩)), (111, str (Pc.t p)), (112, .pointer (some ⟨b2, 6, none⟩)), (125, .bool r)]) ?_ fun r43 hr43 => ?_
          ·
           cases r41
           ·
            have qr43 := hr41
            simp at hr41
            refine ops_no rfl rfl rfl rfl ?_
            refine ops_no rfl rfl rfl rfl ?_
            refine ops_no rfl rfl rfl rfl ?_
            refine ops_val (yld_pick_f rfl rfl) rfl ?_
            refine ops_nil ?_
            refine fin_inv rfl ?_
            exact met ⟨rfl, rfl, rfl, rfl, rfl, rfl, rfl, rfl, rfl, rfl, rfl, rfl, rfl, rfl, rfl, rfl, rfl, rfl, rfl, rfl, rfl, rfl, rfl, rfl, rfl, rfl, rfl, rfl, rfl, rfl, rfl, rfl, rfl, (get_bool rfl (jaf qr43)), trivial⟩
           ·
            have qr43 := hr41
            simp at hr41
            refine ops_yes rfl rfl ?_
            refine ops_val (yld_field Tryz.runUnderlying31 rfl rfl rfl Tryz.sizeOf9) rfl ?_
            refine ops_yes rfl rfl ?_
            refine ops_val (yld_load 1 Tryz.isAgg9 rfl rfl rfl) rfl ?_
            refine ops_yes rfl rfl ?_
            refine ops_callB (rRole_c _ (by omega)) rfl pf_nil (fun _ _ _ => by exact trivial) rfl fun r44 hr44 => ?_
            refine ops_val (yld_pick_t rfl rfl) rfl ?_
            refine ops_nil ?_
            refine fin_inv rfl ?_
            exact met ⟨rfl, rfl, rfl, rfl, rfl, rfl, rfl, rfl, rfl, rfl, rfl, rfl, rfl, rfl, rfl, rfl, rfl, rfl, rfl, rfl, rfl, rfl, rfl, rfl, rfl, rfl, rfl, rfl, rfl, rfl, rfl, rfl, rfl, (get_bool rfl (jat qr43 hr44)), trivial⟩
          ·
           refine ops_val (yld_assign rfl) rfl ?_
           refine ops_nil ?_
           refine fin_next rfl ?_
           refine run_seq ?_
           refine run_region ?_
           refine ops_val (yld_move rfl) rfl ?_
           refine ops_val (yld_move rfl) rfl ?_
           refine ops_cut 4 ((((((roleS (Pc.r p)) && (roleS (Pc.s p)))) && (roleS (Pc.t p)))) && (decide (p = (Pc.mk (Pc.kind p) [] [] [] (Pc.r p) (Pc.s p) (Pc.t p) 0 0 (Pc.frm p))))) (fun r => [(0, Pc.val p), (1, .pointer (some ⟨b1, 0, none⟩)), (2, .bool false), (13, .bool false), (14, .pointer (some ⟨b1, 0, none⟩)), (15, .int .i64 (Pc.kind p)), (16, .pointer (some ⟨b1, 9, none⟩)), (17, .int .i64 (Pc.frm p)), (18, Pc.val (Pc.mk (Pc.kind p) [] [] [] [] [] [] 0 0 (Pc.frm p))), (3, .pointer (some ⟨b2, 0, none⟩)), (19, .pointer (some ⟨b1, 0, none⟩)), (20, .int .i64 (Pc.kind p)), (22, .bool false), (21, .bool false), (38, .bool false), (37, .bool false), (62, .bool false), (61, .bool false), (63, .bool false), (87, .bool false), (86, .bool false), (103, .bool true), (102, .bool true), (104, .pointer (some ⟨b1, 4, none⟩)), (105, str (Pc.r p)), (106, .pointer (some ⟨b2, 4, none⟩)), (107, .pointer (some ⟨b1, 5, none⟩)), (108, str (Pc.s p)), (109, .pointer (some ⟨b2, 5, none⟩)), (110, .pointer (some ⟨b1, 6, none⟩)), (111, str (Pc.t p)), (112, .pointer (some ⟨b2, 6, none⟩)), (125, .bool r43), (189, .bool r)]) ?_ fun r45 hr45 => ?_
           ·
            cases r43
            ·
             have qr45 := hr43
             simp at hr43
             refine ops_no rfl rfl rfl rfl ?_
             refine ops_no rfl rfl rfl rfl ?_
             refine ops_no rfl rfl rfl rfl ?_
             refine ops_val (yld_pick_f rfl rfl) rfl ?_
             refine ops_nil ?_
             refine fin_inv rfl ?_
             exact met ⟨rfl, rfl, rfl, rfl, rfl, rfl, rfl, rfl, rfl, rfl, rfl, rfl, rfl, rfl, rfl, rfl, rfl, rfl, rfl, rfl, rfl, rfl, rfl, rfl, rfl, rfl, rfl, rfl, rfl, rfl, rfl, rfl, rfl, (get_bool rfl (jaf qr45)), trivial⟩
            ·
             have qr45 := hr43
             simp at hr43
             refine ops_yes rfl rfl ?_
             refine ops_val (yld_loadS 1 Tryz.isAgg31 Tryz.sizeOf31 rfl rfl rfl) rfl ?_
             refine ops_yes rfl rfl ?_
             refine ops_val (yld_loadS 0 Tryz.isAgg31 Tryz.sizeOf31 rfl rfl rfl) rfl ?_
             refine ops_yes rfl rfl ?_
             refine ops_valB (yld_eqlPc (p := p) (q := (Pc.mk (Pc.kind p) [] [] [] (Pc.r p) (Pc.s p) (Pc.t p) 0 0 (Pc.frm p))) rfl rfl) rfl fun r46 hr46 => ?_
             refine ops_val (yld_pick_t rfl rfl) rfl ?_
             refine ops_nil ?_
             refine fin_inv rfl ?_
             exact met ⟨rfl, rfl, rfl, rfl, rfl, rfl, rfl, rfl, rfl, rfl, rfl, rfl, rfl, rfl, rfl, rfl, rfl, rfl, rfl, rfl, rfl, rfl, rfl, rfl, rfl, rfl, rfl, rfl, rfl, rfl, rfl, rfl, rfl, (get_bool rfl (jat qr45 hr46)), trivial⟩
           ·
            refine ops_val (yld_assign rfl) rfl ?_
            refine ops_nil ?_
            refine fin_next rfl ?_
            refine run_ret ?_
            exact ret1 Tryz.results67 () (get_bool rfl (by rw [← hr45]; obtain ⟨kind, a, b, c, r, s, t, lo, hi, frm⟩ := p; dsimp only at *; subst kind; rw [Bool.eq_iff_iff, vp_gen 6 ⟨false, false, false, true, true, true, false⟩ rfl (by omega)]; simp only [fld_t, fld_f, Bool.and_eq_true, decide_eq_true_eq, Pc.mk.injEq, if_true, Bool.false_eq_true, if_false]; constructor <;> intro h <;> simp_all <;> omega)) pf_nil (fun _ _ _ => trivial)
       ·
        replace hr8 := eq_of_beq hr8
        refine run_cond_t rfl ?_
        refine run_seq ?_
        refine run_region ?_
        refine ops_val (yld_field Tryz.runUnderlying31 rfl rfl rfl Tryz.sizeOf9) rfl ?_
        refine ops_val (yld_load 1 Tryz.isAgg9 rfl rfl rfl) rfl ?_
        refine ops_val (yld_field Tryz.runUnderlying31 rfl rfl rfl Tryz.sizeOf9) rfl ?_
        refine ops_store 0 Tryz.sizeOf9 rfl rfl rfl rfl rfl rfl ?_
        refine ops_nil ?_
        refine fin_next rfl ?_
        refine run_seq ?_
        refine run_region ?_
        refine ops_val (yld_field Tryz.runUnderlying31 rfl rfl rfl Tryz.sizeOf9) rfl ?_
        refine ops_val (yld_load 1 Tryz.isAgg9 rfl rfl rfl) rfl ?_
        refine ops_val (yld_field Tryz.runUnderlying31 rfl rfl rfl Tryz.sizeOf9) rfl ?_
        refine ops_store 0 Tryz.sizeOf9 rfl rfl rfl rfl rfl rfl ?_
        refine ops_nil ?_
        refine fin_next rfl ?_
        refine run_region ?_
        refine ops_val (yld_field Tryz.runUnderlying31 rfl rfl rfl Tryz.sizeOf9) rfl ?_
        refine ops_val (yld_load 1 Tryz.isAgg9 rfl rfl rfl) rfl ?_
        refine ops_callB (rRole_c _ (by omega)) rfl pf_nil (fun _ _ _ => by exact trivial) rfl fun r47 hr47 => ?_
        refine ops_val (yld_move rfl) rfl ?_
        refine ops_cut 4 ((roleS (Pc.r p)) && (roleS (Pc.t p))) (fun r => [(0, Pc.val p), (1, .pointer (some ⟨b1, 0, none⟩)), (2, .bool false), (13, .bool false), (14, .pointer (some ⟨b1, 0, none⟩)), (15, .int .i64 (Pc.kind p)), (16, .pointer (some ⟨b1, 9, none⟩)), (17, .int .i64 (Pc.frm p)), (18, Pc.val (Pc.mk (Pc.kind p) [] [] [] [] [] [] 0 0 (Pc.frm p))), (3, .pointer (some ⟨b2, 0, none⟩)), (4, .bool false), (19, .pointer (some ⟨b1, 0, none⟩)), (20, .int .i64 (Pc.kind p)), (22, .bool false), (21, .bool false), (38, .bool false), (37, .bool false), (62, .bool false), (61, .bool false), (63, .bool false), (87, .bool true), (86, .bool true), (88, .pointer (some ⟨b1, 4, none⟩)), (89, str (Pc.r p)), (90, .pointer (some ⟨b2, 4, none⟩)), (91, .pointer (some ⟨b1, 6, none⟩)), (92, str (Pc.t p)), (93, .pointer (some ⟨b2, 6, none⟩)), (101, .bool r)]) ?_ fun r48 hr48 => ?_
        ·
         cases r47
         ·
          have qr48 := hr47
          refine ops_no rfl rfl rfl rfl ?_
          refine ops_no rfl rfl rfl rfl ?_
          refine ops_no rfl rfl rfl rfl ?_
          refine ops_val (yld_pick_f rfl rfl) rfl ?_
          refine ops_nil ?_
          refine fin_inv rfl ?_
          exact met ⟨rfl, rfl, rfl, rfl, rfl, rfl, rfl, rfl, rfl, rfl, rfl, rfl, rfl, rfl, rfl, rfl, rfl, rfl, rfl, rfl, rfl, rfl, rfl, rfl, rfl, rfl, rfl, rfl, (get_bool rfl (jaf qr48)), trivial⟩
         ·
          have qr48 := hr47
          refine ops_yes rfl rfl ?_
          refine ops_val (yld_field Tryz.runUnderlying31 rfl rfl rfl Tryz.sizeOf9) rfl ?_
          refine ops_yes rfl rfl ?_
          refine ops_val (yld_load 1 Tryz.isAgg9 rfl rfl rfl) rfl ?_
          refine ops_yes rfl rfl ?_
          refine ops_callB (rRole_c _ (by omega)) rfl pf_nil (fun _ _ _ => by exact trivial) rfl fun r49 hr49 => ?_
          refine ops_val (yld_pick_t rfl rfl) rfl ?_
          refine ops_nil ?_
          refine fin_inv rfl ?_
          exact met ⟨rfl, rfl, rfl, rfl, rfl, rfl, rfl, rfl, rfl, rfl, rfl, rfl, rfl, rfl, rfl, rfl, rfl, rfl, rfl, rfl, rfl, rfl, rfl, rfl, rfl, rfl, rfl, rfl, (get_bool rfl (jat qr48 hr49)), trivial⟩
        ·
         refine ops_val (yld_assign rfl) rfl ?_
         refine ops_nil ?_
         refine fin_next rfl ?_
         refine run_seq ?_
         refine run_region ?_
         refine ops_val (yld_move rfl) rfl ?_
         refine ops_val (yld_move rfl) rfl ?_
         refine ops_cut 4 ((((roleS (Pc.r p)) && (roleS (Pc.t p)))) && (decide (p = (Pc.mk (Pc.kind p) [] [] [] (Pc.r p) [] (Pc.t p) 0 0 (Pc.frm p))))) (fun r => [(0, Pc.val p), (1, .pointer (some ⟨b1, 0, none⟩)), (2, .bool false), (13, .bool false), (14, .pointer (some ⟨b1, 0, none⟩)), (15, .int .i64 (Pc.kind p)), (16, .pointer (some ⟨b1, 9, none⟩)), (17, .int .i64 (Pc.frm p)), (18, Pc.val (Pc.mk (Pc.kind p) [] [] [] [] [] [] 0 0 (Pc.frm p))), (3, .pointer (some ⟨b2, 0, none⟩)), (19, .pointer (some ⟨b1, 0, none⟩)), (20, .int .i64 (Pc.kind p)), (22, .bool false), (21, .bool false), (38, .bool false), (37, .bool false), (62, .bool false), (61, .bool false), (63, .bool false), (87, .bool true), (86, .bool true), (88, .pointer (some ⟨b1, 4, none⟩)), (89, str (Pc.r p)), (90, .pointer (some ⟨b2, 4, none⟩)), (91, .pointer (some ⟨b1, 6, none⟩)), (92, str (Pc.t p)), (93, .pointer (some ⟨b2, 6, none⟩)), (101, .bool r48), (189, .bool r)]) ?_ fun r50 hr50 => ?_
         ·
          cases r48
          ·
           have qr50 := hr48
           simp at hr48
           refine ops_no rfl rfl rfl rfl ?_
           refine ops_no rfl rfl rfl rfl ?_
           refine ops_no rfl rfl rfl rfl ?_
           refine ops_val (yld_pick_f rfl rfl) rfl ?_
           refine ops_nil ?_
           refine fin_inv rfl ?_
           exact met ⟨rfl, rfl, rfl, rfl, rfl, rfl, rfl, rfl, rfl, rfl, rfl, rfl, rfl, rfl, rfl, rfl, rfl, rfl, rfl, rfl, rfl, rfl, rfl, rfl, rfl, rfl, rfl, rfl, (get_bool rfl (jaf qr50)), trivial⟩
          ·
           have qr50 := hr48
           simp at hr48
           refine ops_yes rfl rfl ?_
           refine ops_val (yld_loadS 1 Tryz.isAgg31 Tryz.sizeOf31 rfl rfl rfl) rfl ?_
           refine ops_yes rfl rfl ?_
           refine ops_val (yld_loadS 0 Tryz.isAgg31 Tryz.sizeOf31 rfl rfl rfl) rfl ?_
           refine ops_yes rfl rfl ?_
           refine ops_valB (yld_eqlPc (p := p) (q := (Pc.mk (Pc.kind p) [] [] [] (Pc.r p) [] (Pc.t p) 0 0 (Pc.frm p))) rfl rfl) rfl fun r51 hr51 => ?_
           refine ops_val (yld_pick_t rfl rfl) rfl ?_
           refine ops_nil ?_
           refine fin_inv rfl ?_
           exact met ⟨rfl, rfl, rfl, rfl, rfl, rfl, rfl, rfl, rfl, rfl, rfl, rfl, rfl, rfl, rfl, rfl, rfl, rfl, rfl, rfl, rfl, rfl, rfl, rfl, rfl, rfl, rfl, rfl, (get_bool rfl (jat qr50 hr51)), trivial⟩
         ·
          refine ops_val (yld_assign rfl) rfl ?_
          refine ops_nil ?_
          refine fin_next rfl ?_
          refine run_ret ?_
          exact ret1 Tryz.results67 () (get_bool rfl (by rw [← hr50]; obtain ⟨kind, a, b, c, r, s, t, lo, hi, frm⟩ := p; dsimp only at *; subst kind; rw [Bool.eq_iff_iff, vp_gen 5 ⟨false, false, false, true, false, true, false⟩ rfl (by omega)]; simp only [fld_t, fld_f, Bool.and_eq_true, decide_eq_true_eq, Pc.mk.injEq, if_true, Bool.false_eq_true, if_false]; constructor <;> intro h <;> simp_all <;> omega)) pf_nil (fun _ _ _ => trivial)
      ·
       replace hr7 := eq_of_beq hr7
       refine run_cond_t rfl ?_
       refine run_seq ?_
       refine run_region ?_
       refine ops_val (yld_field Tryz.runUnderlying31 rfl rfl rfl Tryz.sizeOf9) rfl ?_
       refine ops_val (yld_load 1 Tryz.isAgg9 rfl rfl rfl) rfl ?_
       refine ops_val (yld_field Tryz.runUnderlying31 rfl rfl rfl Tryz.sizeOf9) rfl ?_
       refine ops_store 0 Tryz.sizeOf9 rfl rfl rfl rfl rfl rfl ?_
       refine ops_nil ?_
       refine fin_next rfl ?_
       refine run_seq ?_
       refine run_region ?_
       refine ops_val (yld_field Tryz.runUnderlying31 rfl rfl rfl Tryz.sizeOf9) rfl ?_
       refine ops_val (yld_load 1 Tryz.isAgg9 rfl rfl rfl) rfl ?_
       refine ops_val (yld_field Tryz.runUnderlying31 rfl rfl rfl Tryz.sizeOf9) rfl ?_
       refine ops_store 0 Tryz.sizeOf9 rfl rfl rfl rfl rfl rfl ?_
       refine ops_nil ?_
       refine fin_next rfl ?_
       refine run_seq ?_
       refine run_region ?_
       refine ops_val (yld_field Tryz.runUnderlying31 rfl rfl rfl Tryz.sizeOf9) rfl ?_
       refine ops_val (yld_load 1 Tryz.isAgg9 rfl rfl rfl) rfl ?_
       refine ops_val (yld_field Tryz.runUnderlying31 rfl rfl rfl Tryz.sizeOf9) rfl ?_
       refine ops_store 0 Tryz.sizeOf9 rfl rfl rfl rfl rfl rfl ?_
       refine ops_nil ?_
       refine fin_next rfl ?_
       refine run_region ?_
       refine ops_val (yld_field Tryz.runUnderlying31 rfl rfl rfl Tryz.sizeOf9) rfl ?_
       refine ops_val (yld_load 1 Tryz.isAgg9 rfl rfl rfl) rfl ?_
       refine ops_callB (rAtom_c _ (by omega)) rfl pf_nil (fun _ _ _ => by exact trivial) rfl fun r52 hr52 => ?_
       refine ops_val (yld_move rfl) rfl ?_
       refine ops_cut 4 ((atomS (Pc.a p)) && (roleS (Pc.r p))) (fun r => [(0, Pc.val p), (1, .pointer (some ⟨b1, 0, none⟩)), (2, .bool false), (13, .bool false), (14, .pointer (some ⟨b1, 0, none⟩)), (15, .int .i64 (Pc.kind p)), (16, .pointer (some ⟨b1, 9, none⟩)), (17, .int .i64 (Pc.frm p)), (18, Pc.val (Pc.mk (Pc.kind p) [] [] [] [] [] [] 0 0 (Pc.frm p))), (3, .pointer (some ⟨b2, 0, none⟩)), (4, .bool false), (19, .pointer (some ⟨b1, 0, none⟩)), (20, .int .i64 (Pc.kind p)), (22, .bool false), (21, .bool false), (38, .bool false), (37, .bool false), (62, .bool false), (61, .bool true), (63, .bool true), (64, .pointer (some ⟨b1, 1, none⟩)), (65, str (Pc.a p)), (66, .pointer (some ⟨b2, 1, none⟩)), (67, .pointer (some ⟨b1, 4, none⟩)), (68, str (Pc.r p)), (69, .pointer (some ⟨b2, 4, none⟩)), (70, .pointer (some ⟨b1, 3, none⟩)), (71, str (Pc.c p)), (72, .pointer (some ⟨b2, 3, none⟩)), (80, .bool r)]) ?_ fun r53 hr53 => ?_
       ·
        cases r52
        ·
         have qr53 := hr52
         refine ops_no rfl rfl rfl rfl ?_
         refine ops_no rfl rfl rfl rfl ?_
         refine ops_no rfl rfl rfl rfl ?_
         refine ops_val (yld_pick_f rfl rfl) rfl ?_
         refine ops_nil ?_
         refine fin_inv rfl ?_
         exact met ⟨rfl, rfl, rfl, rfl, rfl, rfl, rfl, rfl, rfl, rfl, rfl, rfl, rfl, rfl, rfl, rfl, rfl, rfl, rfl, rfl, rfl, rfl, rfl, rfl, rfl, rfl, rfl, rfl, rfl, (get_bool rfl (jaf qr53)), trivial⟩
        ·
         have qr53 := hr52
         refine ops_yes rfl rfl ?_
         refine ops_val (yld_field Tryz.runUnderlying31 rfl rfl rfl Tryz.sizeOf9) rfl ?_
         refine ops_yes rfl rfl ?_
         refine ops_val (yld_load 1 Tryz.isAgg9 rfl rfl rfl) rfl ?_
         refine ops_yes rfl rfl ?_
         refine ops_callB (rRole_c _ (by omega)) rfl pf_nil (fun _ _ _ => by exact trivial) rfl fun r54 hr54 => ?_
         refine ops_val (yld_pick_t rfl rfl) rfl ?_
         refine ops_nil ?_
         refine fin_inv rfl ?_
         exact met ⟨rfl, rfl, rfl, rfl, rfl, rfl, rfl, rfl, rfl, rfl, rfl, rfl, rfl, rfl, rfl, rfl, rfl, rfl, rfl, rfl, rfl, rfl, rfl, rfl, rfl, rfl, rfl, rfl, rfl, (get_bool rfl (jat qr53 hr54)), trivial⟩
       ·
        refine ops_val (yld_move rfl) rfl ?_
        refine ops_cut 4 ((((atomS (Pc.a p)) && (roleS (Pc.r p)))) && (atomS (Pc.c p))) (fun r => [(0, Pc.val p), (1, .pointer (some ⟨b1, 0, none⟩)), (2, .bool false), (13, .bool false), (14, .pointer (some ⟨b1, 0, none⟩)), (15, .int .i64 (Pc.kind p)), (16, .pointer (some ⟨b1, 9, none⟩)), (17, .int .i64 (Pc.frm p)), (18, Pc.val (Pc.mk (Pc.kind p) [] [] [] [] [] [] 0 0 (Pc.frm p))), (3, .pointer (some ⟨b2, 0, none⟩)), (4, .bool false), (19, .pointer (some ⟨b1, 0, none⟩)), (20, .int .i64 (Pc.kind p)), (22, .bool false), (21, .bool false), (38, .bool false), (37, .bool false), (62, .bool false), (61, .bool true), (63, .bool true), (64, .pointer (some ⟨b1, 1, none⟩)), (65, str (Pc.a p)), (66, .pointer (some ⟨b2, 1, none⟩)), (67, .pointer (some ⟨b1, 4, none⟩)), (68, str (Pc.r p)), (69, .pointer (some ⟨b2, 4, none⟩)), (70, .pointer (some ⟨b1, 3, none⟩)), (71, str (Pc.c p)), (72, .pointer (some ⟨b2, 3, none⟩)), (85, .bool r)]) ?_ fun r55 hr55 => ?_
        ·
         cases r53
         ·
          have qr55 := hr53
          simp at hr53
          refine ops_no rfl rfl rfl rfl ?_
          refine ops_no rfl rfl rfl rfl ?_
          refine ops_no rfl rfl rfl rfl ?_
          refine ops_val (yld_pick_f rfl rfl) rfl ?_
          refine ops_nil ?_
          refine fin_inv rfl ?_
          exact met ⟨rfl, rfl, rfl, rfl, rfl, rfl, rfl, rfl, rfl, rfl, rfl, rfl, rfl, rfl, rfl, rfl, rfl, rfl, rfl, rfl, rfl, rfl, rfl, rfl, rfl, rfl, rfl, rfl, rfl, (get_bool rfl (jaf qr55)), trivial⟩
         ·
          have qr55 := hr53
          simp at hr53
          refine ops_yes rfl rfl ?_
          refine ops_val (yld_field Tryz.runUnderlying31 rfl rfl rfl Tryz.sizeOf9) rfl ?_
          refine ops_yes rfl rfl ?_
          refine ops_val (yld_load 1 Tryz.isAgg9 rfl rfl rfl) rfl ?_
          refine ops_yes rfl rfl ?_
          refine ops_callB (rAtom_c _ (by omega)) rfl pf_nil (fun _ _ _ => by exact trivial) rfl fun r56 hr56 => ?_
          refine ops_val (yld_pick_t rfl rfl) rfl ?_
          refine ops_nil ?_
          refine fin_inv rfl ?_
          exact met ⟨rfl, rfl, rfl, rfl, rfl, rfl, rfl, rfl, rfl, rfl, rfl, rfl, rfl, rfl, rfl, rfl, rfl, rfl, rfl, rfl, rfl, rfl, rfl, rfl, rfl, rfl, rfl, rfl, rfl, (get_bool rfl (jat qr55 hr56)), trivial⟩
        ·
         refine ops_val (yld_assign rfl) rfl ?_
         refine ops_nil ?_
         refine fin_next rfl ?_
         refine run_seq ?_
         refine run_region ?_
         refine ops_val (yld_move rfl) rfl ?_
         refine ops_val (yld_move rfl) rfl ?_
         refine ops_cut 4 ((((((atomS (Pc.a p)) && (roleS (Pc.r p)))) && (atomS (Pc.c p)))) && (decide (p = (Pc.mk (Pc.kind p) (Pc.a p) [] (Pc.c p) (Pc.r p) [] [] 0 0 (Pc.frm p))))) (fun r => [(0, Pc.val p), (1, .pointer (some ⟨b1, 0, none⟩)), (2, .bool false), (13, .bool false), (14, .pointer (some ⟨b1, 0, none⟩)), (15, .int .i64 (Pc.kind p)), (16, .pointer (some ⟨b1, 9, none⟩)), (17, .int .i64 (Pc.frm p)), (18, Pc.val (Pc.mk (Pc.kind p) [] [] [] [] [] [] 0 0 (Pc.frm p))), (3, .pointer (some ⟨b2, 0, none⟩)), (19, .pointer (some ⟨b1, 0, none⟩)), (20, .int .i64 (Pc.kind p)), (22, .bool false), (21, .bool false), (38, .bool false), (37, .bool false), (62, .bool false), (61, .bool true), (63, .bool true), (64, .pointer (some ⟨b1, 1, none⟩)), (65, str (Pc.a p)), (66, .pointer (some ⟨b2, 1, none⟩)), (67, .pointer (some ⟨b1, 4, none⟩)), (68, str (Pc.r p)), (69, .pointer (some ⟨b2, 4, none⟩)), (70, .pointer (some ⟨b1, 3, none⟩)), (71, str (Pc.c p)), (72, .pointer (some ⟨b2, 3, none⟩)), (85, .bool r55), (189, .bool r)]) ?_ fun r57 hr57 => ?_
         ·
          cases r55
          ·
           have qr57 := hr55
           simp at hr55
           refine ops_no rfl rfl rfl rfl ?_
           refine ops_no rfl rfl rfl rfl ?_
           refine ops_no rfl rfl rfl rfl ?_
           refine ops_val (yld_pick_f rfl rfl) rfl ?_
           refine ops_nil ?_
           refine fin_inv rfl ?_
           exact met ⟨rfl, rfl, rfl, rfl, rfl, rfl, rfl, rfl, rfl, rfl, rfl, rfl, rfl, rfl, rfl, rfl, rfl, rfl, rfl, rfl, rfl, rfl, rfl, rfl, rfl, rfl, rfl, rfl, rfl, (get_bool rfl (jaf qr57)), trivial⟩
          ·
           have qr57 := hr55
           simp at hr55
           refine ops_yes rfl rfl ?_
           refine ops_val (yld_loadS 1 Tryz.isAgg31 Tryz.sizeOf31 rfl rfl rfl) rfl ?_
           refine ops_yes rfl rfl ?_
           refine ops_val (yld_loadS 0 Tryz.isAgg31 Tryz.sizeOf31 rfl rfl rfl) rfl ?_
           refine ops_yes rfl rfl ?_
           refine ops_valB (yld_eqlPc (p := p) (q := (Pc.mk (Pc.kind p) (Pc.a p) [] (Pc.c p) (Pc.r p) [] [] 0 0 (Pc.frm p))) rfl rfl) rfl fun r58 hr58 => ?_
           refine ops_val (yld_pick_t rfl rfl) rfl ?_
           refine ops_nil ?_
           refine fin_inv rfl ?_
           exact met ⟨rfl, rfl, rfl, rfl, rfl, rfl, rfl, rfl, rfl, rfl, rfl, rfl, rfl, rfl, rfl, rfl, rfl, rfl, rfl, rfl, rfl, rfl, rfl, rfl, rfl, rfl, rfl, rfl, rfl, (get_bool rfl (jat qr57 hr58)), trivial⟩
         ·
          refine ops_val (yld_assign rfl) rfl ?_
          refine ops_nil ?_
          refine fin_next rfl ?_
          refine run_ret ?_
          exact ret1 Tryz.results67 () (get_bool rfl (by rw [← hr57]; obtain ⟨kind, a, b, c, r, s, t, lo, hi, frm⟩ := p; dsimp only at *; subst kind; rw [Bool.eq_iff_iff, vp_gen 4 ⟨true, false, true, true, false, false, false⟩ rfl (by omega)]; simp only [fld_t, fld_f, Bool.and_eq_true, decide_eq_true_eq, Pc.mk.injEq, if_true, Bool.false_eq_true, if_false]; constructor <;> intro h <;> simp_all <;> omega)) pf_nil (fun _ _ _ => trivial)
     ·
      replace hr6 := eq_of_beq hr6
      refine run_cond_t rfl ?_
      refine run_skip ?_
      refine fin_next rfl ?_
      refine run_cond_t rfl ?_
      refine run_seq ?_
      refine run_region ?_
      refine ops_val (yld_field Tryz.runUnderlying31 rfl rfl rfl Tryz.sizeOf9) rfl ?_
      refine ops_val (yld_load 1 Tryz.isAgg9 rfl rfl rfl) rfl ?_
      refine ops_val (yld_field Tryz.runUnderlying31 rfl rfl rfl Tryz.sizeOf9) rfl ?_
      refine ops_store 0 Tryz.sizeOf9 rfl rfl rfl rfl rfl rfl ?_
      refine ops_nil ?_
      refine fin_next rfl ?_
      refine run_seq ?_
      refine run_region ?_
      refine ops_val (yld_field Tryz.runUnderlying31 rfl rfl rfl Tryz.sizeOf9) rfl ?_
      refine ops_val (yld_load 1 Tryz.isAgg9 rfl rfl rfl) rfl ?_
      refine ops_val (yld_field Tryz.runUnderlying31 rfl rfl rfl Tryz.sizeOf9) rfl ?_
      refine ops_store 0 Tryz.sizeOf9 rfl rfl rfl rfl rfl rfl ?_
      refine ops_nil ?_
      refine fin_next rfl ?_
      refine run_seq ?_
      refine run_region ?_
      refine ops_val (yld_field Tryz.runUnderlying31 rfl rfl rfl Tryz.sizeOf9) rfl ?_
      refine ops_val (yld_load 1 Tryz.isAgg9 rfl rfl rfl) rfl ?_
      refine ops_val (yld_field Tryz.runUnderlying31 rfl rfl rfl Tryz.sizeOf9) rfl ?_
      refine ops_store 0 Tryz.sizeOf9 rfl rfl rfl rfl rfl rfl ?_
      refine ops_nil ?_
      refine fin_next rfl ?_
      refine run_region ?_
      refine ops_val (yld_field Tryz.runUnderlying31 rfl rfl rfl Tryz.sizeOf9) rfl ?_
      refine ops_val (yld_load 1 Tryz.isAgg9 rfl rfl rfl) rfl ?_
      refine ops_callB (rAtom_c _ (by omega)) rfl pf_nil (fun _ _ _ => by exact trivial) rfl fun r59 hr59 => ?_
      refine ops_val (yld_move rfl) rfl ?_
      refine ops_cut 4 ((atomS (Pc.a p)) && (roleS (Pc.r p))) (fun r => [(0, Pc.val p), (1, .pointer (some ⟨b1, 0, none⟩)), (2, .bool false), (13, .bool false), (14, .pointer (some ⟨b1, 0, none⟩)), (15, .int .i64 (Pc.kind p)), (16, .pointer (some ⟨b1, 9, none⟩)), (17, .int .i64 (Pc.frm p)), (18, Pc.val (Pc.mk (Pc.kind p) [] [] [] [] [] [] 0 0 (Pc.frm p))), (3, .pointer (some ⟨b2, 0, none⟩)), (4, .bool false), (19, .pointer (some ⟨b1, 0, none⟩)), (20, .int .i64 (Pc.kind p)), (22, .bool false), (21, .bool false), (38, .bool false), (37, .bool false), (62, .bool true), (61, .bool true), (64, .pointer (some ⟨b1, 1, none⟩)), (65, str (Pc.a p)), (66, .pointer (some ⟨b2, 1, none⟩)), (67, .pointer (some ⟨b1, 4, none⟩)), (68, str (Pc.r p)), (69, .pointer (some ⟨b2, 4, none⟩)), (70, .pointer (some ⟨b1, 3, none⟩)), (71, str (Pc.c p)), (72, .pointer (some ⟨b2, 3, none⟩)), (80, .bool r)]) ?_ fun r60 hr60 => ?_
      ·
       cases r59
       ·
        have qr60 := hr59
        refine ops_no rfl rfl rfl rfl ?_
        refine ops_no rfl rfl rfl rfl ?_
        refine ops_no rfl rfl rfl rfl ?_
        refine ops_val (yld_pick_f rfl rfl) rfl ?_
        refine ops_nil ?_
        refine fin_inv rfl ?_
        exact met ⟨rfl, rfl, rfl, rfl, rfl, rfl, rfl, rfl, rfl, rfl, rfl, rfl, rfl, rfl, rfl, rfl, rfl, rfl, rfl, rfl, rfl, rfl, rfl, rfl, rfl, rfl, rfl, rfl, (get_bool rfl (jaf qr60)), trivial⟩
       ·
        have qr60 := hr59
        refine ops_yes rfl rfl ?_
        refine ops_val (yld_field Tryz.runUnderlying31 rfl rfl rfl Tryz.sizeOf9) rfl ?_
        refine ops_yes rfl rfl ?_
        refine ops_val (yld_load 1 Tryz.isAgg9 rfl rfl rfl) rfl ?_
        refine ops_yes rfl rfl ?_
        refine ops_callB (rRole_c _ (by omega)) rfl pf_nil (fun _ _ _ => by exact trivial) rfl fun r61 hr61 => ?_
        refine ops_val (yld_pick_t rfl rfl) rfl ?_
        refine ops_nil ?_
        refine fin_inv rfl ?_
        exact met ⟨rfl, rfl, rfl, rfl, rfl, rfl, rfl, rfl, rfl, rfl, rfl, rfl, rfl, rfl, rfl, rfl, rfl, rfl, rfl, rfl, rfl, rfl, rfl, rfl, rfl, rfl, rfl, rfl, (get_bool rfl (jat qr60 hr61)), trivial⟩
      ·
       refine ops_val (yld_move rfl) rfl ?_
       refine ops_cut 4 ((((atomS (Pc.a p)) && (roleS (Pc.r p)))) && (atomS (Pc.c p))) (fun r => [(0, Pc.val p), (1, .pointer (some ⟨b1, 0, none⟩)), (2, .bool false), (13, .bool false), (14, .pointer (some ⟨b1, 0, none⟩)), (15, .int .i64 (Pc.kind p)), (16, .pointer (some ⟨b1, 9, none⟩)), (17, .int .i64 (Pc.frm p)), (18, Pc.val (Pc.mk (Pc.kind p) [] [] [] [] [] [] 0 0 (Pc.frm p))), (3, .pointer (some ⟨b2, 0, none⟩)), (4, .bool false), (19, .pointer (some ⟨b1, 0, none⟩)), (20, .int .i64 (Pc.kind p)), (22, .bool false), (21, .bool false), (38, .bool false), (37, .bool false), (62, .bool true), (61, .bool true), (64, .pointer (some ⟨b1, 1, none⟩)), (65, str (Pc.a p)), (66, .pointer (some ⟨b2, 1, none⟩)), (67, .pointer (some ⟨b1, 4, none⟩)), (68, str (Pc.r p)), (69, .pointer (some ⟨b2, 4, none⟩)), (70, .pointer (some ⟨b1, 3, none⟩)), (71, str (Pc.c p)), (72, .pointer (some ⟨b2, 3, none⟩)), (85, .bool r)]) ?_ fun r62 hr62 => ?_
       ·
        cases r60
        ·
         have qr62 := hr60
         simp at hr60
         refine ops_no rfl rfl rfl rfl ?_
         refine ops_no rfl rfl rfl rfl ?_
         refine ops_no rfl rfl rfl rfl ?_
         refine ops_val (yld_pick_f rfl rfl) rfl ?_
         refine ops_nil ?_
         refine fin_inv rfl ?_
         exact met ⟨rfl, rfl, rfl, rfl, rfl, rfl, rfl, rfl, rfl, rfl, rfl, rfl, rfl, rfl, rfl, rfl, rfl, rfl, rfl, rfl, rfl, rfl, rfl, rfl, rfl, rfl, rfl, rfl, (get_bool rfl (jaf qr62)), trivial⟩
        ·
         have qr62 := hr60
         simp at hr60
         refine ops_yes rfl rfl ?_
         refine ops_val (yld_field Tryz.runUnderlying31 rfl rfl rfl Tryz.sizeOf9) rfl ?_
         refine ops_yes rfl rfl ?_
         refine ops_val (yld_load 1 Tryz.isAgg9 rfl rfl rfl) rfl ?_
         refine ops_yes rfl rfl ?_
         refine ops_callB (rAtom_c _ (by omega)) rfl pf_nil (fun _ _ _ => by exact trivial) rfl fun r63 hr63 => ?_
         refine ops_val (yld_pick_t rfl rfl) rfl ?_
         refine ops_nil ?_
         refine fin_inv rfl ?_
         exact met ⟨rfl, rfl, rfl, rfl, rfl, rfl, rfl, rfl, rfl, rfl, rfl, rfl, rfl, rfl, rfl, rfl, rfl, rfl, rfl, rfl, rfl, rfl, rfl, rfl, rfl, rfl, rfl, rfl, (get_bool rfl (jat qr62 hr63)), trivial⟩
       ·
        refine ops_val (yld_assign rfl) rfl ?_
        refine ops_nil ?_
        refine fin_next rfl ?_
        refine run_seq ?_
        refine run_region ?_
        refine ops_val (yld_move rfl) rfl ?_
        refine ops_val (yld_move rfl) rfl ?_
        refine ops_cut 4 ((((((atomS (Pc.a p)) && (roleS (Pc.r p)))) && (atomS (Pc.c p)))) && (decide (p = (Pc.mk (Pc.kind p) (Pc.a p) [] (Pc.c p) (Pc.r p) [] [] 0 0 (Pc.frm p))))) (fun r => [(0, Pc.val p), (1, .pointer (some ⟨b1, 0, none⟩)), (2, .bool false), (13, .bool false), (14, .pointer (some ⟨b1, 0, none⟩)), (15, .int .i64 (Pc.kind p)), (16, .pointer (some ⟨b1, 9, none⟩)), (17, .int .i64 (Pc.frm p)), (18, Pc.val (Pc.mk (Pc.kind p) [] [] [] [] [] [] 0 0 (Pc.frm p))), (3, .pointer (some ⟨b2, 0, none⟩)), (19, .pointer (some ⟨b1, 0, none⟩)), (20, .int .i64 (Pc.kind p)), (22, .bool false), (21, .bool false), (38, .bool false), (37, .bool false), (62, .bool true), (61, .bool true), (64, .pointer (some ⟨b1, 1, none⟩)), (65, str (Pc.a p)), (66, .pointer (some ⟨b2, 1, none⟩)), (67, .pointer (some ⟨b1, 4, none⟩)), (68, str (Pc.r p)), (69, .pointer (some ⟨b2, 4, none⟩)), (70, .pointer (some ⟨b1, 3, none⟩)), (71, str (Pc.c p)), (72, .pointer (some ⟨b2, 3, none⟩)), (85, .bool r62), (189, .bool r)]) ?_ fun r64 hr64 => ?_
        ·
         cases r62
         ·
          have qr64 := hr62
          simp at hr62
          refine ops_no rfl rfl rfl rfl ?_
          refine ops_no rfl rfl rfl rfl ?_
          refine ops_no rfl rfl rfl rfl ?_
          refine ops_val (yld_pick_f rfl rfl) rfl ?_
          refine ops_nil ?_
          refine fin_inv rfl ?_
          exact met ⟨rfl, rfl, rfl, rfl, rfl, rfl, rfl, rfl, rfl, rfl, rfl, rfl, rfl, rfl, rfl, rfl, rfl, rfl, rfl, rfl, rfl, rfl, rfl, rfl, rfl, rfl, rfl, rfl, (get_bool rfl (jaf qr64)), trivial⟩
         ·
          have qr64 := hr62
          simp at hr62
          refine ops_yes rfl rfl ?_
          refine ops_val (yld_loadS 1 Tryz.isAgg31 Tryz.sizeOf31 rfl rfl rfl) rfl ?_
          refine ops_yes rfl rfl ?_
          refine ops_val (yld_loadS 0 Tryz.isAgg31 Tryz.sizeOf31 rfl rfl rfl) rfl ?_
          refine ops_yes rfl rfl ?_
          refine ops_valB (yld_eqlPc (p := p) (q := (Pc.mk (Pc.kind p) (Pc.a p) [] (Pc.c p) (Pc.r p) [] [] 0 0 (Pc.frm p))) rfl rfl) rfl fun r65 hr65 => ?_
          refine ops_val (yld_pick_t rfl rfl) rfl ?_
          refine ops_nil ?_
          refine fin_inv rfl ?_
          exact met ⟨rfl, rfl, rfl, rfl, rfl, rfl, rfl, rfl, rfl, rfl, rfl, rfl, rfl, rfl, rfl, rfl, rfl, rfl, rfl, rfl, rfl, rfl, rfl, rfl, rfl, rfl, rfl, rfl, (get_bool rfl (jat qr64 hr65)), trivial⟩
        ·
         refine ops_val (yld_assign rfl) rfl ?_
         refine ops_nil ?_
         refine fin_next rfl ?_
         refine run_ret ?_
         exact ret1 Tryz.results67 () (get_bool rfl (by rw [← hr64]; obtain ⟨kind, a, b, c, r, s, t, lo, hi, frm⟩ := p; dsimp only at *; subst kind; rw [Bool.eq_iff_iff, vp_gen 3 ⟨true, false, true, true, false, false, false⟩ rfl (by omega)]; simp only [fld_t, fld_f, Bool.and_eq_true, decide_eq_true_eq, Pc.mk.injEq, if_true, Bool.false_eq_true, if_false]; constructor <;> intro h <;> simp_all <;> omega)) pf_nil (fun _ _ _ => trivial)
    ·
     replace hr5 := eq_of_beq hr5
     refine run_cond_t rfl ?_
     refine run_seq ?_
     refine run_region ?_
     refine ops_val (yld_field Tryz.runUnderlying31 rfl rfl rfl Tryz.sizeOf9) rfl ?_
     refine ops_val (yld_load 1 Tryz.isAgg9 rfl rfl rfl) rfl ?_
     refine ops_val (yld_field Tryz.runUnderlying31 rfl rfl rfl Tryz.sizeOf9) rfl ?_
     refine ops_store 0 Tryz.sizeOf9 rfl rfl rfl rfl rfl rfl ?_
     refine ops_nil ?_
     refine fin_next rfl ?_
     refine run_seq ?_
     refine run_region ?_
     refine ops_val (yld_field Tryz.runUnderlying31 rfl rfl rfl Tryz.sizeOf9) rfl ?_
     refine ops_val (yld_load 1 Tryz.isAgg9 rfl rfl rfl) rfl ?_
     refine ops_val (yld_field Tryz.runUnderlying31 rfl rfl rfl Tryz.sizeOf9) rfl ?_
     refine ops_store 0 Tryz.sizeOf9 rfl rfl rfl rfl rfl rfl ?_
     refine ops_nil ?_
     refine fin_next rfl ?_
     refine run_seq ?_
     refine run_region ?_
     refine ops_val (yld_field Tryz.runUnderlying31 rfl rfl rfl Tryz.sizeOf9) rfl ?_
     refine ops_val (yld_load 1 Tryz.isAgg9 rfl rfl rfl) rfl ?_
     refine ops_val (yld_field Tryz.runUnderlying31 rfl rfl rfl Tryz.sizeOf9) rfl ?_
     refine ops_store 0 Tryz.sizeOf9 rfl rfl rfl rfl rfl rfl ?_
     refine ops_nil ?_
     refine fin_next rfl ?_
     refine run_region ?_
     refine ops_val (yld_field Tryz.runUnderlying31 rfl rfl rfl Tryz.sizeOf9) rfl ?_
     refine ops_val (yld_load 1 Tryz.isAgg9 rfl rfl rfl) rfl ?_
     refine ops_callB (rAtom_c _ (by omega)) rfl pf_nil (fun _ _ _ => by exact trivial) rfl fun r66 hr66 => ?_
     refine ops_val (yld_move rfl) rfl ?_
     refine ops_cut 4 ((atomS (Pc.a p)) && (atomS (Pc.b p))) (fun r => [(0, Pc.val p), (1, .pointer (some ⟨b1, 0, none⟩)), (2, .bool false), (13, .bool false), (14, .pointer (some ⟨b1, 0, none⟩)), (15, .int .i64 (Pc.kind p)), (16, .pointer (some ⟨b1, 9, none⟩)), (17, .int .i64 (Pc.frm p)), (18, Pc.val (Pc.mk (Pc.kind p) [] [] [] [] [] [] 0 0 (Pc.frm p))), (3, .pointer (some ⟨b2, 0, none⟩)), (4, .bool false), (19, .pointer (some ⟨b1, 0, none⟩)), (20, .int .i64 (Pc.kind p)), (22, .bool false), (21, .bool false), (38, .bool true), (37, .bool true), (39, .pointer (some ⟨b1, 1, none⟩)), (40, str (Pc.a p)), (41, .pointer (some ⟨b2, 1, none⟩)), (42, .pointer (some ⟨b1, 2, none⟩)), (43, str (Pc.b p)), (44, .pointer (some ⟨b2, 2, none⟩)), (45, .pointer (some ⟨b1, 3, none⟩)), (46, str (Pc.c p)), (47, .pointer (some ⟨b2, 3, none⟩)), (55, .bool r)]) ?_ fun r67 hr67 => ?_
     ·
      cases r66
      ·
       have qr67 := hr66
       refine ops_no rfl rfl rfl rfl ?_
       refine ops_no rfl rfl rfl rfl ?_
       refine ops_no rfl rfl rfl rfl ?_
       refine ops_val (yld_pick_f rfl rfl) rfl ?_
       refine ops_nil ?_
       refine fin_inv rfl ?_
       exact met ⟨rfl, rfl, rfl, rfl, rfl, rfl, rfl, rfl, rfl, rfl, rfl, rfl, rfl, rfl, rfl, rfl, rfl, rfl, rfl, rfl, rfl, rfl, rfl, rfl, rfl, rfl, (get_bool rfl (jaf qr67)), trivial⟩
      ·
       have qr67 := hr66
       refine ops_yes rfl rfl ?_
       refine ops_val (yld_field Tryz.runUnderlying31 rfl rfl rfl Tryz.sizeOf9) rfl ?_
       refine ops_yes rfl rfl ?_
       refine ops_val (yld_load 1 Tryz.isAgg9 rfl rfl rfl) rfl ?_
       refine ops_yes rfl rfl ?_
       refine ops_callB (rAtom_c _ (by omega)) rfl pf_nil (fun _ _ _ => by exact trivial) rfl fun r68 hr68 => ?_
       refine ops_val (yld_pick_t rfl rfl) rfl ?_
       refine ops_nil ?_
       refine fin_inv rfl ?_
       exact met ⟨rfl, rfl, rfl, rfl, rfl, rfl, rfl, rfl, rfl, rfl, rfl, rfl, rfl, rfl, rfl, rfl, rfl, rfl, rfl, rfl, rfl, rfl, rfl, rfl, rfl, rfl, (get_bool rfl (jat qr67 hr68)), trivial⟩
     ·
      refine ops_val (yld_move rfl) rfl ?_
      refine ops_cut 4 ((((atomS (Pc.a p)) && (atomS (Pc.b p)))) && (atomS (Pc.c p))) (fun r => [(0, Pc.val p), (1, .pointer (some ⟨b1, 0, none⟩)), (2, .bool false), (13, .bool false), (14, .pointer (some ⟨b1, 0, none⟩)), (15, .int .i64 (Pc.kind p)), (16, .pointer (some ⟨b1, 9, none⟩)), (17, .int .i64 (Pc.frm p)), (18, Pc.val (Pc.mk (Pc.kind p) [] [] [] [] [] [] 0 0 (Pc.frm p))), (3, .pointer (some ⟨b2, 0, none⟩)), (4, .bool false), (19, .pointer (some ⟨b1, 0, none⟩)), (20, .int .i64 (Pc.kind p)), (22, .bool false), (21, .bool false), (38, .bool true), (37, .bool true), (39, .pointer (some ⟨b1, 1, none⟩)), (40, str (Pc.a p)), (41, .pointer (some ⟨b2, 1, none⟩)), (42, .pointer (some ⟨b1, 2, none⟩)), (43, str (Pc.b p)), (44, .pointer (some ⟨b2, 2, none⟩)), (45, .pointer (some ⟨b1, 3, none⟩)), (46, str (Pc.c p)), (47, .pointer (some ⟨b2, 3, none⟩)), (60, .bool r)]) ?_ fun r69 hr69 => ?_
      ·
       cases r67
       ·
        have qr69 := hr67
        simp at hr67
        refine ops_no rfl rfl rfl rfl ?_
        refine ops_no rfl rfl rfl rfl ?_
        refine ops_no rfl rfl rfl rfl ?_
        refine ops_val (yld_pick_f rfl rfl) rfl ?_
        refine ops_nil ?_
        refine fin_inv rfl ?_
        exact met ⟨rfl, rfl, rfl, rfl, rfl, rfl, rfl, rfl, rfl, rfl, rfl, rfl, rfl, rfl, rfl, rfl, rfl, rfl, rfl, rfl, rfl, rfl, rfl, rfl, rfl, rfl, (get_bool rfl (jaf qr69)), trivial⟩
       ·
        have qr69 := hr67
        simp at hr67
        refine ops_yes rfl rfl ?_
        refine ops_val (yld_field Tryz.runUnderlying31 rfl rfl rfl Tryz.sizeOf9) rfl ?_
        refine ops_yes rfl rfl ?_
        refine ops_val (yld_load 1 Tryz.isAgg9 rfl rfl rfl) rfl ?_
        refine ops_yes rfl rfl ?_
        refine ops_callB (rAtom_c _ (by omega)) rfl pf_nil (fun _ _ _ => by exact trivial) rfl fun r70 hr70 => ?_
        refine ops_val (yld_pick_t rfl rfl) rfl ?_
        refine ops_nil ?_
        refine fin_inv rfl ?_
        exact met ⟨rfl, rfl, rfl, rfl, rfl, rfl, rfl, rfl, rfl, rfl, rfl, rfl, rfl, rfl, rfl, rfl, rfl, rfl, rfl, rfl, rfl, rfl, rfl, rfl, rfl, rfl, (get_bool rfl (jat qr69 hr70)), trivial⟩
      ·
       refine ops_val (yld_assign rfl) rfl ?_
       refine ops_nil ?_
       refine fin_next rfl ?_
       refine run_seq ?_
       refine run_region ?_
       refine ops_val (yld_move rfl) rfl ?_
       refine ops_val (yld_move rfl) rfl ?_
       refine ops_cut 4 ((((((atomS (Pc.a p)) && (atomS (Pc.b p)))) && (atomS (Pc.c p)))) && (decide (p = (Pc.mk (Pc.kind p) (Pc.a p) (Pc.b p) (Pc.c p) [] [] [] 0 0 (Pc.frm p))))) (fun r => [(0, Pc.val p), (1, .pointer (some ⟨b1, 0, none⟩)), (2, .bool false), (13, .bool false), (14, .pointer (some ⟨b1, 0, none⟩)), (15, .int .i64 (Pc.kind p)), (16, .pointer (some ⟨b1, 9, none⟩)), (17, .int .i64 (Pc.frm p)), (18, Pc.val (Pc.mk (Pc.kind p) [] [] [] [] [] [] 0 0 (Pc.frm p))), (3, .pointer (some ⟨b2, 0, none⟩)), (19, .pointer (some ⟨b1, 0, none⟩)), (20, .int .i64 (Pc.kind p)), (22, .bool false), (21, .bool false), (38, .bool true), (37, .bool true), (39, .pointer (some ⟨b1, 1, none⟩)), (40, str (Pc.a p)), (41, .pointer (some ⟨b2, 1, none⟩)), (42, .pointer (some ⟨b1, 2, none⟩)), (43, str (Pc.b p)), (44, .pointer (some ⟨b2, 2, none⟩)), (45, .pointer (some ⟨b1, 3, none⟩)), (46, str (Pc.c p)), (47, .pointer (some ⟨b2, 3, none⟩)), (60, .bool r69), (189, .bool r)]) ?_ fun r71 hr71 => ?_
       ·
        cases r69
        ·
         have qr71 := hr69
         simp at hr69
         refine ops_no rfl rfl rfl rfl ?_
         refine ops_no rfl rfl rfl rfl ?_
         refine ops_no rfl rfl rfl rfl ?_
         refine ops_val (yld_pick_f rfl rfl) rfl ?_
         refine ops_nil ?_
         refine fin_inv rfl ?_
         exact met ⟨rfl, rfl, rfl, rfl, rfl, rfl, rfl, rfl, rfl, rfl, rfl, rfl, rfl, rfl, rfl, rfl, rfl, rfl, rfl, rfl, rfl, rfl, rfl, rfl, rfl, rfl, (get_bool rfl (jaf qr71)), trivial⟩
        ·
         have qr71 := hr69
         simp at hr69
         refine ops_yes rfl rfl ?_
         refine ops_val (yld_loadS 1 Tryz.isAgg31 Tryz.sizeOf31 rfl rfl rfl) rfl ?_
         refine ops_yes rfl rfl ?_
         refine ops_val (yld_loadS 0 Tryz.isAgg31 Tryz.sizeOf31 rfl rfl rfl) rfl ?_
         refine ops_yes rfl rfl ?_
         refine ops_valB (yld_eqlPc (p := p) (q := (Pc.mk (Pc.kind p) (Pc.a p) (Pc.b p) (Pc.c p) [] [] [] 0 0 (Pc.frm p))) rfl rfl) rfl fun r72 hr72 => ?_
         refine ops_val (yld_pick_t rfl rfl) rfl ?_
         refine ops_nil ?_
         refine fin_inv rfl ?_
         exact met ⟨rfl, rfl, rfl, rfl, rfl, rfl, rfl, rfl, rfl, rfl, rfl, rfl, rfl, rfl, rfl, rfl, rfl, rfl, rfl, rfl, rfl, rfl, rfl, rfl, rfl, rfl, (get_bool rfl (jat qr71 hr72)), trivial⟩
       ·
        refine ops_val (yld_assign rfl) rfl ?_
        refine ops_nil ?_
        refine fin_next rfl ?_
        refine run_ret ?_
        exact ret1 Tryz.results67 () (get_bool rfl (by rw [← hr71]; obtain ⟨kind, a, b, c, r, s, t, lo, hi, frm⟩ := p; dsimp only at *; subst kind; rw [Bool.eq_iff_iff, vp_gen 2 ⟨true, true, true, false, false, false, false⟩ rfl (by omega)]; simp only [fld_t, fld_f, Bool.and_eq_true, decide_eq_true_eq, Pc.mk.injEq, if_true, Bool.false_eq_true, if_false]; constructor <;> intro h <;> simp_all <;> omega)) pf_nil (fun _ _ _ => trivial)
   ·
    replace hr4 := eq_of_beq hr4
    refine run_cond_t rfl ?_
    refine run_seq ?_
    refine run_region ?_
    refine ops_val (yld_field Tryz.runUnderlying31 rfl rfl rfl Tryz.sizeOf9) rfl ?_
    refine ops_val (yld_load 1 Tryz.isAgg9 rfl rfl rfl) rfl ?_
    refine ops_val (yld_field Tryz.runUnderlying31 rfl rfl rfl Tryz.sizeOf9) rfl ?_
    refine ops_store 0 Tryz.sizeOf9 rfl rfl rfl rfl rfl rfl ?_
    refine ops_nil ?_
    refine fin_next rfl ?_
    refine run_seq ?_
    refine run_region ?_
    refine ops_val (yld_field Tryz.runUnderlying31 rfl rfl rfl Tryz.sizeOf9) rfl ?_
    refine ops_val (yld_load 1 Tryz.isAgg9 rfl rfl rfl) rfl ?_
    refine ops_val (yld_field Tryz.runUnderlying31 rfl rfl rfl Tryz.sizeOf9) rfl ?_
    refine ops_store 0 Tryz.sizeOf9 rfl rfl rfl rfl rfl rfl ?_
    refine ops_nil ?_
    refine fin_next rfl ?_
    refine run_region ?_
    refine ops_val (yld_field Tryz.runUnderlying31 rfl rfl rfl Tryz.sizeOf9) rfl ?_
    refine ops_val (yld_load 1 Tryz.isAgg9 rfl rfl rfl) rfl ?_
    refine ops_callB (rAtom_c _ (by omega)) rfl pf_nil (fun _ _ _ => by exact trivial) rfl fun r73 hr73 => ?_
    refine ops_val (yld_move rfl) rfl ?_
    refine ops_cut 4 ((atomS (Pc.a p)) && (atomS (Pc.c p))) (fun r => [(0, Pc.val p), (1, .pointer (some ⟨b1, 0, none⟩)), (2, .bool false), (13, .bool false), (14, .pointer (some ⟨b1, 0, none⟩)), (15, .int .i64 (Pc.kind p)), (16, .pointer (some ⟨b1, 9, none⟩)), (17, .int .i64 (Pc.frm p)), (18, Pc.val (Pc.mk (Pc.kind p) [] [] [] [] [] [] 0 0 (Pc.frm p))), (3, .pointer (some ⟨b2, 0, none⟩)), (4, .bool false), (19, .pointer (some ⟨b1, 0, none⟩)), (20, .int .i64 (Pc.kind p)), (22, .bool true), (21, .bool true), (23, .pointer (some ⟨b1, 1, none⟩)), (24, str (Pc.a p)), (25, .pointer (some ⟨b2, 1, none⟩)), (26, .pointer (some ⟨b1, 3, none⟩)), (27, str (Pc.c p)), (28, .pointer (some ⟨b2, 3, none⟩)), (36, .bool r)]) ?_ fun r74 hr74 => ?_
    ·
     cases r73
     ·
      have qr74 := hr73
      refine ops_no rfl rfl rfl rfl ?_
      refine ops_no rfl rfl rfl rfl ?_
      refine ops_no rfl rfl rfl rfl ?_
      refine ops_val (yld_pick_f rfl rfl) rfl ?_
      refine ops_nil ?_
      refine fin_inv rfl ?_
      exact met ⟨rfl, rfl, rfl, rfl, rfl, rfl, rfl, rfl, rfl, rfl, rfl, rfl, rfl, rfl, rfl, rfl, rfl, rfl, rfl, rfl, rfl, (get_bool rfl (jaf qr74)), trivial⟩
     ·
      have qr74 := hr73
      refine ops_yes rfl rfl ?_
      refine ops_val (yld_field Tryz.runUnderlying31 rfl rfl rfl Tryz.sizeOf9) rfl ?_
      refine ops_yes rfl rfl ?_
      refine ops_val (yld_load 1 Tryz.isAgg9 rfl rfl rfl) rfl ?_
      refine ops_yes rfl rfl ?_
      refine ops_callB (rAtom_c _ (by omega)) rfl pf_nil (fun _ _ _ => by exact trivial) rfl fun r75 hr75 => ?_
      refine ops_val (yld_pick_t rfl rfl) rfl ?_
      refine ops_nil ?_
      refine fin_inv rfl ?_
      exact met ⟨rfl, rfl, rfl, rfl, rfl, rfl, rfl, rfl, rfl, rfl, rfl, rfl, rfl, rfl, rfl, rfl, rfl, rfl, rfl, rfl, rfl, (get_bool rfl (jat qr74 hr75)), trivial⟩
    ·
     refine ops_val (yld_assign rfl) rfl ?_
     refine ops_nil ?_
     refine fin_next rfl ?_
     refine run_seq ?_
     refine run_region ?_
     refine ops_val (yld_move rfl) rfl ?_
     refine ops_val (yld_move rfl) rfl ?_
     refine ops_cut 4 ((((atomS (Pc.a p)) && (atomS (Pc.c p)))) && (decide (p = (Pc.mk (Pc.kind p) (Pc.a p) [] (Pc.c p) [] [] [] 0 0 (Pc.frm p))))) (fun r => [(0, Pc.val p), (1, .pointer (some ⟨b1, 0, none⟩)), (2, .bool false), (13, .bool false), (14, .pointer (some ⟨b1, 0, none⟩)), (15, .int .i64 (Pc.kind p)), (16, .pointer (some ⟨b1, 9, none⟩)), (17, .int .i64 (Pc.frm p)), (18, Pc.val (Pc.mk (Pc.kind p) [] [] [] [] [] [] 0 0 (Pc.frm p))), (3, .pointer (some ⟨b2, 0, none⟩)), (19, .pointer (some ⟨b1, 0, none⟩)), (20, .int .i64 (Pc.kind p)), (22, .bool true), (21, .bool true), (23, .pointer (some ⟨b1, 1, none⟩)), (24, str (Pc.a p)), (25, .pointer (some ⟨b2, 1, none⟩)), (26, .pointer (some ⟨b1, 3, none⟩)), (27, str (Pc.c p)), (28, .pointer (some ⟨b2, 3, none⟩)), (36, .bool r74), (189, .bool r)]) ?_ fun r76 hr76 => ?_
     ·
      cases r74
      ·
       have qr76 := hr74
       simp at hr74
       refine ops_no rfl rfl rfl rfl ?_
       refine ops_no rfl rfl rfl rfl ?_
       refine ops_no rfl rfl rfl rfl ?_
       refine ops_val (yld_pick_f rfl rfl) rfl ?_
       refine ops_nil ?_
       refine fin_inv rfl ?_
       exact met ⟨rfl, rfl, rfl, rfl, rfl, rfl, rfl, rfl, rfl, rfl, rfl, rfl, rfl, rfl, rfl, rfl, rfl, rfl, rfl, rfl, rfl, (get_bool rfl (jaf qr76)), trivial⟩
      ·
       have qr76 := hr74
       simp at hr74
       refine ops_yes rfl rfl ?_
       refine ops_val (yld_loadS 1 Tryz.isAgg31 Tryz.sizeOf31 rfl rfl rfl) rfl ?_
       refine ops_yes rfl rfl ?_
       refine ops_val (yld_loadS 0 Tryz.isAgg31 Tryz.sizeOf31 rfl rfl rfl) rfl ?_
       refine ops_yes rfl rfl ?_
       refine ops_valB (yld_eqlPc (p := p) (q := (Pc.mk (Pc.kind p) (Pc.a p) [] (Pc.c p) [] [] [] 0 0 (Pc.frm p))) rfl rfl) rfl fun r77 hr77 => ?_
       refine ops_val (yld_pick_t rfl rfl) rfl ?_
       refine ops_nil ?_
       refine fin_inv rfl ?_
       exact met ⟨rfl, rfl, rfl, rfl, rfl, rfl, rfl, rfl, rfl, rfl, rfl, rfl, rfl, rfl, rfl, rfl, rfl, rfl, rfl, rfl, rfl, (get_bool rfl (jat qr76 hr77)), trivial⟩
     ·
      refine ops_val (yld_assign rfl) rfl ?_
      refine ops_nil ?_
      refine fin_next rfl ?_
      refine run_ret ?_
      exact ret1 Tryz.results67 () (get_bool rfl (by rw [← hr76]; obtain ⟨kind, a, b, c, r, s, t, lo, hi, frm⟩ := p; dsimp only at *; subst kind; rw [Bool.eq_iff_iff, vp_gen 1 ⟨true, false, true, false, false, false, false⟩ rfl (by omega)]; simp only [fld_t, fld_f, Bool.and_eq_true, decide_eq_true_eq, Pc.mk.injEq, if_true, Bool.false_eq_true, if_false]; constructor <;> intro h <;> simp_all <;> omega)) pf_nil (fun _ _ _ => trivial)
  ·
   simp at hr2
   refine run_cond_t rfl ?_
   refine run_seq ?_
   refine run_region ?_
   refine ops_val (yld_assign rfl) rfl ?_
   refine ops_nil ?_
   refine fin_next rfl ?_
   refine run_ret ?_
   exact ret1 Tryz.results67 () (get_bool rfl (by unfold Pc.valid; rw [if_pos (by omega)])) pf_nil (fun _ _ _ => trivial)

theorem rCheck_c (l : List Pc) (ad : Option Addr) (cap : Nat) (hl : l.length ≤ 17592186044414) (hsm : ∀ p ∈ l, p.sm) : Tri Tryz.prog 28 #[.slice ad (List.length l) cap] [] [rowF ad (List.flatMap Pc.cells l)] (fun _ : Unit => .int .i64 (checkP l)) (fun _ => []) (fun _ => []) := by
 refine tri_of_body Tryz.func28 rfl rfl Tryz.ntmps28 rfl fun v0 => ?_
 refine run_seq ?_
 refine run_region ?_
 refine ops_val (yld_assign rfl) rfl ?_
 refine ops_nil ?_
 refine fin_next rfl ?_
 refine run_seq ?_
 refine run_seq ?_
 refine run_region ?_
 refine ops_val (yld_move rfl) rfl ?_
 refine ops_val (yld_lenS Tryz.runUnderlying25 rfl) rfl ?_
 refine ops_valB (yld_gtr rfl rfl) rfl fun r1 hr1 => ?_
 refine ops_nil ?_
 refine fin_next rfl ?_
 cases r1
 ·
  replace hr1 := of_decide_eq_false hr1
  refine run_cond_f rfl ?_
  refine run_skip ?_
  refine fin_next rfl ?_
  refine run_seq ?_
  refine run_seq ?_
  refine run_region ?_
  refine ops_val (yld_assign rfl) rfl ?_
  refine ops_nil ?_
  refine fin_next rfl ?_
  refine run_block ?_
  refine ok_fr [(0, .slice ad (List.length l) cap), (3, .int .i64 ((0 : Nat) : Int))] ⟨rfl, rfl, trivial⟩ ?_
  refine run_loop (ι := {q : Nat // q ≤ l.length ∧ (l.take q).all Pc.valid = true}) (fun i => [(0, .slice ad (List.length l) cap), (3, .int .i64 (i.1 : Int))]) (fun _ => _) (fun _ => _) (fun i => l.length - i.1) ⟨0, by simp⟩ ?_
  rintro ⟨i, hk⟩
  refine ok_fr [(0, .slice ad (List.length l) cap), (3, .int .i64 (i : Int))] ⟨rfl, rfl, trivial⟩ ?_
  refine run_seq ?_
  refine run_seq ?_
  refine run_region ?_
  refine ops_val (yld_move rfl) rfl ?_
  refine ops_val (yld_move rfl) rfl ?_
  refine ops_val (yld_lenS Tryz.runUnderlying25 rfl) rfl ?_
  refine ops_valB (yld_lss rfl rfl) rfl fun r2 hr2 => ?_
  refine ops_nil ?_
  refine fin_next rfl ?_
  cases r2
  ·
   replace hr2 := of_decide_eq_false hr2
   refine run_cond_f rfl ?_
   refine run_exit rfl ?_
   refine fin_next rfl ?_
   refine run_seq ?_
   refine run_region ?_
   refine ops_val (yld_assign rfl) rfl ?_
   refine ops_nil ?_
   refine fin_next rfl ?_
   refine run_ret ?_
   exact ret1 Tryz.results28 () (get_int rfl (by unfold checkP; rw [if_neg (by omega), if_pos (by have := hk.2; rwa [List.take_of_length_le (by omega)] at this)])) (.refl _) (fun _ _ _ => trivial)
  ·
   replace hr2 := of_decide_eq_true hr2
   have hlx1 : i < List.length l := by omega
   obtain ⟨x1, hx1⟩ : ∃ e0, l[i]? = some e0 := ⟨_, List.getElem?_eq_getElem hlx1⟩
   have hmx1 : x1 ∈ l := List.mem_of_getElem? hx1
   refine run_cond_t rfl ?_
   refine run_skip ?_
   refine fin_next rfl ?_
   refine run_seq ?_
   refine run_block ?_
   refine run_seq ?_
   refine run_region ?_
   refine ops_val (yld_move rfl) rfl ?_
   refine ops_val (yld_move rfl) rfl ?_
   refine ops_val (yld_indexR Tryz.runUnderlying25 Tryz.sizeOf31 rfl rfl (fun v _ h => row_adr (n := 10) Pc.cells_len (by decide) (by exact h.1) hx1) (by omega) (by first | omega | (simp; done))) rfl ?_
   refine ops_val (yld_loadRS (ad := ad) (us := Pc.cells x1) Tryz.isAgg31 Tryz.sizeOf31 rfl (fun v _ h => by exact h.1) (Pc.cells_len _) (row_cells Pc.cells_len hx1)) rfl ?_
   refine ops_callB (rValid_c x1 (hsm x1 hmx1)) rfl pf_nil (fun _ _ _ => by exact trivial) rfl fun r3 hr3 => ?_
   refine ops_val (yld_not rfl) rfl ?_
   refine ops_nil ?_
   refine fin_next rfl ?_
   cases r3
   ·
    refine run_cond_t rfl ?_
    refine run_seq ?_
    refine run_region ?_
    refine ops_val (yld_assign rfl) rfl ?_
    refine ops_nil ?_
    refine fin_next rfl ?_
    refine run_ret ?_
    exact ret1 Tryz.results28 () (get_int rfl (by unfold checkP; rw [if_neg (by omega), if_neg (by rw [show l.all Pc.valid = false from List.all_eq_false.2 ⟨x1, hmx1, by simp [*]⟩]; simp)])) (.refl _) (fun _ _ _ => trivial)
   ·
    refine run_cond_f rfl ?_
    refine run_skip ?_
    refine fin_next rfl ?_
    refine run_region ?_
    refine ops_val (yld_move rfl) rfl ?_
    refine ops_val (yld_arith rfl rfl rfl (wrap64 (by omega) (by omega))) rfl ?_
    refine ops_val (yld_assign rfl) rfl ?_
    refine ops_nil ?_
    refine fin_inv rfl ?_
    exact ok_again ⟨i + 1, hlx1, by rw [List.take_add_one, hx1]; simp only [Option.toList_some, List.all_append, hk.2]; simp [*]⟩ (by simp; omega) ⟨rfl, rfl, trivial⟩ (.refl _) (fun _ _ h => h)
 ·
  replace hr1 := of_decide_eq_true hr1
  refine run_cond_t rfl ?_
  refine run_seq ?_
  refine run_region ?_
  refine ops_val (yld_assign rfl) rfl ?_
  refine ops_nil ?_
  refine fin_next rfl ?_
  refine run_ret ?_
  exact ret1 Tryz.results28 () (get_int rfl (by unfold checkP; rw [if_pos (by omega)])) (.refl _) (fun _ _ _ => trivial)

theorem sameI_c (l m : List Int) (ad ae : Option Addr) (cap cpe : Nat) (hl : l.length ≤ 17592186044414) (hm : m.length ≤ 17592186044414) : Tri Tryz.prog 32 #[.slice ad (List.length l) cap, .slice ae (List.length m) cpe] [] [rowF ad (List.flatMap intC l), rowF ae (List.flatMap intC m)] (fun _ : Unit => .bool (decide (l = m))) (fun _ => []) (fun _ => []) := by
 refine tri_of_body Tryz.func32 rfl rfl Tryz.ntmps32 rfl fun v0 => ?_
 refine run_seq ?_
 refine run_region ?_
 refine ops_val (yld_assign rfl) rfl ?_
 refine ops_nil ?_
 refine fin_next rfl ?_
 refine run_seq ?_
 refine run_seq ?_
 refine run_region ?_
 refine ops_val (yld_move rfl) rfl ?_
 refine ops_val (yld_lenS Tryz.runUnderlying62 rfl) rfl ?_
 refine ops_val (yld_move rfl) rfl ?_
 refine ops_val (yld_lenS Tryz.runUnderlying62 rfl) rfl ?_
 refine ops_valB (yld_neq rfl rfl) rfl fun r1 hr1 => ?_
 refine ops_nil ?_
 refine fin_next rfl ?_
 cases r1
 ·
  replace hr1 := eq_of_bne hr1
  refine run_cond_f rfl ?_
  refine run_skip ?_
  refine fin_next rfl ?_
  refine run_seq ?_
  refine run_seq ?_
  refine run_region ?_
  refine ops_val (yld_assign rfl) rfl ?_
  refine ops_nil ?_
  refine fin_next rfl ?_
  refine run_block ?_
  refine ok_fr [(0, .slice ad (List.length l) cap), (1, .slice ae (List.length m) cpe), (5, .int .i64 ((0 : Nat) : Int))] ⟨rfl, rfl, rfl, trivial⟩ ?_
  refine run_loop (ι := {q : Nat // q ≤ l.length ∧ l.take q = m.take q}) (fun i => [(0, .slice ad (List.length l) cap), (1, .slice ae (List.length m) cpe), (5, .int .i64 (i.1 : Int))]) (fun _ => _) (fun _ => _) (fun i => l.length - i.1) ⟨0, by simp⟩ ?_
  rintro ⟨i, hk⟩
  refine ok_fr [(0, .slice ad (List.length l) cap), (1, .slice ae (List.length m) cpe), (5, .int .i64 (i : Int))] ⟨rfl, rfl, rfl, trivial⟩ ?_
  refine run_seq ?_
  refine run_seq ?_
  refine run_region ?_
  refine ops_val (yld_move rfl) rfl ?_
  refine ops_val (yld_move rfl) rfl ?_
  refine ops_val (yld_lenS Tryz.runUnderlying62 rfl) rfl ?_
  refine ops_valB (yld_lss rfl rfl) rfl fun r2 hr2 => ?_
  refine ops_nil ?_
  refine fin_next rfl ?_
  cases r2
  ·
   replace hr2 := of_decide_eq_false hr2
   refine run_cond_f rfl ?_
   refine run_exit rfl ?_
   refine fin_next rfl ?_
   refine run_seq ?_
   refine run_region ?_
   refine ops_val (yld_assign rfl) rfl ?_
   refine ops_nil ?_
   refine fin_next rfl ?_
   refine run_ret ?_
   exact ret1 Tryz.results32 () (get_bool rfl (by symm; apply decide_eq_true; have h2 := hk.2; rwa [List.take_of_length_le (by omega), List.take_of_length_le (by omega)] at h2)) (.refl _) (fun _ _ _ => trivial)
  ·
   replace hr2 := of_decide_eq_true hr2
   have hlx1 : i < List.length l := by omega
   obtain ⟨x1, hx1⟩ : ∃ e0, l[i]? = some e0 := ⟨_, List.getElem?_eq_getElem hlx1⟩
   have hmx1 : x1 ∈ l := List.mem_of_getElem? hx1
   have hlx2 : i < List.length m := by omega
   obtain ⟨x2, hx2⟩ : ∃ e0, m[i]? = some e0 := ⟨_, List.getElem?_eq_getElem hlx2⟩
   have hmx2 : x2 ∈ m := List.mem_of_getElem? hx2
   refine run_cond_t rfl ?_
   refine run_skip ?_
   refine fin_next rfl ?_
   refine run_seq ?_
   refine run_block ?_
   refine run_seq ?_
   refine run_draw' (by kernel_rfl) ?_
   refine any_take 0 rfl (by kernel_rfl) (by kernel_rfl) (by kernel_rfl) (yld_move rfl) rfl (fun _ a b => ⟨satNil a, b⟩) ?_
   refine any_take 1 rfl (by kernel_rfl) (by kernel_rfl) (by kernel_rfl) (yld_move rfl) rfl (fun _ a b => ⟨satNil a, b⟩) ?_
   refine any_take 2 rfl (by kernel_rfl) (by kernel_rfl) (by kernel_rfl) (yld_indexR Tryz.runUnderlying62 Tryz.sizeOf3 rfl rfl (fun v _ h => row_adr (n := 1) intC_len (by decide) (by exact h.1) hx1) (by omega) (by first | omega | (simp; done))) rfl (fun _ a b => ⟨satNil a, b⟩) ?_
   refine any_take 3 rfl (by kernel_rfl) (by kernel_rfl) (by kernel_rfl) (yld_loadR (ad := ad) Tryz.isAgg3 rfl (fun v _ h => by exact h.1) (row_cells intC_len hx1 0 _ rfl)) rfl (fun _ a b => ⟨satNil a, b⟩) ?_
   refine any_take 4 rfl (by kernel_rfl) (by kernel_rfl) (by kernel_rfl) (yld_move rfl) rfl (fun _ a b => ⟨satNil a, b⟩) ?_
   refine any_take 5 rfl (by kernel_rfl) (by kernel_rfl) (by kernel_rfl) (yld_move rfl) rfl (fun _ a b => ⟨satNil a, b⟩) ?_
   refine any_take 6 rfl (by kernel_rfl) (by kernel_rfl) (by kernel_rfl) (yld_indexR Tryz.runUnderlying62 Tryz.sizeOf3 rfl rfl (fun v _ h => row_adr (n := 1) intC_len (by decide) (by exact h.2.1) hx2) (by omega) (by first | omega | (simp; done))) rfl (fun _ a b => ⟨satNil a, b⟩) ?_
   refine any_take 7 rfl (by kernel_rfl) (by kernel_rfl) (by kernel_rfl) (yld_loadR (ad := ae) Tryz.isAgg3 rfl (fun v _ h => by exact h.2.1) (row_cells intC_len hx2 0 _ rfl)) rfl (fun _ a b => ⟨satNil a, b⟩) ?_
   refine any_takeB 8 rfl (by kernel_rfl) (by kernel_rfl) (by kernel_rfl) (yld_neq rfl rfl) rfl (fun _ a b => ⟨satNil a, b⟩) fun r3 hr3 => ?_
   refine any_done (by kernel_rfl) ?_
   refine fin_next rfl ?_
   cases r3
   ·
    replace hr3 := eq_of_bne hr3
    have hxe : x1 = x2 := by assumption
    refine run_cond_f rfl ?_
    refine run_skip ?_
    refine fin_next rfl ?_
    refine run_region ?_
    refine ops_val (yld_move rfl) rfl ?_
    refine ops_val (yld_arith rfl rfl rfl (wrap64 (by omega) (by omega))) rfl ?_
    refine ops_val (yld_assign rfl) rfl ?_
    refine ops_nil ?_
    refine fin_inv rfl ?_
    exact ok_again ⟨i + 1, hlx1, by rw [List.take_add_one, hx1, List.take_add_one, hx2, hk.2, hxe]⟩ (by simp; omega) ⟨rfl, rfl, rfl, trivial⟩ (.refl _) (fun _ _ h => h)
   ·
    replace hr3 := ne_of_bne hr3
    refine run_cond_t rfl ?_
    refine run_seq ?_
    refine run_region ?_
    refine ops_val (yld_assign rfl) rfl ?_
    refine ops_nil ?_
    refine fin_next rfl ?_
    refine run_ret ?_
    exact ret1 Tryz.results32 () (get_bool rfl (by symm; apply decide_eq_false; intro e; subst e; rw [hx1] at hx2; simp_all)) (.refl _) (fun _ _ _ => trivial)
 ·
  replace hr1 := ne_of_bne hr1
  refine run_cond_t rfl ?_
  refine run_seq ?_
  refine run_region ?_
  refine ops_val (yld_assign rfl) rfl ?_
  refine ops_nil ?_
  refine fin_next rfl ?_
  refine run_ret ?_
  exact ret1 Tryz.results32 () (get_bool rfl (by symm; apply decide_eq_false; intro e; subst e; omega)) (.refl _) (fun _ _ _ => trivial)

theorem sameS_c (l m : List Str) (ad ae : Option Addr) (cap cpe : Nat) (hl : l.length ≤ 17592186044414) (hm : m.length ≤ 17592186044414) : Tri Tryz.prog 29 #[.slice ad (List.length l) cap, .slice ae (List.length m) cpe] [] [rowF ad (List.flatMap strC l), rowF ae (List.flatMap strC m)] (fun _ : Unit => .bool (decide (l = m))) (fun _ => []) (fun _ => []) := by
 refine tri_of_body Tryz.func29 rfl rfl Tryz.ntmps29 rfl fun v0 => ?_
 refine run_seq ?_
 refine run_region ?_
 refine ops_val (yld_assign rfl) rfl ?_
 refine ops_nil ?_
 refine fin_next rfl ?_
 refine run_seq ?_
 refine run_seq ?_
 refine run_region ?_
 refine ops_val (yld_move rfl) rfl ?_
 refine ops_val (yld_lenS Tryz.runUnderlying39 rfl) rfl ?_
 refine ops_val (yld_move rfl) rfl ?_
 refine ops_val (yld_lenS Tryz.runUnderlying39 rfl) rfl ?_
 refine ops_valB (yld_neq rfl rfl) rfl fun r1 hr1 => ?_
 refine ops_nil ?_
 refine fin_next rfl ?_
 cases r1
 ·
  replace hr1 := eq_of_bne hr1
  refine run_cond_f rfl ?_
  refine run_skip ?_
  refine fin_next rfl ?_
  refine run_seq ?_
  refine run_seq ?_
  refine run_region ?_
  refine ops_val (yld_assign rfl) rfl ?_
  refine ops_nil ?_
  refine fin_next rfl ?_
  refine run_block ?_
  refine ok_fr [(0, .slice ad (List.length l) cap), (1, .slice ae (List.length m) cpe), (5, .int .i64 ((0 : Nat) : Int))] ⟨rfl, rfl, rfl, trivial⟩ ?_
  refine run_loop (ι := {q : Nat // q ≤ l.length ∧ l.take q = m.take q}) (fun i => [(0, .slice ad (List.length l) cap), (1, .slice ae (List.length m) cpe), (5, .int .i64 (i.1 : Int))]) (fun _ => _) (fun _ => _) (fun i => l.length - i.1) ⟨0, by simp⟩ ?_
  rintro ⟨i, hk⟩
  refine ok_fr [(0, .slice ad (List.length l) cap), (1, .slice ae (List.length m) cpe), (5, .int .i64 (i : Int))] ⟨rfl, rfl, rfl, trivial⟩ ?_
  refine run_seq ?_
  refine run_seq ?_
  refine run_region ?_
  refine ops_val (yld_move rfl) rfl ?_
  refine ops_val (yld_move rfl) rfl ?_
  refine ops_val (yld_lenS Tryz.runUnderlying39 rfl) rfl ?_
  refine ops_valB (yld_lss rfl rfl) rfl fun r2 hr2 => ?_
  refine ops_nil ?_
  refine fin_next rfl ?_
  cases r2
  ·
   replace hr2 := of_decide_eq_false hr2
   refine run_cond_f rfl ?_
   refine run_exit rfl ?_
   refine fin_next rfl ?_
   refine run_seq ?_
   refine run_region ?_
   refine ops_val (yld_assign rfl) rfl ?_
   refine ops_nil ?_
   refine fin_next rfl ?_
   refine run_ret ?_
   exact ret1 Tryz.results29 () (get_bool rfl (by symm; apply decide_eq_true; have h2 := hk.2; rwa [List.take_of_length_le (by omega), List.take_of_length_le (by omega)] at h2)) (.refl _) (fun _ _ _ => trivial)
  ·
   replace hr2 := of_decide_eq_true hr2
   have hlx1 : i < List.length l := by omega
   obtain ⟨x1, hx1⟩ : ∃ e0, l[i]? = some e0 := ⟨_, List.getElem?_eq_getElem hlx1⟩
   have hmx1 : x1 ∈ l := List.mem_of_getElem? hx1
   have hlx2 : i < List.length m := by omega
   obtain ⟨x2, hx2⟩ : ∃ e0, m[i]? = some e0 := ⟨_, List.getElem?_eq_getElem hlx2⟩
   have hmx2 : x2 ∈ m := List.mem_of_getElem? hx2
   refine run_cond_t rfl ?_
   refine run_skip ?_
   refine fin_next rfl ?_
   refine run_seq ?_
   refine run_block ?_
   refine run_seq ?_
   refine run_draw' (by kernel_rfl) ?_
   refine any_take 0 rfl (by kernel_rfl) (by kernel_rfl) (by kernel_rfl) (yld_move rfl) rfl (fun _ a b => ⟨satNil a, b⟩) ?_
   refine any_take 1 rfl (by kernel_rfl) (by kernel_rfl) (by kernel_rfl) (yld_move rfl) rfl (fun _ a b => ⟨satNil a, b⟩) ?_
   refine any_take 2 rfl (by kernel_rfl) (by kernel_rfl) (by kernel_rfl) (yld_indexR Tryz.runUnderlying39 Tryz.sizeOf9 rfl rfl (fun v _ h => row_adr (n := 1) strC_len (by decide) (by exact h.1) hx1) (by omega) (by first | omega | (simp; done))) rfl (fun _ a b => ⟨satNil a, b⟩) ?_
   refine any_take 3 rfl (by kernel_rfl) (by kernel_rfl) (by kernel_rfl) (yld_loadR (ad := ad) Tryz.isAgg9 rfl (fun v _ h => by exact h.1) (row_cells strC_len hx1 0 _ rfl)) rfl (fun _ a b => ⟨satNil a, b⟩) ?_
   refine any_take 4 rfl (by kernel_rfl) (by kernel_rfl) (by kernel_rfl) (yld_move rfl) rfl (fun _ a b => ⟨satNil a, b⟩) ?_
   refine any_take 5 rfl (by kernel_rfl) (by kernel_rfl) (by kernel_rfl) (yld_move rfl) rfl (fun _ a b => ⟨satNil a, b⟩) ?_
   refine any_take 6 rfl (by kernel_rfl) (by kernel_rfl) (by kernel_rfl) (yld_indexR Tryz.runUnderlying39 Tryz.sizeOf9 rfl rfl (fun v _ h => row_adr (n := 1) strC_len (by decide) (by exact h.2.1) hx2) (by omega) (by first | omega | (simp; done))) rfl (fun _ a b => ⟨satNil a, b⟩) ?_
   refine any_take 7 rfl (by kernel_rfl) (by kernel_rfl) (by kernel_rfl) (yld_loadR (ad := ae) Tryz.isAgg9 rfl (fun v _ h => by exact h.2.1) (row_cells strC_len hx2 0 _ rfl)) rfl (fun _ a b => ⟨satNil a, b⟩) ?_
   refine any_takeB 8 rfl (by kernel_rfl) (by kernel_rfl) (by kernel_rfl) (yld_sneq rfl rfl) rfl (fun _ a b => ⟨satNil a, b⟩) fun r3 hr3 => ?_
   refine any_done (by kernel_rfl) ?_
   refine fin_next rfl ?_
   cases r3
   ·
    replace hr3 := eq_of_bne hr3
    have hxe : x1 = x2 := by assumption
    refine run_cond_f rfl ?_
    refine run_skip ?_
    refine fin_next rfl ?_
    refine run_region ?_
    refine ops_val (yld_move rfl) rfl ?_
    refine ops_val (yld_arith rfl rfl rfl (wrap64 (by omega) (by omega))) rfl ?_
    refine ops_val (yld_assign rfl) rfl ?_
    refine ops_nil ?_
    refine fin_inv rfl ?_
    exact ok_again ⟨i + 1, hlx1, by rw [List.take_add_one, hx1, List.take_add_one, hx2, hk.2, hxe]⟩ (by simp; omega) ⟨rfl, rfl, rfl, trivial⟩ (.refl _) (fun _ _ h => h)
   ·
    replace hr3 := ne_of_bne hr3
    refine run_cond_t rfl ?_
    refine run_seq ?_
    refine run_region ?_
    refine ops_val (yld_assign rfl) rfl ?_
    refine ops_nil ?_
    refine fin_next rfl ?_
    refine run_ret ?_
    exact ret1 Tryz.results29 () (get_bool rfl (by symm; apply decide_eq_false; intro e; subst e; rw [hx1] at hx2; simp_all)) (.refl _) (fun _ _ _ => trivial)
 ·
  replace hr1 := ne_of_bne hr1
  refine run_cond_t rfl ?_
  refine run_seq ?_
  refine run_region ?_
  refine ops_val (yld_assign rfl) rfl ?_
  refine ops_nil ?_
  refine fin_next rfl ?_
  refine run_ret ?_
  exact ret1 Tryz.results29 () (get_bool rfl (by symm; apply decide_eq_false; intro e; subst e; omega)) (.refl _) (fun _ _ _ => trivial)

theorem rOf_c (l : List Pc) (ad : Option Addr) (cap : Nat) (a : Int) (hl : l.length ≤ 100000000000) : Tri Tryz.prog 34 #[.slice ad (List.length l) cap, .int .i64 a] [] [rowF ad (List.flatMap Pc.cells l)] (fun y : {y : Option Addr × Nat // (ofs a 0 l).length ≤ y.2 ∧ y.2 ≤ maxLen} => .slice y.1.1 (ofs a 0 l).length y.1.2) (fun _ => []) (fun y => [rowF y.1.1 ((ofs a 0 l).flatMap intC)]) := by
 refine tri_of_body Tryz.func34 rfl rfl Tryz.ntmps34 rfl fun v0 => ?_
 refine run_seq ?_
 refine run_region ?_
 refine ops_val (yld_assign rfl) rfl ?_
 refine ops_nil ?_
 refine fin_next rfl ?_
 refine run_seq ?_
 refine run_region ?_
 refine ops_val (yld_assign rfl) rfl ?_
 refine ops_nil ?_
 refine fin_next rfl ?_
 refine run_seq ?_
 refine run_seq ?_
 refine run_region ?_
 refine ops_val (yld_assign rfl) rfl ?_
 refine ops_nil ?_
 refine fin_next rfl ?_
 refine run_block ?_
 refine ok_fr [(0, .slice ad (List.length l) cap), (1, .int .i64 a), (5, .slice none 0 0), (6, .int .i64 ((0 : Nat) : Int))] ⟨rfl, rfl, rfl, rfl, trivial⟩ ?_
 refine run_loop (ι := {y : Nat × Value × Hp // y.1 ≤ l.length ∧ SRow 3 1 y.2.1 (ofs a 0 (l.take y.1)).length ((ofs a 0 (l.take y.1)).flatMap intC) y.2.2}) (fun y => [(0, .slice ad (List.length l) cap), (1, .int .i64 a), (5, y.1.2.1), (6, .int .i64 (y.1.1 : Int))]) (fun y => y.1.2.2) (fun _ => _) (fun y => l.length - y.1.1) ⟨(0, .slice none 0 0, []), by simp, SRow.nil _ _⟩ ?_
 rintro ⟨⟨i, sv, Hr⟩, hi, hrow⟩
 dsimp only at hi hrow
 dsimp only
 have hol := ofs_len a (l.take i) 0
 rw [List.length_take] at hol
 refine ok_fr [(0, .slice ad (List.length l) cap), (1, .int .i64 a), (5, sv), (6, .int .i64 (i : Int))] ⟨rfl, rfl, rfl, rfl, trivial⟩ ?_
 refine run_seq ?_
 refine run_seq ?_
 refine run_region ?_
 refine ops_val (yld_move rfl) rfl ?_
 refine ops_val (yld_move rfl) rfl ?_
 refine ops_val (yld_lenS Tryz.runUnderlying25 rfl) rfl ?_
 refine ops_valB (yld_lss rfl rfl) rfl fun r1 hr1 => ?_
 refine ops_nil ?_
 refine fin_next rfl ?_
 cases r1
 ·
  replace hr1 := of_decide_eq_false hr1
  refine run_cond_f rfl ?_
  refine run_exit rfl ?_
  refine fin_next rfl ?_
  refine run_seq ?_
  refine run_region ?_
  refine ops_val (yld_move rfl) rfl ?_
  refine ops_val (yld_assign rfl) rfl ?_
  refine ops_nil ?_
  refine fin_next rfl ?_
  refine run_ret ?_
  have et : l.take i = l := List.take_of_length_le (by omega)
  rw [et] at hrow
  refine ok_giveRow hrow pf_end fun ad2 cp2 hsv hc1 hc2 => ?_
  exact ret1 Tryz.results34 ⟨(ad2, cp2), hc1, hc2⟩ (get_val rfl hsv) pf_nil (fun v _ h => ⟨h.1, trivial⟩)
 ·
  replace hr1 := of_decide_eq_true hr1
  have hlx1 : i < List.length l := by omega
  obtain ⟨x1, hx1⟩ : ∃ e0, l[i]? = some e0 := ⟨_, List.getElem?_eq_getElem hlx1⟩
  have hmx1 : x1 ∈ l := List.mem_of_getElem? hx1
  refine run_cond_t rfl ?_
  refine run_skip ?_
  refine fin_next rfl ?_
  refine run_seq ?_
  refine run_block ?_
  refine run_seq ?_
  refine run_region ?_
  refine ops_val (yld_move rfl) rfl ?_
  refine ops_val (yld_move rfl) rfl ?_
  refine ops_val (yld_indexR Tryz.runUnderlying25 Tryz.sizeOf31 rfl rfl (fun v _ h => row_adr (n := 10) Pc.cells_len (by decide) (by exact h.1) hx1) (by omega) (by first | omega | (simp; done))) rfl ?_
  refine ops_val (yld_fieldR Tryz.runUnderlying31 rfl rfl rfl Tryz.sizeOf3) rfl ?_
  refine ops_val (yld_loadR (ad := ad) Tryz.isAgg3 rfl (fun v _ h => by exact h.1) (row_cells Pc.cells_len hx1 9 _ rfl)) rfl ?_
  refine ops_val (yld_move rfl) rfl ?_
  refine ops_valB (yld_eql rfl rfl) rfl fun r2 hr2 => ?_
  refine ops_nil ?_
  refine fin_next rfl ?_
  cases r2
  ·
   replace hr2 := ne_of_beq_false hr2
   refine run_cond_f rfl ?_
   refine run_skip ?_
   refine fin_next rfl ?_
   refine run_region ?_
   refine ops_val (yld_move rfl) rfl ?_
   refine ops_val (yld_arith rfl rfl rfl (wrap64 (by omega) (by omega))) rfl ?_
   refine ops_val (yld_assign rfl) rfl ?_
   refine ops_nil ?_
   refine fin_inv rfl ?_
   have hst := ofs_step a hx1
   rw [if_neg (by assumption)] at hst
   exact ok_again ⟨(i + 1, sv, Hr), hlx1, by dsimp only; rw [hst, List.append_nil]; exact hrow⟩ (by dsimp only; omega) ⟨rfl, rfl, rfl, rfl, trivial⟩ pf_end (fun _ _ h => h)
  ·
   replace hr2 := eq_of_beq hr2
   refine run_cond_t rfl ?_
   refine run_region ?_
   refine ops_val (yld_move rfl) rfl ?_
   refine ops_val (yld_move rfl) rfl ?_
   refine ops_slit Tryz.runUnderlying62 Tryz.sizeOf3 Tryz.zeroValue3 rfl rfl rfl rfl rfl rfl fun b1 => ?_
   refine ops_append (news := [.int .i64 (i : Int)]) eltI hrow rfl rfl (pf_cons pf_end) rfl (own_news 0 rfl) (one_all rfl) (by simp only [maxLen]; omega) (by omega) rfl fun sv2 Hr2 hrow2 => ?_
   refine ok_perm (@List.perm_append_comm _ _ [_]) ?_
   refine ops_val (yld_assign rfl) rfl ?_
   refine ops_nil ?_
   refine fin_next rfl ?_
   refine run_region ?_
   refine ops_val (yld_move rfl) rfl ?_
   refine ops_val (yld_arith rfl rfl rfl (wrap64 (by omega) (by omega))) rfl ?_
   refine ops_val (yld_assign rfl) rfl ?_
   refine ops_nil ?_
   refine fin_inv rfl ?_
   have hst := ofs_step a hx1
   rw [if_pos (by assumption)] at hst
   exact ok_again ⟨(i + 1, sv2, Hr2), hlx1, by dsimp only; rw [hst, List.length_append, List.flatMap_append]; exact hrow2⟩ (by dsimp only; omega) ⟨rfl, rfl, rfl, rfl, trivial⟩ (pf_cons pf_end) (fun _ _ h => h)

theorem one_strs {xs : List Str} {u : Value} (h : u ∈ xs.flatMap strC) : u.oneCell' = true := by
  rw [strC_map] at h
  obtain ⟨x, _, rfl⟩ := List.mem_map.1 h
  rfl

theorem with_c (l : List Str) (ad : Option Addr) (cap : Nat) (s : Str) (hl : l.length ≤ 100000000000) (hc : l.length ≤ cap ∧ cap ≤ maxLen ∧ (ad = none → cap = 0)) : Tri Tryz.prog 70 #[.slice ad (List.length l) cap, str s] [] [rowF ad (List.flatMap strC l)] (fun y : {y : Option Addr × Nat // (withS l s).length ≤ y.2 ∧ y.2 ≤ maxLen ∧ (y.1 = none → y.2 = 0)} => .slice y.1.1 (withS l s).length y.1.2) (fun _ => []) (fun y => [rowF y.1.1 ((withS l s).flatMap strC)]) := by
 refine tri_of_body Tryz.func70 rfl rfl Tryz.ntmps70 rfl fun v0 => ?_
 refine run_seq ?_
 refine run_region ?_
 refine ops_val (yld_assign rfl) rfl ?_
 refine ops_nil ?_
 refine fin_next rfl ?_
 refine run_seq ?_
 refine run_region ?_
 refine ops_val (yld_assign rfl) rfl ?_
 refine ops_nil ?_
 refine fin_next rfl ?_
 refine run_seq ?_
 refine run_block ?_
 refine ok_fr [(0, .slice ad (List.length l) cap), (1, str s), (5, .int .i64 ((0 : Nat) : Int))] ⟨rfl, rfl, rfl, trivial⟩ ?_
 refine run_loop (ι := {z : Nat // z ≤ l.length ∧ ∀ x ∈ l.take z, x < s}) (fun zz => [(0, .slice ad (List.length l) cap), (1, str s), (5, .int .i64 (zz.1 : Int))]) (fun _ => _) (fun _ => _) (fun zz => l.length - zz.1) ⟨0, by simp⟩ ?_
 rintro ⟨k, hk⟩
 refine ok_fr [(0, .slice ad (List.length l) cap), (1, str s), (5, .int .i64 (k : Int))] ⟨rfl, rfl, rfl, trivial⟩ ?_
 refine run_seq ?_
 refine run_seq ?_
 refine run_region ?_
 refine ops_val (yld_move rfl) rfl ?_
 refine ops_val (yld_move rfl) rfl ?_
 refine ops_val (yld_lenS Tryz.runUnderlying39 rfl) rfl ?_
 refine ops_valB (yld_lss rfl rfl) rfl fun r1 hr1 => ?_
 refine ops_val (yld_move rfl) rfl ?_
 cases r1
 ·
  replace hr1 := of_decide_eq_false hr1
  refine ops_no rfl rfl rfl rfl ?_
  refine ops_no rfl rfl rfl rfl ?_
  refine ops_no rfl rfl rfl rfl ?_
  refine ops_no rfl rfl rfl rfl ?_
  refine ops_no rfl rfl rfl rfl ?_
  refine ops_no rfl rfl rfl rfl ?_
  refine ops_val (yld_pick_f rfl rfl) rfl ?_
  refine ops_nil ?_
  refine fin_next rfl ?_
  refine run_cond_f rfl ?_
  refine run_exit rfl ?_
  refine fin_next rfl ?_
  refine run_seq ?_
  refine run_seq ?_
  have hks : kS l s = k := kS_of hk.1 hk.2 (fun x hx => by have := (List.getElem?_eq_some_iff.1 hx).1; omega)
  refine run_region ?_
  refine ops_val (yld_move rfl) rfl ?_
  refine ops_valB (yld_seql rfl rfl) rfl fun r2 hr2 => ?_
  refine ops_val (yld_move rfl) rfl ?_
  cases r2
  ·
   replace hr2 := ne_of_beq_false hr2
   refine ops_yes rfl rfl ?_
   refine ops_val (yld_move rfl) rfl ?_
   refine ops_yes rfl rfl ?_
   refine ops_val (yld_move rfl) rfl ?_
   refine ops_yes rfl rfl ?_
   refine ops_val (yld_lenS Tryz.runUnderlying39 rfl) rfl ?_
   refine ops_yes rfl rfl ?_
   refine ops_valB (yld_lss rfl rfl) rfl fun r3 hr3 => ?_
   refine ops_yes rfl rfl ?_
   refine ops_val (yld_move rfl) rfl ?_
   cases r3
   ·
    replace hr3 := of_decide_eq_false hr3
    refine ops_no rfl rfl rfl rfl ?_
    refine ops_no rfl rfl rfl rfl ?_
    refine ops_no rfl rfl rfl rfl ?_
    refine ops_no rfl rfl rfl rfl ?_
    refine ops_no rfl rfl rfl rfl ?_
    refine ops_no rfl rfl rfl rfl ?_
    refine ops_yes rfl rfl ?_
    refine ops_val (yld_pick_f rfl rfl) rfl ?_
    refine ops_val (yld_pick_f rfl rfl) rfl ?_
    refine ops_nil ?_
    refine fin_next rfl ?_
    refine run_cond_f rfl ?_
    refine run_skip ?_
    refine fin_next rfl ?_
    refine run_seq ?_
    refine run_region ?_
    refine ops_slit0 Tryz.runUnderlying39 Tryz.sizeOf9 rfl fun b1 => ?_
    refine ops_val (yld_move rfl) rfl ?_
    refine ops_val (yld_move rfl) rfl ?_
    refine ops_val (yld_eq (yld_sliceS (i := 0) (j := k) (kl := .i64) (kh := .i64) Tryz.runUnderlying39 Tryz.sizeOf9 rfl rfl rfl (by omega) (by omega)) (show _ = Value.slice (sad ad cap 0 1) (List.length (List.take k l)) (cap - 0) by rw [List.length_take, Nat.min_eq_left (by omega)]; rfl)) rfl ?_
    have hr0 : SRow 9 1 (.slice (some ⟨b1, 0, none⟩) 0 0) 0 [] [(b1, .cells #[] 9 (0, 0))] := ⟨rfl, .inr ⟨b1, 0, #[], rfl, rfl, Nat.le_refl _, Nat.zero_le _, rfl, rfl⟩⟩
    refine ops_appendR (news := (List.take k l).flatMap strC) eltS hr0 rfl rfl (fun q => by have := hc.2.2 (sad_none q); omega) (by rw [List.length_take]; omega) (.refl _) (by rw [fm_len strC 1 strC_len]) (fun v _ h => by exact (RowAt.slice strC_len h.1 hc.1 0 k)) (fun u hu => one_strs hu) (by rw [List.length_take]; simp only [maxLen]; omega) (by rw [List.length_take]; omega) rfl fun sv1 Hr1 hr1 => ?_
    refine ok_perm (@List.perm_append_comm _ _ []) ?_
    refine ops_val (yld_assign rfl) rfl ?_
    refine ops_nil ?_
    refine fin_next rfl ?_
    refine run_seq ?_
    refine run_region ?_
    refine ops_val (yld_move rfl) rfl ?_
    refine ops_val (yld_move rfl) rfl ?_
    refine ops_slit Tryz.runUnderlying39 Tryz.sizeOf9 Tryz.zeroValue9 rfl rfl rfl rfl rfl rfl fun b2 => ?_
    refine ops_append (news := [str s]) eltS hr1 rfl rfl (pf_cons pf_end) rfl (own_news 0 rfl) (one_all rfl) (by rw [List.length_take]; simp only [maxLen]; omega) (by rw [List.length_take]; omega) rfl fun sv2 Hr2 hr2 => ?_
    refine ok_perm (@List.perm_append_comm _ _ [_]) ?_
    refine ops_val (yld_assign rfl) rfl ?_
    refine ops_nil ?_
    refine fin_next rfl ?_
    refine run_seq ?_
    refine run_region ?_
    refine ops_val (yld_move rfl) rfl ?_
    refine ops_val (yld_move rfl) rfl ?_
    refine ops_val (yld_move rfl) rfl ?_
    refine ops_val (yld_eq (yld_sliceS (i := k) (j := l.length) (kl := .i64) (kh := .i64) Tryz.runUnderlying39 Tryz.sizeOf9 rfl rfl rfl (by omega) (by omega)) (show _ = Value.slice (sad ad cap k 1) (List.length (List.drop k l)) (cap - k) by rw [List.length_drop])) rfl ?_
    refine ops_appendR (news := (List.drop k l).flatMap strC) eltS hr2 rfl rfl (fun q => by have := hc.2.2 (sad_none q); omega) (by rw [List.length_drop]; omega) (pf_cons pf_end) (by rw [fm_len strC 1 strC_len]) (fun v _ h => by exact (RowAt.rest strC_len h.1 hc.1 k)) (fun u hu => one_strs hu) (by rw [List.length_drop, List.length_take]; simp only [maxLen]; omega) (by rw [List.length_drop, List.length_take]; omega) rfl fun sv3 Hr3 hr3 => ?_
    refine ok_perm (@List.perm_append_comm _ _ [_]) ?_
    refine ops_val (yld_assign rfl) rfl ?_
    refine ops_nil ?_
    refine fin_next rfl ?_
    refine run_ret ?_
    have ew : withS l s = l.take k ++ [s] ++ l.drop k := by unfold withS; rw [hks, if_neg (by simp_all)]
    have hr4 : SRow 9 1 sv3 (withS l s).length ((withS l s).flatMap strC) Hr3 := by rw [ew, List.flatMap_append, List.flatMap_append, List.length_append, List.length_append]; simpa [strC] using hr3
    refine ok_giveRowN hr4 (pf_cons pf_end) fun ad2 cp2 hsv hc1 hc2 hc3 => ?_
    exact ret1 Tryz.results70 ⟨(ad2, cp2), hc1, hc2, hc3⟩ (get_val rfl hsv) pf_nil (fun v _ h => ⟨h.1, trivial⟩)
   ·
    replace hr3 := of_decide_eq_true hr3
    have hlx1 : k < List.length l := by omega
    obtain ⟨x1, hx1⟩ : ∃ e0, l[k]? = some e0 := ⟨_, List.getElem?_eq_getElem hlx1⟩
    have hmx1 : x1 ∈ l := List.mem_of_getElem? hx1
    refine ops_yes rfl rfl ?_
    refine ops_val (yld_move rfl) rfl ?_
    refine ops_yes rfl rfl ?_
    refine ops_val (yld_move rfl) rfl ?_
    refine ops_yes rfl rfl ?_
    refine ops_val (yld_indexR Tryz.runUnderlying39 Tryz.sizeOf9 rfl rfl (fun v _ h => row_adr (n := 1) strC_len (by decide) (by exact h.1) hx1) (by omega) (by first | omega | (simp; done))) rfl ?_
    refine ops_yes rfl rfl ?_
    refine ops_val (yld_loadR (ad := ad) Tryz.isAgg9 rfl (fun v _ h => by exact h.1) (row_cells strC_len hx1 0 _ rfl)) rfl ?_
    refine ops_yes rfl rfl ?_
    refine ops_val (yld_move rfl) rfl ?_
    refine ops_yes rfl rfl ?_
    refine ops_valB (yld_seql rfl rfl) rfl fun r4 hr4 => ?_
    refine ops_yes rfl rfl ?_
    refine ops_val (yld_pick_t rfl rfl) rfl ?_
    refine ops_val (yld_pick_f rfl rfl) rfl ?_
    refine ops_nil ?_
    refine fin_next rfl ?_
    cases r4
    ·
     replace hr4 := ne_of_beq_false hr4
     refine run_cond_f rfl ?_
     refine run_skip ?_
     refine fin_next rfl ?_
     refine run_seq ?_
     refine run_region ?_
     refine ops_slit0 Tryz.runUnderlying39 Tryz.sizeOf9 rfl fun b3 => ?_
     refine ops_val (yld_move rfl) rfl ?_
     refine ops_val (yld_move rfl) rfl ?_
     refine ops_val (yld_eq (yld_sliceS (i := 0) (j := k) (kl := .i64) (kh := .i64) Tryz.runUnderlying39 Tryz.sizeOf9 rfl rfl rfl (by omega) (by omega)) (show _ = Value.slice (sad ad cap 0 1) (List.length (List.take k l)) (cap - 0) by rw [List.length_take, Nat.min_eq_left (by omega)]; rfl)) rfl ?_
     have hr0 : SRow 9 1 (.slice (some ⟨b3, 0, none⟩) 0 0) 0 [] [(b3, .cells #[] 9 (0, 0))] := ⟨rfl, .inr ⟨b3, 0, #[], rfl, rfl, Nat.le_refl _, Nat.zero_le _, rfl, rfl⟩⟩
     refine ops_appendR (news := (List.take k l).flatMap strC) eltS hr0 rfl rfl (fun q => by have := hc.2.2 (sad_none q); omega) (by rw [List.length_take]; omega) (.refl _) (by rw [fm_len strC 1 strC_len]) (fun v _ h => by exact (RowAt.slice strC_len h.1 hc.1 0 k)) (fun u hu => one_strs hu) (by rw [List.length_take]; simp only [maxLen]; omega) (by rw [List.length_take]; omega) rfl fun sv1 Hr1 hr1 => ?_
     refine ok_perm (@List.perm_append_comm _ _ []) ?_
     refine ops_val (yld_assign rfl) rfl ?_
     refine ops_nil ?_
     refine fin_next rfl ?_
     refine run_seq ?_
     refine run_region ?_
     refine ops_val (yld_move rfl) rfl ?_
     refine ops_val (yld_move rfl) rfl ?_
     refine ops_slit Tryz.runUnderlying39 Tryz.sizeOf9 Tryz.zeroValue9 rfl rfl rfl rfl rfl rfl fun b4 => ?_
     refine ops_append (news := [str s]) eltS hr1 rfl rfl (pf_cons pf_end) rfl (own_news 0 rfl) (one_all rfl) (by rw [List.length_take]; simp only [maxLen]; omega) (by rw [List.length_take]; omega) rfl fun sv2 Hr2 hr2 => ?_
     refine ok_perm (@List.perm_append_comm _ _ [_]) ?_
     refine ops_val (yld_assign rfl) rfl ?_
     refine ops_nil ?_
     refine fin_next rfl ?_
     refine run_seq ?_
     refine run_region ?_
     refine ops_val (yld_move rfl) rfl ?_
     refine ops_val (yld_move rfl) rfl ?_
     refine ops_val (yld_move rfl) rfl ?_
     refine ops_val (yld_eq (yld_sliceS (i := k) (j := l.length) (kl := .i64) (kh := .i64) Tryz.runUnderlying39 Tryz.sizeOf9 rfl rfl rfl (by omega) (by omega)) (show _ = Value.slice (sad ad cap k 1) (List.length (List.drop k l)) (cap - k) by rw [List.length_drop])) rfl ?_
     refine ops_appendR (news := (List.drop k l).flatMap strC) eltS hr2 rfl rfl (fun q => by have := hc.2.2 (sad_none q); omega) (by rw [List.length_drop]; omega) (pf_cons pf_end) (by rw [fm_len strC 1 strC_len]) (fun v _ h => by exact (RowAt.rest strC_len h.1 hc.1 k)) (fun u hu => one_strs hu) (by rw [List.length_drop, List.length_take]; simp only [maxLen]; omega) (by rw [List.length_drop, List.length_take]; omega) rfl fun sv3 Hr3 hr3 => ?_
     refine ok_perm (@List.perm_append_comm _ _ [_]) ?_
     refine ops_val (yld_assign rfl) rfl ?_
     refine ops_nil ?_
     refine fin_next rfl ?_
     refine run_ret ?_
     have ew : withS l s = l.take k ++ [s] ++ l.drop k := by unfold withS; rw [hks, if_neg (by simp_all)]
     have hr4 : SRow 9 1 sv3 (withS l s).length ((withS l s).flatMap strC) Hr3 := by rw [ew, List.flatMap_append, List.flatMap_append, List.length_append, List.length_append]; simpa [strC] using hr3
     refine ok_giveRowN hr4 (pf_cons pf_end) fun ad2 cp2 hsv hc1 hc2 hc3 => ?_
     exact ret1 Tryz.results70 ⟨(ad2, cp2), hc1, hc2, hc3⟩ (get_val rfl hsv) pf_nil (fun v _ h => ⟨h.1, trivial⟩)
    ·
     replace hr4 := eq_of_beq hr4
     refine run_cond_t rfl ?_
     refine run_seq ?_
     refine run_region ?_
     refine ops_val (yld_move rfl) rfl ?_
     refine ops_val (yld_assign rfl) rfl ?_
     refine ops_nil ?_
     refine fin_next rfl ?_
     refine run_ret ?_
     have ew : withS l s = l := by unfold withS; rw [hks, if_pos (by simp_all)]
     exact ret1 Tryz.results70 ⟨(ad, cap), by rw [ew]; exact hc⟩ (get_val rfl (by dsimp only; rw [ew])) pf_nil (fun v _ h => ⟨by show RowAt v ad ((withS l s).flatMap strC); rw [ew]; exact h.1, trivial⟩)
  ·
   replace hr2 := eq_of_beq hr2
   refine ops_no rfl rfl rfl rfl ?_
   refine ops_no rfl rfl rfl rfl ?_
   refine ops_no rfl rfl rfl rfl ?_
   refine ops_no rfl rfl rfl rfl ?_
   refine ops_no rfl rfl rfl rfl ?_
   refine ops_no rfl rfl rfl rfl ?_
   refine ops_no rfl rfl rfl rfl ?_
   refine ops_no rfl rfl rfl rfl ?_
   refine ops_no rfl rfl rfl rfl ?_
   refine ops_no rfl rfl rfl rfl ?_
   refine ops_no rfl rfl rfl rfl ?_
   refine ops_no rfl rfl rfl rfl ?_
   refine ops_val (yld_pick_t rfl rfl) rfl ?_
   refine ops_nil ?_
   refine fin_next rfl ?_
   refine run_cond_t rfl ?_
   refine run_seq ?_
   refine run_region ?_
   refine ops_val (yld_move rfl) rfl ?_
   refine ops_val (yld_assign rfl) rfl ?_
   refine ops_nil ?_
   refine fin_next rfl ?_
   refine run_ret ?_
   have ew : withS l s = l := by unfold withS; rw [hks, if_pos (by simp_all)]
   exact ret1 Tryz.results70 ⟨(ad, cap), by rw [ew]; exact hc⟩ (get_val rfl (by dsimp only; rw [ew])) pf_nil (fun v _ h => ⟨by show RowAt v ad ((withS l s).flatMap strC); rw [ew]; exact h.1, trivial⟩)
 ·
  replace hr1 := of_decide_eq_true hr1
  have hlx1 : k < List.length l := by omega
  obtain ⟨x1, hx1⟩ : ∃ e0, l[k]? = some e0 := ⟨_, List.getElem?_eq_getElem hlx1⟩
  have hmx1 : x1 ∈ l := List.mem_of_getElem? hx1
  refine ops_yes rfl rfl ?_
  refine ops_val (yld_move rfl) rfl ?_
  refine ops_yes rfl rfl ?_
  refine ops_val (yld_move rfl) rfl ?_
  refine ops_yes rfl rfl ?_
  refine ops_val (yld_indexR Tryz.runUnderlying39 Tryz.sizeOf9 rfl rfl (fun v _ h => row_adr (n := 1) strC_len (by decide) (by exact h.1) hx1) (by omega) (by first | omega | (simp; done))) rfl ?_
  refine ops_yes rfl rfl ?_
  refine ops_val (yld_loadR (ad := ad) Tryz.isAgg9 rfl (fun v _ h => by exact h.1) (row_cells strC_len hx1 0 _ rfl)) rfl ?_
  refine ops_yes rfl rfl ?_
  refine ops_val (yld_move rfl) rfl ?_
  refine ops_yes rfl rfl ?_
  refine ops_valB (yld_slss rfl rfl) rfl fun r5 hr5 => ?_
  refine ops_val (yld_pick_t rfl rfl) rfl ?_
  refine ops_nil ?_
  refine fin_next rfl ?_
  cases r5
  ·
   replace hr5 := of_decide_eq_false hr5
   refine run_cond_f rfl ?_
   refine run_exit rfl ?_
   refine fin_next rfl ?_
   refine run_seq ?_
   refine run_seq ?_
   have hks : kS l s = k := kS_of hk.1 hk.2 (fun x hx => by rw [hx1] at hx; cases hx; assumption)
   refine run_region ?_
   refine ops_val (yld_move rfl) rfl ?_
   refine ops_valB (yld_seql rfl rfl) rfl fun r6 hr6 => ?_
   refine ops_val (yld_move rfl) rfl ?_
   cases r6
   ·
    replace hr6 := ne_of_beq_false hr6
    refine ops_yes rfl rfl ?_
    refine ops_val (yld_move rfl) rfl ?_
    refine ops_yes rfl rfl ?_
    refine ops_val (yld_move rfl) rfl ?_
    refine ops_yes rfl rfl ?_
    refine ops_val (yld_lenS Tryz.runUnderlying39 rfl) rfl ?_
    refine ops_yes rfl rfl ?_
    refine ops_valB (yld_lss rfl rfl) rfl fun r7 hr7 => ?_
    refine ops_yes rfl rfl ?_
    refine ops_val (yld_move rfl) rfl ?_
    cases r7
    ·
     replace hr7 := of_decide_eq_false hr7
     exfalso; omega
    ·
     replace hr7 := of_decide_eq_true hr7
     refine ops_yes rfl rfl ?_
     refine ops_val (yld_move rfl) rfl ?_
     refine ops_yes rfl rfl ?_
     refine ops_val (yld_move rfl) rfl ?_
     refine ops_yes rfl rfl ?_
     refine ops_val (yld_indexR Tryz.runUnderlying39 Tryz.sizeOf9 rfl rfl (fun v _ h => row_adr (n := 1) strC_len (by decide) (by exact h.1) hx1) (by omega) (by first | omega | (simp; done))) rfl ?_
     refine ops_yes rfl rfl ?_
     refine ops_val (yld_loadR (ad := ad) Tryz.isAgg9 rfl (fun v _ h => by exact h.1) (row_cells strC_len hx1 0 _ rfl)) rfl ?_
     refine ops_yes rfl rfl ?_
     refine ops_val (yld_move rfl) rfl ?_
     refine ops_yes rfl rfl ?_
     refine ops_valB (yld_seql rfl rfl) rfl fun r8 hr8 => ?_
     refine ops_yes rfl rfl ?_
     refine ops_val (yld_pick_t rfl rfl) rfl ?_
     refine ops_val (yld_pick_f rfl rfl) rfl ?_
     refine ops_nil ?_
     refine fin_next rfl ?_
     cases r8
     ·
      replace hr8 := ne_of_beq_false hr8
      refine run_cond_f rfl ?_
      refine run_skip ?_
      refine fin_next rfl ?_
      refine run_seq ?_
      refine run_region ?_
      refine ops_slit0 Tryz.runUnderlying39 Tryz.sizeOf9 rfl fun b5 => ?_
      refine ops_val (yld_move rfl) rfl ?_
      refine ops_val (yld_move rfl) rfl ?_
      refine ops_val (yld_eq (yld_sliceS (i := 0) (j := k) (kl := .i64) (kh := .i64) Tryz.runUnderlying39 Tryz.sizeOf9 rfl rfl rfl (by omega) (by omega)) (show _ = Value.slice (sad ad cap 0 1) (List.length (List.take k l)) (cap - 0) by rw [List.length_take, Nat.min_eq_left (by omega)]; rfl)) rfl ?_
      have hr0 : SRow 9 1 (.slice (some ⟨b5, 0, none⟩) 0 0) 0 [] [(b5, .cells #[] 9 (0, 0))] := ⟨rfl, .inr ⟨b5, 0, #[], rfl, rfl, Nat.le_refl _, Nat.zero_le _, rfl, rfl⟩⟩
      refine ops_appendR (news := (List.take k l).flatMap strC) eltS hr0 rfl rfl (fun q => by have := hc.2.2 (sad_none q); omega) (by rw [List.length_take]; omega) (.refl _) (by rw [fm_len strC 1 strC_len]) (fun v _ h => by exact (RowAt.slice strC_len h.1 hc.1 0 k)) (fun u hu => one_strs hu) (by rw [List.length_take]; simp only [maxLen]; omega) (by rw [List.length_take]; omega) rfl fun sv1 Hr1 hr1 => ?_
      refine ok_perm (@List.perm_append_comm _ _ []) ?_
      refine ops_val (yld_assign rfl) rfl ?_
      refine ops_nil ?_
      refine fin_next rfl ?_
      refine run_seq ?_
      refine run_region ?_
      refine ops_val (yld_move rfl) rfl ?_
      refine ops_val (yld_move rfl) rfl ?_
      refine ops_slit Tryz.runUnderlying39 Tryz.sizeOf9 Tryz.zeroValue9 rfl rfl rfl rfl rfl rfl fun b6 => ?_
      refine ops_append (news := [str s]) eltS hr1 rfl rfl (pf_cons pf_end) rfl (own_news 0 rfl) (one_all rfl) (by rw [List.length_take]; simp only [maxLen]; omega) (by rw [List.length_take]; omega) rfl fun sv2 Hr2 hr2 => ?_
      refine ok_perm (@List.perm_append_comm _ _ [_]) ?_
      refine ops_val (yld_assign rfl) rfl ?_
      refine ops_nil ?_
      refine fin_next rfl ?_
      refine run_seq ?_
      refine run_region ?_
      refine ops_val (yld_move rfl) rfl ?_
      refine ops_val (yld_move rfl) rfl ?_
      refine ops_val (yld_move rfl) rfl ?_
      refine ops_val (yld_eq (yld_sliceS (i := k) (j := l.length) (kl := .i64) (kh := .i64) Tryz.runUnderlying39 Tryz.sizeOf9 rfl rfl rfl (by omega) (by omega)) (show _ = Value.slice (sad ad cap k 1) (List.length (List.drop k l)) (cap - k) by rw [List.length_drop])) rfl ?_
      refine ops_appendR (news := (List.drop k l).flatMap strC) eltS hr2 rfl rfl (fun q => by have := hc.2.2 (sad_none q); omega) (by rw [List.length_drop]; omega) (pf_cons pf_end) (by rw [fm_len strC 1 strC_len]) (fun v _ h => by exact (RowAt.rest strC_len h.1 hc.1 k)) (fun u hu => one_strs hu) (by rw [List.length_drop, List.length_take]; simp only [maxLen]; omega) (by rw [List.length_drop, List.length_take]; omega) rfl fun sv3 Hr3 hr3 => ?_
      refine ok_perm (@List.perm_append_comm _ _ [_]) ?_
      refine ops_val (yld_assign rfl) rfl ?_
      refine ops_nil ?_
      refine fin_next rfl ?_
      refine run_ret ?_
      have ew : withS l s = l.take k ++ [s] ++ l.drop k := by unfold withS; rw [hks, if_neg (by simp_all)]
      have hr4 : SRow 9 1 sv3 (withS l s).length ((withS l s).flatMap strC) Hr3 := by rw [ew, List.flatMap_append, List.flatMap_append, List.length_append, List.length_append]; simpa [strC] using hr3
      refine ok_giveRowN hr4 (pf_cons pf_end) fun ad2 cp2 hsv hc1 hc2 hc3 => ?_
      exact ret1 Tryz.results70 ⟨(ad2, cp2), hc1, hc2, hc3⟩ (get_val rfl hsv) pf_nil (fun v _ h => ⟨h.1, trivial⟩)
     ·
      replace hr8 := eq_of_beq hr8
      refine run_cond_t rfl ?_
      refine run_seq ?_
      refine run_region ?_
      refine ops_val (yld_move rfl) rfl ?_
      refine ops_val (yld_assign rfl) rfl ?_
      refine ops_nil ?_
      refine fin_next rfl ?_
      refine run_ret ?_
      have ew : withS l s = l := by unfold withS; rw [hks, if_pos (by simp_all)]
      exact ret1 Tryz.results70 ⟨(ad, cap), by rw [ew]; exact hc⟩ (get_val rfl (by dsimp only; rw [ew])) pf_nil (fun v _ h => ⟨by show RowAt v ad ((withS l s).flatMap strC); rw [ew]; exact h.1, trivial⟩)
   ·
    replace hr6 := eq_of_beq hr6
    refine ops_no rfl rfl rfl rfl ?_
    refine ops_no rfl rfl rfl rfl ?_
    refine ops_no rfl rfl rfl rfl ?_
    refine ops_no rfl rfl rfl rfl ?_
    refine ops_no rfl rfl rfl rfl ?_
    refine ops_no rfl rfl rfl rfl ?_
    refine ops_no rfl rfl rfl rfl ?_
    refine ops_no rfl rfl rfl rfl ?_
    refine ops_no rfl rfl rfl rfl ?_
    refine ops_no rfl rfl rfl rfl ?_
    refine ops_no rfl rfl rfl rfl ?_
    refine ops_no rfl rfl rfl rfl ?_
    refine ops_val (yld_pick_t rfl rfl) rfl ?_
    refine ops_nil ?_
    refine fin_next rfl ?_
    refine run_cond_t rfl ?_
    refine run_seq ?_
    refine run_region ?_
    refine ops_val (yld_move rfl) rfl ?_
    refine ops_val (yld_assign rfl) rfl ?_
    refine ops_nil ?_
    refine fin_next rfl ?_
    refine run_ret ?_
    have ew : withS l s = l := by unfold withS; rw [hks, if_pos (by simp_all)]
    exact ret1 Tryz.results70 ⟨(ad, cap), by rw [ew]; exact hc⟩ (get_val rfl (by dsimp only; rw [ew])) pf_nil (fun v _ h => ⟨by show RowAt v ad ((withS l s).flatMap strC); rw [ew]; exact h.1, trivial⟩)
  ·
   replace hr5 := of_decide_eq_true hr5
   refine run_cond_t rfl ?_
   refine run_skip ?_
   refine fin_next rfl ?_
   refine run_block ?_
   refine run_region ?_
   refine ops_val (yld_move rfl) rfl ?_
   refine ops_val (yld_arith rfl rfl rfl (wrap64 (by omega) (by omega))) rfl ?_
   refine ops_val (yld_assign rfl) rfl ?_
   refine ops_nil ?_
   refine fin_inv rfl ?_
   exact ok_again ⟨k + 1, hlx1, fun x hx => by rw [List.take_add_one, hx1] at hx; simp only [Option.toList_some, List.mem_append, List.mem_singleton] at hx; rcases hx with hx | rfl; exact hk.2 x hx; assumption⟩ (by dsimp only; omega) ⟨rfl, rfl, rfl, trivial⟩ (.refl _) (fun _ _ h => h)

theorem rAtoms_c (l : List Pc) (ad : Option Addr) (cap : Nat) (hl : l.length ≤ 10000000000) : Tri Tryz.prog 31 #[.slice ad (List.length l) cap] [] [rowF ad (List.flatMap Pc.cells l)] (fun y : {y : Option Addr × Nat // (atomsF l).length ≤ y.2 ∧ y.2 ≤ maxLen ∧ (y.1 = none → y.2 = 0)} => .slice y.1.1 (atomsF l).length y.1.2) (fun _ => []) (fun y => [rowF y.1.1 ((atomsF l).flatMap strC)]) := by
 refine tri_of_body Tryz.func31 rfl rfl Tryz.ntmps31 rfl fun v0 => ?_
 refine run_seq ?_
 refine run_region ?_
 refine ops_val (yld_assign rfl) rfl ?_
 refine ops_nil ?_
 refine fin_next rfl ?_
 refine run_seq ?_
 refine run_region ?_
 refine ops_val (yld_assign rfl) rfl ?_
 refine ops_nil ?_
 refine fin_next rfl ?_
 refine run_seq ?_
 refine run_seq ?_
 refine run_region ?_
 refine ops_val (yld_assign rfl) rfl ?_
 refine ops_nil ?_
 refine fin_next rfl ?_
 refine run_block ?_
 refine ok_fr [(0, .slice ad (List.length l) cap), (3, .slice none 0 0), (4, .int .i64 0)] ⟨rfl, rfl, rfl, trivial⟩ ?_
 refine ok_facts (Γ' := rowF none ((atomsF (List.take 0 l)).flatMap strC) :: [rowF ad (List.flatMap Pc.cells l)]) (fun v _ h => ⟨.inl rfl, h⟩) ?_
 refine run_loop (ι := {y : Nat × Option Addr × Nat // y.1 ≤ l.length ∧ ((atomsF (List.take y.1 l)).length ≤ y.2.2 ∧ y.2.2 ≤ maxLen ∧ (y.2.1 = none → y.2.2 = 0))}) (fun y => [(0, .slice ad (List.length l) cap), (3, .slice y.1.2.1 (List.length (atomsF (List.take y.1.1 l))) y.1.2.2), (4, .int .i64 (y.1.1 : Int))]) (fun _ => _) (fun y => rowF y.1.2.1 ((atomsF (List.take y.1.1 l)).flatMap strC) :: [rowF ad (List.flatMap Pc.cells l)]) (fun y => l.length - y.1.1) ⟨(0, none, 0), by simp, by simp [atomsF]⟩ ?_
 rintro ⟨⟨i, a, cp⟩, hi, hcp⟩
 dsimp only at hi hcp
 dsimp only
 have hal := atomsF_len (l.take i)
 rw [List.length_take] at hal
 refine ok_fr [(0, .slice ad (List.length l) cap), (3, .slice a (List.length (atomsF (List.take i l))) cp), (4, .int .i64 (i : Int))] ⟨rfl, rfl, rfl, trivial⟩ ?_
 refine run_seq ?_
 refine run_seq ?_
 refine run_region ?_
 refine ops_val (yld_move rfl) rfl ?_
 refine ops_val (yld_move rfl) rfl ?_
 refine ops_val (yld_lenS Tryz.runUnderlying25 rfl) rfl ?_
 refine ops_valB (yld_lss rfl rfl) rfl fun r1 hr1 => ?_
 refine ops_nil ?_
 refine fin_next rfl ?_
 cases r1
 ·
  replace hr1 := of_decide_eq_false hr1
  refine run_cond_f rfl ?_
  refine run_exit rfl ?_
  refine fin_next rfl ?_
  refine run_seq ?_
  refine run_region ?_
  refine ops_val (yld_move rfl) rfl ?_
  refine ops_val (yld_assign rfl) rfl ?_
  refine ops_nil ?_
  refine fin_next rfl ?_
  refine run_ret ?_
  have et : l.take i = l := List.take_of_length_le (by omega)
  rw [et] at hcp
  exact ret1 Tryz.results31 ⟨(a, cp), hcp⟩ (get_val rfl (by rw [et])) pf_nil (fun v _ h => ⟨by have := h.1; rw [et] at this; exact this, trivial⟩)
 ·
  replace hr1 := of_decide_eq_true hr1
  have hlx1 : i < List.length l := by omega
  obtain ⟨x1, hx1⟩ : ∃ e0, l[i]? = some e0 := ⟨_, List.getElem?_eq_getElem hlx1⟩
  have hmx1 : x1 ∈ l := List.mem_of_getElem? hx1
  refine run_cond_t rfl ?_
  refine run_skip ?_
  refine fin_next rfl ?_
  refine run_seq ?_
  refine run_block ?_
  refine run_draw' (by kernel_rfl) ?_
  refine any_take 0 rfl (by kernel_rfl) (by kernel_rfl) (by kernel_rfl) (yld_move rfl) rfl (fun _ a b => ⟨satNil a, b⟩) ?_
  refine any_take 1 rfl (by kernel_rfl) (by kernel_rfl) (by kernel_rfl) (yld_move rfl) rfl (fun _ a b => ⟨satNil a, b⟩) ?_
  refine any_take 2 rfl (by kernel_rfl) (by kernel_rfl) (by kernel_rfl) (yld_move rfl) rfl (fun _ a b => ⟨satNil a, b⟩) ?_
  refine any_take 3 rfl (by kernel_rfl) (by kernel_rfl) (by kernel_rfl) (yld_indexR Tryz.runUnderlying25 Tryz.sizeOf31 rfl rfl (fun v _ h => row_adr (n := 10) Pc.cells_len (by decide) (by exact h.2.1) hx1) (by omega) (by first | omega | (simp; done))) rfl (fun _ a b => ⟨satNil a, b⟩) ?_
  refine any_take 4 rfl (by kernel_rfl) (by kernel_rfl) (by kernel_rfl) (yld_fieldR Tryz.runUnderlying31 rfl rfl rfl Tryz.sizeOf9) rfl (fun _ a b => ⟨satNil a, b⟩) ?_
  refine any_take 5 rfl (by kernel_rfl) (by kernel_rfl) (by kernel_rfl) (yld_loadR (ad := ad) Tryz.isAgg9 rfl (fun v _ h => by exact h.2.1) (row_cells Pc.cells_len hx1 1 _ rfl)) rfl (fun _ a b => ⟨satNil a, b⟩) ?_
  refine any_take 7 rfl (by kernel_rfl) (by kernel_rfl) (by kernel_rfl) (yld_move rfl) rfl (fun _ a b => ⟨satNil a, b⟩) ?_
  refine any_take 8 rfl (by kernel_rfl) (by kernel_rfl) (by kernel_rfl) (yld_move rfl) rfl (fun _ a b => ⟨satNil a, b⟩) ?_
  refine any_take 9 rfl (by kernel_rfl) (by kernel_rfl) (by kernel_rfl) (yld_indexR Tryz.runUnderlying25 Tryz.sizeOf31 rfl rfl (fun v _ h => row_adr (n := 10) Pc.cells_len (by decide) (by exact h.2.1) hx1) (by omega) (by first | omega | (simp; done))) rfl (fun _ a b => ⟨satNil a, b⟩) ?_
  refine any_take 10 rfl (by kernel_rfl) (by kernel_rfl) (by kernel_rfl) (yld_fieldR Tryz.runUnderlying31 rfl rfl rfl Tryz.sizeOf9) rfl (fun _ a b => ⟨satNil a, b⟩) ?_
  refine any_take 11 rfl (by kernel_rfl) (by kernel_rfl) (by kernel_rfl) (yld_loadR (ad := ad) Tryz.isAgg9 rfl (fun v _ h => by exact h.2.1) (row_cells Pc.cells_len hx1 2 _ rfl)) rfl (fun _ a b => ⟨satNil a, b⟩) ?_
  refine any_take 13 rfl (by kernel_rfl) (by kernel_rfl) (by kernel_rfl) (yld_move rfl) rfl (fun _ a b => ⟨satNil a, b⟩) ?_
  refine any_take 14 rfl (by kernel_rfl) (by kernel_rfl) (by kernel_rfl) (yld_move rfl) rfl (fun _ a b => ⟨satNil a, b⟩) ?_
  refine any_take 15 rfl (by kernel_rfl) (by kernel_rfl) (by kernel_rfl) (yld_indexR Tryz.runUnderlying25 Tryz.sizeOf31 rfl rfl (fun v _ h => row_adr (n := 10) Pc.cells_len (by decide) (by exact h.2.1) hx1) (by omega) (by first | omega | (simp; done))) rfl (fun _ a b => ⟨satNil a, b⟩) ?_
  refine any_take 16 rfl (by kernel_rfl) (by kernel_rfl) (by kernel_rfl) (yld_fieldR Tryz.runUnderlying31 rfl rfl rfl Tryz.sizeOf9) rfl (fun _ a b => ⟨satNil a, b⟩) ?_
  refine any_take 17 rfl (by kernel_rfl) (by kernel_rfl) (by kernel_rfl) (yld_loadR (ad := ad) Tryz.isAgg9 rfl (fun v _ h => by exact h.2.1) (row_cells Pc.cells_len hx1 3 _ rfl)) rfl (fun _ a b => ⟨satNil a, b⟩) ?_
  refine any_one 6 rfl (by kernel_rfl) ?_
  refine ops_call (with_c (atomsF (List.take i l)) a cp (Pc.a x1) (by omega) hcp) rfl pf_nil (fun v _ h => by exact ⟨h.1, trivial⟩) rfl fun ⟨⟨a1, c1⟩, hc1⟩ => ?_
  dsimp only
  have hwl1 := withS_len (atomsF (List.take i l)) (Pc.a x1)
  refine ops_nil ?_
  refine fin_inv rfl ?_
  refine any_next (fun _ a b => ⟨satNil a, b.2⟩) ?_
  refine any_one 12 rfl (by kernel_rfl) ?_
  refine ops_call (with_c (withS (atomsF (List.take i l)) (Pc.a x1)) a1 c1 (Pc.b x1) (by omega) hc1) rfl pf_nil (fun v _ h => by exact ⟨h.1, trivial⟩) rfl fun ⟨⟨a2, c2⟩, hc2⟩ => ?_
  dsimp only
  have hwl2 := withS_len (withS (atomsF (List.take i l)) (Pc.a x1)) (Pc.b x1)
  refine ops_nil ?_
  refine fin_inv rfl ?_
  refine any_next (fun _ a b => ⟨satNil a, b.2.2⟩) ?_
  refine any_one 18 rfl (by kernel_rfl) ?_
  refine ops_call (with_c (withS (withS (atomsF (List.take i l)) (Pc.a x1)) (Pc.b x1)) a2 c2 (Pc.c x1) (by omega) hc2) rfl pf_nil (fun v _ h => by exact ⟨h.1, trivial⟩) rfl fun ⟨⟨a3, c3⟩, hc3⟩ => ?_
  dsimp only
  have hwl3 := withS_len (withS (withS (atomsF (List.take i l)) (Pc.a x1)) (Pc.b x1)) (Pc.c x1)
  refine ops_nil ?_
  refine fin_inv rfl ?_
  refine any_next (fun _ a b => ⟨satNil a, b.2.2.2⟩) ?_
  refine any_take 19 rfl (by kernel_rfl) (by kernel_rfl) (by kernel_rfl) (yld_assign rfl) rfl (fun _ a b => ⟨satNil a, b.2.2.2⟩) ?_
  refine any_done (by kernel_rfl) ?_
  refine fin_next rfl ?_
  refine run_region ?_
  refine ops_val (yld_move rfl) rfl ?_
  refine ops_val (yld_arith rfl rfl rfl (wrap64 (by omega) (by omega))) rfl ?_
  refine ops_val (yld_assign rfl) rfl ?_
  refine ops_nil ?_
  refine fin_inv rfl ?_
  have hst := atomsF_step hx1
  exact ok_again ⟨(i + 1, a3, c3), hlx1, by dsimp only; rw [hst]; exact hc3⟩ (by dsimp only; omega) ⟨rfl, (get_val rfl (by dsimp only; rw [hst])), rfl, trivial⟩ pf_nil (fun _ _ h => ⟨by dsimp only; rw [hst]; exact h.1, h.2.2.2.2.1, trivial⟩)

end Go.Proofs.YtoafjmalfclpoaaGreatDoor
