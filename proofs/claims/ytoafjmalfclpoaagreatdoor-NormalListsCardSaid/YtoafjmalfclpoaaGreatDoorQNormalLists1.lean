/-
  Part of the proof of the law NormalLists over this seat (no condition).
-/
import Derived.Test.YtoafjmalfclpoaaGreatDoorPk2
import Derived.Lib.SlicesCompact
import Derived.Sort.EncStr
import Derived.Test.YtoafjmalfclpoaaGreatDoorPk4
import Derived.Test.YtoafjmalfclpoaaGreatDoorPk6
set_option linter.unusedVariables false
set_option linter.unusedSimpArgs false
set_option linter.unusedSectionVars false
/-
  My own contracts.
-/
namespace Go.Proofs.YtoafjmalfclpoaaGreatDoor
open Go Go.Sx Go.Proofs
set_option linter.unusedVariables false
attribute [local irreducible] Code.wp wpList wpAnyH

open Go.Vs
theorem rletter_c (c : UInt8) :
  Fn0 Tryz.prog 164 #[.int .u8 (c.toNat : Int)] (.bool (letterS c)) := by
 refine tri_of_body Tryz.func164 rfl rfl Tryz.ntmps164 rfl fun v0 => ?_
 refine run_seq ?_
 refine run_region ?_
 refine ops_val (yld_assign rfl) rfl ?_
 refine ops_nil ?_
 refine fin_next rfl ?_
 refine run_seq ?_
 refine run_region ?_
 refine ops_val (yld_move rfl) rfl ?_
 refine ops_valB (yld_geq rfl rfl) rfl fun r1 hr1 => ?_
 refine ops_val (yld_move rfl) rfl ?_
 cases r1
 ·
  replace hr1 := of_decide_eq_false hr1
  refine ops_no rfl rfl rfl rfl ?_
  refine ops_no rfl rfl rfl rfl ?_
  refine ops_val (yld_pick_f rfl rfl) rfl ?_
  refine ops_val (yld_move rfl) rfl ?_
  refine ops_yes rfl rfl ?_
  refine ops_val (yld_move rfl) rfl ?_
  refine ops_yes rfl rfl ?_
  refine ops_valB (yld_geq rfl rfl) rfl fun r2 hr2 => ?_
  refine ops_yes rfl rfl ?_
  refine ops_val (yld_move rfl) rfl ?_
  cases r2
  ·
   replace hr2 := of_decide_eq_false hr2
   refine ops_no rfl rfl rfl rfl ?_
   refine ops_no rfl rfl rfl rfl ?_
   refine ops_yes rfl rfl ?_
   refine ops_val (yld_pick_f rfl rfl) rfl ?_
   refine ops_val (yld_pick_f rfl rfl) rfl ?_
   refine ops_val (yld_assign rfl) rfl ?_
   refine ops_nil ?_
   refine fin_next rfl ?_
   refine run_ret ?_
   exact ret1 Tryz.results164 () (get_bool rfl (by subst_vars; rw [Bool.eq_iff_iff]; simp [letterS] <;> omega)) (.refl _) (fun _ _ _ => trivial)
  ·
   replace hr2 := of_decide_eq_true hr2
   refine ops_yes rfl rfl ?_
   refine ops_val (yld_move rfl) rfl ?_
   refine ops_yes rfl rfl ?_
   refine ops_valB (yld_leq rfl rfl) rfl fun r3 hr3 => ?_
   refine ops_yes rfl rfl ?_
   refine ops_val (yld_pick_t rfl rfl) rfl ?_
   refine ops_val (yld_pick_f rfl rfl) rfl ?_
   refine ops_val (yld_assign rfl) rfl ?_
   refine ops_nil ?_
   refine fin_next rfl ?_
   refine run_ret ?_
   exact ret1 Tryz.results164 () (get_bool rfl (by subst_vars; rw [Bool.eq_iff_iff]; simp [letterS] <;> omega)) (.refl _) (fun _ _ _ => trivial)
 ·
  replace hr1 := of_decide_eq_true hr1
  refine ops_yes rfl rfl ?_
  refine ops_val (yld_move rfl) rfl ?_
  refine ops_yes rfl rfl ?_
  refine ops_valB (yld_leq rfl rfl) rfl fun r4 hr4 => ?_
  refine ops_val (yld_pick_t rfl rfl) rfl ?_
  refine ops_val (yld_move rfl) rfl ?_
  cases r4
  ·
   replace hr4 := of_decide_eq_false hr4
   refine ops_yes rfl rfl ?_
   refine ops_val (yld_move rfl) rfl ?_
   refine ops_yes rfl rfl ?_
   refine ops_valB (yld_geq rfl rfl) rfl fun r5 hr5 => ?_
   refine ops_yes rfl rfl ?_
   refine ops_val (yld_move rfl) rfl ?_
   cases r5
   ·
    replace hr5 := of_decide_eq_false hr5
    refine ops_no rfl rfl rfl rfl ?_
    refine ops_no rfl rfl rfl rfl ?_
    refine ops_yes rfl rfl ?_
    refine ops_val (yld_pick_f rfl rfl) rfl ?_
    refine ops_val (yld_pick_f rfl rfl) rfl ?_
    refine ops_val (yld_assign rfl) rfl ?_
    refine ops_nil ?_
    refine fin_next rfl ?_
    refine run_ret ?_
    exact ret1 Tryz.results164 () (get_bool rfl (by subst_vars; rw [Bool.eq_iff_iff]; simp [letterS] <;> omega)) (.refl _) (fun _ _ _ => trivial)
   ·
    replace hr5 := of_decide_eq_true hr5
    refine ops_yes rfl rfl ?_
    refine ops_val (yld_move rfl) rfl ?_
    refine ops_yes rfl rfl ?_
    refine ops_valB (yld_leq rfl rfl) rfl fun r6 hr6 => ?_
    refine ops_yes rfl rfl ?_
    refine ops_val (yld_pick_t rfl rfl) rfl ?_
    refine ops_val (yld_pick_f rfl rfl) rfl ?_
    refine ops_val (yld_assign rfl) rfl ?_
    refine ops_nil ?_
    refine fin_next rfl ?_
    refine run_ret ?_
    exact ret1 Tryz.results164 () (get_bool rfl (by subst_vars; rw [Bool.eq_iff_iff]; simp [letterS] <;> omega)) (.refl _) (fun _ _ _ => trivial)
  ·
   replace hr4 := of_decide_eq_true hr4
   refine ops_no rfl rfl rfl rfl ?_
   refine ops_no rfl rfl rfl rfl ?_
   refine ops_no rfl rfl rfl rfl ?_
   refine ops_no rfl rfl rfl rfl ?_
   refine ops_no rfl rfl rfl rfl ?_
   refine ops_no rfl rfl rfl rfl ?_
   refine ops_val (yld_pick_t rfl rfl) rfl ?_
   refine ops_val (yld_assign rfl) rfl ?_
   refine ops_nil ?_
   refine fin_next rfl ?_
   refine run_ret ?_
   exact ret1 Tryz.results164 () (get_bool rfl (by subst_vars; rw [Bool.eq_iff_iff]; simp [letterS] <;> omega)) (.refl _) (fun _ _ _ => trivial)

theorem rinner_c (c : UInt8) :
  Fn0 Tryz.prog 166 #[.int .u8 (c.toNat : Int)] (.bool (innerS c)) := by
 refine tri_of_body Tryz.func166 rfl rfl Tryz.ntmps166 rfl fun v0 => ?_
 refine run_seq ?_
 refine run_region ?_
 refine ops_val (yld_assign rfl) rfl ?_
 refine ops_nil ?_
 refine fin_next rfl ?_
 refine run_seq ?_
 refine run_region ?_
 refine ops_val (yld_move rfl) rfl ?_
 refine ops_callB (rletter_c _) rfl (.refl _) (fun _ _ _ => trivial) rfl fun r1 hr1 => ?_
 refine ops_val (yld_move rfl) rfl ?_
 cases r1
 ·
  refine ops_yes rfl rfl ?_
  refine ops_val (yld_move rfl) rfl ?_
  refine ops_yes rfl rfl ?_
  refine ops_valB (yld_geq rfl rfl) rfl fun r2 hr2 => ?_
  refine ops_yes rfl rfl ?_
  refine ops_val (yld_move rfl) rfl ?_
  cases r2
  ·
   replace hr2 := of_decide_eq_false hr2
   refine ops_no rfl rfl rfl rfl ?_
   refine ops_no rfl rfl rfl rfl ?_
   refine ops_yes rfl rfl ?_
   refine ops_val (yld_pick_f rfl rfl) rfl ?_
   refine ops_val (yld_pick_f rfl rfl) rfl ?_
   refine ops_val (yld_move rfl) rfl ?_
   refine ops_yes rfl rfl ?_
   refine ops_val (yld_move rfl) rfl ?_
   refine ops_yes rfl rfl ?_
   refine ops_valB (yld_eql rfl rfl) rfl fun r3 hr3 => ?_
   refine ops_val (yld_pick_f rfl rfl) rfl ?_
   refine ops_val (yld_assign rfl) rfl ?_
   refine ops_nil ?_
   refine fin_next rfl ?_
   refine run_ret ?_
   exact ret1 Tryz.results166 () (get_bool rfl (by subst_vars; rw [Bool.eq_iff_iff]; simp [innerS, *] <;> omega)) (.refl _) (fun _ _ _ => trivial)
  ·
   replace hr2 := of_decide_eq_true hr2
   refine ops_yes rfl rfl ?_
   refine ops_val (yld_move rfl) rfl ?_
   refine ops_yes rfl rfl ?_
   refine ops_valB (yld_leq rfl rfl) rfl fun r4 hr4 => ?_
   refine ops_yes rfl rfl ?_
   refine ops_val (yld_pick_t rfl rfl) rfl ?_
   refine ops_val (yld_pick_f rfl rfl) rfl ?_
   refine ops_val (yld_move rfl) rfl ?_
   cases r4
   ·
    replace hr4 := of_decide_eq_false hr4
    refine ops_yes rfl rfl ?_
    refine ops_val (yld_move rfl) rfl ?_
    refine ops_yes rfl rfl ?_
    refine ops_valB (yld_eql rfl rfl) rfl fun r5 hr5 => ?_
    refine ops_val (yld_pick_f rfl rfl) rfl ?_
    refine ops_val (yld_assign rfl) rfl ?_
    refine ops_nil ?_
    refine fin_next rfl ?_
    refine run_ret ?_
    exact ret1 Tryz.results166 () (get_bool rfl (by subst_vars; rw [Bool.eq_iff_iff]; simp [innerS, *] <;> omega)) (.refl _) (fun _ _ _ => trivial)
   ·
    replace hr4 := of_decide_eq_true hr4
    refine ops_no rfl rfl rfl rfl ?_
    refine ops_no rfl rfl rfl rfl ?_
    refine ops_val (yld_pick_t rfl rfl) rfl ?_
    refine ops_val (yld_assign rfl) rfl ?_
    refine ops_nil ?_
    refine fin_next rfl ?_
    refine run_ret ?_
    exact ret1 Tryz.results166 () (get_bool rfl (by subst_vars; rw [Bool.eq_iff_iff]; simp [innerS, *] <;> omega)) (.refl _) (fun _ _ _ => trivial)
 ·
  refine ops_no rfl rfl rfl rfl ?_
  refine ops_no rfl rfl rfl rfl ?_
  refine ops_no rfl rfl rfl rfl ?_
  refine ops_no rfl rfl rfl rfl ?_
  refine ops_no rfl rfl rfl rfl ?_
  refine ops_no rfl rfl rfl rfl ?_
  refine ops_val (yld_pick_t rfl rfl) rfl ?_
  refine ops_val (yld_move rfl) rfl ?_
  refine ops_no rfl rfl rfl rfl ?_
  refine ops_no rfl rfl rfl rfl ?_
  refine ops_val (yld_pick_t rfl rfl) rfl ?_
  refine ops_val (yld_assign rfl) rfl ?_
  refine ops_nil ?_
  refine fin_next rfl ?_
  refine run_ret ?_
  exact ret1 Tryz.results166 () (get_bool rfl (by subst_vars; rw [Bool.eq_iff_iff]; simp [innerS, *] <;> omega)) (.refl _) (fun _ _ _ => trivial)

theorem rkeyword_c (s : Str) :
  Fn0 Tryz.prog 165 #[str s] (.bool (keywordS s)) := by
 refine tri_of_body Tryz.func165 rfl rfl Tryz.ntmps165 rfl fun v0 => ?_
 refine run_seq ?_
 refine run_region ?_
 refine ops_val (yld_assign rfl) rfl ?_
 refine ops_nil ?_
 refine fin_next rfl ?_
 refine run_seq ?_
 refine run_seq ?_
 refine run_region ?_
 refine ops_val (yld_move rfl) rfl ?_
 refine ops_nil ?_
 refine fin_next rfl ?_
 refine run_block ?_
 refine run_seq ?_
 refine run_seq ?_
 refine run_region ?_
 refine ops_valB (yld_seql rfl rfl) rfl fun r1 hr1 => ?_
 refine ops_val (yld_assign rfl) rfl ?_
 refine ops_nil ?_
 refine fin_next rfl ?_
 cases r1
 ·
  replace hr1 := ne_of_beq_false hr1
  refine run_cond_f rfl ?_
  refine run_seq ?_
  refine run_region ?_
  refine ops_valB (yld_seql rfl rfl) rfl fun r2 hr2 => ?_
  refine ops_val (yld_assign rfl) rfl ?_
  refine ops_nil ?_
  refine fin_next rfl ?_
  cases r2
  ·
   replace hr2 := ne_of_beq_false hr2
   refine run_cond_f rfl ?_
   refine run_seq ?_
   refine run_region ?_
   refine ops_valB (yld_seql rfl rfl) rfl fun r3 hr3 => ?_
   refine ops_val (yld_assign rfl) rfl ?_
   refine ops_nil ?_
   refine fin_next rfl ?_
   cases r3
   ·
    replace hr3 := ne_of_beq_false hr3
    refine run_cond_f rfl ?_
    refine run_seq ?_
    refine run_region ?_
    refine ops_valB (yld_seql rfl rfl) rfl fun r4 hr4 => ?_
    refine ops_val (yld_assign rfl) rfl ?_
    refine ops_nil ?_
    refine fin_next rfl ?_
    cases r4
    ·
     replace hr4 := ne_of_beq_false hr4
     refine run_cond_f rfl ?_
     refine run_seq ?_
     refine run_region ?_
     refine ops_valB (yld_seql rfl rfl) rfl fun r5 hr5 => ?_
     refine ops_val (yld_assign rfl) rfl ?_
     refine ops_nil ?_
     refine fin_next rfl ?_
     cases r5
     ·
      replace hr5 := ne_of_beq_false hr5
      refine run_cond_f rfl ?_
      refine run_seq ?_
      refine run_region ?_
      refine ops_valB (yld_seql rfl rfl) rfl fun r6 hr6 => ?_
      refine ops_val (yld_assign rfl) rfl ?_
      refine ops_nil ?_
      refine fin_next rfl ?_
      cases r6
      ·
       replace hr6 := ne_of_beq_false hr6
       refine run_cond_f rfl ?_
       refine run_seq ?_
       refine run_region ?_
       refine ops_valB (yld_seql rfl rfl) rfl fun r7 hr7 => ?_
       refine ops_val (yld_assign rfl) rfl ?_
       refine ops_nil ?_
       refine fin_next rfl ?_
       cases r7
       ·
        replace hr7 := ne_of_beq_false hr7
        refine run_cond_f rfl ?_
        refine run_seq ?_
        refine run_region ?_
        refine ops_valB (yld_seql rfl rfl) rfl fun r8 hr8 => ?_
        refine ops_val (yld_assign rfl) rfl ?_
        refine ops_nil ?_
        refine fin_next rfl ?_
        cases r8
        ·
         replace hr8 := ne_of_beq_false hr8
         refine run_cond_f rfl ?_
         refine run_seq ?_
         refine run_region ?_
         refine ops_valB (yld_seql rfl rfl) rfl fun r9 hr9 => ?_
         refine ops_val (yld_assign rfl) rfl ?_
         refine ops_nil ?_
         refine fin_next rfl ?_
         cases r9
         ·
          replace hr9 := ne_of_beq_false hr9
          refine run_cond_f rfl ?_
          refine run_seq ?_
          refine run_region ?_
          refine ops_valB (yld_seql rfl rfl) rfl fun r10 hr10 => ?_
          refine ops_val (yld_assign rfl) rfl ?_
          refine ops_nil ?_
          refine fin_next rfl ?_
          cases r10
          ·
           replace hr10 := ne_of_beq_false hr10
           refine run_cond_f rfl ?_
           refine run_seq ?_
           refine run_region ?_
           refine ops_valB (yld_seql rfl rfl) rfl fun r11 hr11 => ?_
           refine ops_val (yld_assign rfl) rfl ?_
           refine ops_nil ?_
           refine fin_next rfl ?_
           cases r11
           ·
            replace hr11 := ne_of_beq_false hr11
            refine run_cond_f rfl ?_
            refine run_seq ?_
            refine run_region ?_
            refine ops_valB (yld_seql rfl rfl) rfl fun r12 hr12 => ?_
            refine ops_val (yld_assign rfl) rfl ?_
            refine ops_nil ?_
            refine fin_next rfl ?_
            cases r12
            ·
             replace hr12 := ne_of_beq_false hr12
             refine run_cond_f rfl ?_
             refine run_seq ?_
             refine run_region ?_
             refine ops_valB (yld_seql rfl rfl) rfl fun r13 hr13 => ?_
             refine ops_val (yld_assign rfl) rfl ?_
             refine ops_nil ?_
             refine fin_next rfl ?_
             cases r13
             ·
              replace hr13 := ne_of_beq_false hr13
              refine run_cond_f rfl ?_
              refine run_seq ?_
              refine run_region ?_
              refine ops_valB (yld_seql rfl rfl) rfl fun r14 hr14 => ?_
              refine ops_val (yld_assign rfl) rfl ?_
              refine ops_nil ?_
              refine fin_next rfl ?_
              cases r14
              ·
               replace hr14 := ne_of_beq_false hr14
               refine run_cond_f rfl ?_
               refine run_seq ?_
               refine run_region ?_
               refine ops_valB (yld_seql rfl rfl) rfl fun r15 hr15 => ?_
               refine ops_val (yld_assign rfl) rfl ?_
               refine ops_nil ?_
               refine fin_next rfl ?_
               cases r15
               ·
                replace hr15 := ne_of_beq_false hr15
                refine run_cond_f rfl ?_
                refine run_seq ?_
                refine run_region ?_
                refine ops_valB (yld_seql rfl rfl) rfl fun r16 hr16 => ?_
                refine ops_val (yld_assign rfl) rfl ?_
                refine ops_nil ?_
                refine fin_next rfl ?_
                cases r16
                ·
                 replace hr16 := ne_of_beq_false hr16
                 refine run_cond_f rfl ?_
                 refine run_seq ?_
                 refine run_region ?_
                 refine ops_valB (yld_seql rfl rfl) rfl fun r17 hr17 => ?_
                 refine ops_val (yld_assign rfl) rfl ?_
                 refine ops_nil ?_
                 refine fin_next rfl ?_
                 cases r17
                 ·
                  replace hr17 := ne_of_beq_false hr17
                  refine run_cond_f rfl ?_
                  refine run_seq ?_
                  refine run_region ?_
                  refine ops_valB (yld_seql rfl rfl) rfl fun r18 hr18 => ?_
                  refine ops_val (yld_assign rfl) rfl ?_
                  refine ops_nil ?_
                  refine fin_next rfl ?_
                  cases r18
                  ·
                   replace hr18 := ne_of_beq_false hr18
                   refine run_cond_f rfl ?_
                   refine run_seq ?_
                   refine run_region ?_
                   refine ops_valB (yld_seql rfl rfl) rfl fun r19 hr19 => ?_
                   refine ops_val (yld_assign rfl) rfl ?_
                   refine ops_nil ?_
                   refine fin_next rfl ?_
                   cases r19
                   ·
                    replace hr19 := ne_of_beq_false hr19
                    refine run_cond_f rfl ?_
                    refine run_seq ?_
                    refine run_region ?_
                    refine ops_valB (yld_seql rfl rfl) rfl fun r20 hr20 => ?_
                    refine ops_val (yld_assign rfl) rfl ?_
                    refine ops_nil ?_
                    refine fin_next rfl ?_
                    cases r20
                    ·
                     replace hr20 := ne_of_beq_false hr20
                     refine run_cond_f rfl ?_
                     refine run_seq ?_
                     refine run_region ?_
                     refine ops_valB (yld_seql rfl rfl) rfl fun r21 hr21 => ?_
                     refine ops_val (yld_assign rfl) rfl ?_
                     refine ops_nil ?_
                     refine fin_next rfl ?_
                     cases r21
                     ·
                      replace hr21 := ne_of_beq_false hr21
                      refine run_cond_f rfl ?_
                      refine run_region ?_
                      refine ops_valB (yld_seql rfl rfl) rfl fun r22 hr22 => ?_
                      refine ops_val (yld_assign rfl) rfl ?_
                      refine ops_nil ?_
                      refine fin_next rfl ?_
                      cases r22
                      ·
                       replace hr22 := ne_of_beq_false hr22
                       refine run_cond_f rfl ?_
                       refine run_skip ?_
                       refine fin_next rfl ?_
                       refine run_seq ?_
                       refine run_region ?_
                       refine ops_val (yld_assign rfl) rfl ?_
                       refine ops_nil ?_
                       refine fin_next rfl ?_
                       refine run_ret ?_
                       exact ret1 Tryz.results165 () (get_bool rfl (by simp [keywordS, kws, *])) (.refl _) (fun _ _ _ => trivial)
                      ·
                       replace hr22 := eq_of_beq hr22
                       refine run_cond_t rfl ?_
                       refine run_seq ?_
                       refine run_region ?_
                       refine ops_val (yld_assign rfl) rfl ?_
                       refine ops_nil ?_
                       refine fin_next rfl ?_
                       refine run_ret ?_
                       exact ret1 Tryz.results165 () (get_bool rfl (by simp [keywordS, kws, *])) (.refl _) (fun _ _ _ => trivial)
                     ·
                      replace hr21 := eq_of_beq hr21
                      refine run_cond_t rfl ?_
                      refine run_skip ?_
                      refine fin_next rfl ?_
                      refine run_cond_t rfl ?_
                      refine run_seq ?_
                      refine run_region ?_
                      refine ops_val (yld_assign rfl) rfl ?_
                      refine ops_nil ?_
                      refine fin_next rfl ?_
                      refine run_ret ?_
                      exact ret1 Tryz.results165 () (get_bool rfl (by simp [keywordS, kws, *])) (.refl _) (fun _ _ _ => trivial)
                    ·
                     replace hr20 := eq_of_beq hr20
                     refine run_cond_t rfl ?_
                     refine run_skip ?_
                     refine fin_next rfl ?_
                     refine run_cond_t rfl ?_
                     refine run_seq ?_
                     refine run_region ?_
                     refine ops_val (yld_assign rfl) rfl ?_
                     refine ops_nil ?_
                     refine fin_next rfl ?_
                     refine run_ret ?_
                     exact ret1 Tryz.results165 () (get_bool rfl (by simp [keywordS, kws, *])) (.refl _) (fun _ _ _ => trivial)
                   ·
                    replace hr19 := eq_of_beq hr19
                    refine run_cond_t rfl ?_
                    refine run_skip ?_
                    refine fin_next rfl ?_
                    refine run_cond_t rfl ?_
                    refine run_seq ?_
                    refine run_region ?_
                    refine ops_val (yld_assign rfl) rfl ?_
                    refine ops_nil ?_
                    refine fin_next rfl ?_
                    refine run_ret ?_
                    exact ret1 Tryz.results165 () (get_bool rfl (by simp [keywordS, kws, *])) (.refl _) (fun _ _ _ => trivial)
                  ·
                   replace hr18 := eq_of_beq hr18
                   refine run_cond_t rfl ?_
                   refine run_skip ?_
                   refine fin_next rfl ?_
                   refine run_cond_t rfl ?_
                   refine run_seq ?_
                   refine run_region ?_
                   refine ops_val (yld_assign rfl) rfl ?_
                   refine ops_nil ?_
                   refine fin_next rfl ?_
                   refine run_ret ?_
                   exact ret1 Tryz.results165 () (get_bool rfl (by simp [keywordS, kws, *])) (.refl _) (fun _ _ _ => trivial)
                 ·
                  replace hr17 := eq_of_beq hr17
                  refine run_cond_t rfl ?_
                  refine run_skip ?_
                  refine fin_next rfl ?_
                  refine run_cond_t rfl ?_
                  refine run_seq ?_
                  refine run_region ?_
                  refine ops_val (yld_assign rfl) rfl ?_
                  refine ops_nil ?_
                  refine fin_next rfl ?_
                  refine run_ret ?_
                  exact ret1 Tryz.results165 () (get_bool rfl (by simp [keywordS, kws, *])) (.refl _) (fun _ _ _ => trivial)
                ·
                 replace hr16 := eq_of_beq hr16
                 refine run_cond_t rfl ?_
                 refine run_skip ?_
                 refine fin_next rfl ?_
                 refine run_cond_t rfl ?_
                 refine run_seq ?_
                 refine run_region ?_
                 refine ops_val (yld_assign rfl) rfl ?_
                 refine ops_nil ?_
                 refine fin_next rfl ?_
                 refine run_ret ?_
                 exact ret1 Tryz.results165 () (get_bool rfl (by simp [keywordS, kws, *])) (.refl _) (fun _ _ _ => trivial)
               ·
                replace hr15 := eq_of_beq hr15
                refine run_cond_t rfl ?_
                refine run_skip ?_
                refine fin_next rfl ?_
                refine run_cond_t rfl ?_
                refine run_seq ?_
                refine run_region ?_
                refine ops_val (yld_assign rfl) rfl ?_
                refine ops_nil ?_
                refine fin_next rfl ?_
                refine run_ret ?_
                exact ret1 Tryz.results165 () (get_bool rfl (by simp [keywordS, kws, *])) (.refl _) (fun _ _ _ => trivial)
              ·
               replace hr14 := eq_of_beq hr14
               refine run_cond_t rfl ?_
               refine run_skip ?_
               refine fin_next rfl ?_
               refine run_cond_t rfl ?_
               refine run_seq ?_
               refine run_region ?_
               refine ops_val (yld_assign rfl) rfl ?_
               refine ops_nil ?_
               refine fin_next rfl ?_
               refine run_ret ?_
               exact ret1 Tryz.results165 () (get_bool rfl (by simp [keywordS, kws, *])) (.refl _) (fun _ _ _ => trivial)
             ·
              replace hr13 := eq_of_beq hr13
              refine run_cond_t rfl ?_
              refine run_skip ?_
              refine fin_next rfl ?_
              refine run_cond_t rfl ?_
              refine run_seq ?_
              refine run_region ?_
              refine ops_val (yld_assign rfl) rfl ?_
              refine ops_nil ?_
              refine fin_next rfl ?_
              refine run_ret ?_
              exact ret1 Tryz.results165 () (get_bool rfl (by simp [keywordS, kws, *])) (.refl _) (fun _ _ _ => trivial)
            ·
             replace hr12 := eq_of_beq hr12
             refine run_cond_t rfl ?_
             refine run_skip ?_
             refine fin_next rfl ?_
             refine run_cond_t rfl ?_
             refine run_seq ?_
             refine run_region ?_
             refine ops_val (yld_assign rfl) rfl ?_
             refine ops_nil ?_
             refine fin_next rfl ?_
             refine run_ret ?_
             exact ret1 Tryz.results165 () (get_bool rfl (by simp [keywordS, kws, *])) (.refl _) (fun _ _ _ => trivial)
           ·
            replace hr11 := eq_of_beq hr11
            refine run_cond_t rfl ?_
            refine run_skip ?_
            refine fin_next rfl ?_
            refine run_cond_t rfl ?_
            refine run_seq ?_
            refine run_region ?_
            refine ops_val (yld_assign rfl) rfl ?_
            refine ops_nil ?_
            refine fin_next rfl ?_
            refine run_ret ?_
            exact ret1 Tryz.results165 () (get_bool rfl (by simp [keywordS, kws, *])) (.refl _) (fun _ _ _ => trivial)
          ·
           replace hr10 := eq_of_beq hr10
           refine run_cond_t rfl ?_
           refine run_skip ?_
           refine fin_next rfl ?_
           refine run_cond_t rfl ?_
           refine run_seq ?_
           refine run_region ?_
           refine ops_val (yld_assign rfl) rfl ?_
           refine ops_nil ?_
           refine fin_next rfl ?_
           refine run_ret ?_
           exact ret1 Tryz.results165 () (get_bool rfl (by simp [keywordS, kws, *])) (.refl _) (fun _ _ _ => trivial)
         ·
          replace hr9 := eq_of_beq hr9
          refine run_cond_t rfl ?_
          refine run_skip ?_
          refine fin_next rfl ?_
          refine run_cond_t rfl ?_
          refine run_seq ?_
          refine run_region ?_
          refine ops_val (yld_assign rfl) rfl ?_
          refine ops_nil ?_
          refine fin_next rfl ?_
          refine run_ret ?_
          exact ret1 Tryz.results165 () (get_bool rfl (by simp [keywordS, kws, *])) (.refl _) (fun _ _ _ => trivial)
        ·
         replace hr8 := eq_of_beq hr8
         refine run_cond_t rfl ?_
         refine run_skip ?_
         refine fin_next rfl ?_
         refine run_cond_t rfl ?_
         refine run_seq ?_
         refine run_region ?_
         refine ops_val (yld_assign rfl) rfl ?_
         refine ops_nil ?_
         refine fin_next rfl ?_
         refine run_ret ?_
         exact ret1 Tryz.results165 () (get_bool rfl (by simp [keywordS, kws, *])) (.refl _) (fun _ _ _ => trivial)
       ·
        replace hr7 := eq_of_beq hr7
        refine run_cond_t rfl ?_
        refine run_skip ?_
        refine fin_next rfl ?_
        refine run_cond_t rfl ?_
        refine run_seq ?_
        refine run_region ?_
        refine ops_val (yld_assign rfl) rfl ?_
        refine ops_nil ?_
        refine fin_next rfl ?_
        refine run_ret ?_
        exact ret1 Tryz.results165 () (get_bool rfl (by simp [keywordS, kws, *])) (.refl _) (fun _ _ _ => trivial)
      ·
       replace hr6 := eq_of_beq hr6
       refine run_cond_t rfl ?_
       refine run_skip ?_
       refine fin_next rfl ?_
       refine run_cond_t rfl ?_
       refine run_seq ?_
       refine run_region ?_
       refine ops_val (yld_assign rfl) rfl ?_
       refine ops_nil ?_
       refine fin_next rfl ?_
       refine run_ret ?_
       exact ret1 Tryz.results165 () (get_bool rfl (by simp [keywordS, kws, *])) (.refl _) (fun _ _ _ => trivial)
     ·
      replace hr5 := eq_of_beq hr5
      refine run_cond_t rfl ?_
      refine run_skip ?_
      refine fin_next rfl ?_
      refine run_cond_t rfl ?_
      refine run_seq ?_
      refine run_region ?_
      refine ops_val (yld_assign rfl) rfl ?_
      refine ops_nil ?_
      refine fin_next rfl ?_
      refine run_ret ?_
      exact ret1 Tryz.results165 () (get_bool rfl (by simp [keywordS, kws, *])) (.refl _) (fun _ _ _ => trivial)
    ·
     replace hr4 := eq_of_beq hr4
     refine run_cond_t rfl ?_
     refine run_skip ?_
     refine fin_next rfl ?_
     refine run_cond_t rfl ?_
     refine run_seq ?_
     refine run_region ?_
     refine ops_val (yld_assign rfl) rfl ?_
     refine ops_nil ?_
     refine fin_next rfl ?_
     refine run_ret ?_
     exact ret1 Tryz.results165 () (get_bool rfl (by simp [keywordS, kws, *])) (.refl _) (fun _ _ _ => trivial)
   ·
    replace hr3 := eq_of_beq hr3
    refine run_cond_t rfl ?_
    refine run_skip ?_
    refine fin_next rfl ?_
    refine run_cond_t rfl ?_
    refine run_seq ?_
    refine run_region ?_
    refine ops_val (yld_assign rfl) rfl ?_
    refine ops_nil ?_
    refine fin_next rfl ?_
    refine run_ret ?_
    exact ret1 Tryz.results165 () (get_bool rfl (by simp [keywordS, kws, *])) (.refl _) (fun _ _ _ => trivial)
  ·
   replace hr2 := eq_of_beq hr2
   refine run_cond_t rfl ?_
   refine run_skip ?_
   refine fin_next rfl ?_
   refine run_cond_t rfl ?_
   refine run_seq ?_
   refine run_region ?_
   refine ops_val (yld_assign rfl) rfl ?_
   refine ops_nil ?_
   refine fin_next rfl ?_
   refine run_ret ?_
   exact ret1 Tryz.results165 () (get_bool rfl (by simp [keywordS, kws, *])) (.refl _) (fun _ _ _ => trivial)
 ·
  replace hr1 := eq_of_beq hr1
  refine run_cond_t rfl ?_
  refine run_skip ?_
  refine fin_next rfl ?_
  refine run_cond_t rfl ?_
  refine run_seq ?_
  refine run_region ?_
  refine ops_val (yld_assign rfl) rfl ?_
  refine ops_nil ?_
  refine fin_next rfl ?_
  refine run_ret ?_
  exact ret1 Tryz.results165 () (get_bool rfl (by simp [keywordS, kws, *])) (.refl _) (fun _ _ _ => trivial)

theorem rWord_c (s : Str) (hs : s.length ≤ 140737488351232) :
  Fn0 Tryz.prog 132 #[str s] (.bool (wordS s)) := by
 refine tri_of_body Tryz.func132 rfl rfl Tryz.ntmps132 rfl fun v0 => ?_
 refine run_seq ?_
 refine run_region ?_
 refine ops_val (yld_assign rfl) rfl ?_
 refine ops_nil ?_
 refine fin_next rfl ?_
 refine run_seq ?_
 refine run_seq ?_
 refine run_region ?_
 refine ops_val (yld_move rfl) rfl ?_
 refine ops_val (yld_lenT Tryz.runUnderlying9 rfl) rfl ?_
 refine ops_valB (yld_eql rfl rfl) rfl fun r1 hr1 => ?_
 refine ops_val (yld_move rfl) rfl ?_
 cases r1
 ·
  replace hr1 := ne_of_beq_false hr1
  obtain ⟨c, t, es⟩ := List.exists_cons_of_length_pos (l := s) (by omega)
  refine ops_yes rfl rfl ?_
  refine ops_val (yld_move rfl) rfl ?_
  refine ops_yes rfl rfl ?_
  refine ops_val (yld_indexT Tryz.runUnderlying9 rfl rfl (by decide) (show s[(0 : Int).toNat]? = some c by rw [es]; rfl)) rfl ?_
  refine ops_yes rfl rfl ?_
  refine ops_callB (rletter_c _) rfl (.refl _) (fun _ _ _ => trivial) rfl fun r2 hr2 => ?_
  refine ops_yes rfl rfl ?_
  refine ops_val (yld_not rfl) rfl ?_
  refine ops_val (yld_pick_f rfl rfl) rfl ?_
  refine ops_val (yld_move rfl) rfl ?_
  cases r2
  ·
   refine ops_no rfl rfl rfl rfl ?_
   refine ops_no rfl rfl rfl rfl ?_
   refine ops_val (yld_pick_t rfl rfl) rfl ?_
   refine ops_nil ?_
   refine fin_next rfl ?_
   refine run_cond_t rfl ?_
   refine run_seq ?_
   refine run_region ?_
   refine ops_val (yld_assign rfl) rfl ?_
   refine ops_nil ?_
   refine fin_next rfl ?_
   refine run_ret ?_
   exact ret1 Tryz.results132 () (get_bool rfl (by simp_all [wordS])) (.refl _) (fun _ _ _ => trivial)
  ·
   refine ops_yes rfl rfl ?_
   refine ops_val (yld_move rfl) rfl ?_
   refine ops_yes rfl rfl ?_
   refine ops_callB (rkeyword_c _) rfl (.refl _) (fun _ _ _ => trivial) rfl fun r3 hr3 => ?_
   refine ops_val (yld_pick_f rfl rfl) rfl ?_
   refine ops_nil ?_
   refine fin_next rfl ?_
   cases r3
   ·
    have hw : s ≠ [] ∧ letterS (s.headD 0) = true := by subst es; simp_all
    refine run_cond_f rfl ?_
    refine run_skip ?_
    refine fin_next rfl ?_
    refine run_seq ?_
    refine run_seq ?_
    refine run_region ?_
    refine ops_val (yld_assign rfl) rfl ?_
    refine ops_nil ?_
    refine fin_next rfl ?_
    refine run_block ?_
    refine ok_fr [(0, str s), (3, .int .i64 ((0 : Nat) : Int))] ⟨rfl, rfl, trivial⟩ ?_
    refine run_loop (ι := {k : Nat // k ≤ s.length ∧ (s.take k).all innerS = true}) (fun i => [(0, str s), (3, .int .i64 (i.1 : Int))]) (fun _ => _) (fun _ => _) (fun i => s.length - i.1) ⟨0, by simp⟩ ?_
    rintro ⟨k, hk⟩
    refine ok_fr [(0, str s), (3, .int .i64 (k : Int))] ⟨rfl, rfl, trivial⟩ ?_
    refine run_seq ?_
    refine run_seq ?_
    refine run_region ?_
    refine ops_val (yld_move rfl) rfl ?_
    refine ops_val (yld_move rfl) rfl ?_
    refine ops_val (yld_lenT Tryz.runUnderlying9 rfl) rfl ?_
    refine ops_valB (yld_lss rfl rfl) rfl fun r4 hr4 => ?_
    refine ops_nil ?_
    refine fin_next rfl ?_
    cases r4
    ·
     replace hr4 := of_decide_eq_false hr4
     refine run_cond_f rfl ?_
     refine run_exit rfl ?_
     refine fin_next rfl ?_
     refine run_seq ?_
     refine run_region ?_
     refine ops_val (yld_assign rfl) rfl ?_
     refine ops_nil ?_
     refine fin_next rfl ?_
     refine run_ret ?_
     exact ret1 Tryz.results132 () (get_bool rfl (by have := take_all_end innerS s k (by omega) hk.2; simp_all [wordS, tailS])) (.refl _) (fun _ _ _ => trivial)
    ·
     replace hr4 := of_decide_eq_true hr4
     have hlt : k < s.length := by omega
     obtain ⟨c, hc⟩ : ∃ c, s[k]? = some c := ⟨_, List.getElem?_eq_getElem hlt⟩
     refine run_cond_t rfl ?_
     refine run_skip ?_
     refine fin_next rfl ?_
     refine run_seq ?_
     refine run_block ?_
     refine run_seq ?_
     refine run_region ?_
     refine ops_val (yld_move rfl) rfl ?_
     refine ops_val (yld_move rfl) rfl ?_
     refine ops_val (yld_indexT Tryz.runUnderlying9 rfl rfl (by omega) hc) rfl ?_
     refine ops_callB (rinner_c _) rfl (.refl _) (fun _ _ _ => trivial) rfl fun r5 hr5 => ?_
     refine ops_val (yld_not rfl) rfl ?_
     refine ops_nil ?_
     refine fin_next rfl ?_
     cases r5
     ·
      refine run_cond_t rfl ?_
      refine run_seq ?_
      refine run_region ?_
      refine ops_val (yld_assign rfl) rfl ?_
      refine ops_nil ?_
      refine fin_next rfl ?_
      refine run_ret ?_
      exact ret1 Tryz.results132 () (get_bool rfl (by have := take_all_not innerS s k c hc (by simp [*]); simp_all [wordS, tailS])) (.refl _) (fun _ _ _ => trivial)
     ·
      refine run_cond_f rfl ?_
      refine run_skip ?_
      refine fin_next rfl ?_
      refine run_region ?_
      refine ops_val (yld_move rfl) rfl ?_
      refine ops_val (yld_arith rfl rfl rfl (wrap64 (by omega) (by omega))) rfl ?_
      refine ops_val (yld_assign rfl) rfl ?_
      refine ops_nil ?_
      refine fin_inv rfl ?_
      exact ok_again ⟨k + 1, hlt, take_all_succ _ s k c hc hk.2 (by simp [*])⟩ (by simp; omega) ⟨rfl, rfl, trivial⟩ (.refl _) (fun _ _ h => h)
   ·
    refine run_cond_t rfl ?_
    refine run_seq ?_
    refine run_region ?_
    refine ops_val (yld_assign rfl) rfl ?_
    refine ops_nil ?_
    refine fin_next rfl ?_
    refine run_ret ?_
    exact ret1 Tryz.results132 () (get_bool rfl (by simp_all [wordS])) (.refl _) (fun _ _ _ => trivial)
 ·
  replace hr1 := eq_of_beq hr1
  have he : s = [] := List.eq_nil_of_length_eq_zero (by omega)
  refine ops_no rfl rfl rfl rfl ?_
  refine ops_no rfl rfl rfl rfl ?_
  refine ops_no rfl rfl rfl rfl ?_
  refine ops_no rfl rfl rfl rfl ?_
  refine ops_val (yld_pick_t rfl rfl) rfl ?_
  refine ops_val (yld_move rfl) rfl ?_
  refine ops_no rfl rfl rfl rfl ?_
  refine ops_no rfl rfl rfl rfl ?_
  refine ops_val (yld_pick_t rfl rfl) rfl ?_
  refine ops_nil ?_
  refine fin_next rfl ?_
  refine run_cond_t rfl ?_
  refine run_seq ?_
  refine run_region ?_
  refine ops_val (yld_assign rfl) rfl ?_
  refine ops_nil ?_
  refine fin_next rfl ?_
  refine run_ret ?_
  exact ret1 Tryz.results132 () (get_bool rfl (by simp_all [wordS])) (.refl _) (fun _ _ _ => trivial)

theorem rPlain_c (s : Str) :
  Fn0 Tryz.prog 77 #[str s] (.bool (plainS s)) := by
 refine tri_of_body Tryz.func77 rfl rfl Tryz.ntmps77 rfl fun v0 => ?_
 refine run_seq ?_
 refine run_region ?_
 refine ops_val (yld_assign rfl) rfl ?_
 refine ops_nil ?_
 refine fin_next rfl ?_
 refine run_seq ?_
 refine run_seq ?_
 refine run_region ?_
 refine ops_val (yld_move rfl) rfl ?_
 refine ops_val (yld_lenT Tryz.runUnderlying9 rfl) rfl ?_
 refine ops_valB (yld_gtr rfl rfl) rfl fun r1 hr1 => ?_
 refine ops_nil ?_
 refine fin_next rfl ?_
 cases r1
 ·
  replace hr1 := of_decide_eq_false hr1
  refine run_cond_f rfl ?_
  refine run_skip ?_
  refine fin_next rfl ?_
  refine run_seq ?_
  refine run_seq ?_
  refine run_region ?_
  refine ops_val (yld_assign rfl) rfl ?_
  refine ops_nil ?_
  refine fin_next rfl ?_
  refine run_block ?_
  refine ok_fr [(0, str s), (3, .int .i64 ((0 : Nat) : Int))] ⟨rfl, rfl, trivial⟩ ?_
  refine run_loop (ι := {k : Nat // k ≤ s.length ∧ ixS 58 (s.take k) = none}) (fun i => [(0, str s), (3, .int .i64 (i.1 : Int))]) (fun _ => _) (fun _ => _) (fun i => s.length - i.1) ⟨0, by simp [ixS]⟩ ?_
  rintro ⟨k, hk⟩
  refine ok_fr [(0, str s), (3, .int .i64 (k : Int))] ⟨rfl, rfl, trivial⟩ ?_
  refine run_seq ?_
  refine run_seq ?_
  refine run_region ?_
  refine ops_val (yld_move rfl) rfl ?_
  refine ops_val (yld_move rfl) rfl ?_
  refine ops_val (yld_lenT Tryz.runUnderlying9 rfl) rfl ?_
  refine ops_valB (yld_lss rfl rfl) rfl fun r2 hr2 => ?_
  refine ops_nil ?_
  refine fin_next rfl ?_
  cases r2
  ·
   replace hr2 := of_decide_eq_false hr2
   refine run_cond_f rfl ?_
   refine run_exit rfl ?_
   refine fin_next rfl ?_
   refine run_seq ?_
   refine run_region ?_
   refine ops_val (yld_move rfl) rfl ?_
   refine ops_callB (rWord_c _ (by first | omega | (simp; omega))) rfl (.refl _) (fun _ _ _ => trivial) rfl fun r3 hr3 => ?_
   refine ops_val (yld_assign rfl) rfl ?_
   refine ops_nil ?_
   refine fin_next rfl ?_
   refine run_ret ?_
   exact ret1 Tryz.results77 () (get_bool rfl (by rw [plainS, ixS_none s k (by omega) hk.2]; simp_all <;> omega)) (.refl _) (fun _ _ _ => trivial)
  ·
   replace hr2 := of_decide_eq_true hr2
   have hlt : k < s.length := by omega
   obtain ⟨c, hc⟩ : ∃ c, s[k]? = some c := ⟨_, List.getElem?_eq_getElem hlt⟩
   refine run_cond_t rfl ?_
   refine run_skip ?_
   refine fin_next rfl ?_
   refine run_seq ?_
   refine run_block ?_
   refine run_seq ?_
   refine run_region ?_
   refine ops_val (yld_move rfl) rfl ?_
   refine ops_val (yld_move rfl) rfl ?_
   refine ops_val (yld_indexT Tryz.runUnderlying9 rfl rfl (by omega) hc) rfl ?_
   refine ops_valB (yld_eql rfl rfl) rfl fun r4 hr4 => ?_
   refine ops_nil ?_
   refine fin_next rfl ?_
   cases r4
   ·
    replace hr4 := ne_of_beq_false hr4
    refine run_cond_f rfl ?_
    refine run_skip ?_
    refine fin_next rfl ?_
    refine run_region ?_
    refine ops_val (yld_move rfl) rfl ?_
    refine ops_val (yld_arith rfl rfl rfl (wrap64 (by omega) (by omega))) rfl ?_
    refine ops_val (yld_assign rfl) rfl ?_
    refine ops_nil ?_
    refine fin_inv rfl ?_
    exact ok_again ⟨k + 1, hlt, ixS_step s k c hc hk.2 (by intro e; subst e; simp_all)⟩ (by simp; omega) ⟨rfl, rfl, trivial⟩ (.refl _) (fun _ _ h => h)
   ·
    replace hr4 := eq_of_beq hr4
    obtain rfl : c = 58 := UInt8.toNat_inj.1 (by show c.toNat = 58; omega)
    refine run_cond_t rfl ?_
    refine run_seq ?_
    refine run_region ?_
    refine ops_val (yld_move rfl) rfl ?_
    refine ops_val (yld_move rfl) rfl ?_
    refine ops_val (yld_sliceT (i := 0) (j := k) (kl := .i64) Tryz.runUnderlying9 rfl rfl rfl (by omega) (by omega)) rfl ?_
    refine ops_callB (rWord_c _ (by first | omega | (simp; omega))) rfl (.refl _) (fun _ _ _ => trivial) rfl fun r5 hr5 => ?_
    refine ops_val (yld_move rfl) rfl ?_
    cases r5
    ·
     refine ops_no rfl rfl rfl rfl ?_
     refine ops_no rfl rfl rfl rfl ?_
     refine ops_no rfl rfl rfl rfl ?_
     refine ops_no rfl rfl rfl rfl ?_
     refine ops_no rfl rfl rfl rfl ?_
     refine ops_val (yld_pick_f rfl rfl) rfl ?_
     refine ops_val (yld_assign rfl) rfl ?_
     refine ops_nil ?_
     refine fin_next rfl ?_
     refine run_ret ?_
     exact ret1 Tryz.results77 () (get_bool rfl (by rw [plainS, ixS_at s k hc hk.2]; simp_all [List.take_of_length_le] <;> omega)) (.refl _) (fun _ _ _ => trivial)
    ·
     refine ops_yes rfl rfl ?_
     refine ops_val (yld_move rfl) rfl ?_
     refine ops_yes rfl rfl ?_
     refine ops_val (yld_move rfl) rfl ?_
     refine ops_yes rfl rfl ?_
     refine ops_val (yld_arith rfl rfl rfl (wrap64 (by omega) (by omega))) rfl ?_
     refine ops_yes rfl rfl ?_
     refine ops_val (yld_sliceT (i := k + 1) (j := s.length) (kh := .i64) Tryz.runUnderlying9 rfl rfl rfl (by omega) (by omega)) rfl ?_
     refine ops_yes rfl rfl ?_
     refine ops_callB (rWord_c _ (by first | omega | (simp; omega))) rfl (.refl _) (fun _ _ _ => trivial) rfl fun r6 hr6 => ?_
     refine ops_val (yld_pick_t rfl rfl) rfl ?_
     refine ops_val (yld_assign rfl) rfl ?_
     refine ops_nil ?_
     refine fin_next rfl ?_
     refine run_ret ?_
     exact ret1 Tryz.results77 () (get_bool rfl (by rw [plainS, ixS_at s k hc hk.2]; simp_all [List.take_of_length_le] <;> omega)) (.refl _) (fun _ _ _ => trivial)
 ·
  replace hr1 := of_decide_eq_true hr1
  refine run_cond_t rfl ?_
  refine run_seq ?_
  refine run_region ?_
  refine ops_val (yld_assign rfl) rfl ?_
  refine ops_nil ?_
  refine fin_next rfl ?_
  refine run_ret ?_
  exact ret1 Tryz.results77 () (get_bool rfl (by simp [plainS] <;> omega)) (.refl _) (fun _ _ _ => trivial)

theorem rReserved_c (s : Str) :
  Fn0 Tryz.prog 133 #[str s] (.bool (reservedS s)) := by
 refine tri_of_body Tryz.func133 rfl rfl Tryz.ntmps133 rfl fun v0 => ?_
 refine run_seq ?_
 refine run_region ?_
 refine ops_val (yld_assign rfl) rfl ?_
 refine ops_nil ?_
 refine fin_next rfl ?_
 refine run_seq ?_
 refine run_seq ?_
 refine run_region ?_
 refine ops_val (yld_move rfl) rfl ?_
 refine ops_val (yld_lenT Tryz.runUnderlying9 rfl) rfl ?_
 refine ops_valB (yld_lss rfl rfl) rfl fun r1 hr1 => ?_
 refine ops_val (yld_move rfl) rfl ?_
 cases r1
 ·
  replace hr1 := of_decide_eq_false hr1
  refine ops_yes rfl rfl ?_
  refine ops_val (yld_move rfl) rfl ?_
  refine ops_yes rfl rfl ?_
  refine ops_val (yld_lenT Tryz.runUnderlying9 rfl) rfl ?_
  refine ops_yes rfl rfl ?_
  refine ops_valB (yld_gtr rfl rfl) rfl fun r2 hr2 => ?_
  refine ops_val (yld_pick_f rfl rfl) rfl ?_
  refine ops_val (yld_move rfl) rfl ?_
  cases r2
  ·
   replace hr2 := of_decide_eq_false hr2
   obtain ⟨c, t, es⟩ := List.exists_cons_of_length_pos (l := s) (by omega)
   refine ops_yes rfl rfl ?_
   refine ops_val (yld_move rfl) rfl ?_
   refine ops_yes rfl rfl ?_
   refine ops_val (yld_indexT Tryz.runUnderlying9 rfl rfl (by decide) (show s[(0 : Int).toNat]? = some c by rw [es]; rfl)) rfl ?_
   refine ops_yes rfl rfl ?_
   refine ops_valB (yld_neq rfl rfl) rfl fun r3 hr3 => ?_
   refine ops_val (yld_pick_f rfl rfl) rfl ?_
   refine ops_nil ?_
   refine fin_next rfl ?_
   cases r3
   ·
    replace hr3 := eq_of_bne hr3
    have hq : c.toNat = 95 := by omega
    refine run_cond_f rfl ?_
    refine run_skip ?_
    refine fin_next rfl ?_
    refine run_seq ?_
    refine run_seq ?_
    refine run_region ?_
    refine ops_val (yld_assign rfl) rfl ?_
    refine ops_nil ?_
    refine fin_next rfl ?_
    refine run_block ?_
    refine ok_fr [(0, str s), (3, .int .i64 ((1 : Nat) : Int))] ⟨rfl, rfl, trivial⟩ ?_
    refine run_loop (ι := {k : Nat // k ≤ s.length ∧ (s.take k).all innerS = true}) (fun i => [(0, str s), (3, .int .i64 (i.1 : Int))]) (fun _ => _) (fun _ => _) (fun i => s.length - i.1) ⟨1, by omega, by subst es; simp [innerS, hq]⟩ ?_
    rintro ⟨k, hk⟩
    refine ok_fr [(0, str s), (3, .int .i64 (k : Int))] ⟨rfl, rfl, trivial⟩ ?_
    refine run_seq ?_
    refine run_seq ?_
    refine run_region ?_
    refine ops_val (yld_move rfl) rfl ?_
    refine ops_val (yld_move rfl) rfl ?_
    refine ops_val (yld_lenT Tryz.runUnderlying9 rfl) rfl ?_
    refine ops_valB (yld_lss rfl rfl) rfl fun r4 hr4 => ?_
    refine ops_nil ?_
    refine fin_next rfl ?_
    cases r4
    ·
     replace hr4 := of_decide_eq_false hr4
     refine run_cond_f rfl ?_
     refine run_exit rfl ?_
     refine fin_next rfl ?_
     refine run_seq ?_
     refine run_region ?_
     refine ops_val (yld_assign rfl) rfl ?_
     refine ops_nil ?_
     refine fin_next rfl ?_
     refine run_ret ?_
     exact ret1 Tryz.results133 () (get_bool rfl (by have := take_all_end innerS s k (by omega) hk.2; subst es; simp [reservedS, tailS, this, hq] <;> simp at * <;> omega)) (.refl _) (fun _ _ _ => trivial)
    ·
     replace hr4 := of_decide_eq_true hr4
     have hlt : k < s.length := by omega
     obtain ⟨c, hc⟩ : ∃ c, s[k]? = some c := ⟨_, List.getElem?_eq_getElem hlt⟩
     refine run_cond_t rfl ?_
     refine run_skip ?_
     refine fin_next rfl ?_
     refine run_seq ?_
     refine run_block ?_
     refine run_seq ?_
     refine run_region ?_
     refine ops_val (yld_move rfl) rfl ?_
     refine ops_val (yld_move rfl) rfl ?_
     refine ops_val (yld_indexT Tryz.runUnderlying9 rfl rfl (by omega) hc) rfl ?_
     refine ops_callB (rinner_c _) rfl (.refl _) (fun _ _ _ => trivial) rfl fun r5 hr5 => ?_
     refine ops_val (yld_not rfl) rfl ?_
     refine ops_nil ?_
     refine fin_next rfl ?_
     cases r5
     ·
      refine run_cond_t rfl ?_
      refine run_seq ?_
      refine run_region ?_
      refine ops_val (yld_assign rfl) rfl ?_
      refine ops_nil ?_
      refine fin_next rfl ?_
      refine run_ret ?_
      exact ret1 Tryz.results133 () (get_bool rfl (by have := take_all_not innerS s k c hc (by simp [*]); simp [reservedS, tailS, this])) (.refl _) (fun _ _ _ => trivial)
     ·
      refine run_cond_f rfl ?_
      refine run_skip ?_
      refine fin_next rfl ?_
      refine run_region ?_
      refine ops_val (yld_move rfl) rfl ?_
      refine ops_val (yld_arith rfl rfl rfl (wrap64 (by omega) (by omega))) rfl ?_
      refine ops_val (yld_assign rfl) rfl ?_
      refine ops_nil ?_
      refine fin_inv rfl ?_
      exact ok_again ⟨k + 1, hlt, take_all_succ _ s k c hc hk.2 (by simp [*])⟩ (by simp; omega) ⟨rfl, rfl, trivial⟩ (.refl _) (fun _ _ h => h)
   ·
    replace hr3 := ne_of_bne hr3
    refine run_cond_t rfl ?_
    refine run_seq ?_
    refine run_region ?_
    refine ops_val (yld_assign rfl) rfl ?_
    refine ops_nil ?_
    refine fin_next rfl ?_
    refine run_ret ?_
    exact ret1 Tryz.results133 () (get_bool rfl (by first | (simp [reservedS] <;> omega) | (subst es; simp [reservedS] <;> omega))) (.refl _) (fun _ _ _ => trivial)
  ·
   replace hr2 := of_decide_eq_true hr2
   refine ops_no rfl rfl rfl rfl ?_
   refine ops_no rfl rfl rfl rfl ?_
   refine ops_no rfl rfl rfl rfl ?_
   refine ops_val (yld_pick_t rfl rfl) rfl ?_
   refine ops_nil ?_
   refine fin_next rfl ?_
   refine run_cond_t rfl ?_
   refine run_seq ?_
   refine run_region ?_
   refine ops_val (yld_assign rfl) rfl ?_
   refine ops_nil ?_
   refine fin_next rfl ?_
   refine run_ret ?_
   exact ret1 Tryz.results133 () (get_bool rfl (by first | (simp [reservedS] <;> omega) | (subst es; simp [reservedS] <;> omega))) (.refl _) (fun _ _ _ => trivial)
 ·
  replace hr1 := of_decide_eq_true hr1
  refine ops_no rfl rfl rfl rfl ?_
  refine ops_no rfl rfl rfl rfl ?_
  refine ops_no rfl rfl rfl rfl ?_
  refine ops_val (yld_pick_t rfl rfl) rfl ?_
  refine ops_val (yld_move rfl) rfl ?_
  refine ops_no rfl rfl rfl rfl ?_
  refine ops_no rfl rfl rfl rfl ?_
  refine ops_no rfl rfl rfl rfl ?_
  refine ops_val (yld_pick_t rfl rfl) rfl ?_
  refine ops_nil ?_
  refine fin_next rfl ?_
  refine run_cond_t rfl ?_
  refine run_seq ?_
  refine run_region ?_
  refine ops_val (yld_assign rfl) rfl ?_
  refine ops_nil ?_
  refine fin_next rfl ?_
  refine run_ret ?_
  exact ret1 Tryz.results133 () (get_bool rfl (by first | (simp [reservedS] <;> omega) | (subst es; simp [reservedS] <;> omega))) (.refl _) (fun _ _ _ => trivial)

theorem rPerson_c (s : Str) :
    Fn0 Tryz.prog 78 #[str s] (.bool (personS s)) := by
  refine tri_of_body Tryz.func78 rfl rfl Tryz.ntmps78 rfl fun v0 => ?_
  refine run_seq ?_
  refine run_region ?_
  refine ops_val (yld_assign rfl) rfl ?_
  refine ops_nil ?_
  refine fin_next rfl ?_
  refine run_seq ?_
  refine run_region ?_
  refine ops_val (yld_move rfl) rfl ?_
  refine ops_callB (rPlain_c _) rfl (.refl _) (fun _ _ _ => trivial) rfl fun r1 hr1 => ?_
  refine ops_val (yld_move rfl) rfl ?_
  cases r1
  · skip
    refine ops_yes rfl rfl ?_
    refine ops_val (yld_move rfl) rfl ?_
    refine ops_yes rfl rfl ?_
    refine ops_callB (rReserved_c _) rfl (.refl _) (fun _ _ _ => trivial) rfl fun r2 hr2 => ?_
    refine ops_val (yld_pick_f rfl rfl) rfl ?_
    refine ops_val (yld_assign rfl) rfl ?_
    refine ops_nil ?_
    refine fin_next rfl ?_
    refine run_ret ?_
    exact ret1 Tryz.results78 () (get_bool rfl (by simp [personS, *])) (.refl _) (fun _ _ _ => trivial)
  · skip
    refine ops_no rfl rfl rfl rfl ?_
    refine ops_no rfl rfl rfl rfl ?_
    refine ops_val (yld_pick_t rfl rfl) rfl ?_
    refine ops_val (yld_assign rfl) rfl ?_
    refine ops_nil ?_
    refine fin_next rfl ?_
    refine run_ret ?_
    exact ret1 Tryz.results78 () (get_bool rfl (by simp [personS, *])) (.refl _) (fun _ _ _ => trivial)

theorem rCheckName_c (s : Str) :
    Fn0 Tryz.prog 126 #[str s] (.int .i64 (if personS s then 0 else 20)) := by
  refine tri_of_body Tryz.func126 rfl rfl Tryz.ntmps126 rfl fun v0 => ?_
  refine run_seq ?_
  refine run_region ?_
  refine ops_val (yld_assign rfl) rfl ?_
  refine ops_nil ?_
  refine fin_next rfl ?_
  refine run_seq ?_
  refine run_seq ?_
  refine run_region ?_
  refine ops_val (yld_move rfl) rfl ?_
  refine ops_callB (rPerson_c _) rfl (.refl _) (fun _ _ _ => trivial) rfl fun r1 hr1 => ?_
  refine ops_val (yld_not rfl) rfl ?_
  refine ops_nil ?_
  refine fin_next rfl ?_
  cases r1
  · skip
    refine run_cond_t rfl ?_
    refine run_seq ?_
    refine run_region ?_
    refine ops_val (yld_assign rfl) rfl ?_
    refine ops_nil ?_
    refine fin_next rfl ?_
    refine run_ret ?_
    exact ret1 Tryz.results126 () (get_int rfl (by simp [*])) (.refl _) (fun _ _ _ => trivial)
  · skip
    refine run_cond_f rfl ?_
    refine run_skip ?_
    refine fin_next rfl ?_
    refine run_seq ?_
    refine run_region ?_
    refine ops_val (yld_assign rfl) rfl ?_
    refine ops_nil ?_
    refine fin_next rfl ?_
    refine run_ret ?_
    exact ret1 Tryz.results126 () (get_int rfl (by simp [*])) (.refl _) (fun _ _ _ => trivial)

end Go.Proofs.YtoafjmalfclpoaaGreatDoor

/-
  Atoms and roles of what is valid are valid; sizes; sub-concepts of valid concepts are valid.
-/
namespace Go.Vs
open Go Go.Sx
/-! ### names -/
theorem word_ne {s : Str} (h : wordS s = true) : ∃ c t, s = c :: t ∧ letterS c = true ∧ tailS s = true := by
  cases s with
  | nil => simp [wordS] at h
  | cons c t =>
    simp only [wordS, Bool.and_eq_true] at h
    exact ⟨c, t, rfl, h.1.1.2, h.1.2⟩
theorem plain_head {s : Str} (h : plainS s = true) : ∃ c t, s = c :: t ∧ letterS c = true := by
  unfold plainS at h
  simp only [Bool.and_eq_true] at h
  cases hx : ixS 58 s with
  | none => rw [hx] at h; obtain ⟨c, t, h1, h2, _⟩ := word_ne h.2; exact ⟨c, t, h1, h2⟩
  | some k =>
    rw [hx] at h
    simp only [Bool.and_eq_true] at h
    obtain ⟨c, t, h1, h2, _⟩ := word_ne h.2.1
    cases s with
    | nil => simp at h1
    | cons d u =>
      cases k with
      | zero => simp at h1
      | succ k => simp only [List.take_succ_cons, List.cons.injEq] at h1; exact ⟨d, u, rfl, h1.1 ▸ h2⟩
theorem tail_mem {s : Str} (h : tailS s = true) : ∀ c ∈ s, innerS c = true := fun c hc => List.all_eq_true.1 h c hc
theorem ixS_split {c : UInt8} {s : Str} {k : Nat} (h : ixS c s = some k) : s = s.take k ++ c :: s.drop (k + 1) := by
  induction s generalizing k with
  | nil => simp [ixS] at h
  | cons b s ih =>
    simp only [ixS] at h
    split at h
    · rename_i hb
      simp only [Option.some.injEq] at h
      subst h; subst hb; simp
    · cases hx : ixS c s with
      | none => rw [hx] at h; simp at h
      | some j =>
        rw [hx] at h
        simp only [Option.map_some, Option.some.injEq] at h
        subst h
        simp only [List.take_succ_cons, List.drop_succ_cons, List.cons_append]
        rw [← ih hx]
theorem plain_mem {s : Str} (h : plainS s = true) : ∀ c ∈ s, innerS c = true ∨ c = 58 := by
  unfold plainS at h
  simp only [Bool.and_eq_true] at h
  cases hx : ixS 58 s with
  | none => rw [hx] at h; obtain ⟨_, _, _, _, h3⟩ := word_ne h.2; exact fun c hc => .inl (tail_mem h3 c hc)
  | some k =>
    rw [hx] at h
    simp only [Bool.and_eq_true] at h
    obtain ⟨_, _, _, _, h3⟩ := word_ne h.2.1
    obtain ⟨_, _, _, _, h4⟩ := word_ne h.2.2
    intro c hc
    rw [ixS_split hx] at hc
    rcases List.mem_append.1 hc with hc | hc
    · exact .inl (tail_mem h3 c hc)
    · rcases List.mem_cons.1 hc with rfl | hc
      · exact .inr rfl
      · exact .inl (tail_mem h4 c hc)
theorem ixS_not_mem {c : UInt8} : ∀ {s : Str}, c ∉ s → ixS c s = none
  | [], _ => rfl
  | b :: s, h => by
    simp only [List.mem_cons, not_or] at h
    simp only [ixS]
    rw [if_neg (fun e => h.1 e.symm), ixS_not_mem h.2]; rfl
theorem plain_nodot {s : Str} (h : plainS s = true) : splitS 46 s = [s] :=
  splitS_none (ixS_not_mem fun hm => by rcases plain_mem h 46 hm with h | h <;> revert h <;> decide)
theorem person_of_plain {s : Str} (h : plainS s = true) : personS s = true := by simp [personS, h]
theorem role_plain {s : Str} (h : plainS s = true) : roleS s = true := by
  unfold roleS
  rw [plain_nodot h]
  simp [person_of_plain h]
theorem splitS_app (c : UInt8) : ∀ (f r : Str), splitS c (f ++ [c] ++ r) = splitS c f ++ splitS c r
  | [], r => by simp [splitS]
  | b :: f, r => by
    have ih := splitS_app c f r
    simp only [List.append_assoc, List.cons_append, List.nil_append] at ih ⊢
    by_cases hb : b = c
    · subst hb; simp only [splitS, if_true, ih, List.cons_append]
    · simp only [splitS, hb, if_false, ih]
      cases hs : splitS c f with
      | nil => exact absurd hs (splitS_ne c f)
      | cons x t => simp
theorem letter_not {c : UInt8} (h : letterS c = true) : c ≠ 42 ∧ c ≠ 33 ∧ c ≠ 123 ∧ c ≠ 60 ∧ c ≠ 95 := by
  refine ⟨?_, ?_, ?_, ?_, ?_⟩ <;> rintro rfl <;> revert h <;> decide
theorem atom_plain {s : Str} (h : plainS s = true) : atomS s = true := by
  obtain ⟨c, t, rfl, hc⟩ := plain_head h
  obtain ⟨h1, h2, h3, h4, _⟩ := letter_not hc
  unfold atomS
  rw [if_neg (by simp [h1, h2]), if_neg (by simp [h3]), if_neg (by simp [h4])]
  exact person_of_plain h
theorem atom_ind {s : Str} (h : personS s = true) : atomS ([123] ++ s ++ [125]) = true := by
  unfold atomS
  have e : ([123] ++ s ++ [125]).length = s.length + 2 := by simp
  rw [if_neg (by simp), if_pos (by
    refine ⟨by omega, by simp, ?_⟩
    rw [List.getElem?_append_right (by simp)]; simp)]
  rw [e]
  have : (List.drop 1 ([123] ++ s ++ [125])).take (s.length + 2 - 1 - 1) = s := by simp
  rw [this]; exact h
theorem atom_angle {t : Str} (h : t ≠ []) : atomS ([60] ++ t ++ [62]) = true := by
  unfold atomS
  have hl : 0 < t.length := List.length_pos_iff.2 h
  have e : ([60] ++ t ++ [62]).length = t.length + 2 := by simp
  rw [if_neg (by simp), if_neg (by simp), if_pos (by
    refine ⟨by omega, by simp, ?_⟩
    rw [List.getElem?_append_right (by simp)]; simp)]
/-! ### sizes and nesting -/
namespace Con
def dep : Con → Nat
  | mk _ _ _ _ _ _ ps => deps ps
where deps : List Con → Nat
  | [] => 0
  | p :: ps => max (1 + dep p) (deps ps)
theorem dep_mem {p : Con} : ∀ {ps : List Con}, p ∈ ps → 1 + p.dep ≤ dep.deps ps
  | q :: ps, h => by
    rcases List.mem_cons.1 h with rfl | h
    · simp only [dep.deps]; omega
    · have := dep_mem h; simp only [dep.deps]; omega
theorem dep_eq (c : Con) : c.dep = dep.deps c.parts := by cases c; rfl
theorem sz_eq (c : Con) : c.sz = 1 + sz.szs c.parts := by cases c; rfl
theorem fits_iff : ∀ (m : Nat) (c : Con), c.sz ≤ m → ∀ d n, (c.fits d n).1 = true ↔ d + c.dep ≤ 8 ∧ n + c.sz ≤ 64
  | 0, c, h => by have := c.sz_pos; omega
  | m + 1, c, h => fun d n => by
    have key : ∀ ps : List Con, (∀ p ∈ ps, p.sz ≤ m) → ∀ n, n ≤ 64 → ((fits.fitss ps (d + 1) n).1 = true ↔ (∀ p ∈ ps, d + 1 + p.dep ≤ 8) ∧ n + sz.szs ps ≤ 64) := by
      intro ps
      induction ps with
      | nil => intro _ n hn; simp [fits.fitss, sz.szs, hn]
      | cons p ps ih =>
        intro hp n hn
        have h1 := fits_iff m p (hp p (by simp)) (d + 1) n
        simp only [fits.fitss, sz.szs, List.mem_cons, forall_eq_or_imp]
        rcases hq : p.fits (d + 1) n with ⟨b, q⟩
        rw [hq] at h1
        cases b with
        | true =>
          have hs := fits_sz _ p (Nat.le_refl _) (d + 1) n (by rw [hq])
          rw [hq] at hs
          simp only at hs h1 ⊢
          have h2 := h1.1 trivial
          rw [ih (fun r hr => hp r (by simp [hr])) q (by omega)]
          constructor
          · rintro ⟨a, b⟩; exact ⟨⟨h2.1, a⟩, by omega⟩
          · rintro ⟨⟨_, a⟩, b⟩; exact ⟨a, by omega⟩
        | false =>
          simp only [Bool.false_eq_true, false_iff] at h1 ⊢
          rintro ⟨⟨a, _⟩, b⟩
          exact h1 ⟨a, by omega⟩
    have hd := dep_eq c
    have hz := sz_eq c
    rw [fits_eq]
    split
    · rename_i hc
      simp only [Bool.or_eq_true, decide_eq_true_eq] at hc
      simp only [Bool.false_eq_true, false_iff]
      rintro ⟨a, b⟩
      omega
    · rename_i hc
      simp only [Bool.or_eq_true, decide_eq_true_eq, not_or] at hc
      rw [key c.parts (fun p hp => by have := sz_part hp; omega) (n + 1) (by omega), hd, hz]
      constructor
      · rintro ⟨a, b⟩
        refine ⟨?_, by omega⟩
        have : ∀ ps : List Con, (∀ p ∈ ps, d + 1 + p.dep ≤ 8) → d + dep.deps ps ≤ 8 := by
          intro ps
          induction ps with
          | nil => intro _; simp [dep.deps]; omega
          | cons p ps ih =>
            intro hp
            have h1 := hp p (by simp)
            have h2 := ih fun q hq => hp q (by simp [hq])
            simp only [dep.deps]; omega
        exact this _ a
      · rintro ⟨a, b⟩
        exact ⟨fun p hp => by have := dep_mem hp; omega, by omega⟩
theorem check_iff (c : Con) : c.check = 0 ↔ c.dep ≤ 8 ∧ c.sz ≤ 64 ∧ c.fine := by
  unfold check fine
  have h := fits_iff _ c (Nat.le_refl _) 0 0
  by_cases hf : (c.fits 0 0).1 = true
  · rw [if_pos hf]
    have := h.1 hf
    constructor
    · intro e; exact ⟨by omega, by omega, e⟩
    · exact fun e => e.2.2
  · rw [if_neg hf]
    constructor
    · intro e; cases e
    · intro e; exact absurd (h.2 ⟨by omega, by omega⟩) hf
theorem check_part {c p : Con} (h : c.check = 0) (hp : p ∈ c.parts) : p.check = 0 := by
  rw [check_iff] at h ⊢
  have h1 := dep_mem hp
  rw [← dep_eq] at h1
  have h2 := sz_part hp
  exact ⟨by omega, by omega, fine_part h.2.2 hp⟩
structure Names (c : Con) : Prop where
  plain : c.kind = 3 ∨ c.kind = 6 ∨ c.kind = 7 → plainS c.name = true
  person : c.kind = 4 → personS c.name = true
  nums : c.kind = 7 → -1099511627776 ≤ c.lo ∧ c.lo ≤ c.hi ∧ c.hi ≤ 1099511627776
theorem names_of {c : Con} (h : c.fine) : Names c := by
  have F := fields h
  have hk : c.kind = 1 ∨ c.kind = 2 ∨ c.kind = 3 ∨ c.kind = 4 ∨ c.kind = 5 ∨ c.kind = 6 ∨ c.kind = 7 := by have := F.k1; have := F.k7; omega
  have h0 := ((fine_iff c).1 h).1
  unfold fieldErr at h0
  rw [if_neg (by have := F.k1; have := F.k7; omega)] at h0
  split at h0
  · cases h0
  · split at h0
    · cases h0
    · rename_i h3
      split at h0
      · cases h0
      · split at h0
        · rename_i h5
          refine ⟨fun e => ?_, fun e => ?_, fun e => ?_⟩
          · rcases e with e | e | e <;> rw [e] at h5 <;> simpa [nd, needL] using h5
          · rw [e] at h5
            simp [nd, needL] at h5
            simp [personS, h5]
          · rw [e] at h3
            simp [nd, needL] at h3
            omega
        · cases h0
theorem join_two (x y : Str) (r : List Str) (sep : Str) : Lib.join (x :: y :: r) sep = x ++ sep ++ Lib.join (y :: r) sep := by simp [Lib.join, List.intercalate]
theorem text_ne {c : Con} (h : c.fine) (hk : 5 ≤ c.kind) : c.text ≠ [] := by
  have F := fields h
  have h7 := F.k7
  rw [text_eq, if_neg (by omega), if_neg (by omega), if_neg (by omega), if_neg (by omega)]
  split
  · rename_i h5
    have hl := F.le
    rw [h5] at hl
    simp [nd, needL] at hl
    match hp : c.parts, hl with
    | [], hl => simp at hl
    | [_], hl => simp at hl
    | p :: q :: r, _ => simp only [List.map_cons, join_two]; simp
  · split
    · simp only [join_two]; simp
    · simp only [join_two]; simp
theorem atom_ok {c : Con} (h : c.check = 0) : atomS c.atom = true := by
  have hf := (check_zero h).1
  have F := fields hf
  have N := names_of hf
  have h1 := F.k1
  have h7 := F.k7
  unfold atom
  split
  · rfl
  · split
    · rfl
    · split
      · exact atom_plain (N.plain (by omega))
      · split
        · exact atom_ind (N.person (by omega))
        · unfold textN
          rw [if_pos h]
          exact atom_angle (text_ne hf (by omega))
theorem atom_len {c : Con} (hok : c.ok) (h : c.check = 0) : c.atom.length ≤ 7000 := by
  have F := fields (check_zero h).1
  have hn := F.nm
  have ht := textN_len hok
  unfold atom
  repeat' split
  all_goals simp <;> omega
/-- the first parts of a conjunction -/
theorem pre_check {c : Con} (h : c.check = 0) (hk : c.kind = 5) {j : Nat} (h2 : 2 ≤ j) (hj : j ≤ c.parts.length) : (c.pre j).check = 0 := by
  have hf := (check_zero h).1
  have F := fields hf
  have hmo := F.mo
  rw [hk] at hmo
  simp [nd, needL] at hmo
  rw [check_iff] at h ⊢
  have key : ∀ (ps : List Con) (j : Nat), sz.szs (ps.take j) ≤ sz.szs ps ∧ dep.deps (ps.take j) ≤ dep.deps ps := by
    intro ps
    induction ps with
    | nil => intro j; simp
    | cons p ps ih =>
      intro j
      cases j with
      | zero => simp [sz.szs, dep.deps]
      | succ j => have := ih j; simp only [List.take_succ_cons, sz.szs, dep.deps]; omega
  have h1 := key c.parts j
  have e1 := dep_eq c
  have e2 := sz_eq c
  refine ⟨?_, ?_, ?_⟩
  · rw [dep_eq]; show dep.deps (c.parts.take j) ≤ 8; omega
  · rw [sz_eq]; show 1 + sz.szs (c.parts.take j) ≤ 64; omega
  · rw [fine_iff]
    refine ⟨?_, fun p hp => fine_part hf (List.mem_of_mem_take hp)⟩
    unfold fieldErr
    have hlen : (c.pre j).parts.length = j := by show (c.parts.take j).length = j; simp; omega
    rw [if_neg (by show ¬ ((5 : Int) < 1 ∨ 7 < (5 : Int)); omega)]
    simp only [hlen]
    have hk5 : (c.pre j).kind = 5 := rfl
    rw [hk5]
    simp [nd, needL, pre, name, lo, hi]
    omega
end Con
end Go.Vs

/-
  Indices of pieces; sorted lists of strings without repetition; rows that a library function rewrites.
-/
namespace Go.Sx
open Go
section
variable {P : Program} {N : Nat} {fr : Fr} {H : Hp} {Γ : List Fct}
theorem bless_eq : ∀ (x y : List UInt8), Op.bytesLess x y = decide (x < y)
  | [], [] => by simp [Op.bytesLess]
  | _ :: _, [] => by simp [Op.bytesLess]
  | [], _ :: _ => by simp [Op.bytesLess]
  | a :: x, b :: y => by
    rw [Op.bytesLess, bless_eq x y]
    simp only [List.cons_lt_cons_iff]
    by_cases h1 : a < b <;> by_cases h2 : a = b <;> by_cases h3 : x < y <;> simp [h1, h2, h3]
theorem bleq_eq (x y : List UInt8) : (Op.bytesLess x y || x == y) = decide (x ≤ y) := by
  rw [bless_eq]
  by_cases h : x ≤ y
  · rw [decide_eq_true h]
    by_cases e : x = y
    · simp [e]
    · have : x < y := by
        apply Decidable.byContradiction
        intro h2
        exact e (List.le_antisymm h (List.not_lt.1 h2))
      simp [this]
  · rw [decide_eq_false h]
    have h1 : ¬ x < y := fun q => h (List.le_of_lt q)
    have h2 : x ≠ y := fun e => h (e ▸ List.le_refl x)
    simp [h1, h2]
theorem yld_slss {t t' ty : TypeId} {x y : Operand} {m n : List UInt8} (hx : Fr.ev fr x = some (str m)) (hy : Fr.ev fr y = some (str n)) : Yld P N fr H Γ (.binOp .lss t x y t') ty (.bool (decide (m < n))) :=
  fun a v h1 _ _ _ _ _ => by rw [← bless_eq]; simp [execOp, h1.ev hx, h1.ev hy, str, eqGuard, binOp, Op.stringOp]
theorem yld_sleq {t t' ty : TypeId} {x y : Operand} {m n : List UInt8} (hx : Fr.ev fr x = some (str m)) (hy : Fr.ev fr y = some (str n)) : Yld P N fr H Γ (.binOp .leq t x y t') ty (.bool (decide (m ≤ n))) :=
  fun a v h1 _ _ _ _ _ => by rw [← bleq_eq]; simp [execOp, h1.ev hx, h1.ev hy, str, eqGuard, binOp, Op.stringOp]
/-- a library function that rewrites a row of one's own -/
theorem tri_of_put {f : FuncId} {args : Array Value} {r : Value} {g : Nat} {cur : Array Value} {T : TypeId} {d : Array (List UInt8)} (hc : Callable P f)
    (h : ∀ v : Vw, v.sat [(g, .cells cur T (0, 0))] → Calls P f args v.w fun e w' => e = .returned r ∧ ∃ n os, w' = Sort.grow (Sort.putRow Go.Proofs.encStr (Sort.ahead v.w n) g 0 d) os) :
    Tri P f args [(g, .cells cur T (0, 0))] Γ (fun _ : Unit => r) (fun _ => [(g, .cells (Sort.putCells Go.Proofs.encStr 0 d cur) T (0, 0))]) (fun _ => []) :=
  ⟨hc, fun v h1 _ => (h v h1).mono fun e w' ⟨he, n, os, hw⟩ => by
    have hg := (h1.own _ List.mem_cons_self)
    have hlt : g < v.w.heap.size := (Array.getElem?_eq_some_iff.1 hg.1).1
    have hb : ∀ b, b < v.w.heap.size → w'.heap[b]? = if b = g then some (.cells (Sort.putCells Go.Proofs.encStr 0 d cur) T (0, 0)) else v.w.heap[b]? := fun b hb => by
      rw [hw]
      simp only [Sort.grow, Sort.putRow, Sort.mapBlock, Sort.ahead]
      rw [Array.getElem?_append_left (by simpa using hb), Array.getElem?_modify]
      by_cases e : b = g
      · subst e
        simp only [if_true, hg.1, Option.map_some, Sort.onCells]
      · rw [if_neg (fun q => e q.symm), if_neg e]
    have hsz : v.w.heap.size ≤ w'.heap.size := by rw [hw]; simp [Sort.grow, Sort.putRow, Sort.mapBlock, Sort.ahead]
    refine ⟨(), ⟨v.im, w'⟩, he, rfl, ⟨fun p hp => ?_, by simp, fun b hbb => Nat.lt_of_lt_of_le (h1.lt b hbb) hsz⟩, trivial, ⟨by rw [hw]; rfl, by rw [hw]; rfl, by rw [hw]; rfl, hsz, fun b hbb hn => ?_, fun _ h => h, fun _ h => .inl h, fun b hm => .inl (by simpa using hm)⟩⟩
    · simp only [List.mem_singleton] at hp
      subst hp
      exact ⟨by show w'.heap[g]? = _; rw [hb g hlt, if_pos rfl], hg.2⟩
    · have hn' : b ≠ g := by simpa using hn
      show w'.heap[b]? = _
      rw [hb b hbb, if_neg hn']⟩
theorem put_take {cur : Array Value} {d : List (List UInt8)} (hs : d.length ≤ cur.size) : (Sort.putCells Go.Proofs.encStr 0 d.toArray cur).toList.take d.length = d.flatMap strC := by
  rw [strC_map]
  apply List.ext_getElem?
  intro j
  rw [List.getElem?_take, List.getElem?_map]
  split
  · rename_i hj
    simp only [Sort.putCells, Array.getElem?_toList, Array.getElem?_mapIdx]
    rw [Array.getElem?_eq_getElem (by omega)]
    simp only [Option.map_some, Nat.zero_le, true_and, Nat.zero_add, List.size_toArray, hj, if_true, Nat.sub_zero]
    rw [List.getElem?_eq_getElem hj]
    simp only [Option.map_some]
    rw [getElem!_pos d.toArray j (by simpa using hj)]
    rfl
  · rename_i hj
    rw [List.getElem?_eq_none (by omega)]; rfl
theorem put_size {cur : Array Value} {d : Array (List UInt8)} : (Sort.putCells Go.Proofs.encStr 0 d cur).size = cur.size := by simp [Sort.putCells]
end
end Go.Sx
namespace Go.Vs
open Go Go.Sx
/-- the places of the pieces with this From -/
def ofs (a : Int) : Nat → List Pc → List Int
  | _, [] => []
  | i, p :: r => if p.frm = a then (i : Int) :: ofs a (i + 1) r else ofs a (i + 1) r
theorem ofs_append (a : Int) : ∀ (xs ys : List Pc) (i : Nat), ofs a i (xs ++ ys) = ofs a i xs ++ ofs a (i + xs.length) ys
  | [], ys, i => by simp [ofs]
  | x :: xs, ys, i => by
    simp only [List.cons_append, ofs, List.length_cons]
    rw [ofs_append a xs ys (i + 1), show i + 1 + xs.length = i + (xs.length + 1) by omega]
    split <;> simp
theorem ofs_step (a : Int) {l : List Pc} {p : Pc} {i : Nat} (h : l[i]? = some p) : ofs a 0 (l.take (i + 1)) = ofs a 0 (l.take i) ++ if p.frm = a then [(i : Int)] else [] := by
  have hi := (List.getElem?_eq_some_iff.1 h).1
  rw [List.take_add_one, h, Option.toList_some, ofs_append, List.length_take, Nat.min_eq_left (by omega), Nat.zero_add]
  simp only [ofs]
theorem ofs_len (a : Int) : ∀ (l : List Pc) (i : Nat), (ofs a i l).length ≤ l.length
  | [], _ => by simp [ofs]
  | p :: r, i => by
    have := ofs_len a r (i + 1)
    simp only [ofs]
    split <;> simp <;> omega
def atoms1 (p : Pc) : List Str := [p.a, p.b, p.c].filter fun s => !(s == [])
def atomsR (l : List Pc) : List Str := l.flatMap atoms1
def atomsL (l : List Pc) : List Str := Lib.compact ((atomsR l).mergeSort fun x y => decide (x ≤ y))
theorem atomsR_len : ∀ l : List Pc, (atomsR l).length ≤ 3 * l.length
  | [] => by simp [atomsR]
  | p :: r => by
    have h1 := atomsR_len r
    have h2 : (atoms1 p).length ≤ 3 := by unfold atoms1; exact List.length_filter_le _ _
    simp only [atomsR, List.flatMap_cons, List.length_append, List.length_cons] at h1 ⊢
    omega
theorem sorted_R (l : List Str) : (l.mergeSort fun x y => decide (x ≤ y)).Pairwise fun x y => x ≤ y := by
  have h := List.pairwise_mergeSort (le := fun x y : Str => decide (x ≤ y)) (fun a b c h1 h2 => by simp only [decide_eq_true_eq] at *; exact List.le_trans h1 h2) (fun a b => by
    simp only [Bool.or_eq_true, decide_eq_true_eq]; exact List.le_total a b) l
  exact h.imp (fun h => of_decide_eq_true h)
theorem compact_get {zs : List Str} : Lib.compact zs = ((List.range zs.length).filter fun j => decide (j = 0 ∨ zs[j]! ≠ zs[j - 1]!)).map fun j => zs[j]! := by
  unfold Lib.compact Lib.compactUpTo Lib.keeps
  have e : ∀ j, zs.toArray[j]! = zs[j]! := fun j => by
    by_cases h : j < zs.length
    · rw [getElem!_pos zs.toArray j (by simpa using h), getElem!_pos zs j h]; simp
    · rw [getElem!_neg zs.toArray j (by simpa using h), getElem!_neg zs j h]
  rw [List.map_congr_left fun j _ => e j]
  congr 2
  funext j
  rw [e, e]
theorem compact_len (zs : List Str) : (Lib.compact zs).length ≤ zs.length := by
  rw [compact_get, List.length_map]
  have := List.length_filter_le (fun j => decide (j = 0 ∨ zs[j]! ≠ zs[j - 1]!)) (List.range zs.length)
  simpa using this
theorem compact_mem {zs : List Str} (x : Str) : x ∈ Lib.compact zs ↔ x ∈ zs := by
  rw [compact_get, List.mem_map]
  constructor
  · rintro ⟨j, hj, rfl⟩
    have hl := List.mem_range.1 (List.mem_filter.1 hj).1
    rw [getElem!_pos zs j hl]
    exact List.getElem_mem hl
  · intro hx
    obtain ⟨j, hj, e⟩ := List.mem_iff_getElem.1 hx
    clear hx
    induction j with
    | zero => exact ⟨0, List.mem_filter.2 ⟨List.mem_range.2 hj, by simp⟩, by rw [getElem!_pos zs 0 hj]; exact e⟩
    | succ j ih =>
      by_cases h : zs[j + 1]! = zs[j]!
      · have hj' : j < zs.length := by omega
        refine ih hj' ?_
        rw [getElem!_pos zs (j + 1) hj, getElem!_pos zs j hj'] at h
        rw [← h]; exact e
      · exact ⟨j + 1, List.mem_filter.2 ⟨List.mem_range.2 hj, decide_eq_true (.inr h)⟩, by rw [getElem!_pos zs (j + 1) hj]; exact e⟩
theorem compact_lt {zs : List Str} (hs : zs.Pairwise fun x y => x ≤ y) : (Lib.compact zs).Pairwise fun x y => x < y := by
  rw [compact_get, List.pairwise_map]
  have hr : (List.range zs.length).Pairwise (· < ·) := List.pairwise_lt_range
  have hf := hr.filter (fun j => decide (j = 0 ∨ zs[j]! ≠ zs[j - 1]!))
  refine List.Pairwise.imp_of_mem ?_ hf
  intro j k hj hk hlt
  have hkl := List.mem_range.1 (List.mem_filter.1 hk).1
  have hkk := (List.mem_filter.1 hk).2
  simp only [decide_eq_true_eq] at hkk
  have hne : zs[k]! ≠ zs[k - 1]! := by
    rcases hkk with h | h
    · omega
    · exact h
  have hle : ∀ a b, a ≤ b → b < zs.length → zs[a]! ≤ zs[b]! := by
    intro a b hab hb
    rcases Nat.lt_or_eq_of_le hab with h | h
    · rw [getElem!_pos zs a (by omega), getElem!_pos zs b hb]
      exact List.pairwise_iff_getElem.1 hs a b (by omega) hb h
    · subst h; exact List.le_refl _
  have h1 := hle j (k - 1) (by omega) (by omega)
  have h2 := hle (k - 1) k (by omega) hkl
  have h3 : zs[k - 1]! < zs[k]! := by
    apply Decidable.byContradiction
    intro h
    exact hne (List.le_antisymm (List.not_lt.1 h) h2)
  exact List.lt_of_le_of_lt h1 h3
theorem atomsL_mem (l : List Pc) (x : Str) : x ∈ atomsL l ↔ x ∈ atomsR l := by
  unfold atomsL
  rw [compact_mem, List.mem_mergeSort]
theorem atomsL_lt (l : List Pc) : (atomsL l).Pairwise fun x y => x < y := compact_lt (sorted_R _)
theorem atomsL_len (l : List Pc) : (atomsL l).length ≤ 3 * l.length := by
  have h1 := compact_len ((atomsR l).mergeSort fun x y => decide (x ≤ y))
  rw [List.length_mergeSort] at h1
  have h2 := atomsR_len l
  unfold atomsL
  omega
end Go.Vs

/-
  My own contracts.
-/
namespace Go.Proofs.YtoafjmalfclpoaaGreatDoor
open Go Go.Sx Go.Proofs
set_option linter.unusedVariables false
attribute [local irreducible] Code.wp wpList wpAnyH

open Go.Vs
theorem eltI : Elt Tryz.prog 62 3 1 8 := eltOf Tryz.underlying62 (z := .int .i64 0) (by kernel_rfl) rfl (by decide)
theorem eltS : Elt Tryz.prog 39 9 1 16 := eltOf Tryz.underlying39 (z := .string ⟨#[]⟩) (by kernel_rfl) rfl (by decide)

theorem short_c (l : List Pc) (ad : Option Addr) (cap : Nat) (hl : l.length ≤ 1099511627744) (hbig : ∀ p ∈ l, p.big) : Tri Tryz.prog 27 #[.slice ad (List.length l) cap] [] [rowF ad (List.flatMap Pc.cells l)] (fun b : {b : Bool // b = true → l.length ≤ 60 ∧ ∀ p ∈ l, p.sm} => .bool b.1) (fun _ => []) (fun _ => []) := by
 refine tri_of_body Tryz.func27 rfl rfl Tryz.ntmps27 rfl fun v0 => ?_
 refine run_seq ?_
 refine run_region ?_
 refine ops_val (yld_assign rfl) rfl ?_
 refine ops_nil ?_
 refine fin_next rfl ?_
 refine run_seq ?_
 refine run_seq ?_
 refine run_region ?_
 refine ops_val (yld_move rfl) rfl ?_
 refine ops_val (yld_lenS Tryz.runUnderlying25 rfl) rfl ?_
 refine ops_valB (yld_gtr rfl rfl) rfl fun r1 hr1 => ?_
 refine ops_nil ?_
 refine fin_next rfl ?_
 cases r1
 ·
  replace hr1 := of_decide_eq_false hr1
  refine run_cond_f rfl ?_
  refine run_skip ?_
  refine fin_next rfl ?_
  refine run_seq ?_
  refine run_seq ?_
  refine run_region ?_
  refine ops_val (yld_assign rfl) rfl ?_
  refine ops_nil ?_
  refine fin_next rfl ?_
  refine run_block ?_
  refine ok_fr [(0, .slice ad (List.length l) cap), (3, .int .i64 ((0 : Nat) : Int))] ⟨rfl, rfl, trivial⟩ ?_
  refine run_loop (ι := {z : Nat // z ≤ l.length ∧ ∀ p ∈ l.take z, p.sm}) (fun zz => [(0, .slice ad (List.length l) cap), (3, .int .i64 (zz.1 : Int))]) (fun _ => _) (fun _ => _) (fun zz => l.length - zz.1) ⟨0, by simp⟩ ?_
  rintro ⟨i, hk⟩
  refine ok_fr [(0, .slice ad (List.length l) cap), (3, .int .i64 (i : Int))] ⟨rfl, rfl, trivial⟩ ?_
  refine run_seq ?_
  refine run_seq ?_
  refine run_region ?_
  refine ops_val (yld_move rfl) rfl ?_
  refine ops_val (yld_move rfl) rfl ?_
  refine ops_val (yld_lenS Tryz.runUnderlying25 rfl) rfl ?_
  refine ops_valB (yld_lss rfl rfl) rfl fun r2 hr2 => ?_
  refine ops_nil ?_
  refine fin_next rfl ?_
  cases r2
  ·
   replace hr2 := of_decide_eq_false hr2
   refine run_cond_f rfl ?_
   refine run_exit rfl ?_
   refine fin_next rfl ?_
   refine run_seq ?_
   refine run_region ?_
   refine ops_val (yld_assign rfl) rfl ?_
   refine ops_nil ?_
   refine fin_next rfl ?_
   refine run_ret ?_
   exact ret1 Tryz.results27 ⟨true, fun _ => ⟨by omega, fun p hp => hk.2 p (by rw [List.take_of_length_le (by omega)]; exact hp)⟩⟩ rfl pf_nil (fun _ _ _ => trivial)
  ·
   replace hr2 := of_decide_eq_true hr2
   have hlx1 : i < List.length l := by omega
   obtain ⟨x1, hx1⟩ : ∃ e0, l[i]? = some e0 := ⟨_, List.getElem?_eq_getElem hlx1⟩
   have hmx1 : x1 ∈ l := List.mem_of_getElem? hx1
   obtain ⟨q1, q2, q3, q4, q5, q6⟩ := hbig x1 hmx1
   refine run_cond_t rfl ?_
   refine run_skip ?_
   refine fin_next rfl ?_
   refine run_seq ?_
   refine run_block ?_
   refine run_seq ?_
   refine run_draw' (by kernel_rfl) ?_
   refine any_take 0 rfl (by kernel_rfl) (by kernel_rfl) (by kernel_rfl) (yld_move rfl) rfl (fun _ a b => ⟨satNil a, b⟩) ?_
   refine any_take 1 rfl (by kernel_rfl) (by kernel_rfl) (by kernel_rfl) (yld_move rfl) rfl (fun _ a b => ⟨satNil a, b⟩) ?_
   refine any_take 2 rfl (by kernel_rfl) (by kernel_rfl) (by kernel_rfl) (yld_indexR Tryz.runUnderlying25 Tryz.sizeOf31 rfl rfl (fun v _ h => row_adr (n := 10) Pc.cells_len (by decide) (by exact h.1) hx1) (by omega) (by first | omega | (simp; done))) rfl (fun _ a b => ⟨satNil a, b⟩) ?_
   refine any_take 3 rfl (by kernel_rfl) (by kernel_rfl) (by kernel_rfl) (yld_fieldR Tryz.runUnderlying31 rfl rfl rfl Tryz.sizeOf9) rfl (fun _ a b => ⟨satNil a, b⟩) ?_
   refine any_take 4 rfl (by kernel_rfl) (by kernel_rfl) (by kernel_rfl) (yld_loadR (ad := ad) Tryz.isAgg9 rfl (fun v _ h => by exact h.1) (row_cells Pc.cells_len hx1 1 _ rfl)) rfl (fun _ a b => ⟨satNil a, b⟩) ?_
   refine any_take 5 rfl (by kernel_rfl) (by kernel_rfl) (by kernel_rfl) (yld_lenT Tryz.runUnderlying9 rfl) rfl (fun _ a b => ⟨satNil a, b⟩) ?_
   refine any_take 6 rfl (by kernel_rfl) (by kernel_rfl) (by kernel_rfl) (yld_move rfl) rfl (fun _ a b => ⟨satNil a, b⟩) ?_
   refine any_take 7 rfl (by kernel_rfl) (by kernel_rfl) (by kernel_rfl) (yld_move rfl) rfl (fun _ a b => ⟨satNil a, b⟩) ?_
   refine any_take 8 rfl (by kernel_rfl) (by kernel_rfl) (by kernel_rfl) (yld_indexR Tryz.runUnderlying25 Tryz.sizeOf31 rfl rfl (fun v _ h => row_adr (n := 10) Pc.cells_len (by decide) (by exact h.1) hx1) (by omega) (by first | omega | (simp; done))) rfl (fun _ a b => ⟨satNil a, b⟩) ?_
   refine any_take 9 rfl (by kernel_rfl) (by kernel_rfl) (by kernel_rfl) (yld_fieldR Tryz.runUnderlying31 rfl rfl rfl Tryz.sizeOf9) rfl (fun _ a b => ⟨satNil a, b⟩) ?_
   refine any_take 10 rfl (by kernel_rfl) (by kernel_rfl) (by kernel_rfl) (yld_loadR (ad := ad) Tryz.isAgg9 rfl (fun v _ h => by exact h.1) (row_cells Pc.cells_len hx1 2 _ rfl)) rfl (fun _ a b => ⟨satNil a, b⟩) ?_
   refine any_take 11 rfl (by kernel_rfl) (by kernel_rfl) (by kernel_rfl) (yld_lenT Tryz.runUnderlying9 rfl) rfl (fun _ a b => ⟨satNil a, b⟩) ?_
   refine any_take 12 rfl (by kernel_rfl) (by kernel_rfl) (by kernel_rfl) (yld_arith rfl rfl rfl (wrap64 (by omega) (by omega))) rfl (fun _ a b => ⟨satNil a, b⟩) ?_
   refine any_take 13 rfl (by kernel_rfl) (by kernel_rfl) (by kernel_rfl) (yld_move rfl) rfl (fun _ a b => ⟨satNil a, b⟩) ?_
   refine any_take 14 rfl (by kernel_rfl) (by kernel_rfl) (by kernel_rfl) (yld_move rfl) rfl (fun _ a b => ⟨satNil a, b⟩) ?_
   refine any_take 15 rfl (by kernel_rfl) (by kernel_rfl) (by kernel_rfl) (yld_indexR Tryz.runUnderlying25 Tryz.sizeOf31 rfl rfl (fun v _ h => row_adr (n := 10) Pc.cells_len (by decide) (by exact h.1) hx1) (by omega) (by first | omega | (simp; done))) rfl (fun _ a b => ⟨satNil a, b⟩) ?_
   refine any_take 16 rfl (by kernel_rfl) (by kernel_rfl) (by kernel_rfl) (yld_fieldR Tryz.runUnderlying31 rfl rfl rfl Tryz.sizeOf9) rfl (fun _ a b => ⟨satNil a, b⟩) ?_
   refine any_take 17 rfl (by kernel_rfl) (by kernel_rfl) (by kernel_rfl) (yld_loadR (ad := ad) Tryz.isAgg9 rfl (fun v _ h => by exact h.1) (row_cells Pc.cells_len hx1 3 _ rfl)) rfl (fun _ a b => ⟨satNil a, b⟩) ?_
   refine any_take 18 rfl (by kernel_rfl) (by kernel_rfl) (by kernel_rfl) (yld_lenT Tryz.runUnderlying9 rfl) rfl (fun _ a b => ⟨satNil a, b⟩) ?_
   refine any_take 19 rfl (by kernel_rfl) (by kernel_rfl) (by kernel_rfl) (yld_arith rfl rfl rfl (wrap64 (by omega) (by omega))) rfl (fun _ a b => ⟨satNil a, b⟩) ?_
   refine any_take 20 rfl (by kernel_rfl) (by kernel_rfl) (by kernel_rfl) (yld_move rfl) rfl (fun _ a b => ⟨satNil a, b⟩) ?_
   refine any_take 21 rfl (by kernel_rfl) (by kernel_rfl) (by kernel_rfl) (yld_move rfl) rfl (fun _ a b => ⟨satNil a, b⟩) ?_
   refine any_take 22 rfl (by kernel_rfl) (by kernel_rfl) (by kernel_rfl) (yld_indexR Tryz.runUnderlying25 Tryz.sizeOf31 rfl rfl (fun v _ h => row_adr (n := 10) Pc.cells_len (by decide) (by exact h.1) hx1) (by omega) (by first | omega | (simp; done))) rfl (fun _ a b => ⟨satNil a, b⟩) ?_
   refine any_take 23 rfl (by kernel_rfl) (by kernel_rfl) (by kernel_rfl) (yld_fieldR Tryz.runUnderlying31 rfl rfl rfl Tryz.sizeOf9) rfl (fun _ a b => ⟨satNil a, b⟩) ?_
   refine any_take 24 rfl (by kernel_rfl) (by kernel_rfl) (by kernel_rfl) (yld_loadR (ad := ad) Tryz.isAgg9 rfl (fun v _ h => by exact h.1) (row_cells Pc.cells_len hx1 4 _ rfl)) rfl (fun _ a b => ⟨satNil a, b⟩) ?_
   refine any_take 25 rfl (by kernel_rfl) (by kernel_rfl) (by kernel_rfl) (yld_lenT Tryz.runUnderlying9 rfl) rfl (fun _ a b => ⟨satNil a, b⟩) ?_
   refine any_take 26 rfl (by kernel_rfl) (by kernel_rfl) (by kernel_rfl) (yld_arith rfl rfl rfl (wrap64 (by omega) (by omega))) rfl (fun _ a b => ⟨satNil a, b⟩) ?_
   refine any_take 27 rfl (by kernel_rfl) (by kernel_rfl) (by kernel_rfl) (yld_move rfl) rfl (fun _ a b => ⟨satNil a, b⟩) ?_
   refine any_take 28 rfl (by kernel_rfl) (by kernel_rfl) (by kernel_rfl) (yld_move rfl) rfl (fun _ a b => ⟨satNil a, b⟩) ?_
   refine any_take 29 rfl (by kernel_rfl) (by kernel_rfl) (by kernel_rfl) (yld_indexR Tryz.runUnderlying25 Tryz.sizeOf31 rfl rfl (fun v _ h => row_adr (n := 10) Pc.cells_len (by decide) (by exact h.1) hx1) (by omega) (by first | omega | (simp; done))) rfl (fun _ a b => ⟨satNil a, b⟩) ?_
   refine any_take 30 rfl (by kernel_rfl) (by kernel_rfl) (by kernel_rfl) (yld_fieldR Tryz.runUnderlying31 rfl rfl rfl Tryz.sizeOf9) rfl (fun _ a b => ⟨satNil a, b⟩) ?_
   refine any_take 31 rfl (by kernel_rfl) (by kernel_rfl) (by kernel_rfl) (yld_loadR (ad := ad) Tryz.isAgg9 rfl (fun v _ h => by exact h.1) (row_cells Pc.cells_len hx1 5 _ rfl)) rfl (fun _ a b => ⟨satNil a, b⟩) ?_
   refine any_take 32 rfl (by kernel_rfl) (by kernel_rfl) (by kernel_rfl) (yld_lenT Tryz.runUnderlying9 rfl) rfl (fun _ a b => ⟨satNil a, b⟩) ?_
   refine any_take 33 rfl (by kernel_rfl) (by kernel_rfl) (by kernel_rfl) (yld_arith rfl rfl rfl (wrap64 (by omega) (by omega))) rfl (fun _ a b => ⟨satNil a, b⟩) ?_
   refine any_take 34 rfl (by kernel_rfl) (by kernel_rfl) (by kernel_rfl) (yld_move rfl) rfl (fun _ a b => ⟨satNil a, b⟩) ?_
   refine any_take 35 rfl (by kernel_rfl) (by kernel_rfl) (by kernel_rfl) (yld_move rfl) rfl (fun _ a b => ⟨satNil a, b⟩) ?_
   refine any_take 36 rfl (by kernel_rfl) (by kernel_rfl) (by kernel_rfl) (yld_indexR Tryz.runUnderlying25 Tryz.sizeOf31 rfl rfl (fun v _ h => row_adr (n := 10) Pc.cells_len (by decide) (by exact h.1) hx1) (by omega) (by first | omega | (simp; done))) rfl (fun _ a b => ⟨satNil a, b⟩) ?_
   refine any_take 37 rfl (by kernel_rfl) (by kernel_rfl) (by kernel_rfl) (yld_fieldR Tryz.runUnderlying31 rfl rfl rfl Tryz.sizeOf9) rfl (fun _ a b => ⟨satNil a, b⟩) ?_
   refine any_take 38 rfl (by kernel_rfl) (by kernel_rfl) (by kernel_rfl) (yld_loadR (ad := ad) Tryz.isAgg9 rfl (fun v _ h => by exact h.1) (row_cells Pc.cells_len hx1 6 _ rfl)) rfl (fun _ a b => ⟨satNil a, b⟩) ?_
   refine any_take 39 rfl (by kernel_rfl) (by kernel_rfl) (by kernel_rfl) (yld_lenT Tryz.runUnderlying9 rfl) rfl (fun _ a b => ⟨satNil a, b⟩) ?_
   refine any_take 40 rfl (by kernel_rfl) (by kernel_rfl) (by kernel_rfl) (yld_arith rfl rfl rfl (wrap64 (by omega) (by omega))) rfl (fun _ a b => ⟨satNil a, b⟩) ?_
   refine any_takeB 41 rfl (by kernel_rfl) (by kernel_rfl) (by kernel_rfl) (yld_gtr rfl rfl) rfl (fun _ a b => ⟨satNil a, b⟩) fun r3 hr3 => ?_
   refine any_done (by kernel_rfl) ?_
   refine fin_next rfl ?_
   cases r3
   ·
    replace hr3 := of_decide_eq_false hr3
    refine run_cond_f rfl ?_
    refine run_skip ?_
    refine fin_next rfl ?_
    refine run_region ?_
    refine ops_val (yld_move rfl) rfl ?_
    refine ops_val (yld_arith rfl rfl rfl (wrap64 (by omega) (by omega))) rfl ?_
    refine ops_val (yld_assign rfl) rfl ?_
    refine ops_nil ?_
    refine fin_inv rfl ?_
    exact ok_again ⟨i + 1, hlx1, fun p hp => by rw [List.take_add_one, hx1] at hp; simp only [Option.toList_some, List.mem_append, List.mem_singleton] at hp; rcases hp with hp | rfl; exact hk.2 p hp; exact ⟨by omega, by omega, by omega, by omega, by omega, by omega⟩⟩ (by dsimp only; omega) ⟨rfl, rfl, trivial⟩ (.refl _) (fun _ _ h => h)
   ·
    replace hr3 := of_decide_eq_true hr3
    refine run_cond_t rfl ?_
    refine run_seq ?_
    refine run_region ?_
    refine ops_val (yld_assign rfl) rfl ?_
    refine ops_nil ?_
    refine fin_next rfl ?_
    refine run_ret ?_
    exact ret1 Tryz.results27 ⟨false, fun h => by cases h⟩ rfl pf_nil (fun _ _ _ => trivial)
 ·
  replace hr1 := of_decide_eq_true hr1
  refine run_cond_t rfl ?_
  refine run_seq ?_
  refine run_region ?_
  refine ops_val (yld_assign rfl) rfl ?_
  refine ops_nil ?_
  refine fin_next rfl ?_
  refine run_ret ?_
  exact ret1 Tryz.results27 ⟨false, fun h => by cases h⟩ rfl pf_nil (fun _ _ _ => trivial)

theorem of_c (l : List Pc) (ad : Option Addr) (cap : Nat) (a : Int) (hl : l.length ≤ 100000000000) : Tri Tryz.prog 33 #[.slice ad (List.length l) cap, .int .i64 a] [] [rowF ad (List.flatMap Pc.cells l)] (fun y : {y : Option Addr × Nat // (ofs a 0 l).length ≤ y.2 ∧ y.2 ≤ maxLen} => .slice y.1.1 (ofs a 0 l).length y.1.2) (fun _ => []) (fun y => [rowF y.1.1 ((ofs a 0 l).flatMap intC)]) := by
 refine tri_of_body Tryz.func33 rfl rfl Tryz.ntmps33 rfl fun v0 => ?_
 refine run_seq ?_
 refine run_region ?_
 refine ops_val (yld_assign rfl) rfl ?_
 refine ops_nil ?_
 refine fin_next rfl ?_
 refine run_seq ?_
 refine run_seq ?_
 refine run_region ?_
 refine ops_val (yld_move rfl) rfl ?_
 refine ops_val (yld_lenS Tryz.runUnderlying25 rfl) rfl ?_
 refine ops_val (yld_move rfl) rfl ?_
 refine ops_nil ?_
 refine fin_next rfl ?_
 refine run_block ?_
 refine ok_fr [(1, .int .i64 a), (4, .slice none 0 0), (7, .slice ad (List.length l) cap), (8, .int .i64 (List.length l : Int)), (9, .int .i64 ((0 : Nat) : Int))] ⟨rfl, rfl, rfl, rfl, rfl, trivial⟩ ?_
 refine run_loop (ι := {y : Nat × Value × Hp // y.1 ≤ l.length ∧ SRow 3 1 y.2.1 (ofs a 0 (l.take y.1)).length ((ofs a 0 (l.take y.1)).flatMap intC) y.2.2}) (fun y => [(1, .int .i64 a), (4, y.1.2.1), (7, .slice ad (List.length l) cap), (8, .int .i64 (List.length l : Int)), (9, .int .i64 (y.1.1 : Int))]) (fun y => y.1.2.2) (fun _ => _) (fun y => l.length - y.1.1) ⟨(0, .slice none 0 0, []), by simp, SRow.nil _ _⟩ ?_
 rintro ⟨⟨i, sv, Hr⟩, hi, hrow⟩
 dsimp only at hi hrow
 dsimp only
 have hol := ofs_len a (l.take i) 0
 rw [List.length_take] at hol
 refine ok_fr [(1, .int .i64 a), (4, sv), (7, .slice ad (List.length l) cap), (8, .int .i64 (List.length l : Int)), (9, .int .i64 (i : Int))] ⟨rfl, rfl, rfl, rfl, rfl, trivial⟩ ?_
 refine run_seq ?_
 refine run_region ?_
 refine ops_valB (yld_lss rfl rfl) rfl fun r1 hr1 => ?_
 refine ops_nil ?_
 refine fin_next rfl ?_
 refine run_seq ?_
 cases r1
 ·
  replace hr1 := of_decide_eq_false hr1
  refine run_cond_f rfl ?_
  refine run_exit rfl ?_
  refine fin_next rfl ?_
  refine run_seq ?_
  refine run_region ?_
  refine ops_val (yld_move rfl) rfl ?_
  refine ops_val (yld_assign rfl) rfl ?_
  refine ops_nil ?_
  refine fin_next rfl ?_
  refine run_ret ?_
  have et : l.take i = l := List.take_of_length_le (by omega)
  rw [et] at hrow
  refine ok_giveRow hrow pf_end fun ad2 cp2 hsv hc1 hc2 => ?_
  exact ret1 Tryz.results33 ⟨(ad2, cp2), hc1, hc2⟩ (get_val rfl hsv) pf_nil (fun v _ h => ⟨h.1, trivial⟩)
 ·
  replace hr1 := of_decide_eq_true hr1
  have hlx1 : i < List.length l := by omega
  obtain ⟨x1, hx1⟩ : ∃ e0, l[i]? = some e0 := ⟨_, List.getElem?_eq_getElem hlx1⟩
  have hmx1 : x1 ∈ l := List.mem_of_getElem? hx1
  refine run_cond_t rfl ?_
  refine run_skip ?_
  refine fin_next rfl ?_
  refine run_seq ?_
  refine run_block ?_
  refine run_seq ?_
  refine run_region ?_
  refine ops_val (yld_move rfl) rfl ?_
  refine ops_val (yld_indexR Tryz.runUnderlying25 Tryz.sizeOf31 rfl rfl (fun v _ h => row_adr (n := 10) Pc.cells_len (by decide) (by exact h.1) hx1) (by omega) (by first | omega | (simp; done))) rfl ?_
  refine ops_val (yld_loadRS (ad := ad) (us := Pc.cells x1) Tryz.isAgg31 Tryz.sizeOf31 rfl (fun v _ h => by exact h.1) (Pc.cells_len _) (row_cells Pc.cells_len hx1)) rfl ?_
  refine ops_alloc Tryz.zeroValue31 rfl fun b1 => ?_
  refine ops_val (yld_assign rfl) rfl ?_
  refine ops_store 0 Tryz.sizeOf31 rfl rfl rfl rfl rfl rfl ?_
  refine ops_nil ?_
  refine fin_next rfl ?_
  refine run_seq ?_
  refine run_region ?_
  refine ops_val (yld_field Tryz.runUnderlying31 rfl rfl rfl Tryz.sizeOf3) rfl ?_
  refine ops_val (yld_load 0 Tryz.isAgg3 rfl rfl rfl) rfl ?_
  refine ops_val (yld_move rfl) rfl ?_
  refine ops_valB (yld_eql rfl rfl) rfl fun r2 hr2 => ?_
  refine ops_nil ?_
  refine fin_next rfl ?_
  cases r2
  ·
   replace hr2 := ne_of_beq_false hr2
   refine run_cond_f rfl ?_
   refine run_skip ?_
   refine fin_next rfl ?_
   refine run_region ?_
   refine ops_val (yld_arith rfl rfl rfl (wrap64 (by omega) (by omega))) rfl ?_
   refine ops_val (yld_move rfl) rfl ?_
   refine ops_nil ?_
   refine fin_inv rfl ?_
   have hst := ofs_step a hx1
   rw [if_neg (by assumption)] at hst
   exact ok_again ⟨(i + 1, sv, Hr), hlx1, by dsimp only; rw [hst, List.append_nil]; exact hrow⟩ (by dsimp only; omega) ⟨rfl, rfl, rfl, rfl, rfl, trivial⟩ (pf_cons pf_end) (fun _ _ h => h)
  ·
   replace hr2 := eq_of_beq hr2
   refine run_cond_t rfl ?_
   refine run_region ?_
   refine ops_val (yld_move rfl) rfl ?_
   refine ops_val (yld_move rfl) rfl ?_
   refine ops_slit Tryz.runUnderlying62 Tryz.sizeOf3 Tryz.zeroValue3 rfl rfl rfl rfl rfl rfl fun b2 => ?_
   refine ops_append (news := [.int .i64 (i : Int)]) eltI hrow rfl rfl (pf_cons (pf_cons pf_end)) rfl (own_news 0 rfl) (one_all rfl) (by simp only [maxLen]; omega) (by omega) rfl fun sv2 Hr2 hrow2 => ?_
   refine ok_perm (@List.perm_append_comm _ _ [_, _]) ?_
   refine ops_val (yld_assign rfl) rfl ?_
   refine ops_nil ?_
   refine fin_next rfl ?_
   refine run_region ?_
   refine ops_val (yld_arith rfl rfl rfl (wrap64 (by omega) (by omega))) rfl ?_
   refine ops_val (yld_move rfl) rfl ?_
   refine ops_nil ?_
   refine fin_inv rfl ?_
   have hst := ofs_step a hx1
   rw [if_pos (by assumption)] at hst
   exact ok_again ⟨(i + 1, sv2, Hr2), hlx1, by dsimp only; rw [hst, List.length_append, List.flatMap_append]; exact hrow2⟩ (by dsimp only; omega) ⟨rfl, rfl, rfl, rfl, rfl, trivial⟩ (pf_cons (pf_cons pf_end)) (fun _ _ h => h)

theorem holds_row {g n cap : Nat} {cur : Array Value} {xs : List Str} {v : Vw} (hs : v.sat [(g, .cells cur 9 (0, 0))]) (ht : cur.toList.take (xs.length * 1) = xs.flatMap strC) : Sort.Holds encStr v.w g 0 xs.toArray := by
  intro j hj
  have hb := (hs.own _ List.mem_cons_self).1
  simp only [List.size_toArray] at hj
  have hc : cur[j]? = some (str xs[j]) := take_strs ht j xs[j] (List.getElem?_eq_getElem hj)
  refine ⟨?_, ?_⟩
  · simp only [World.cell?, Nat.zero_add, hb, Option.isSome_none, Bool.false_eq_true, if_false]
    rw [hc, getElem!_pos xs.toArray j (by simpa using hj)]
    rfl
  · simp [World.frozen?, hb]
/-- a row of strings is sorted -/
theorem sortS_c {sv : Value} {xs : List Str} {Hr : Hp} (h : SRow 9 1 sv xs.length (xs.flatMap strC) Hr) (hl : xs.length ≤ 1000000000000) :
    Tri Tryz.prog 68 #[sv] Hr [] (fun _ : {y : Hp // SRow 9 1 sv xs.length ((xs.mergeSort fun x y => decide (x ≤ y)).flatMap strC) y} => .tuple #[]) (fun y => y.1) (fun _ => []) := by
  rcases h.2 with ⟨rfl, h2, rfl⟩ | ⟨g, cap, cur, rfl, rfl, h3, h4, h5, h6⟩
  · obtain rfl : xs = [] := List.eq_nil_of_length_eq_zero h2
    have T := tri_of_calls (P := Tryz.prog) (H := []) (Γ := []) (callable Tryz.func68 rfl rfl) (fun v _ _ => (Tryz.slices_Sort_string_none none 0 v.w).mono (by rintro e w' ⟨rfl, rfl⟩; exact ⟨rfl, ⟨rfl, rfl, rfl, Nat.le_refl _, fun _ _ => rfl⟩⟩))
    exact ⟨T.callable, fun v a b => (T.run v a b).mono (by rintro e w' ⟨x, v', e1, e2, e3, e4, e5⟩; exact ⟨⟨[], by simpa using SRow.nil _ _⟩, v', e1, e2, e3, e4, e5⟩)⟩
  · have T := tri_of_put (P := Tryz.prog) (Γ := []) (d := (xs.mergeSort fun x y => decide (x ≤ y)).toArray) (callable Tryz.func68 rfl rfl) (fun v hs => Tryz.slices_Sort_string g 0 cap xs v.w (holds_row (n := 0) (cap := 0) hs h6) (Array.getElem?_eq_some_iff.1 (hs.own _ List.mem_cons_self).1).1 (by omega))
    have hsz : (xs.mergeSort fun x y => decide (x ≤ y)).length = xs.length := List.length_mergeSort _
    refine ⟨T.callable, fun v a b => (T.run v a b).mono ?_⟩
    rintro e w' ⟨x, v', e1, e2, e3, e4, e5⟩
    refine ⟨⟨_, by rw [fm_len strC 1 strC_len, hsz], .inr ⟨g, cap, _, rfl, rfl, h3, h4, by rw [put_size]; exact h5, ?_⟩⟩, v', e1, e2, e3, e4, e5⟩
    have := put_take (cur := cur) (d := xs.mergeSort fun x y => decide (x ≤ y)) (by rw [hsz, h5]; omega)
    rw [hsz] at this
    rw [Nat.mul_one]; exact this
/-- runs of equal ones are struck -/
theorem compactS_c {sv : Value} {xs : List Str} {Hr : Hp} (h : SRow 9 1 sv xs.length (xs.flatMap strC) Hr) (hl : xs.length ≤ 1000000000000) :
    Tri Tryz.prog 69 #[sv] Hr [] (fun y : {y : Value × Hp // SRow 9 1 y.1 (Lib.compact xs).length ((Lib.compact xs).flatMap strC) y.2} => y.1.1) (fun y => y.1.2) (fun _ => []) := by
  rcases h.2 with ⟨rfl, h2, rfl⟩ | ⟨g, cap, cur, rfl, rfl, h3, h4, h5, h6⟩
  · obtain rfl : xs = [] := List.eq_nil_of_length_eq_zero h2
    have T := tri_of_calls (P := Tryz.prog) (H := []) (Γ := []) (callable Tryz.func69 rfl rfl) (fun v _ _ => (Tryz.slices_Compact_string_empty none 0 v.w).mono (by rintro e w' ⟨rfl, rfl⟩; exact ⟨rfl, ⟨rfl, rfl, rfl, Nat.le_refl _, fun _ _ => rfl⟩⟩))
    exact ⟨T.callable, fun v a b => (T.run v a b).mono (by rintro e w' ⟨x, v', e1, e2, e3, e4, e5⟩; exact ⟨⟨(.slice none 0 0, []), by simpa [Lib.compact, Lib.compactUpTo] using SRow.nil _ _⟩, v', e1, e2, e3, e4, e5⟩)⟩
  · have hcl := compact_len xs
    have T := tri_of_put (P := Tryz.prog) (Γ := []) (r := .slice (some ⟨g, 0, none⟩) (Lib.compact xs).length cap) (d := (Lib.compact xs ++ List.replicate (xs.length - (Lib.compact xs).length) []).toArray) (callable Tryz.func69 rfl rfl) (fun v hs => (Tryz.slices_Compact_string g 0 cap xs v.w (holds_row (n := 0) (cap := 0) hs h6) (by omega) h3).mono (by
      rintro e w' ⟨rfl, q, rfl⟩
      exact ⟨rfl, q, #[], by rw [Sort.grow_empty]⟩))
    refine ⟨T.callable, fun v a b => (T.run v a b).mono ?_⟩
    rintro e w' ⟨x, v', e1, e2, e3, e4, e5⟩
    refine ⟨⟨(.slice (some ⟨g, 0, none⟩) (Lib.compact xs).length cap, _), by rw [fm_len strC 1 strC_len], .inr ⟨g, cap, _, rfl, rfl, by omega, h4, by rw [put_size]; exact h5, ?_⟩⟩, v', e1, e2, e3, e4, e5⟩
    have hd : (Lib.compact xs ++ List.replicate (xs.length - (Lib.compact xs).length) ([] : Str)).length = xs.length := by simp; omega
    have := put_take (cur := cur) (d := Lib.compact xs ++ List.replicate (xs.length - (Lib.compact xs).length) []) (by rw [hd, h5]; omega)
    rw [hd] at this
    have h7 := congrArg (List.take (Lib.compact xs).length) this
    rw [List.take_take, Nat.min_eq_left hcl, List.flatMap_append, List.take_append_of_le_length (by rw [fm_len strC 1 strC_len]; omega), List.take_of_length_le (l := (Lib.compact xs).flatMap strC) (by rw [fm_len strC 1 strC_len]; omega)] at h7
    rw [Nat.mul_one]; exact h7

theorem atoms_c (l : List Pc) (ad : Option Addr) (cap : Nat) (hl : l.length ≤ 100000000000) : Tri Tryz.prog 30 #[.slice ad (List.length l) cap] [] [rowF ad (List.flatMap Pc.cells l)] (fun y : {y : Option Addr × Nat // (atomsL l).length ≤ y.2 ∧ y.2 ≤ maxLen} => .slice y.1.1 (atomsL l).length y.1.2) (fun _ => []) (fun y => [rowF y.1.1 ((atomsL l).flatMap strC)]) := by
 refine tri_of_body Tryz.func30 rfl rfl Tryz.ntmps30 rfl fun v0 => ?_
 refine run_seq ?_
 refine run_region ?_
 refine ops_val (yld_assign rfl) rfl ?_
 refine ops_nil ?_
 refine fin_next rfl ?_
 refine run_seq ?_
 refine run_seq ?_
 refine run_region ?_
 refine ops_val (yld_move rfl) rfl ?_
 refine ops_val (yld_lenS Tryz.runUnderlying25 rfl) rfl ?_
 refine ops_val (yld_move rfl) rfl ?_
 refine ops_nil ?_
 refine fin_next rfl ?_
 refine run_block ?_
 refine ok_fr [(2, .slice none 0 0), (7, .slice ad (List.length l) cap), (8, .int .i64 (List.length l : Int)), (9, .int .i64 ((0 : Nat) : Int))] ⟨rfl, rfl, rfl, rfl, trivial⟩ ?_
 refine run_loop (ι := {y : Nat × Value × Hp // y.1 ≤ l.length ∧ SRow 9 1 y.2.1 (atomsR (l.take y.1)).length ((atomsR (l.take y.1)).flatMap strC) y.2.2}) (fun y => [(2, y.1.2.1), (7, .slice ad (List.length l) cap), (8, .int .i64 (List.length l : Int)), (9, .int .i64 (y.1.1 : Int))]) (fun y => y.1.2.2) (fun _ => _) (fun y => l.length - y.1.1) ⟨(0, .slice none 0 0, []), by simp, SRow.nil _ _⟩ ?_
 rintro ⟨⟨i, sv, Hr⟩, hi, hrow⟩
 dsimp only at hi hrow
 dsimp only
 have hol := atomsR_len (l.take i)
 rw [List.length_take] at hol
 refine ok_fr [(2, sv), (7, .slice ad (List.length l) cap), (8, .int .i64 (List.length l : Int)), (9, .int .i64 (i : Int))] ⟨rfl, rfl, rfl, rfl, trivial⟩ ?_
 refine run_seq ?_
 refine run_region ?_
 refine ops_valB (yld_lss rfl rfl) rfl fun r1 hr1 => ?_
 refine ops_nil ?_
 refine fin_next rfl ?_
 refine run_seq ?_
 cases r1
 ·
  replace hr1 := of_decide_eq_false hr1
  refine run_cond_f rfl ?_
  refine run_exit rfl ?_
  refine fin_next rfl ?_
  refine run_seq ?_
  have et : l.take i = l := List.take_of_length_le (by omega)
  rw [et] at hrow hol
  refine run_region ?_
  refine ops_val (yld_move rfl) rfl ?_
  refine ops_call (sortS_c hrow (by omega)) rfl pf_end (fun _ _ _ => by exact trivial) rfl fun ⟨Hs, hs⟩ => ?_
  dsimp only
  refine ok_perm (List.Perm.symm pf_end) ?_
  have hs2 : SRow 9 1 sv ((atomsR l).mergeSort fun x y => decide (x ≤ y)).length (((atomsR l).mergeSort fun x y => decide (x ≤ y)).flatMap strC) Hs := by rw [List.length_mergeSort]; exact hs
  refine ops_nil ?_
  refine fin_next rfl ?_
  refine run_seq ?_
  refine run_region ?_
  refine ops_val (yld_move rfl) rfl ?_
  refine ops_call (compactS_c hs2 (by rw [List.length_mergeSort]; omega)) rfl pf_end (fun _ _ _ => by exact trivial) rfl fun ⟨⟨sc, Hc⟩, hc⟩ => ?_
  dsimp only
  refine ok_perm (List.Perm.symm pf_end) ?_
  refine ops_val (yld_assign rfl) rfl ?_
  refine ops_nil ?_
  refine fin_next rfl ?_
  refine run_ret ?_
  refine ok_giveRow hc pf_end fun ad2 cp2 hsv hc1 hc2 => ?_
  exact ret1 Tryz.results30 ⟨(ad2, cp2), hc1, hc2⟩ (get_val rfl hsv) pf_nil (fun v _ h => ⟨h.1, trivial⟩)
 ·
  replace hr1 := of_decide_eq_true hr1
  have hlx1 : i < List.length l := by omega
  obtain ⟨x1, hx1⟩ : ∃ e0, l[i]? = some e0 := ⟨_, List.getElem?_eq_getElem hlx1⟩
  have hmx1 : x1 ∈ l := List.mem_of_getElem? hx1
  refine run_cond_t rfl ?_
  refine run_skip ?_
  refine fin_next rfl ?_
  refine run_seq ?_
  refine run_block ?_
  refine run_seq ?_
  refine run_region ?_
  refine ops_val (yld_indexR Tryz.runUnderlying25 Tryz.sizeOf31 rfl rfl (fun v _ h => row_adr (n := 10) Pc.cells_len (by decide) (by exact h.1) hx1) (by omega) (by first | omega | (simp; done))) rfl ?_
  refine ops_val (yld_loadRS (ad := ad) (us := Pc.cells x1) Tryz.isAgg31 Tryz.sizeOf31 rfl (fun v _ h => by exact h.1) (Pc.cells_len _) (row_cells Pc.cells_len hx1)) rfl ?_
  refine ops_alloc Tryz.zeroValue31 rfl fun b1 => ?_
  refine ops_store 0 Tryz.sizeOf31 rfl rfl rfl rfl rfl rfl ?_
  refine ops_nil ?_
  refine fin_next rfl ?_
  refine run_seq ?_
  refine run_region ?_
  refine ops_val (yld_field Tryz.runUnderlying31 rfl rfl rfl Tryz.sizeOf9) rfl ?_
  refine ops_val (yld_load 0 Tryz.isAgg9 rfl rfl rfl) rfl ?_
  refine ops_val (yld_field Tryz.runUnderlying31 rfl rfl rfl Tryz.sizeOf9) rfl ?_
  refine ops_val (yld_load 0 Tryz.isAgg9 rfl rfl rfl) rfl ?_
  refine ops_val (yld_field Tryz.runUnderlying31 rfl rfl rfl Tryz.sizeOf9) rfl ?_
  refine ops_val (yld_load 0 Tryz.isAgg9 rfl rfl rfl) rfl ?_
  refine ops_slit Tryz.runUnderlying39 Tryz.sizeOf9 Tryz.zeroValue9 rfl rfl rfl rfl rfl rfl fun b2 => ?_
  refine ok_giveR (List.flatMap strC [(Pc.a x1), (Pc.b x1), (Pc.c x1)]) pf_here rfl ?_
  refine ops_val (yld_lenS Tryz.runUnderlying39 rfl) rfl ?_
  refine ops_val (yld_move rfl) rfl ?_
  refine ops_nil ?_
  refine fin_next rfl ?_
  refine run_block ?_
  refine ok_fr [(2, sv), (7, .slice ad (List.length l) cap), (8, .int .i64 (List.length l : Int)), (9, .int .i64 (i : Int)), (19, .slice (some ⟨b2, 0, none⟩) (List.length [(Pc.a x1), (Pc.b x1), (Pc.c x1)]) 3), (20, .int .i64 3), (21, .int .i64 ((0 : Nat) : Int))] ⟨rfl, rfl, rfl, rfl, rfl, rfl, rfl, trivial⟩ ?_
  refine run_loop (ι := {y : Nat × Value × Hp // y.1 ≤ 3 ∧ SRow 9 1 y.2.1 (atomsR (l.take i) ++ (List.take y.1 [x1.a, x1.b, x1.c]).filter fun s => !(s == [])).length ((atomsR (l.take i) ++ (List.take y.1 [x1.a, x1.b, x1.c]).filter fun s => !(s == [])).flatMap strC) y.2.2}) (fun y => [(2, y.1.2.1), (7, .slice ad (List.length l) cap), (8, .int .i64 (List.length l : Int)), (9, .int .i64 (i : Int)), (19, .slice (some ⟨b2, 0, none⟩) (List.length [(Pc.a x1), (Pc.b x1), (Pc.c x1)]) 3), (20, .int .i64 3), (21, .int .i64 (y.1.1 : Int))]) (fun y => _ ::  y.1.2.2) (fun _ => _) (fun y => 3 - y.1.1) ⟨(0, sv, Hr), by simp, by simpa using hrow⟩ ?_
  rintro ⟨⟨k, sw, Hw⟩, hk, hkr⟩
  dsimp only at hk hkr
  dsimp only
  have hfl : ((atomsR (l.take i) ++ (List.take k [x1.a, x1.b, x1.c]).filter fun s => !(s == []))).length ≤ (atomsR (l.take i)).length + 3 := by
   have := List.length_filter_le (fun s => !(s == [])) (List.take k [x1.a, x1.b, x1.c])
   simp only [List.length_append, List.length_take, List.length_cons, List.length_nil] at this ⊢
   omega
  refine ok_fr [(2, sw), (7, .slice ad (List.length l) cap), (8, .int .i64 (List.length l : Int)), (9, .int .i64 (i : Int)), (19, .slice (some ⟨b2, 0, none⟩) (List.length [(Pc.a x1), (Pc.b x1), (Pc.c x1)]) 3), (20, .int .i64 3), (21, .int .i64 (k : Int))] ⟨rfl, rfl, rfl, rfl, rfl, rfl, rfl, trivial⟩ ?_
  refine run_seq ?_
  refine run_region ?_
  refine ops_valB (yld_lss rfl rfl) rfl fun r2 hr2 => ?_
  refine ops_nil ?_
  refine fin_next rfl ?_
  refine run_seq ?_
  cases r2
  ·
   replace hr2 := of_decide_eq_false hr2
   refine run_cond_f rfl ?_
   refine run_exit rfl ?_
   refine fin_next rfl ?_
   refine run_region ?_
   refine ops_val (yld_arith rfl rfl rfl (wrap64 (by omega) (by omega))) rfl ?_
   refine ops_val (yld_move rfl) rfl ?_
   refine ops_nil ?_
   refine fin_inv rfl ?_
   have hst : atomsR (l.take (i + 1)) = atomsR (l.take i) ++ atoms1 x1 := by unfold atomsR; rw [List.take_add_one, hx1, List.flatMap_append]; simp
   exact ok_again ⟨(i + 1, sw, Hw), hlx1, by dsimp only; rw [hst]; have := hkr; rw [List.take_of_length_le (show [x1.a, x1.b, x1.c].length ≤ k by simp; omega)] at this; exact this⟩ (by dsimp only; omega) ⟨rfl, rfl, rfl, rfl, trivial⟩ (pf_cons pf_end) (fun _ _ h => h.2)
  ·
   replace hr2 := of_decide_eq_true hr2
   have hly1 : k < List.length [(Pc.a x1), (Pc.b x1), (Pc.c x1)] := by simp; omega
   obtain ⟨y1, hy1⟩ : ∃ e0, [(Pc.a x1), (Pc.b x1), (Pc.c x1)][k]? = some e0 := ⟨_, List.getElem?_eq_getElem hly1⟩
   have hmy1 : y1 ∈ [(Pc.a x1), (Pc.b x1), (Pc.c x1)] := List.mem_of_getElem? hy1
   refine run_cond_t rfl ?_
   refine run_skip ?_
   refine fin_next rfl ?_
   refine run_seq ?_
   refine run_block ?_
   refine run_seq ?_
   refine run_region ?_
   refine ops_val (yld_indexR Tryz.runUnderlying39 Tryz.sizeOf9 rfl rfl (fun v _ h => row_adr (n := 1) strC_len (by decide) (by exact h.1) hy1) (by omega) (by first | omega | (simp; done))) rfl ?_
   refine ops_val (yld_loadR (ad := (some ⟨b2, 0, none⟩)) Tryz.isAgg9 rfl (fun v _ h => by exact h.1) (row_cells strC_len hy1 0 _ rfl)) rfl ?_
   refine ops_val (yld_assign rfl) rfl ?_
   refine ops_nil ?_
   refine fin_next rfl ?_
   refine run_seq ?_
   refine run_region ?_
   refine ops_val (yld_move rfl) rfl ?_
   refine ops_valB (yld_sneq rfl rfl) rfl fun r3 hr3 => ?_
   refine ops_nil ?_
   refine fin_next rfl ?_
   cases r3
   ·
    replace hr3 := eq_of_bne hr3
    refine run_cond_f rfl ?_
    refine run_skip ?_
    refine fin_next rfl ?_
    refine run_region ?_
    refine ops_val (yld_arith rfl rfl rfl (wrap64 (by omega) (by omega))) rfl ?_
    refine ops_val (yld_move rfl) rfl ?_
    refine ops_nil ?_
    refine fin_inv rfl ?_
    have hst : (atomsR (l.take i) ++ (List.take (k + 1) [x1.a, x1.b, x1.c]).filter fun s => !(s == [])) = (atomsR (l.take i) ++ (List.take k [x1.a, x1.b, x1.c]).filter fun s => !(s == [])) ++ [y1].filter (fun s => !(s == [])) := by rw [List.append_assoc, ← List.filter_append, List.take_add_one, hy1]; simp
    rw [show [y1].filter (fun s => !(s == [])) = [] by simp [*], List.append_nil] at hst
    exact ok_again ⟨(k + 1, sw, Hw), by dsimp only; omega, by dsimp only; rw [hst]; exact hkr⟩ (by dsimp only; omega) ⟨rfl, rfl, rfl, rfl, rfl, rfl, rfl, trivial⟩ (pf_takeB pf_here pf_end) (fun _ _ h => h)
   ·
    replace hr3 := ne_of_bne hr3
    refine run_cond_t rfl ?_
    refine run_region ?_
    refine ops_val (yld_move rfl) rfl ?_
    refine ops_val (yld_move rfl) rfl ?_
    refine ops_slit Tryz.runUnderlying39 Tryz.sizeOf9 Tryz.zeroValue9 rfl rfl rfl rfl rfl rfl fun b3 => ?_
    refine ops_append (news := [str y1]) eltS hkr rfl rfl (pf_cons (pf_cons pf_end)) rfl (own_news 0 rfl) (one_all rfl) (by simp only [maxLen]; omega) (by omega) rfl fun sv2 Hr2 hrow2 => ?_
    refine ok_perm (@List.perm_append_comm _ _ [_, _]) ?_
    refine ops_val (yld_assign rfl) rfl ?_
    refine ops_nil ?_
    refine fin_next rfl ?_
    refine run_region ?_
    refine ops_val (yld_arith rfl rfl rfl (wrap64 (by omega) (by omega))) rfl ?_
    refine ops_val (yld_move rfl) rfl ?_
    refine ops_nil ?_
    refine fin_inv rfl ?_
    have hst : (atomsR (l.take i) ++ (List.take (k + 1) [x1.a, x1.b, x1.c]).filter fun s => !(s == [])) = (atomsR (l.take i) ++ (List.take k [x1.a, x1.b, x1.c]).filter fun s => !(s == [])) ++ [y1].filter (fun s => !(s == [])) := by rw [List.append_assoc, ← List.filter_append, List.take_add_one, hy1]; simp
    rw [show [y1].filter (fun s => !(s == [])) = [y1] by simp [*]] at hst
    exact ok_again ⟨(k + 1, sv2, Hr2), by dsimp only; omega, by dsimp only; rw [hst]; rw [List.length_append (bs := [y1]), List.flatMap_append (ys := [y1])]; exact hrow2⟩ (by dsimp only; omega) ⟨rfl, rfl, rfl, rfl, rfl, rfl, rfl, trivial⟩ (pf_takeB (pf_cons pf_here) (pf_cons pf_end)) (fun _ _ h => h)

end Go.Proofs.YtoafjmalfclpoaaGreatDoor

/-
  Plain laws for the row NormalOf: members of ofs, lists of marks; a row of bools that is written at an index.
-/
namespace Go.Sx
open Go
section
variable {P : Program} {N : Nat} {v0 : Vw} {H0 : Hp} {R : Exit → Act → World → Prop} {K : List Kt} {fr : Fr} {H : Hp} {Γ : List Fct}
variable {ops : Array Oper} {l : List Oper} {d : Nat} {ty : TypeId} {ps : String} {af : Array Edge}
def boolsC (hs : List Bool) : List Value := hs.map Value.bool
theorem boolsC_rep (n : Nat) : List.replicate n (Value.bool false) = boolsC (List.replicate n false) := by simp [boolsC]
theorem yld_loadB {t : TypeId} {x : Operand} {b off : Nat} (i : Nat) {hs : List Bool} {T : TypeId} {fz : Nat × Nat} {u : Bool} (ha : ∀ w, (isAgg t).run P w = .ok false w)
    (hx : Fr.ev fr x = some (.pointer (some ⟨b, off, none⟩))) (hi : H[i]? = some (b, .cells (boolsC hs).toArray T fz)) (hu : hs[off]? = some u) :
    Yld P N fr H Γ (.load t x) ty (.bool u) :=
  yld_load i ha hx hi (by rw [lg_eq]; simp [boolsC, hu])
theorem ops_storeB {t : TypeId} {x y : Operand} {b off : Nat} (i : Nat) {hs : List Bool} {u : Bool} {T : TypeId} (hz : ∀ w, (sizeOf t).run P w = .ok 1 w)
    (hx : Fr.ev fr x = some (.pointer (some ⟨b, off, none⟩))) (hy : Fr.ev fr y = some (.bool u)) (hi : H[i]? = some (b, .cells (boolsC hs).toArray T (0, 0))) (ho : off < hs.length)
    (hk : Ops P R N v0 H0 ops l K fr (H.set i (b, .cells (boolsC (hs.set off u)).toArray T (0, 0))) Γ) :
    Ops P R N v0 H0 ops (⟨none, .store t x y, ty, ps, af, none⟩ :: l) K fr H Γ := by
  refine ops_store i hz hx hy hi rfl (by simp [boolsC]; omega) rfl ?_
  have e : (((boolsC hs).toArray.toList.take off ++ (Value.bool u).cells.toList ++ (boolsC hs).toArray.toList.drop (off + 1)).toArray) = (boolsC (hs.set off u)).toArray := by
    simp only [boolsC, List.toList_toArray]
    rw [List.set_eq_take_append_cons_drop, if_pos ho]
    simp [Value.cells]
  rw [e]
  exact hk
end
end Go.Sx
namespace Go.Vs
open Go Go.Sx
theorem ofs_mem {a v : Int} : ∀ {l : List Pc} {i : Nat}, v ∈ ofs a i l → ∃ (j : Nat) (p : Pc), v = ((i + j : Nat) : Int) ∧ l[j]? = some p ∧ p.frm = a
  | [], _, h => by simp [ofs] at h
  | p :: r, i, h => by
    simp only [ofs] at h
    have key : v ∈ ofs a (i + 1) r → ∃ (j : Nat) (q : Pc), v = ((i + j : Nat) : Int) ∧ (p :: r)[j]? = some q ∧ q.frm = a := fun h => by
      obtain ⟨j, q, e, h1, h2⟩ := ofs_mem h
      exact ⟨j + 1, q, by rw [e]; congr 1; omega, by simpa using h1, h2⟩
    split at h
    · rename_i hp
      rcases List.mem_cons.1 h with e | h
      · exact ⟨0, p, by simpa using e, rfl, hp⟩
      · exact key h
    · exact key h
theorem ofs_in {a v : Int} {l : List Pc} (h : v ∈ ofs a 0 l) : ∃ (j : Nat) (p : Pc), v = (j : Int) ∧ l[j]? = some p ∧ p.frm = a := by
  obtain ⟨j, p, e, h1, h2⟩ := ofs_mem h
  exact ⟨j, p, by rw [e, Nat.zero_add], h1, h2⟩
theorem ofs_has {a : Int} : ∀ {l : List Pc} {i j : Nat} {p : Pc}, l[j]? = some p → p.frm = a → ((i + j : Nat) : Int) ∈ ofs a i l
  | [], _, _, _, h, _ => by simp at h
  | q :: r, i, 0, p, h, hp => by
    simp only [List.getElem?_cons_zero, Option.some.injEq] at h
    subst h
    simp only [ofs, hp, if_true]
    exact List.mem_cons_self
  | q :: r, i, j + 1, p, h, hp => by
    have := ofs_has (i := i + 1) (by simpa using h) hp
    rw [show i + 1 + j = i + (j + 1) by omega] at this
    simp only [ofs]
    split
    · exact List.mem_cons_of_mem _ this
    · exact this
theorem ofs_lt {a : Int} : ∀ (l : List Pc) (i : Nat), (ofs a i l).Pairwise fun x y => x < y
  | [], _ => by simp [ofs]
  | p :: r, i => by
    have ih := ofs_lt (a := a) r (i + 1)
    simp only [ofs]
    split
    · refine List.pairwise_cons.2 ⟨fun v hv => ?_, ih⟩
      obtain ⟨j, q, e, _, _⟩ := ofs_mem hv
      rw [e]; omega
    · exact ih
theorem pw_get {α : Type} {R : α → α → Prop} {l : List α} (h : l.Pairwise R) {i j : Nat} {x y : α} (hx : l[i]? = some x) (hy : l[j]? = some y) (hij : i < j) : R x y := by
  obtain ⟨hi, rfl⟩ := List.getElem?_eq_some_iff.1 hx
  obtain ⟨hj, rfl⟩ := List.getElem?_eq_some_iff.1 hy
  exact List.pairwise_iff_getElem.1 h i j hi hj hij
theorem any_stepG {α : Type} {q : List α} {k : Nat} {z : α} {g : α → Bool} (h : q[k]? = some z) : (q.take (k + 1)).any g = ((q.take k).any g || g z) := by
  rw [List.take_add_one, h]
  simp [List.any_append]
/-- marks: every place whose string is among S is marked -/
def Cov (hs : List Bool) (L S : List Str) : Prop := hs.length = L.length ∧ ∀ (n : Nat) (s : Str), L[n]? = some s → s ∈ S → hs[n]? = some true
theorem Cov.nil (L : List Str) : Cov (List.replicate L.length false) L [] := ⟨by simp, fun _ _ _ h => by simp at h⟩
theorem Cov.set {hs : List Bool} {L S : List Str} (h : Cov hs L S) (n : Nat) : Cov (hs.set n true) L S := ⟨by rw [List.length_set]; exact h.1, fun m s h1 h2 => by
  have h3 := h.2 m s h1 h2
  rw [List.getElem?_set]
  split
  · rename_i e
    subst e
    rw [if_pos (List.getElem?_eq_some_iff.1 h3).1]
  · exact h3⟩
/-- in the middle of a round: also the places below n whose string is y -/
def CovN (hs : List Bool) (L S : List Str) (y : Str) (n : Nat) : Prop := Cov hs L S ∧ ∀ m, m < n → L[m]? = some y → hs[m]? = some true
theorem CovN.zero {hs : List Bool} {L S : List Str} {y : Str} (h : Cov hs L S) : CovN hs L S y 0 := ⟨h, fun _ h => by omega⟩
theorem CovN.hit {hs : List Bool} {L S : List Str} {y : Str} {n : Nat} (h : CovN hs L S y n) (hn : n < L.length) : CovN (hs.set n true) L S y (n + 1) := ⟨h.1.set n, fun m hm e => by
  rw [List.getElem?_set]
  split
  · rename_i e
    rw [if_pos (by rw [h.1.1]; omega)]
  · rename_i e2
    exact h.2 m (by omega) e⟩
theorem CovN.miss {hs : List Bool} {L S : List Str} {y z : Str} {n : Nat} (h : CovN hs L S y n) (hz : L[n]? = some z) (hne : z ≠ y) : CovN hs L S y (n + 1) := ⟨h.1, fun m hm e => by
  by_cases e2 : m = n
  · subst e2
    rw [hz, Option.some.injEq] at e
    exact absurd e hne
  · exact h.2 m (by omega) e⟩
theorem CovN.done {hs : List Bool} {L S : List Str} {y : Str} {n : Nat} (h : CovN hs L S y n) (hn : L.length ≤ n) : Cov hs L (S ++ [y]) := ⟨h.1.1, fun m s h1 h2 => by
  rcases List.mem_append.1 h2 with h2 | h2
  · exact h.1.2 m s h1 h2
  · simp only [List.mem_singleton] at h2
    subst h2
    have := (List.getElem?_eq_some_iff.1 h1).1
    exact h.2 m (by omega) h1⟩
def three (p : Pc) : List Str := [p.a, p.b, p.c]
theorem Cov.all {hs : List Bool} {l : List Pc} (h : Cov hs (atomsL l) (l.flatMap three)) {n : Nat} (hn : n < (atomsL l).length) : hs[n]? = some true := by
  have hm := (atomsL_mem l _).1 (List.getElem_mem hn)
  refine h.2 n _ (List.getElem?_eq_getElem hn) ?_
  simp only [atomsR, List.mem_flatMap, atoms1, List.mem_filter] at hm
  obtain ⟨p, h1, h2⟩ := hm
  exact List.mem_flatMap.2 ⟨p, h1, h2.1⟩
theorem atomsL_ne {l : List Pc} {s : Str} (h : s ∈ atomsL l) : s ≠ [] := by
  have hm := (atomsL_mem l _).1 h
  simp only [atomsR, List.mem_flatMap, atoms1, List.mem_filter] at hm
  obtain ⟨p, h1, h2⟩ := hm
  simpa using h2.2
theorem atomsL_has {l : List Pc} {p : Pc} (hp : p ∈ l) {s : Str} (hs : s ∈ three p) : (decide (s = []) || (atomsL l).any (· == s)) = true := by
  by_cases e : s = []
  · simp [e]
  · rw [Bool.or_eq_true]
    right
    refine List.any_eq_true.2 ⟨s, (atomsL_mem l _).2 ?_, by simp⟩
    simp only [atomsR, List.mem_flatMap, atoms1, List.mem_filter]
    exact ⟨p, hp, hs, by simpa using e⟩
end Go.Vs

/-
  My own contracts.
-/
namespace Go.Proofs.YtoafjmalfclpoaaGreatDoor
open Go Go.Sx Go.Proofs
set_option linter.unusedVariables false
attribute [local irreducible] Code.wp wpList wpAnyH

open Go.Vs
theorem normalOf_c (l : List Pc) (ad : Option Addr) (cap : Nat) (hl : l.length ≤ cap ∧ cap ≤ 1099511627744) (hbig : ∀ p ∈ l, p.big) : Tri Tryz.prog 9 #[.slice ad (List.length l) cap] [] [rowF ad (List.flatMap Pc.cells l), tabs] (fun _ : Unit => .bool true) (fun _ => []) (fun _ => []) := by
 refine tri_of_body Tryz.func9 rfl rfl Tryz.ntmps9 rfl fun v0 => ?_
 refine run_seq ?_
 refine run_region ?_
 refine ops_val (yld_assign rfl) rfl ?_
 refine ops_nil ?_
 refine fin_next rfl ?_
 refine run_seq ?_
 refine run_seq ?_
 refine run_region ?_
 refine ops_call (sane_c) rfl pf_nil (fun v _ h => by exact ⟨h.2.1, trivial⟩) rfl fun _ => ?_
 refine ops_val (yld_not rfl) rfl ?_
 refine ops_nil ?_
 refine fin_next rfl ?_
 refine run_cond_f rfl ?_
 refine run_skip ?_
 refine fin_next rfl ?_
 refine run_seq ?_
 refine run_seq ?_
 refine run_region ?_
 refine ops_val (yld_move rfl) rfl ?_
 refine ops_call (short_c l ad cap (by omega) hbig) rfl pf_nil (fun v _ h => by exact ⟨h.1, trivial⟩) rfl fun ⟨sb, hsb⟩ => ?_
 dsimp only
 refine ops_val (yld_not rfl) rfl ?_
 refine ops_nil ?_
 refine fin_next rfl ?_
 cases sb
 ·
  refine run_cond_t rfl ?_
  refine run_seq ?_
  refine run_region ?_
  refine ops_val (yld_assign rfl) rfl ?_
  refine ops_nil ?_
  refine fin_next rfl ?_
  refine run_ret ?_
  exact ret1 Tryz.results9 () rfl pf_nil (fun _ _ _ => trivial)
 ·
  obtain ⟨hl60, hsm⟩ := hsb rfl
  refine run_cond_f rfl ?_
  refine run_skip ?_
  refine fin_next rfl ?_
  refine run_seq ?_
  refine run_seq ?_
  refine run_region ?_
  refine ops_val (yld_assign rfl) rfl ?_
  refine ops_nil ?_
  refine fin_next rfl ?_
  refine run_block ?_
  refine ok_fr [(0, .slice ad (List.length l) cap), (3, .int .i64 ((0 : Nat) : Int))] ⟨rfl, rfl, trivial⟩ ?_
  refine run_loop (ι := {z : Nat // z ≤ l.length}) (fun zz => [(0, .slice ad (List.length l) cap), (3, .int .i64 (zz.1 : Int))]) (fun _ => _) (fun _ => _) (fun zz => l.length - zz.1) ⟨0, by simp⟩ ?_
  rintro ⟨i, hi⟩
  refine ok_fr [(0, .slice ad (List.length l) cap), (3, .int .i64 (i : Int))] ⟨rfl, rfl, trivial⟩ ?_
  refine run_seq ?_
  refine run_seq ?_
  refine run_region ?_
  refine ops_val (yld_move rfl) rfl ?_
  refine ops_val (yld_move rfl) rfl ?_
  refine ops_val (yld_lenS Tryz.runUnderlying25 rfl) rfl ?_
  refine ops_valB (yld_lss rfl rfl) rfl fun r1 hr1 => ?_
  refine ops_nil ?_
  refine fin_next rfl ?_
  cases r1
  ·
   replace hr1 := of_decide_eq_false hr1
   refine run_cond_f rfl ?_
   refine run_exit rfl ?_
   refine fin_next rfl ?_
   refine run_seq ?_
   refine run_region ?_
   refine ops_val (yld_move rfl) rfl ?_
   refine ops_call (atoms_c l ad cap (by omega)) rfl pf_nil (fun v _ h => by exact ⟨h.1, trivial⟩) rfl fun ⟨⟨a3, c3⟩, hc3⟩ => ?_
   dsimp only
   refine ops_val (yld_assign rfl) rfl ?_
   refine ops_nil ?_
   refine fin_next rfl ?_
   refine run_seq ?_
   refine run_region ?_
   refine ops_val (yld_move rfl) rfl ?_
   refine ops_val (yld_lenS Tryz.runUnderlying39 rfl) rfl ?_
   have hal := atomsL_len l
   refine ops_make1 (n := List.length (atomsL l)) (by' := 1) Tryz.underlying65 (z := .bool false) (by kernel_rfl) rfl rfl rfl (by omega) (by omega) rfl fun b1 => ?_
   rw [boolsC_rep]
   refine ops_val (yld_assign rfl) rfl ?_
   refine ops_nil ?_
   refine fin_next rfl ?_
   refine run_seq ?_
   refine run_seq ?_
   refine run_region ?_
   refine ops_val (yld_assign rfl) rfl ?_
   refine ops_nil ?_
   refine fin_next rfl ?_
   refine run_block ?_
   refine ok_fr [(0, .slice ad (List.length l) cap), (7, .slice a3 (List.length (atomsL l)) c3), (8, .slice (some ⟨b1, 0, none⟩) (List.length (atomsL l)) (List.length (atomsL l))), (9, .int .i64 ((0 : Nat) : Int))] ⟨rfl, rfl, rfl, rfl, trivial⟩ ?_
   refine run_loop (ι := {z : Nat × List Bool // z.1 ≤ l.length ∧ Cov z.2 (atomsL l) ((l.take z.1).flatMap three)}) (fun z => [(0, .slice ad (List.length l) cap), (7, .slice a3 (List.length (atomsL l)) c3), (8, .slice (some ⟨b1, 0, none⟩) (List.length (atomsL l)) (List.length (atomsL l))), (9, .int .i64 (z.1.1 : Int))]) (fun z => [(b1, .cells (boolsC z.1.2).toArray 4 (0, 0))]) (fun _ => _) (fun z => l.length - z.1.1) ⟨(0, List.replicate (List.length (atomsL l)) false), by simp, Cov.nil _⟩ ?_
   rintro ⟨⟨i, hs⟩, hi, hcv⟩
   dsimp only at hi hcv
   dsimp only
   refine ok_fr [(0, .slice ad (List.length l) cap), (7, .slice a3 (List.length (atomsL l)) c3), (8, .slice (some ⟨b1, 0, none⟩) (List.length (atomsL l)) (List.length (atomsL l))), (9, .int .i64 (i : Int))] ⟨rfl, rfl, rfl, rfl, trivial⟩ ?_
   refine run_seq ?_
   refine run_seq ?_
   refine run_region ?_
   refine ops_val (yld_move rfl) rfl ?_
   refine ops_val (yld_move rfl) rfl ?_
   refine ops_val (yld_lenS Tryz.runUnderlying25 rfl) rfl ?_
   refine ops_valB (yld_lss rfl rfl) rfl fun r2 hr2 => ?_
   refine ops_nil ?_
   refine fin_next rfl ?_
   cases r2
   ·
    replace hr2 := of_decide_eq_false hr2
    refine run_cond_f rfl ?_
    refine run_exit rfl ?_
    refine fin_next rfl ?_
    refine run_seq ?_
    refine run_seq ?_
    refine run_region ?_
    refine ops_val (yld_assign rfl) rfl ?_
    refine ops_nil ?_
    refine fin_next rfl ?_
    refine run_block ?_
    have hit : l.take i = l := List.take_of_length_le (by omega)
    rw [hit] at hcv
    refine ok_fr [(7, .slice a3 (List.length (atomsL l)) c3), (8, .slice (some ⟨b1, 0, none⟩) (List.length (atomsL l)) (List.length (atomsL l))), (14, .int .i64 ((0 : Nat) : Int))] ⟨rfl, rfl, rfl, trivial⟩ ?_
    refine run_loop (ι := {z : Nat // z ≤ (atomsL l).length}) (fun zz => [(7, .slice a3 (List.length (atomsL l)) c3), (8, .slice (some ⟨b1, 0, none⟩) (List.length (atomsL l)) (List.length (atomsL l))), (14, .int .i64 (zz.1 : Int))]) (fun _ => _) (fun _ => _) (fun zz => (atomsL l).length - zz.1) ⟨0, by simp⟩ ?_
    rintro ⟨n, hn⟩
    refine ok_fr [(7, .slice a3 (List.length (atomsL l)) c3), (8, .slice (some ⟨b1, 0, none⟩) (List.length (atomsL l)) (List.length (atomsL l))), (14, .int .i64 (n : Int))] ⟨rfl, rfl, rfl, trivial⟩ ?_
    refine run_seq ?_
    refine run_seq ?_
    refine run_region ?_
    refine ops_val (yld_move rfl) rfl ?_
    refine ops_val (yld_move rfl) rfl ?_
    refine ops_val (yld_lenS Tryz.runUnderlying39 rfl) rfl ?_
    refine ops_valB (yld_lss rfl rfl) rfl fun r3 hr3 => ?_
    refine ops_nil ?_
    refine fin_next rfl ?_
    cases r3
    ·
     replace hr3 := of_decide_eq_false hr3
     refine run_cond_f rfl ?_
     refine run_exit rfl ?_
     refine fin_next rfl ?_
     refine run_seq ?_
     refine run_region ?_
     refine ops_val (yld_assign rfl) rfl ?_
     refine ops_nil ?_
     refine fin_next rfl ?_
     refine run_ret ?_
     exact ret1 Tryz.results9 () rfl pf_nil (fun _ _ _ => trivial)
    ·
     replace hr3 := of_decide_eq_true hr3
     have hlw1 : n < List.length (atomsL l) := by omega
     obtain ⟨w1, hw1⟩ : ∃ e0, (atomsL l)[n]? = some e0 := ⟨_, List.getElem?_eq_getElem hlw1⟩
     have hmw1 : w1 ∈ (atomsL l) := List.mem_of_getElem? hw1
     refine run_cond_t rfl ?_
     refine run_skip ?_
     refine fin_next rfl ?_
     refine run_seq ?_
     refine run_block ?_
     refine run_seq ?_
     refine run_draw' (by kernel_rfl) ?_
     refine any_take 0 rfl (by kernel_rfl) (by kernel_rfl) (by kernel_rfl) (yld_move rfl) rfl (fun _ a b => ⟨a, b⟩) ?_
     refine any_take 1 rfl (by kernel_rfl) (by kernel_rfl) (by kernel_rfl) (yld_move rfl) rfl (fun _ a b => ⟨a, b⟩) ?_
     refine any_take 2 rfl (by kernel_rfl) (by kernel_rfl) (by kernel_rfl) (yld_index Tryz.runUnderlying65 Tryz.sizeOf4 rfl rfl (by omega) (by omega)) rfl (fun _ a b => ⟨a, b⟩) ?_
     refine any_take 3 rfl (by kernel_rfl) (by kernel_rfl) (by kernel_rfl) (yld_loadB (hs := hs) (u := true) 0 Tryz.isAgg4 rfl rfl (by simpa using hcv.all hlw1)) rfl (fun _ a b => ⟨a, b⟩) ?_
     refine any_take 4 rfl (by kernel_rfl) (by kernel_rfl) (by kernel_rfl) (yld_not rfl) rfl (fun _ a b => ⟨a, b⟩) ?_
     refine any_take 5 rfl (by kernel_rfl) (by kernel_rfl) (by kernel_rfl) (yld_move rfl) rfl (fun _ a b => ⟨a, b⟩) ?_
     refine any_takeY 6 rfl (by kernel_rfl) (by kernel_rfl) (by kernel_rfl) rfl rfl (yld_move rfl) rfl (fun _ a b => ⟨a, b⟩) ?_
     refine any_takeY 7 rfl (by kernel_rfl) (by kernel_rfl) (by kernel_rfl) rfl rfl (yld_move rfl) rfl (fun _ a b => ⟨a, b⟩) ?_
     refine any_takeY 8 rfl (by kernel_rfl) (by kernel_rfl) (by kernel_rfl) rfl rfl (yld_indexR Tryz.runUnderlying39 Tryz.sizeOf9 rfl rfl (fun v _ h => row_adr (n := 1) strC_len (by decide) (by exact h.1) hw1) (by omega) (by first | omega | (simp; done))) rfl (fun _ a b => ⟨a, b⟩) ?_
     refine any_takeY 9 rfl (by kernel_rfl) (by kernel_rfl) (by kernel_rfl) rfl rfl (yld_loadR (ad := a3) Tryz.isAgg9 rfl (fun v _ h => by exact h.1) (row_cells strC_len hw1 0 _ rfl)) rfl (fun _ a b => ⟨a, b⟩) ?_
     refine any_takeYB 10 rfl (by kernel_rfl) (by kernel_rfl) (by kernel_rfl) rfl rfl (yld_seql rfl rfl) rfl (fun _ a b => ⟨a, b⟩) fun r4 hr4 => ?_
     refine any_take 11 rfl (by kernel_rfl) (by kernel_rfl) (by kernel_rfl) (yld_pick_f rfl rfl) rfl (fun _ a b => ⟨a, b⟩) ?_
     refine any_take 12 rfl (by kernel_rfl) (by kernel_rfl) (by kernel_rfl) (yld_move rfl) rfl (fun _ a b => ⟨a, b⟩) ?_
     cases r4
     ·
      replace hr4 := ne_of_beq_false hr4
      refine any_takeY 13 rfl (by kernel_rfl) (by kernel_rfl) (by kernel_rfl) rfl rfl (yld_move rfl) rfl (fun _ a b => ⟨a, b⟩) ?_
      refine any_takeYB 14 rfl (by kernel_rfl) (by kernel_rfl) (by kernel_rfl) rfl rfl (yld_gtr rfl rfl) rfl (fun _ a b => ⟨a, b⟩) fun r5 hr5 => ?_
      refine any_takeY 15 rfl (by kernel_rfl) (by kernel_rfl) (by kernel_rfl) rfl rfl (yld_move rfl) rfl (fun _ a b => ⟨a, b⟩) ?_
      cases r5
      ·
       replace hr5 := of_decide_eq_false hr5
       refine any_no 16 rfl (by kernel_rfl) (by kernel_rfl) (by kernel_rfl) rfl rfl rfl rfl (fun _ a b => ⟨a, b⟩) ?_
       refine any_no 17 rfl (by kernel_rfl) (by kernel_rfl) (by kernel_rfl) rfl rfl rfl rfl (fun _ a b => ⟨a, b⟩) ?_
       refine any_no 18 rfl (by kernel_rfl) (by kernel_rfl) (by kernel_rfl) rfl rfl rfl rfl (fun _ a b => ⟨a, b⟩) ?_
       refine any_no 19 rfl (by kernel_rfl) (by kernel_rfl) (by kernel_rfl) rfl rfl rfl rfl (fun _ a b => ⟨a, b⟩) ?_
       refine any_no 20 rfl (by kernel_rfl) (by kernel_rfl) (by kernel_rfl) rfl rfl rfl rfl (fun _ a b => ⟨a, b⟩) ?_
       refine any_no 21 rfl (by kernel_rfl) (by kernel_rfl) (by kernel_rfl) rfl rfl rfl rfl (fun _ a b => ⟨a, b⟩) ?_
       refine any_no 22 rfl (by kernel_rfl) (by kernel_rfl) (by kernel_rfl) rfl rfl rfl rfl (fun _ a b => ⟨a, b⟩) ?_
       refine any_no 23 rfl (by kernel_rfl) (by kernel_rfl) (by kernel_rfl) rfl rfl rfl rfl (fun _ a b => ⟨a, b⟩) ?_
       refine any_no 24 rfl (by kernel_rfl) (by kernel_rfl) (by kernel_rfl) rfl rfl rfl rfl (fun _ a b => ⟨a, b⟩) ?_
       refine any_no 25 rfl (by kernel_rfl) (by kernel_rfl) (by kernel_rfl) rfl rfl rfl rfl (fun _ a b => ⟨a, b⟩) ?_
       refine any_takeY 26 rfl (by kernel_rfl) (by kernel_rfl) (by kernel_rfl) rfl rfl (yld_pick_f rfl rfl) rfl (fun _ a b => ⟨a, b⟩) ?_
       refine any_take 27 rfl (by kernel_rfl) (by kernel_rfl) (by kernel_rfl) (yld_pick_f rfl rfl) rfl (fun _ a b => ⟨a, b⟩) ?_
       refine any_done (by kernel_rfl) ?_
       refine fin_next rfl ?_
       refine run_cond_f rfl ?_
       refine run_skip ?_
       refine fin_next rfl ?_
       refine run_region ?_
       refine ops_val (yld_move rfl) rfl ?_
       refine ops_val (yld_arith rfl rfl rfl (wrap64 (by omega) (by omega))) rfl ?_
       refine ops_val (yld_assign rfl) rfl ?_
       refine ops_nil ?_
       refine fin_inv rfl ?_
       exact ok_again ⟨n + 1, hlw1⟩ (by dsimp only; omega) ⟨rfl, rfl, rfl, trivial⟩ (.refl _) (fun _ _ h => h)
      ·
       replace hr5 := of_decide_eq_true hr5
       have hlw0 : (Int.toNat ((n : Int) - 1)) < List.length (atomsL l) := by omega
       obtain ⟨w0, hw0⟩ : ∃ e0, (atomsL l)[(Int.toNat ((n : Int) - 1))]? = some e0 := ⟨_, List.getElem?_eq_getElem hlw0⟩
       have hmw0 : w0 ∈ (atomsL l) := List.mem_of_getElem? hw0
       refine any_takeY 16 rfl (by kernel_rfl) (by kernel_rfl) (by kernel_rfl) rfl rfl (yld_move rfl) rfl (fun _ a b => ⟨a, b⟩) ?_
       refine any_takeY 17 rfl (by kernel_rfl) (by kernel_rfl) (by kernel_rfl) rfl rfl (yld_move rfl) rfl (fun _ a b => ⟨a, b⟩) ?_
       refine any_takeY 18 rfl (by kernel_rfl) (by kernel_rfl) (by kernel_rfl) rfl rfl (yld_indexR Tryz.runUnderlying39 Tryz.sizeOf9 rfl rfl (fun v _ h => row_adr (n := 1) strC_len (by decide) (by exact h.1) hw1) (by omega) (by first | omega | (simp; done))) rfl (fun _ a b => ⟨a, b⟩) ?_
       refine any_takeY 19 rfl (by kernel_rfl) (by kernel_rfl) (by kernel_rfl) rfl rfl (yld_loadR (ad := a3) Tryz.isAgg9 rfl (fun v _ h => by exact h.1) (row_cells strC_len hw1 0 _ rfl)) rfl (fun _ a b => ⟨a, b⟩) ?_
       refine any_takeY 20 rfl (by kernel_rfl) (by kernel_rfl) (by kernel_rfl) rfl rfl (yld_move rfl) rfl (fun _ a b => ⟨a, b⟩) ?_
       refine any_takeY 21 rfl (by kernel_rfl) (by kernel_rfl) (by kernel_rfl) rfl rfl (yld_move rfl) rfl (fun _ a b => ⟨a, b⟩) ?_
       refine any_takeY 22 rfl (by kernel_rfl) (by kernel_rfl) (by kernel_rfl) rfl rfl (yld_arith rfl rfl rfl (wrap64 (by omega) (by omega))) rfl (fun _ a b => ⟨a, b⟩) ?_
       refine any_takeY 23 rfl (by kernel_rfl) (by kernel_rfl) (by kernel_rfl) rfl rfl (yld_indexR Tryz.runUnderlying39 Tryz.sizeOf9 rfl rfl (fun v _ h => row_adr (n := 1) strC_len (by decide) (by exact h.1) hw0) (by omega) (by first | omega | (simp; done))) rfl (fun _ a b => ⟨a, b⟩) ?_
       refine any_takeY 24 rfl (by kernel_rfl) (by kernel_rfl) (by kernel_rfl) rfl rfl (yld_loadR (ad := a3) Tryz.isAgg9 rfl (fun v _ h => by exact h.1) (row_cells strC_len hw0 0 _ rfl)) rfl (fun _ a b => ⟨a, b⟩) ?_
       refine any_takeYB 25 rfl (by kernel_rfl) (by kernel_rfl) (by kernel_rfl) rfl rfl (yld_sleq rfl rfl) rfl (fun _ a b => ⟨a, b⟩) fun r6 hr6 => ?_
       refine any_takeY 26 rfl (by kernel_rfl) (by kernel_rfl) (by kernel_rfl) rfl rfl (yld_pick_t rfl rfl) rfl (fun _ a b => ⟨a, b⟩) ?_
       refine any_take 27 rfl (by kernel_rfl) (by kernel_rfl) (by kernel_rfl) (yld_pick_f rfl rfl) rfl (fun _ a b => ⟨a, b⟩) ?_
       refine any_done (by kernel_rfl) ?_
       refine fin_next rfl ?_
       cases r6
       ·
        replace hr6 := of_decide_eq_false hr6
        refine run_cond_f rfl ?_
        refine run_skip ?_
        refine fin_next rfl ?_
        refine run_region ?_
        refine ops_val (yld_move rfl) rfl ?_
        refine ops_val (yld_arith rfl rfl rfl (wrap64 (by omega) (by omega))) rfl ?_
        refine ops_val (yld_assign rfl) rfl ?_
        refine ops_nil ?_
        refine fin_inv rfl ?_
        exact ok_again ⟨n + 1, hlw1⟩ (by dsimp only; omega) ⟨rfl, rfl, rfl, trivial⟩ (.refl _) (fun _ _ h => h)
       ·
        replace hr6 := of_decide_eq_true hr6
        exfalso; have := pw_get (atomsL_lt l) hw0 hw1 (by omega); exact absurd this (List.not_lt.2 hr6)
     ·
      replace hr4 := eq_of_beq hr4
      exfalso; exact atomsL_ne hmw1 hr4
   ·
    replace hr2 := of_decide_eq_true hr2
    have hlx2 : i < List.length l := by omega
    obtain ⟨x2, hx2⟩ : ∃ e0, l[i]? = some e0 := ⟨_, List.getElem?_eq_getElem hlx2⟩
    have hmx2 : x2 ∈ l := List.mem_of_getElem? hx2
    refine run_cond_t rfl ?_
    refine run_skip ?_
    refine fin_next rfl ?_
    refine run_seq ?_
    refine run_block ?_
    refine run_seq ?_
    refine run_draw' (by kernel_rfl) ?_
    refine any_take 0 rfl (by kernel_rfl) (by kernel_rfl) (by kernel_rfl) (yld_move rfl) rfl (fun _ a b => ⟨a, b⟩) ?_
    refine any_take 1 rfl (by kernel_rfl) (by kernel_rfl) (by kernel_rfl) (yld_move rfl) rfl (fun _ a b => ⟨a, b⟩) ?_
    refine any_take 2 rfl (by kernel_rfl) (by kernel_rfl) (by kernel_rfl) (yld_indexR Tryz.runUnderlying25 Tryz.sizeOf31 rfl rfl (fun v _ h => row_adr (n := 10) Pc.cells_len (by decide) (by exact h.2.1) hx2) (by omega) (by first | omega | (simp; done))) rfl (fun _ a b => ⟨a, b⟩) ?_
    refine any_take 3 rfl (by kernel_rfl) (by kernel_rfl) (by kernel_rfl) (yld_fieldR Tryz.runUnderlying31 rfl rfl rfl Tryz.sizeOf9) rfl (fun _ a b => ⟨a, b⟩) ?_
    refine any_take 4 rfl (by kernel_rfl) (by kernel_rfl) (by kernel_rfl) (yld_loadR (ad := ad) Tryz.isAgg9 rfl (fun v _ h => by exact h.2.1) (row_cells Pc.cells_len hx2 1 _ rfl)) rfl (fun _ a b => ⟨a, b⟩) ?_
    refine any_take 5 rfl (by kernel_rfl) (by kernel_rfl) (by kernel_rfl) (yld_move rfl) rfl (fun _ a b => ⟨a, b⟩) ?_
    refine any_take 6 rfl (by kernel_rfl) (by kernel_rfl) (by kernel_rfl) (yld_move rfl) rfl (fun _ a b => ⟨a, b⟩) ?_
    refine any_take 7 rfl (by kernel_rfl) (by kernel_rfl) (by kernel_rfl) (yld_indexR Tryz.runUnderlying25 Tryz.sizeOf31 rfl rfl (fun v _ h => row_adr (n := 10) Pc.cells_len (by decide) (by exact h.2.1) hx2) (by omega) (by first | omega | (simp; done))) rfl (fun _ a b => ⟨a, b⟩) ?_
    refine any_take 8 rfl (by kernel_rfl) (by kernel_rfl) (by kernel_rfl) (yld_fieldR Tryz.runUnderlying31 rfl rfl rfl Tryz.sizeOf9) rfl (fun _ a b => ⟨a, b⟩) ?_
    refine any_take 9 rfl (by kernel_rfl) (by kernel_rfl) (by kernel_rfl) (yld_loadR (ad := ad) Tryz.isAgg9 rfl (fun v _ h => by exact h.2.1) (row_cells Pc.cells_len hx2 2 _ rfl)) rfl (fun _ a b => ⟨a, b⟩) ?_
    refine any_take 10 rfl (by kernel_rfl) (by kernel_rfl) (by kernel_rfl) (yld_move rfl) rfl (fun _ a b => ⟨a, b⟩) ?_
    refine any_take 11 rfl (by kernel_rfl) (by kernel_rfl) (by kernel_rfl) (yld_move rfl) rfl (fun _ a b => ⟨a, b⟩) ?_
    refine any_take 12 rfl (by kernel_rfl) (by kernel_rfl) (by kernel_rfl) (yld_indexR Tryz.runUnderlying25 Tryz.sizeOf31 rfl rfl (fun v _ h => row_adr (n := 10) Pc.cells_len (by decide) (by exact h.2.1) hx2) (by omega) (by first | omega | (simp; done))) rfl (fun _ a b => ⟨a, b⟩) ?_
    refine any_take 13 rfl (by kernel_rfl) (by kernel_rfl) (by kernel_rfl) (yld_fieldR Tryz.runUnderlying31 rfl rfl rfl Tryz.sizeOf9) rfl (fun _ a b => ⟨a, b⟩) ?_
    refine any_take 14 rfl (by kernel_rfl) (by kernel_rfl) (by kernel_rfl) (yld_loadR (ad := ad) Tryz.isAgg9 rfl (fun v _ h => by exact h.2.1) (row_cells Pc.cells_len hx2 3 _ rfl)) rfl (fun _ a b => ⟨a, b⟩) ?_
    refine any_one 15 rfl (by kernel_rfl) ?_
    refine ops_slit Tryz.runUnderlying39 Tryz.sizeOf9 Tryz.zeroValue9 rfl rfl rfl rfl rfl rfl fun b2 => ?_
    refine ok_giveR (List.flatMap strC [(Pc.a x2), (Pc.b x2), (Pc.c x2)]) pf_here rfl ?_
    refine ops_nil ?_
    refine fin_inv rfl ?_
    refine any_next (fun _ a b => ⟨a, b.2⟩) ?_
    refine any_take 16 rfl (by kernel_rfl) (by kernel_rfl) (by kernel_rfl) (yld_assign rfl) rfl (fun _ a b => ⟨a, b.2⟩) ?_
    refine any_done (by kernel_rfl) ?_
    refine fin_next rfl ?_
    refine run_seq ?_
    refine run_region ?_
    refine ops_val (yld_assign rfl) rfl ?_
    refine ops_nil ?_
    refine fin_next rfl ?_
    refine run_block ?_
    refine ok_fr [(0, .slice ad (List.length l) cap), (7, .slice a3 (List.length (atomsL l)) c3), (8, .slice (some ⟨b1, 0, none⟩) (List.length (atomsL l)) (List.length (atomsL l))), (9, .int .i64 (i : Int)), (10, .slice (some ⟨b2, 0, none⟩) (List.length [(Pc.a x2), (Pc.b x2), (Pc.c x2)]) 3), (11, .int .i64 ((0 : Nat) : Int))] ⟨rfl, rfl, rfl, rfl, rfl, rfl, trivial⟩ ?_
    refine run_loop (ι := {z : Nat × List Bool // z.1 ≤ 3 ∧ Cov z.2 (atomsL l) ((l.take i).flatMap three ++ (three x2).take z.1)}) (fun z => [(0, .slice ad (List.length l) cap), (7, .slice a3 (List.length (atomsL l)) c3), (8, .slice (some ⟨b1, 0, none⟩) (List.length (atomsL l)) (List.length (atomsL l))), (9, .int .i64 (i : Int)), (10, .slice (some ⟨b2, 0, none⟩) (List.length [(Pc.a x2), (Pc.b x2), (Pc.c x2)]) 3), (11, .int .i64 (z.1.1 : Int))]) (fun z => [(b1, .cells (boolsC z.1.2).toArray 4 (0, 0))]) (fun _ => _) (fun z => 3 - z.1.1) ⟨(0, hs), by simp, by simpa using hcv⟩ ?_
    rintro ⟨⟨k, hs2⟩, hk, hcv2⟩
    dsimp only at hk hcv2
    dsimp only
    refine ok_fr [(0, .slice ad (List.length l) cap), (7, .slice a3 (List.length (atomsL l)) c3), (8, .slice (some ⟨b1, 0, none⟩) (List.length (atomsL l)) (List.length (atomsL l))), (9, .int .i64 (i : Int)), (10, .slice (some ⟨b2, 0, none⟩) (List.length [(Pc.a x2), (Pc.b x2), (Pc.c x2)]) 3), (11, .int .i64 (k : Int))] ⟨rfl, rfl, rfl, rfl, rfl, rfl, trivial⟩ ?_
    refine run_seq ?_
    refine run_seq ?_
    refine run_region ?_
    refine ops_val (yld_move rfl) rfl ?_
    refine ops_valB (yld_lss rfl rfl) rfl fun r7 hr7 => ?_
    refine ops_nil ?_
    refine fin_next rfl ?_
    cases r7
    ·
     replace hr7 := of_decide_eq_false hr7
     refine run_cond_f rfl ?_
     refine run_exit rfl ?_
     refine fin_next rfl ?_
     refine run_region ?_
     refine ops_val (yld_move rfl) rfl ?_
     refine ops_val (yld_arith rfl rfl rfl (wrap64 (by omega) (by omega))) rfl ?_
     refine ops_val (yld_assign rfl) rfl ?_
     refine ops_nil ?_
     refine fin_inv rfl ?_
     exact ok_again ⟨(i + 1, hs2), hlx2, by dsimp only; rw [List.take_add_one, hx2, Option.toList_some, List.flatMap_append]; have := hcv2; rw [List.take_of_length_le (show (three x2).length ≤ k by simp only [three, List.length_cons, List.length_nil]; omega)] at this; simpa using this⟩ (by dsimp only; omega) ⟨rfl, rfl, rfl, rfl, trivial⟩ pf_here (fun _ _ h => h.2)
    ·
     replace hr7 := of_decide_eq_true hr7
     have hly1 : k < List.length [(Pc.a x2), (Pc.b x2), (Pc.c x2)] := by simp; omega
     obtain ⟨y1, hy1⟩ : ∃ e0, [(Pc.a x2), (Pc.b x2), (Pc.c x2)][k]? = some e0 := ⟨_, List.getElem?_eq_getElem hly1⟩
     have hmy1 : y1 ∈ [(Pc.a x2), (Pc.b x2), (Pc.c x2)] := List.mem_of_getElem? hy1
     refine run_cond_t rfl ?_
     refine run_skip ?_
     refine fin_next rfl ?_
     refine run_seq ?_
     refine run_block ?_
     refine run_seq ?_
     refine run_region ?_
     refine ops_val (yld_move rfl) rfl ?_
     refine ops_val (yld_move rfl) rfl ?_
     refine ops_val (yld_indexR Tryz.runUnderlying39 Tryz.sizeOf9 rfl rfl (fun v _ h => row_adr (n := 1) strC_len (by decide) (by exact h.1) hy1) (by omega) (by first | omega | (simp; done))) rfl ?_
     refine ops_val (yld_loadR (ad := (some ⟨b2, 0, none⟩)) Tryz.isAgg9 rfl (fun v _ h => by exact h.1) (row_cells strC_len hy1 0 _ rfl)) rfl ?_
     refine ops_valB (yld_seql rfl rfl) rfl fun r8 hr8 => ?_
     refine ops_val (yld_assign rfl) rfl ?_
     refine ops_nil ?_
     refine fin_next rfl ?_
     refine run_seq ?_
     refine run_seq ?_
     refine run_region ?_
     refine ops_val (yld_assign rfl) rfl ?_
     refine ops_nil ?_
     refine fin_next rfl ?_
     refine run_block ?_
     refine ok_fr [(0, .slice ad (List.length l) cap), (7, .slice a3 (List.length (atomsL l)) c3), (8, .slice (some ⟨b1, 0, none⟩) (List.length (atomsL l)) (List.length (atomsL l))), (9, .int .i64 (i : Int)), (10, .slice (some ⟨b2, 0, none⟩) (List.length [(Pc.a x2), (Pc.b x2), (Pc.c x2)]) 3), (11, .int .i64 (k : Int)), (12, .bool r8), (13, .int .i64 ((0 : Nat) : Int))] ⟨rfl, rfl, rfl, rfl, rfl, rfl, rfl, rfl, trivial⟩ ?_
     refine run_loop (ι := {z : Nat × Bool × List Bool // z.1 ≤ (atomsL l).length ∧ z.2.1 = (decide (y1 = []) || ((atomsL l).take z.1).any (fun w => w == y1)) ∧ CovN z.2.2 (atomsL l) ((l.take i).flatMap three ++ (three x2).take k) y1 z.1}) (fun z => [(0, .slice ad (List.length l) cap), (7, .slice a3 (List.length (atomsL l)) c3), (8, .slice (some ⟨b1, 0, none⟩) (List.length (atomsL l)) (List.length (atomsL l))), (9, .int .i64 (i : Int)), (10, .slice (some ⟨b2, 0, none⟩) (List.length [(Pc.a x2), (Pc.b x2), (Pc.c x2)]) 3), (11, .int .i64 (k : Int)), (12, .bool z.1.2.1), (13, .int .i64 (z.1.1 : Int))]) (fun z => [(b1, .cells (boolsC z.1.2.2).toArray 4 (0, 0))]) (fun _ => _) (fun z => (atomsL l).length - z.1.1) ⟨(0, r8, hs2), by simp, by dsimp only; rw [← hr8]; simp [Bool.beq_eq_decide_eq], CovN.zero hcv2⟩ ?_
     rintro ⟨⟨n, m, hs3⟩, hn, hmm, hcv3⟩
     dsimp only at hn hmm hcv3
     dsimp only
     have hcl := hcv3.1.1
     refine ok_fr [(0, .slice ad (List.length l) cap), (7, .slice a3 (List.length (atomsL l)) c3), (8, .slice (some ⟨b1, 0, none⟩) (List.length (atomsL l)) (List.length (atomsL l))), (9, .int .i64 (i : Int)), (10, .slice (some ⟨b2, 0, none⟩) (List.length [(Pc.a x2), (Pc.b x2), (Pc.c x2)]) 3), (11, .int .i64 (k : Int)), (12, .bool m), (13, .int .i64 (n : Int))] ⟨rfl, rfl, rfl, rfl, rfl, rfl, rfl, rfl, trivial⟩ ?_
     refine run_seq ?_
     refine run_seq ?_
     refine run_region ?_
     refine ops_val (yld_move rfl) rfl ?_
     refine ops_val (yld_move rfl) rfl ?_
     refine ops_val (yld_lenS Tryz.runUnderlying39 rfl) rfl ?_
     refine ops_valB (yld_lss rfl rfl) rfl fun r9 hr9 => ?_
     refine ops_nil ?_
     refine fin_next rfl ?_
     cases r9
     ·
      replace hr9 := of_decide_eq_false hr9
      refine run_cond_f rfl ?_
      refine run_exit rfl ?_
      refine fin_next rfl ?_
      refine run_seq ?_
      obtain rfl : m = true := by
       rw [hmm, List.take_of_length_le (by omega)]
       exact atomsL_has hmx2 (show y1 ∈ three x2 from hmy1)
      refine run_region ?_
      refine ops_val (yld_move rfl) rfl ?_
      refine ops_val (yld_not rfl) rfl ?_
      refine ops_nil ?_
      refine fin_next rfl ?_
      refine run_cond_f rfl ?_
      refine run_skip ?_
      refine fin_next rfl ?_
      refine run_region ?_
      refine ops_val (yld_move rfl) rfl ?_
      refine ops_val (yld_arith rfl rfl rfl (wrap64 (by omega) (by omega))) rfl ?_
      refine ops_val (yld_assign rfl) rfl ?_
      refine ops_nil ?_
      refine fin_inv rfl ?_
      exact ok_again ⟨(k + 1, hs3), by dsimp only; omega, by dsimp only; rw [List.take_add_one, show (three x2)[k]? = some y1 from hy1, Option.toList_some, ← List.append_assoc]; exact hcv3.done (by omega)⟩ (by dsimp only; omega) ⟨rfl, rfl, rfl, rfl, rfl, rfl, trivial⟩ pf_here (fun _ _ h => h)
     ·
      replace hr9 := of_decide_eq_true hr9
      have hlw1 : n < List.length (atomsL l) := by omega
      obtain ⟨w1, hw1⟩ : ∃ e0, (atomsL l)[n]? = some e0 := ⟨_, List.getElem?_eq_getElem hlw1⟩
      have hmw1 : w1 ∈ (atomsL l) := List.mem_of_getElem? hw1
      refine run_cond_t rfl ?_
      refine run_skip ?_
      refine fin_next rfl ?_
      refine run_seq ?_
      refine run_block ?_
      refine run_seq ?_
      refine run_draw' (by kernel_rfl) ?_
      refine any_take 0 rfl (by kernel_rfl) (by kernel_rfl) (by kernel_rfl) (yld_move rfl) rfl (fun _ a b => ⟨a, b⟩) ?_
      refine any_take 1 rfl (by kernel_rfl) (by kernel_rfl) (by kernel_rfl) (yld_move rfl) rfl (fun _ a b => ⟨a, b⟩) ?_
      refine any_take 2 rfl (by kernel_rfl) (by kernel_rfl) (by kernel_rfl) (yld_indexR Tryz.runUnderlying39 Tryz.sizeOf9 rfl rfl (fun v _ h => row_adr (n := 1) strC_len (by decide) (by exact h.2.1) hw1) (by omega) (by first | omega | (simp; done))) rfl (fun _ a b => ⟨a, b⟩) ?_
      refine any_take 3 rfl (by kernel_rfl) (by kernel_rfl) (by kernel_rfl) (yld_loadR (ad := a3) Tryz.isAgg9 rfl (fun v _ h => by exact h.2.1) (row_cells strC_len hw1 0 _ rfl)) rfl (fun _ a b => ⟨a, b⟩) ?_
      refine any_take 4 rfl (by kernel_rfl) (by kernel_rfl) (by kernel_rfl) (yld_move rfl) rfl (fun _ a b => ⟨a, b⟩) ?_
      refine any_take 5 rfl (by kernel_rfl) (by kernel_rfl) (by kernel_rfl) (yld_move rfl) rfl (fun _ a b => ⟨a, b⟩) ?_
      refine any_take 6 rfl (by kernel_rfl) (by kernel_rfl) (by kernel_rfl) (yld_indexR Tryz.runUnderlying39 Tryz.sizeOf9 rfl rfl (fun v _ h => row_adr (n := 1) strC_len (by decide) (by exact h.1) hy1) (by omega) (by first | omega | (simp; done))) rfl (fun _ a b => ⟨a, b⟩) ?_
      refine any_take 7 rfl (by kernel_rfl) (by kernel_rfl) (by kernel_rfl) (yld_loadR (ad := (some ⟨b2, 0, none⟩)) Tryz.isAgg9 rfl (fun v _ h => by exact h.1) (row_cells strC_len hy1 0 _ rfl)) rfl (fun _ a b => ⟨a, b⟩) ?_
      refine any_takeB 8 rfl (by kernel_rfl) (by kernel_rfl) (by kernel_rfl) (yld_seql rfl rfl) rfl (fun _ a b => ⟨a, b⟩) fun r10 hr10 => ?_
      refine any_done (by kernel_rfl) ?_
      refine fin_next rfl ?_
      cases r10
      ·
       replace hr10 := ne_of_beq_false hr10
       refine run_cond_f rfl ?_
       refine run_skip ?_
       refine fin_next rfl ?_
       refine run_region ?_
       refine ops_val (yld_move rfl) rfl ?_
       refine ops_val (yld_arith rfl rfl rfl (wrap64 (by omega) (by omega))) rfl ?_
       refine ops_val (yld_assign rfl) rfl ?_
       refine ops_nil ?_
       refine fin_inv rfl ?_
       have hst := any_stepG (g := fun w => w == y1) hw1
       exact ok_again ⟨(n + 1, m, hs3), hlw1, by dsimp only; rw [hst, hmm, show (w1 == y1) = false from beq_eq_false_iff_ne.2 (by assumption)]; simp, hcv3.miss hw1 (by assumption)⟩ (by dsimp only; omega) ⟨rfl, rfl, rfl, rfl, rfl, rfl, rfl, rfl, trivial⟩ pf_here (fun _ _ h => h)
      ·
       replace hr10 := eq_of_beq hr10
       refine run_cond_t rfl ?_
       refine run_seq ?_
       refine run_region ?_
       refine ops_val (yld_move rfl) rfl ?_
       refine ops_val (yld_move rfl) rfl ?_
       refine ops_val (yld_index Tryz.runUnderlying65 Tryz.sizeOf4 rfl rfl (by omega) (by omega)) rfl ?_
       refine ops_storeB (hs := hs3) 0 Tryz.sizeOf4 rfl rfl rfl (by simp; omega) ?_
       rw [show 0 + (n : Int).toNat * 1 = n by simp]
       refine ops_nil ?_
       refine fin_next rfl ?_
       refine run_region ?_
       refine ops_val (yld_assign rfl) rfl ?_
       refine ops_nil ?_
       refine fin_next rfl ?_
       refine run_region ?_
       refine ops_val (yld_move rfl) rfl ?_
       refine ops_val (yld_arith rfl rfl rfl (wrap64 (by omega) (by omega))) rfl ?_
       refine ops_val (yld_assign rfl) rfl ?_
       refine ops_nil ?_
       refine fin_inv rfl ?_
       have hst := any_stepG (g := fun w => w == y1) hw1
       exact ok_again ⟨(n + 1, true, hs3.set n true), hlw1, by dsimp only; rw [hst]; simp [*], hcv3.hit hlw1⟩ (by dsimp only; omega) ⟨rfl, rfl, rfl, rfl, rfl, rfl, rfl, rfl, trivial⟩ pf_here (fun _ _ h => h)
  ·
   replace hr1 := of_decide_eq_true hr1
   have hlx1 : i < List.length l := by omega
   obtain ⟨x1, hx1⟩ : ∃ e0, l[i]? = some e0 := ⟨_, List.getElem?_eq_getElem hlx1⟩
   have hmx1 : x1 ∈ l := List.mem_of_getElem? hx1
   refine run_cond_t rfl ?_
   refine run_skip ?_
   refine fin_next rfl ?_
   refine run_seq ?_
   refine run_block ?_
   refine run_seq ?_
   refine run_region ?_
   refine ops_val (yld_move rfl) rfl ?_
   refine ops_val (yld_move rfl) rfl ?_
   refine ops_val (yld_move rfl) rfl ?_
   refine ops_val (yld_indexR Tryz.runUnderlying25 Tryz.sizeOf31 rfl rfl (fun v _ h => row_adr (n := 10) Pc.cells_len (by decide) (by exact h.1) hx1) (by omega) (by first | omega | (simp; done))) rfl ?_
   refine ops_val (yld_fieldR Tryz.runUnderlying31 rfl rfl rfl Tryz.sizeOf3) rfl ?_
   refine ops_val (yld_loadR (ad := ad) Tryz.isAgg3 rfl (fun v _ h => by exact h.1) (row_cells Pc.cells_len hx1 9 _ rfl)) rfl ?_
   refine ops_call (of_c l ad cap (Pc.frm x1) (by omega)) rfl pf_nil (fun v _ h => by exact ⟨h.1, trivial⟩) rfl fun ⟨⟨a2, c2⟩, hc2⟩ => ?_
   dsimp only
   refine ops_val (yld_assign rfl) rfl ?_
   refine ops_nil ?_
   refine fin_next rfl ?_
   refine run_seq ?_
   refine run_region ?_
   refine ops_val (yld_assign rfl) rfl ?_
   refine ops_nil ?_
   refine fin_next rfl ?_
   refine run_seq ?_
   refine run_seq ?_
   refine run_region ?_
   refine ops_val (yld_assign rfl) rfl ?_
   refine ops_nil ?_
   refine fin_next rfl ?_
   refine run_block ?_
   have hpw := ofs_lt (a := Pc.frm x1) l 0
   have hol := ofs_len (Pc.frm x1) l 0
   refine ok_fr [(0, .slice ad (List.length l) cap), (3, .int .i64 (i : Int)), (4, .slice a2 (List.length (ofs (Pc.frm x1) 0 l)) c2), (5, .bool false), (6, .int .i64 ((0 : Nat) : Int))] ⟨rfl, rfl, rfl, rfl, rfl, trivial⟩ ?_
   refine run_loop (ι := {z : Nat × Bool // z.1 ≤ (ofs (Pc.frm x1) 0 l).length ∧ z.2 = ((ofs (Pc.frm x1) 0 l).take z.1).any (fun w => w == (i : Int))}) (fun z => [(0, .slice ad (List.length l) cap), (3, .int .i64 (i : Int)), (4, .slice a2 (List.length (ofs (Pc.frm x1) 0 l)) c2), (5, .bool z.1.2), (6, .int .i64 (z.1.1 : Int))]) (fun _ => _) (fun _ => _) (fun z => (ofs (Pc.frm x1) 0 l).length - z.1.1) ⟨(0, false), by simp, by simp⟩ ?_
   rintro ⟨⟨k, m⟩, hk⟩
   dsimp only at hk
   obtain ⟨hk1, hkm⟩ := hk
   refine ok_fr [(0, .slice ad (List.length l) cap), (3, .int .i64 (i : Int)), (4, .slice a2 (List.length (ofs (Pc.frm x1) 0 l)) c2), (5, .bool m), (6, .int .i64 (k : Int))] ⟨rfl, rfl, rfl, rfl, rfl, trivial⟩ ?_
   refine run_seq ?_
   refine run_seq ?_
   refine run_region ?_
   refine ops_val (yld_move rfl) rfl ?_
   refine ops_val (yld_move rfl) rfl ?_
   refine ops_val (yld_lenS Tryz.runUnderlying62 rfl) rfl ?_
   refine ops_valB (yld_lss rfl rfl) rfl fun r11 hr11 => ?_
   refine ops_nil ?_
   refine fin_next rfl ?_
   cases r11
   ·
    replace hr11 := of_decide_eq_false hr11
    refine run_cond_f rfl ?_
    refine run_exit rfl ?_
    refine fin_next rfl ?_
    refine run_seq ?_
    obtain rfl : m = true := by
     rw [hkm, List.take_of_length_le (by omega)]
     have := ofs_has (i := 0) hx1 rfl
     rw [Nat.zero_add] at this
     exact List.any_eq_true.2 ⟨_, this, by simp⟩
    refine run_region ?_
    refine ops_val (yld_move rfl) rfl ?_
    refine ops_val (yld_not rfl) rfl ?_
    refine ops_nil ?_
    refine fin_next rfl ?_
    refine run_cond_f rfl ?_
    refine run_skip ?_
    refine fin_next rfl ?_
    refine run_region ?_
    refine ops_val (yld_move rfl) rfl ?_
    refine ops_val (yld_arith rfl rfl rfl (wrap64 (by omega) (by omega))) rfl ?_
    refine ops_val (yld_assign rfl) rfl ?_
    refine ops_nil ?_
    refine fin_inv rfl ?_
    exact ok_again ⟨i + 1, hlx1⟩ (by dsimp only; omega) ⟨rfl, rfl, trivial⟩ (.refl _) (fun _ _ h => h.2)
   ·
    replace hr11 := of_decide_eq_true hr11
    have hly1 : k < List.length (ofs (Pc.frm x1) 0 l) := by omega
    obtain ⟨y1, hy1⟩ : ∃ e0, (ofs (Pc.frm x1) 0 l)[k]? = some e0 := ⟨_, List.getElem?_eq_getElem hly1⟩
    have hmy1 : y1 ∈ (ofs (Pc.frm x1) 0 l) := List.mem_of_getElem? hy1
    obtain ⟨j, pj, hej, hpj, hfj⟩ := ofs_in hmy1
    subst hej
    have hjl := (List.getElem?_eq_some_iff.1 hpj).1
    refine run_cond_t rfl ?_
    refine run_skip ?_
    refine fin_next rfl ?_
    refine run_seq ?_
    refine run_block ?_
    refine run_seq ?_
    refine run_seq ?_
    refine run_draw' (by kernel_rfl) ?_
    refine any_take 0 rfl (by kernel_rfl) (by kernel_rfl) (by kernel_rfl) (yld_move rfl) rfl (fun _ a b => ⟨satNil a, b⟩) ?_
    refine any_take 1 rfl (by kernel_rfl) (by kernel_rfl) (by kernel_rfl) (yld_move rfl) rfl (fun _ a b => ⟨satNil a, b⟩) ?_
    refine any_take 2 rfl (by kernel_rfl) (by kernel_rfl) (by kernel_rfl) (yld_indexR Tryz.runUnderlying62 Tryz.sizeOf3 rfl rfl (fun v _ h => row_adr (n := 1) intC_len (by decide) (by exact h.1) hy1) (by omega) (by first | omega | (simp; done))) rfl (fun _ a b => ⟨satNil a, b⟩) ?_
    refine any_take 3 rfl (by kernel_rfl) (by kernel_rfl) (by kernel_rfl) (yld_loadR (ad := a2) Tryz.isAgg3 rfl (fun v _ h => by exact h.1) (row_cells intC_len hy1 0 _ rfl)) rfl (fun _ a b => ⟨satNil a, b⟩) ?_
    refine any_takeB 4 rfl (by kernel_rfl) (by kernel_rfl) (by kernel_rfl) (yld_lss rfl rfl) rfl (fun _ a b => ⟨satNil a, b⟩) fun r12 hr12 => ?_
    refine any_take 5 rfl (by kernel_rfl) (by kernel_rfl) (by kernel_rfl) (yld_move rfl) rfl (fun _ a b => ⟨satNil a, b⟩) ?_
    cases r12
    ·
     replace hr12 := of_decide_eq_false hr12
     refine any_takeY 6 rfl (by kernel_rfl) (by kernel_rfl) (by kernel_rfl) rfl rfl (yld_move rfl) rfl (fun _ a b => ⟨satNil a, b⟩) ?_
     refine any_takeY 7 rfl (by kernel_rfl) (by kernel_rfl) (by kernel_rfl) rfl rfl (yld_move rfl) rfl (fun _ a b => ⟨satNil a, b⟩) ?_
     refine any_takeY 8 rfl (by kernel_rfl) (by kernel_rfl) (by kernel_rfl) rfl rfl (yld_indexR Tryz.runUnderlying62 Tryz.sizeOf3 rfl rfl (fun v _ h => row_adr (n := 1) intC_len (by decide) (by exact h.1) hy1) (by omega) (by first | omega | (simp; done))) rfl (fun _ a b => ⟨satNil a, b⟩) ?_
     refine any_takeY 9 rfl (by kernel_rfl) (by kernel_rfl) (by kernel_rfl) rfl rfl (yld_loadR (ad := a2) Tryz.isAgg3 rfl (fun v _ h => by exact h.1) (row_cells intC_len hy1 0 _ rfl)) rfl (fun _ a b => ⟨satNil a, b⟩) ?_
     refine any_takeY 10 rfl (by kernel_rfl) (by kernel_rfl) (by kernel_rfl) rfl rfl (yld_move rfl) rfl (fun _ a b => ⟨satNil a, b⟩) ?_
     refine any_takeY 11 rfl (by kernel_rfl) (by kernel_rfl) (by kernel_rfl) rfl rfl (yld_lenS Tryz.runUnderlying25 rfl) rfl (fun _ a b => ⟨satNil a, b⟩) ?_
     refine any_takeYB 12 rfl (by kernel_rfl) (by kernel_rfl) (by kernel_rfl) rfl rfl (yld_geq rfl rfl) rfl (fun _ a b => ⟨satNil a, b⟩) fun r13 hr13 => ?_
     refine any_take 13 rfl (by kernel_rfl) (by kernel_rfl) (by kernel_rfl) (yld_pick_f rfl rfl) rfl (fun _ a b => ⟨satNil a, b⟩) ?_
     refine any_take 14 rfl (by kernel_rfl) (by kernel_rfl) (by kernel_rfl) (yld_move rfl) rfl (fun _ a b => ⟨satNil a, b⟩) ?_
     cases r13
     ·
      replace hr13 := of_decide_eq_false hr13
      refine any_takeY 15 rfl (by kernel_rfl) (by kernel_rfl) (by kernel_rfl) rfl rfl (yld_move rfl) rfl (fun _ a b => ⟨satNil a, b⟩) ?_
      refine any_takeY 16 rfl (by kernel_rfl) (by kernel_rfl) (by kernel_rfl) rfl rfl (yld_move rfl) rfl (fun _ a b => ⟨satNil a, b⟩) ?_
      refine any_takeY 17 rfl (by kernel_rfl) (by kernel_rfl) (by kernel_rfl) rfl rfl (yld_move rfl) rfl (fun _ a b => ⟨satNil a, b⟩) ?_
      refine any_takeY 18 rfl (by kernel_rfl) (by kernel_rfl) (by kernel_rfl) rfl rfl (yld_indexR Tryz.runUnderlying62 Tryz.sizeOf3 rfl rfl (fun v _ h => row_adr (n := 1) intC_len (by decide) (by exact h.1) hy1) (by omega) (by first | omega | (simp; done))) rfl (fun _ a b => ⟨satNil a, b⟩) ?_
      refine any_takeY 19 rfl (by kernel_rfl) (by kernel_rfl) (by kernel_rfl) rfl rfl (yld_loadR (ad := a2) Tryz.isAgg3 rfl (fun v _ h => by exact h.1) (row_cells intC_len hy1 0 _ rfl)) rfl (fun _ a b => ⟨satNil a, b⟩) ?_
      refine any_takeY 20 rfl (by kernel_rfl) (by kernel_rfl) (by kernel_rfl) rfl rfl (yld_indexR Tryz.runUnderlying25 Tryz.sizeOf31 rfl rfl (fun v _ h => row_adr (n := 10) Pc.cells_len (by decide) (by exact h.2.1) hpj) (by omega) (by first | omega | (simp; done))) rfl (fun _ a b => ⟨satNil a, b⟩) ?_
      refine any_takeY 21 rfl (by kernel_rfl) (by kernel_rfl) (by kernel_rfl) rfl rfl (yld_fieldR Tryz.runUnderlying31 rfl rfl rfl Tryz.sizeOf3) rfl (fun _ a b => ⟨satNil a, b⟩) ?_
      refine any_takeY 22 rfl (by kernel_rfl) (by kernel_rfl) (by kernel_rfl) rfl rfl (yld_loadR (ad := ad) Tryz.isAgg3 rfl (fun v _ h => by exact h.2.1) (row_cells Pc.cells_len hpj 9 _ rfl)) rfl (fun _ a b => ⟨satNil a, b⟩) ?_
      refine any_takeY 23 rfl (by kernel_rfl) (by kernel_rfl) (by kernel_rfl) rfl rfl (yld_move rfl) rfl (fun _ a b => ⟨satNil a, b⟩) ?_
      refine any_takeY 24 rfl (by kernel_rfl) (by kernel_rfl) (by kernel_rfl) rfl rfl (yld_move rfl) rfl (fun _ a b => ⟨satNil a, b⟩) ?_
      refine any_takeY 25 rfl (by kernel_rfl) (by kernel_rfl) (by kernel_rfl) rfl rfl (yld_indexR Tryz.runUnderlying25 Tryz.sizeOf31 rfl rfl (fun v _ h => row_adr (n := 10) Pc.cells_len (by decide) (by exact h.2.1) hx1) (by omega) (by first | omega | (simp; done))) rfl (fun _ a b => ⟨satNil a, b⟩) ?_
      refine any_takeY 26 rfl (by kernel_rfl) (by kernel_rfl) (by kernel_rfl) rfl rfl (yld_fieldR Tryz.runUnderlying31 rfl rfl rfl Tryz.sizeOf3) rfl (fun _ a b => ⟨satNil a, b⟩) ?_
      refine any_takeY 27 rfl (by kernel_rfl) (by kernel_rfl) (by kernel_rfl) rfl rfl (yld_loadR (ad := ad) Tryz.isAgg3 rfl (fun v _ h => by exact h.2.1) (row_cells Pc.cells_len hx1 9 _ rfl)) rfl (fun _ a b => ⟨satNil a, b⟩) ?_
      refine any_takeYB 28 rfl (by kernel_rfl) (by kernel_rfl) (by kernel_rfl) rfl rfl (yld_neq rfl rfl) rfl (fun _ a b => ⟨satNil a, b⟩) fun r14 hr14 => ?_
      refine any_take 29 rfl (by kernel_rfl) (by kernel_rfl) (by kernel_rfl) (yld_pick_f rfl rfl) rfl (fun _ a b => ⟨satNil a, b⟩) ?_
      refine any_take 30 rfl (by kernel_rfl) (by kernel_rfl) (by kernel_rfl) (yld_move rfl) rfl (fun _ a b => ⟨satNil a, b⟩) ?_
      cases r14
      ·
       replace hr14 := eq_of_bne hr14
       refine any_takeY 31 rfl (by kernel_rfl) (by kernel_rfl) (by kernel_rfl) rfl rfl (yld_move rfl) rfl (fun _ a b => ⟨satNil a, b⟩) ?_
       refine any_takeYB 32 rfl (by kernel_rfl) (by kernel_rfl) (by kernel_rfl) rfl rfl (yld_gtr rfl rfl) rfl (fun _ a b => ⟨satNil a, b⟩) fun r15 hr15 => ?_
       refine any_takeY 33 rfl (by kernel_rfl) (by kernel_rfl) (by kernel_rfl) rfl rfl (yld_move rfl) rfl (fun _ a b => ⟨satNil a, b⟩) ?_
       cases r15
       ·
        replace hr15 := of_decide_eq_false hr15
        refine any_no 34 rfl (by kernel_rfl) (by kernel_rfl) (by kernel_rfl) rfl rfl rfl rfl (fun _ a b => ⟨satNil a, b⟩) ?_
        refine any_no 35 rfl (by kernel_rfl) (by kernel_rfl) (by kernel_rfl) rfl rfl rfl rfl (fun _ a b => ⟨satNil a, b⟩) ?_
        refine any_no 36 rfl (by kernel_rfl) (by kernel_rfl) (by kernel_rfl) rfl rfl rfl rfl (fun _ a b => ⟨satNil a, b⟩) ?_
        refine any_no 37 rfl (by kernel_rfl) (by kernel_rfl) (by kernel_rfl) rfl rfl rfl rfl (fun _ a b => ⟨satNil a, b⟩) ?_
        refine any_no 38 rfl (by kernel_rfl) (by kernel_rfl) (by kernel_rfl) rfl rfl rfl rfl (fun _ a b => ⟨satNil a, b⟩) ?_
        refine any_no 39 rfl (by kernel_rfl) (by kernel_rfl) (by kernel_rfl) rfl rfl rfl rfl (fun _ a b => ⟨satNil a, b⟩) ?_
        refine any_no 40 rfl (by kernel_rfl) (by kernel_rfl) (by kernel_rfl) rfl rfl rfl rfl (fun _ a b => ⟨satNil a, b⟩) ?_
        refine any_no 41 rfl (by kernel_rfl) (by kernel_rfl) (by kernel_rfl) rfl rfl rfl rfl (fun _ a b => ⟨satNil a, b⟩) ?_
        refine any_no 42 rfl (by kernel_rfl) (by kernel_rfl) (by kernel_rfl) rfl rfl rfl rfl (fun _ a b => ⟨satNil a, b⟩) ?_
        refine any_no 43 rfl (by kernel_rfl) (by kernel_rfl) (by kernel_rfl) rfl rfl rfl rfl (fun _ a b => ⟨satNil a, b⟩) ?_
        refine any_takeY 44 rfl (by kernel_rfl) (by kernel_rfl) (by kernel_rfl) rfl rfl (yld_pick_f rfl rfl) rfl (fun _ a b => ⟨satNil a, b⟩) ?_
        refine any_take 45 rfl (by kernel_rfl) (by kernel_rfl) (by kernel_rfl) (yld_pick_f rfl rfl) rfl (fun _ a b => ⟨satNil a, b⟩) ?_
        refine any_done (by kernel_rfl) ?_
        refine fin_next rfl ?_
        refine run_cond_f rfl ?_
        refine run_skip ?_
        refine fin_next rfl ?_
        refine run_region ?_
        refine ops_val (yld_move rfl) rfl ?_
        refine ops_val (yld_move rfl) rfl ?_
        cases m
        ·
         refine ops_yes rfl rfl ?_
         refine ops_val (yld_move rfl) rfl ?_
         refine ops_yes rfl rfl ?_
         refine ops_val (yld_move rfl) rfl ?_
         refine ops_yes rfl rfl ?_
         refine ops_val (yld_indexR Tryz.runUnderlying62 Tryz.sizeOf3 rfl rfl (fun v _ h => row_adr (n := 1) intC_len (by decide) (by exact h.1) hy1) (by omega) (by first | omega | (simp; done))) rfl ?_
         refine ops_yes rfl rfl ?_
         refine ops_val (yld_loadR (ad := a2) Tryz.isAgg3 rfl (fun v _ h => by exact h.1) (row_cells intC_len hy1 0 _ rfl)) rfl ?_
         refine ops_yes rfl rfl ?_
         refine ops_val (yld_move rfl) rfl ?_
         refine ops_yes rfl rfl ?_
         refine ops_valB (yld_eql rfl rfl) rfl fun r16 hr16 => ?_
         refine ops_val (yld_pick_f rfl rfl) rfl ?_
         refine ops_val (yld_assign rfl) rfl ?_
         refine ops_nil ?_
         refine fin_next rfl ?_
         refine run_region ?_
         refine ops_val (yld_move rfl) rfl ?_
         refine ops_val (yld_arith rfl rfl rfl (wrap64 (by omega) (by omega))) rfl ?_
         refine ops_val (yld_assign rfl) rfl ?_
         refine ops_nil ?_
         refine fin_inv rfl ?_
         exact ok_again ⟨(k + 1, r16), hly1, (by dsimp only; rw [any_stepG hy1, ← hkm]; exact hr16.symm)⟩ (by dsimp only; omega) ⟨rfl, rfl, rfl, rfl, rfl, trivial⟩ pf_nil (fun _ _ h => h)
        ·
         refine ops_no rfl rfl rfl rfl ?_
         refine ops_no rfl rfl rfl rfl ?_
         refine ops_no rfl rfl rfl rfl ?_
         refine ops_no rfl rfl rfl rfl ?_
         refine ops_no rfl rfl rfl rfl ?_
         refine ops_no rfl rfl rfl rfl ?_
         refine ops_val (yld_pick_t rfl rfl) rfl ?_
         refine ops_val (yld_assign rfl) rfl ?_
         refine ops_nil ?_
         refine fin_next rfl ?_
         refine run_region ?_
         refine ops_val (yld_move rfl) rfl ?_
         refine ops_val (yld_arith rfl rfl rfl (wrap64 (by omega) (by omega))) rfl ?_
         refine ops_val (yld_assign rfl) rfl ?_
         refine ops_nil ?_
         refine fin_inv rfl ?_
         exact ok_again ⟨(k + 1, true), hly1, (by dsimp only; rw [any_stepG hy1, ← hkm]; rfl)⟩ (by dsimp only; omega) ⟨rfl, rfl, rfl, rfl, rfl, trivial⟩ pf_nil (fun _ _ h => h)
       ·
        replace hr15 := of_decide_eq_true hr15
        have hly0 : (Int.toNat ((k : Int) - 1)) < List.length (ofs (Pc.frm x1) 0 l) := by omega
        obtain ⟨y0, hy0⟩ : ∃ e0, (ofs (Pc.frm x1) 0 l)[(Int.toNat ((k : Int) - 1))]? = some e0 := ⟨_, List.getElem?_eq_getElem hly0⟩
        have hmy0 : y0 ∈ (ofs (Pc.frm x1) 0 l) := List.mem_of_getElem? hy0
        refine any_takeY 34 rfl (by kernel_rfl) (by kernel_rfl) (by kernel_rfl) rfl rfl (yld_move rfl) rfl (fun _ a b => ⟨satNil a, b⟩) ?_
        refine any_takeY 35 rfl (by kernel_rfl) (by kernel_rfl) (by kernel_rfl) rfl rfl (yld_move rfl) rfl (fun _ a b => ⟨satNil a, b⟩) ?_
        refine any_takeY 36 rfl (by kernel_rfl) (by kernel_rfl) (by kernel_rfl) rfl rfl (yld_indexR Tryz.runUnderlying62 Tryz.sizeOf3 rfl rfl (fun v _ h => row_adr (n := 1) intC_len (by decide) (by exact h.1) hy1) (by omega) (by first | omega | (simp; done))) rfl (fun _ a b => ⟨satNil a, b⟩) ?_
        refine any_takeY 37 rfl (by kernel_rfl) (by kernel_rfl) (by kernel_rfl) rfl rfl (yld_loadR (ad := a2) Tryz.isAgg3 rfl (fun v _ h => by exact h.1) (row_cells intC_len hy1 0 _ rfl)) rfl (fun _ a b => ⟨satNil a, b⟩) ?_
        refine any_takeY 38 rfl (by kernel_rfl) (by kernel_rfl) (by kernel_rfl) rfl rfl (yld_move rfl) rfl (fun _ a b => ⟨satNil a, b⟩) ?_
        refine any_takeY 39 rfl (by kernel_rfl) (by kernel_rfl) (by kernel_rfl) rfl rfl (yld_move rfl) rfl (fun _ a b => ⟨satNil a, b⟩) ?_
        refine any_takeY 40 rfl (by kernel_rfl) (by kernel_rfl) (by kernel_rfl) rfl rfl (yld_arith rfl rfl rfl (wrap64 (by omega) (by omega))) rfl (fun _ a b => ⟨satNil a, b⟩) ?_
        refine any_takeY 41 rfl (by kernel_rfl) (by kernel_rfl) (by kernel_rfl) rfl rfl (yld_indexR Tryz.runUnderlying62 Tryz.sizeOf3 rfl rfl (fun v _ h => row_adr (n := 1) intC_len (by decide) (by exact h.1) hy0) (by omega) (by first | omega | (simp; done))) rfl (fun _ a b => ⟨satNil a, b⟩) ?_
        refine any_takeY 42 rfl (by kernel_rfl) (by kernel_rfl) (by kernel_rfl) rfl rfl (yld_loadR (ad := a2) Tryz.isAgg3 rfl (fun v _ h => by exact h.1) (row_cells intC_len hy0 0 _ rfl)) rfl (fun _ a b => ⟨satNil a, b⟩) ?_
        refine any_takeYB 43 rfl (by kernel_rfl) (by kernel_rfl) (by kernel_rfl) rfl rfl (yld_leq rfl rfl) rfl (fun _ a b => ⟨satNil a, b⟩) fun r17 hr17 => ?_
        refine any_takeY 44 rfl (by kernel_rfl) (by kernel_rfl) (by kernel_rfl) rfl rfl (yld_pick_t rfl rfl) rfl (fun _ a b => ⟨satNil a, b⟩) ?_
        refine any_take 45 rfl (by kernel_rfl) (by kernel_rfl) (by kernel_rfl) (yld_pick_f rfl rfl) rfl (fun _ a b => ⟨satNil a, b⟩) ?_
        refine any_done (by kernel_rfl) ?_
        refine fin_next rfl ?_
        cases r17
        ·
         replace hr17 := of_decide_eq_false hr17
         refine run_cond_f rfl ?_
         refine run_skip ?_
         refine fin_next rfl ?_
         refine run_region ?_
         refine ops_val (yld_move rfl) rfl ?_
         refine ops_val (yld_move rfl) rfl ?_
         cases m
         ·
          refine ops_yes rfl rfl ?_
          refine ops_val (yld_move rfl) rfl ?_
          refine ops_yes rfl rfl ?_
          refine ops_val (yld_move rfl) rfl ?_
          refine ops_yes rfl rfl ?_
          refine ops_val (yld_indexR Tryz.runUnderlying62 Tryz.sizeOf3 rfl rfl (fun v _ h => row_adr (n := 1) intC_len (by decide) (by exact h.1) hy1) (by omega) (by first | omega | (simp; done))) rfl ?_
          refine ops_yes rfl rfl ?_
          refine ops_val (yld_loadR (ad := a2) Tryz.isAgg3 rfl (fun v _ h => by exact h.1) (row_cells intC_len hy1 0 _ rfl)) rfl ?_
          refine ops_yes rfl rfl ?_
          refine ops_val (yld_move rfl) rfl ?_
          refine ops_yes rfl rfl ?_
          refine ops_valB (yld_eql rfl rfl) rfl fun r18 hr18 => ?_
          refine ops_val (yld_pick_f rfl rfl) rfl ?_
          refine ops_val (yld_assign rfl) rfl ?_
          refine ops_nil ?_
          refine fin_next rfl ?_
          refine run_region ?_
          refine ops_val (yld_move rfl) rfl ?_
          refine ops_val (yld_arith rfl rfl rfl (wrap64 (by omega) (by omega))) rfl ?_
          refine ops_val (yld_assign rfl) rfl ?_
          refine ops_nil ?_
          refine fin_inv rfl ?_
          exact ok_again ⟨(k + 1, r18), hly1, (by dsimp only; rw [any_stepG hy1, ← hkm]; exact hr18.symm)⟩ (by dsimp only; omega) ⟨rfl, rfl, rfl, rfl, rfl, trivial⟩ pf_nil (fun _ _ h => h)
         ·
          refine ops_no rfl rfl rfl rfl ?_
          refine ops_no rfl rfl rfl rfl ?_
          refine ops_no rfl rfl rfl rfl ?_
          refine ops_no rfl rfl rfl rfl ?_
          refine ops_no rfl rfl rfl rfl ?_
          refine ops_no rfl rfl rfl rfl ?_
          refine ops_val (yld_pick_t rfl rfl) rfl ?_
          refine ops_val (yld_assign rfl) rfl ?_
          refine ops_nil ?_
          refine fin_next rfl ?_
          refine run_region ?_
          refine ops_val (yld_move rfl) rfl ?_
          refine ops_val (yld_arith rfl rfl rfl (wrap64 (by omega) (by omega))) rfl ?_
          refine ops_val (yld_assign rfl) rfl ?_
          refine ops_nil ?_
          refine fin_inv rfl ?_
          exact ok_again ⟨(k + 1, true), hly1, (by dsimp only; rw [any_stepG hy1, ← hkm]; rfl)⟩ (by dsimp only; omega) ⟨rfl, rfl, rfl, rfl, rfl, trivial⟩ pf_nil (fun _ _ h => h)
        ·
         replace hr17 := of_decide_eq_true hr17
         exfalso; have := pw_get hpw hy0 hy1 (by omega); omega
      ·
       replace hr14 := ne_of_bne hr14
       exfalso; exact hr14 hfj
     ·
      replace hr13 := of_decide_eq_true hr13
      exfalso; omega
    ·
     replace hr12 := of_decide_eq_true hr12
     exfalso; omega

end Go.Proofs.YtoafjmalfclpoaaGreatDoor
