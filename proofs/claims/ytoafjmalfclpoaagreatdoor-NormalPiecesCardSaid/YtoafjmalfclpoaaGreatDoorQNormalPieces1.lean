/-
  Part of the proof of the law NormalPieces over this seat (no condition).
-/
import Derived.Test.YtoafjmalfclpoaaGreatDoorPk2
import Derived.Lib.SlicesCompact
import Derived.Sort.EncStr
import Derived.Laws.OwnMore
import Derived.Test.YtoafjmalfclpoaaGreatDoorProg
set_option linter.unusedVariables false
set_option linter.unusedSimpArgs false
set_option linter.unusedSectionVars false
/-
  My own contracts.
-/
namespace Go.Proofs.YtoafjmalfclpoaaGreatDoor
open Go Go.Sx Go.Proofs
set_option linter.unusedVariables false
attribute [local irreducible] Code.wp wpList wpAnyH

open Go.Vs
theorem rletter_c (c : UInt8) :
  Fn0 Tryz.prog 164 #[.int .u8 (c.toNat : Int)] (.bool (letterS c)) := by
 refine tri_of_body Tryz.func164 rfl rfl Tryz.ntmps164 rfl fun v0 => ?_
 refine run_seq (run_region (ops_val (yld_assign rfl) rfl (ops_nil (fin_next rfl (run_seq (run_region (ops_val (yld_move rfl) rfl ?_)))))))
 refine ops_valB (yld_geq rfl rfl) rfl fun r1 hr1 => ?_
 refine ops_val (yld_move rfl) rfl ?_
 cases r1
 ·
  replace hr1 := of_decide_eq_false hr1
  refine ops_no rfl rfl rfl rfl (ops_no rfl rfl rfl rfl (ops_val (yld_pick_f rfl rfl) rfl ?_))
  refine ops_val (yld_move rfl) rfl (ops_yes rfl rfl (ops_val (yld_move rfl) rfl (ops_yes rfl rfl (ops_valB (yld_geq rfl rfl) rfl fun r2 hr2 => ?_))))
  refine ops_yes rfl rfl (ops_val (yld_move rfl) rfl ?_)
  cases r2
  ·
   replace hr2 := of_decide_eq_false hr2
   refine ops_no rfl rfl rfl rfl (ops_no rfl rfl rfl rfl (ops_yes rfl rfl (ops_val (yld_pick_f rfl rfl) rfl ?_)))
   refine ops_val (yld_pick_f rfl rfl) rfl ?_
   refine ops_val (yld_assign rfl) rfl (ops_nil (fin_next rfl (run_ret ?_)))
   exact ret1 Tryz.results164 () (get_bool rfl (by subst_vars; rw [Bool.eq_iff_iff]; simp [letterS] <;> omega)) (.refl _) (fun _ _ _ => trivial)
  ·
   replace hr2 := of_decide_eq_true hr2
   refine ops_yes rfl rfl (ops_val (yld_move rfl) rfl (ops_yes rfl rfl (ops_valB (yld_leq rfl rfl) rfl fun r3 hr3 => ?_)))
   refine ops_yes rfl rfl (ops_val (yld_pick_t rfl rfl) rfl ?_)
   refine ops_val (yld_pick_f rfl rfl) rfl ?_
   refine ops_val (yld_assign rfl) rfl (ops_nil (fin_next rfl (run_ret ?_)))
   exact ret1 Tryz.results164 () (get_bool rfl (by subst_vars; rw [Bool.eq_iff_iff]; simp [letterS] <;> omega)) (.refl _) (fun _ _ _ => trivial)
 ·
  replace hr1 := of_decide_eq_true hr1
  refine ops_yes rfl rfl (ops_val (yld_move rfl) rfl (ops_yes rfl rfl (ops_valB (yld_leq rfl rfl) rfl fun r4 hr4 => ?_)))
  refine ops_val (yld_pick_t rfl rfl) rfl ?_
  refine ops_val (yld_move rfl) rfl ?_
  cases r4
  ·
   replace hr4 := of_decide_eq_false hr4
   refine ops_yes rfl rfl (ops_val (yld_move rfl) rfl (ops_yes rfl rfl (ops_valB (yld_geq rfl rfl) rfl fun r5 hr5 => ?_)))
   refine ops_yes rfl rfl (ops_val (yld_move rfl) rfl ?_)
   cases r5
   ·
    replace hr5 := of_decide_eq_false hr5
    refine ops_no rfl rfl rfl rfl (ops_no rfl rfl rfl rfl (ops_yes rfl rfl (ops_val (yld_pick_f rfl rfl) rfl ?_)))
    refine ops_val (yld_pick_f rfl rfl) rfl ?_
    refine ops_val (yld_assign rfl) rfl (ops_nil (fin_next rfl (run_ret ?_)))
    exact ret1 Tryz.results164 () (get_bool rfl (by subst_vars; rw [Bool.eq_iff_iff]; simp [letterS] <;> omega)) (.refl _) (fun _ _ _ => trivial)
   ·
    replace hr5 := of_decide_eq_true hr5
    refine ops_yes rfl rfl (ops_val (yld_move rfl) rfl (ops_yes rfl rfl (ops_valB (yld_leq rfl rfl) rfl fun r6 hr6 => ?_)))
    refine ops_yes rfl rfl (ops_val (yld_pick_t rfl rfl) rfl ?_)
    refine ops_val (yld_pick_f rfl rfl) rfl ?_
    refine ops_val (yld_assign rfl) rfl (ops_nil (fin_next rfl (run_ret ?_)))
    exact ret1 Tryz.results164 () (get_bool rfl (by subst_vars; rw [Bool.eq_iff_iff]; simp [letterS] <;> omega)) (.refl _) (fun _ _ _ => trivial)
  ·
   replace hr4 := of_decide_eq_true hr4
   refine ops_no rfl rfl rfl rfl (ops_no rfl rfl rfl rfl (ops_no rfl rfl rfl rfl (ops_no rfl rfl rfl rfl (ops_no rfl rfl rfl rfl (ops_no rfl rfl rfl rfl (ops_val (yld_pick_t rfl rfl) rfl ?_))))))
   refine ops_val (yld_assign rfl) rfl (ops_nil (fin_next rfl (run_ret ?_)))
   exact ret1 Tryz.results164 () (get_bool rfl (by subst_vars; rw [Bool.eq_iff_iff]; simp [letterS] <;> omega)) (.refl _) (fun _ _ _ => trivial)

theorem rinner_c (c : UInt8) :
  Fn0 Tryz.prog 166 #[.int .u8 (c.toNat : Int)] (.bool (innerS c)) := by
 refine tri_of_body Tryz.func166 rfl rfl Tryz.ntmps166 rfl fun v0 => ?_
 refine run_seq (run_region (ops_val (yld_assign rfl) rfl (ops_nil (fin_next rfl (run_seq (run_region (ops_val (yld_move rfl) rfl ?_)))))))
 refine ops_callB (rletter_c _) rfl (.refl _) (fun _ _ _ => trivial) rfl fun r1 hr1 => ?_
 refine ops_val (yld_move rfl) rfl ?_
 cases r1
 ·
  refine ops_yes rfl rfl (ops_val (yld_move rfl) rfl (ops_yes rfl rfl (ops_valB (yld_geq rfl rfl) rfl fun r2 hr2 => ?_)))
  refine ops_yes rfl rfl (ops_val (yld_move rfl) rfl ?_)
  cases r2
  ·
   replace hr2 := of_decide_eq_false hr2
   refine ops_no rfl rfl rfl rfl (ops_no rfl rfl rfl rfl (ops_yes rfl rfl (ops_val (yld_pick_f rfl rfl) rfl ?_)))
   refine ops_val (yld_pick_f rfl rfl) rfl ?_
   refine ops_val (yld_move rfl) rfl (ops_yes rfl rfl (ops_val (yld_move rfl) rfl (ops_yes rfl rfl (ops_valB (yld_eql rfl rfl) rfl fun r3 hr3 => ?_))))
   refine ops_val (yld_pick_f rfl rfl) rfl ?_
   refine ops_val (yld_assign rfl) rfl (ops_nil (fin_next rfl (run_ret ?_)))
   exact ret1 Tryz.results166 () (get_bool rfl (by subst_vars; rw [Bool.eq_iff_iff]; simp [innerS, *] <;> omega)) (.refl _) (fun _ _ _ => trivial)
  ·
   replace hr2 := of_decide_eq_true hr2
   refine ops_yes rfl rfl (ops_val (yld_move rfl) rfl (ops_yes rfl rfl (ops_valB (yld_leq rfl rfl) rfl fun r4 hr4 => ?_)))
   refine ops_yes rfl rfl (ops_val (yld_pick_t rfl rfl) rfl ?_)
   refine ops_val (yld_pick_f rfl rfl) rfl ?_
   refine ops_val (yld_move rfl) rfl ?_
   cases r4
   ·
    replace hr4 := of_decide_eq_false hr4
    refine ops_yes rfl rfl (ops_val (yld_move rfl) rfl (ops_yes rfl rfl (ops_valB (yld_eql rfl rfl) rfl fun r5 hr5 => ?_)))
    refine ops_val (yld_pick_f rfl rfl) rfl ?_
    refine ops_val (yld_assign rfl) rfl (ops_nil (fin_next rfl (run_ret ?_)))
    exact ret1 Tryz.results166 () (get_bool rfl (by subst_vars; rw [Bool.eq_iff_iff]; simp [innerS, *] <;> omega)) (.refl _) (fun _ _ _ => trivial)
   ·
    replace hr4 := of_decide_eq_true hr4
    refine ops_no rfl rfl rfl rfl (ops_no rfl rfl rfl rfl (ops_val (yld_pick_t rfl rfl) rfl ?_))
    refine ops_val (yld_assign rfl) rfl (ops_nil (fin_next rfl (run_ret ?_)))
    exact ret1 Tryz.results166 () (get_bool rfl (by subst_vars; rw [Bool.eq_iff_iff]; simp [innerS, *] <;> omega)) (.refl _) (fun _ _ _ => trivial)
 ·
  refine ops_no rfl rfl rfl rfl (ops_no rfl rfl rfl rfl (ops_no rfl rfl rfl rfl (ops_no rfl rfl rfl rfl (ops_no rfl rfl rfl rfl (ops_no rfl rfl rfl rfl (ops_val (yld_pick_t rfl rfl) rfl ?_))))))
  refine ops_val (yld_move rfl) rfl (ops_no rfl rfl rfl rfl (ops_no rfl rfl rfl rfl (ops_val (yld_pick_t rfl rfl) rfl ?_)))
  refine ops_val (yld_assign rfl) rfl (ops_nil (fin_next rfl (run_ret ?_)))
  exact ret1 Tryz.results166 () (get_bool rfl (by subst_vars; rw [Bool.eq_iff_iff]; simp [innerS, *] <;> omega)) (.refl _) (fun _ _ _ => trivial)

theorem rkeyword_c (s : Str) :
  Fn0 Tryz.prog 165 #[str s] (.bool (keywordS s)) := by
 refine tri_of_body Tryz.func165 rfl rfl Tryz.ntmps165 rfl fun v0 => ?_
 refine run_seq (run_region (ops_val (yld_assign rfl) rfl (ops_nil (fin_next rfl (run_seq (run_seq (run_region ?_)))))))
 refine ops_val (yld_move rfl) rfl (ops_nil (fin_next rfl (run_block (run_seq (run_seq (run_region (ops_valB (yld_seql rfl rfl) rfl fun r1 hr1 => ?_)))))))
 refine ops_val (yld_assign rfl) rfl (ops_nil (fin_next rfl ?_))
 cases r1
 ·
  replace hr1 := ne_of_beq_false hr1
  refine run_cond_f rfl (run_seq (run_region (ops_valB (yld_seql rfl rfl) rfl fun r2 hr2 => ?_)))
  refine ops_val (yld_assign rfl) rfl (ops_nil (fin_next rfl ?_))
  cases r2
  ·
   replace hr2 := ne_of_beq_false hr2
   refine run_cond_f rfl (run_seq (run_region (ops_valB (yld_seql rfl rfl) rfl fun r3 hr3 => ?_)))
   refine ops_val (yld_assign rfl) rfl (ops_nil (fin_next rfl ?_))
   cases r3
   ·
    replace hr3 := ne_of_beq_false hr3
    refine run_cond_f rfl (run_seq (run_region (ops_valB (yld_seql rfl rfl) rfl fun r4 hr4 => ?_)))
    refine ops_val (yld_assign rfl) rfl (ops_nil (fin_next rfl ?_))
    cases r4
    ·
     replace hr4 := ne_of_beq_false hr4
     refine run_cond_f rfl (run_seq (run_region (ops_valB (yld_seql rfl rfl) rfl fun r5 hr5 => ?_)))
     refine ops_val (yld_assign rfl) rfl (ops_nil (fin_next rfl ?_))
     cases r5
     ·
      replace hr5 := ne_of_beq_false hr5
      refine run_cond_f rfl (run_seq (run_region (ops_valB (yld_seql rfl rfl) rfl fun r6 hr6 => ?_)))
      refine ops_val (yld_assign rfl) rfl (ops_nil (fin_next rfl ?_))
      cases r6
      ·
       replace hr6 := ne_of_beq_false hr6
       refine run_cond_f rfl (run_seq (run_region (ops_valB (yld_seql rfl rfl) rfl fun r7 hr7 => ?_)))
       refine ops_val (yld_assign rfl) rfl (ops_nil (fin_next rfl ?_))
       cases r7
       ·
        replace hr7 := ne_of_beq_false hr7
        refine run_cond_f rfl (run_seq (run_region (ops_valB (yld_seql rfl rfl) rfl fun r8 hr8 => ?_)))
        refine ops_val (yld_assign rfl) rfl (ops_nil (fin_next rfl ?_))
        cases r8
        ·
         replace hr8 := ne_of_beq_false hr8
         refine run_cond_f rfl (run_seq (run_region (ops_valB (yld_seql rfl rfl) rfl fun r9 hr9 => ?_)))
         refine ops_val (yld_assign rfl) rfl (ops_nil (fin_next rfl ?_))
         cases r9
         ·
          replace hr9 := ne_of_beq_false hr9
          refine run_cond_f rfl (run_seq (run_region (ops_valB (yld_seql rfl rfl) rfl fun r10 hr10 => ?_)))
          refine ops_val (yld_assign rfl) rfl (ops_nil (fin_next rfl ?_))
          cases r10
          ·
           replace hr10 := ne_of_beq_false hr10
           refine run_cond_f rfl (run_seq (run_region (ops_valB (yld_seql rfl rfl) rfl fun r11 hr11 => ?_)))
           refine ops_val (yld_assign rfl) rfl (ops_nil (fin_next rfl ?_))
           cases r11
           ·
            replace hr11 := ne_of_beq_false hr11
            refine run_cond_f rfl (run_seq (run_region (ops_valB (yld_seql rfl rfl) rfl fun r12 hr12 => ?_)))
            refine ops_val (yld_assign rfl) rfl (ops_nil (fin_next rfl ?_))
            cases r12
            ·
             replace hr12 := ne_of_beq_false hr12
             refine run_cond_f rfl (run_seq (run_region (ops_valB (yld_seql rfl rfl) rfl fun r13 hr13 => ?_)))
             refine ops_val (yld_assign rfl) rfl (ops_nil (fin_next rfl ?_))
             cases r13
             ·
              replace hr13 := ne_of_beq_false hr13
              refine run_cond_f rfl (run_seq (run_region (ops_valB (yld_seql rfl rfl) rfl fun r14 hr14 => ?_)))
              refine ops_val (yld_assign rfl) rfl (ops_nil (fin_next rfl ?_))
              cases r14
              ·
               replace hr14 := ne_of_beq_false hr14
               refine run_cond_f rfl (run_seq (run_region (ops_valB (yld_seql rfl rfl) rfl fun r15 hr15 => ?_)))
               refine ops_val (yld_assign rfl) rfl (ops_nil (fin_next rfl ?_))
               cases r15
               ·
                replace hr15 := ne_of_beq_false hr15
                refine run_cond_f rfl (run_seq (run_region (ops_valB (yld_seql rfl rfl) rfl fun r16 hr16 => ?_)))
                refine ops_val (yld_assign rfl) rfl (ops_nil (fin_next rfl ?_))
                cases r16
                ·
                 replace hr16 := ne_of_beq_false hr16
                 refine run_cond_f rfl (run_seq (run_region (ops_valB (yld_seql rfl rfl) rfl fun r17 hr17 => ?_)))
                 refine ops_val (yld_assign rfl) rfl (ops_nil (fin_next rfl ?_))
                 cases r17
                 ·
                  replace hr17 := ne_of_beq_false hr17
                  refine run_cond_f rfl (run_seq (run_region (ops_valB (yld_seql rfl rfl) rfl fun r18 hr18 => ?_)))
                  refine ops_val (yld_assign rfl) rfl (ops_nil (fin_next rfl ?_))
                  cases r18
                  ·
                   replace hr18 := ne_of_beq_false hr18
                   refine run_cond_f rfl (run_seq (run_region (ops_valB (yld_seql rfl rfl) rfl fun r19 hr19 => ?_)))
                   refine ops_val (yld_assign rfl) rfl (ops_nil (fin_next rfl ?_))
                   cases r19
                   ·
                    replace hr19 := ne_of_beq_false hr19
                    refine run_cond_f rfl (run_seq (run_region (ops_valB (yld_seql rfl rfl) rfl fun r20 hr20 => ?_)))
                    refine ops_val (yld_assign rfl) rfl (ops_nil (fin_next rfl ?_))
                    cases r20
                    ·
                     replace hr20 := ne_of_beq_false hr20
                     refine run_cond_f rfl (run_seq (run_region (ops_valB (yld_seql rfl rfl) rfl fun r21 hr21 => ?_)))
                     refine ops_val (yld_assign rfl) rfl (ops_nil (fin_next rfl ?_))
                     cases r21
                     ·
                      replace hr21 := ne_of_beq_false hr21
                      refine run_cond_f rfl (run_region (ops_valB (yld_seql rfl rfl) rfl fun r22 hr22 => ?_))
                      refine ops_val (yld_assign rfl) rfl (ops_nil (fin_next rfl ?_))
                      cases r22
                      ·
                       replace hr22 := ne_of_beq_false hr22
                       refine run_cond_f rfl (run_skip (fin_next rfl (run_seq (run_region (ops_val (yld_assign rfl) rfl (ops_nil (fin_next rfl ?_)))))))
                       refine run_ret ?_
                       exact ret1 Tryz.results165 () (get_bool rfl (by simp [keywordS, kws, *])) (.refl _) (fun _ _ _ => trivial)
                      ·
                       replace hr22 := eq_of_beq hr22
                       refine run_cond_t rfl (run_seq (run_region (ops_val (yld_assign rfl) rfl (ops_nil (fin_next rfl (run_ret ?_))))))
                       exact ret1 Tryz.results165 () (get_bool rfl (by simp [keywordS, kws, *])) (.refl _) (fun _ _ _ => trivial)
                     ·
                      replace hr21 := eq_of_beq hr21
                      refine run_cond_t rfl (run_skip (fin_next rfl (run_cond_t rfl (run_seq (run_region (ops_val (yld_assign rfl) rfl (ops_nil ?_)))))))
                      refine fin_next rfl (run_ret ?_)
                      exact ret1 Tryz.results165 () (get_bool rfl (by simp [keywordS, kws, *])) (.refl _) (fun _ _ _ => trivial)
                    ·
                     replace hr20 := eq_of_beq hr20
                     refine run_cond_t rfl (run_skip (fin_next rfl (run_cond_t rfl (run_seq (run_region (ops_val (yld_assign rfl) rfl (ops_nil ?_)))))))
                     refine fin_next rfl (run_ret ?_)
                     exact ret1 Tryz.results165 () (get_bool rfl (by simp [keywordS, kws, *])) (.refl _) (fun _ _ _ => trivial)
                   ·
                    replace hr19 := eq_of_beq hr19
                    refine run_cond_t rfl (run_skip (fin_next rfl (run_cond_t rfl (run_seq (run_region (ops_val (yld_assign rfl) rfl (ops_nil ?_)))))))
                    refine fin_next rfl (run_ret ?_)
                    exact ret1 Tryz.results165 () (get_bool rfl (by simp [keywordS, kws, *])) (.refl _) (fun _ _ _ => trivial)
                  ·
                   replace hr18 := eq_of_beq hr18
                   refine run_cond_t rfl (run_skip (fin_next rfl (run_cond_t rfl (run_seq (run_region (ops_val (yld_assign rfl) rfl (ops_nil ?_)))))))
                   refine fin_next rfl (run_ret ?_)
                   exact ret1 Tryz.results165 () (get_bool rfl (by simp [keywordS, kws, *])) (.refl _) (fun _ _ _ => trivial)
                 ·
                  replace hr17 := eq_of_beq hr17
                  refine run_cond_t rfl (run_skip (fin_next rfl (run_cond_t rfl (run_seq (run_region (ops_val (yld_assign rfl) rfl (ops_nil ?_)))))))
                  refine fin_next rfl (run_ret ?_)
                  exact ret1 Tryz.results165 () (get_bool rfl (by simp [keywordS, kws, *])) (.refl _) (fun _ _ _ => trivial)
                ·
                 replace hr16 := eq_of_beq hr16
                 refine run_cond_t rfl (run_skip (fin_next rfl (run_cond_t rfl (run_seq (run_region (ops_val (yld_assign rfl) rfl (ops_nil ?_)))))))
                 refine fin_next rfl (run_ret ?_)
                 exact ret1 Tryz.results165 () (get_bool rfl (by simp [keywordS, kws, *])) (.refl _) (fun _ _ _ => trivial)
               ·
                replace hr15 := eq_of_beq hr15
                refine run_cond_t rfl (run_skip (fin_next rfl (run_cond_t rfl (run_seq (run_region (ops_val (yld_assign rfl) rfl (ops_nil ?_)))))))
                refine fin_next rfl (run_ret ?_)
                exact ret1 Tryz.results165 () (get_bool rfl (by simp [keywordS, kws, *])) (.refl _) (fun _ _ _ => trivial)
              ·
               replace hr14 := eq_of_beq hr14
               refine run_cond_t rfl (run_skip (fin_next rfl (run_cond_t rfl (run_seq (run_region (ops_val (yld_assign rfl) rfl (ops_nil ?_)))))))
               refine fin_next rfl (run_ret ?_)
               exact ret1 Tryz.results165 () (get_bool rfl (by simp [keywordS, kws, *])) (.refl _) (fun _ _ _ => trivial)
             ·
              replace hr13 := eq_of_beq hr13
              refine run_cond_t rfl (run_skip (fin_next rfl (run_cond_t rfl (run_seq (run_region (ops_val (yld_assign rfl) rfl (ops_nil ?_)))))))
              refine fin_next rfl (run_ret ?_)
              exact ret1 Tryz.results165 () (get_bool rfl (by simp [keywordS, kws, *])) (.refl _) (fun _ _ _ => trivial)
            ·
             replace hr12 := eq_of_beq hr12
             refine run_cond_t rfl (run_skip (fin_next rfl (run_cond_t rfl (run_seq (run_region (ops_val (yld_assign rfl) rfl (ops_nil ?_)))))))
             refine fin_next rfl (run_ret ?_)
             exact ret1 Tryz.results165 () (get_bool rfl (by simp [keywordS, kws, *])) (.refl _) (fun _ _ _ => trivial)
           ·
            replace hr11 := eq_of_beq hr11
            refine run_cond_t rfl (run_skip (fin_next rfl (run_cond_t rfl (run_seq (run_region (ops_val (yld_assign rfl) rfl (ops_nil ?_)))))))
            refine fin_next rfl (run_ret ?_)
            exact ret1 Tryz.results165 () (get_bool rfl (by simp [keywordS, kws, *])) (.refl _) (fun _ _ _ => trivial)
          ·
           replace hr10 := eq_of_beq hr10
           refine run_cond_t rfl (run_skip (fin_next rfl (run_cond_t rfl (run_seq (run_region (ops_val (yld_assign rfl) rfl (ops_nil ?_)))))))
           refine fin_next rfl (run_ret ?_)
           exact ret1 Tryz.results165 () (get_bool rfl (by simp [keywordS, kws, *])) (.refl _) (fun _ _ _ => trivial)
         ·
          replace hr9 := eq_of_beq hr9
          refine run_cond_t rfl (run_skip (fin_next rfl (run_cond_t rfl (run_seq (run_region (ops_val (yld_assign rfl) rfl (ops_nil ?_)))))))
          refine fin_next rfl (run_ret ?_)
          exact ret1 Tryz.results165 () (get_bool rfl (by simp [keywordS, kws, *])) (.refl _) (fun _ _ _ => trivial)
        ·
         replace hr8 := eq_of_beq hr8
         refine run_cond_t rfl (run_skip (fin_next rfl (run_cond_t rfl (run_seq (run_region (ops_val (yld_assign rfl) rfl (ops_nil ?_)))))))
         refine fin_next rfl (run_ret ?_)
         exact ret1 Tryz.results165 () (get_bool rfl (by simp [keywordS, kws, *])) (.refl _) (fun _ _ _ => trivial)
       ·
        replace hr7 := eq_of_beq hr7
        refine run_cond_t rfl (run_skip (fin_next rfl (run_cond_t rfl (run_seq (run_region (ops_val (yld_assign rfl) rfl (ops_nil ?_)))))))
        refine fin_next rfl (run_ret ?_)
        exact ret1 Tryz.results165 () (get_bool rfl (by simp [keywordS, kws, *])) (.refl _) (fun _ _ _ => trivial)
      ·
       replace hr6 := eq_of_beq hr6
       refine run_cond_t rfl (run_skip (fin_next rfl (run_cond_t rfl (run_seq (run_region (ops_val (yld_assign rfl) rfl (ops_nil ?_)))))))
       refine fin_next rfl (run_ret ?_)
       exact ret1 Tryz.results165 () (get_bool rfl (by simp [keywordS, kws, *])) (.refl _) (fun _ _ _ => trivial)
     ·
      replace hr5 := eq_of_beq hr5
      refine run_cond_t rfl (run_skip (fin_next rfl (run_cond_t rfl (run_seq (run_region (ops_val (yld_assign rfl) rfl (ops_nil ?_)))))))
      refine fin_next rfl (run_ret ?_)
      exact ret1 Tryz.results165 () (get_bool rfl (by simp [keywordS, kws, *])) (.refl _) (fun _ _ _ => trivial)
    ·
     replace hr4 := eq_of_beq hr4
     refine run_cond_t rfl (run_skip (fin_next rfl (run_cond_t rfl (run_seq (run_region (ops_val (yld_assign rfl) rfl (ops_nil ?_)))))))
     refine fin_next rfl (run_ret ?_)
     exact ret1 Tryz.results165 () (get_bool rfl (by simp [keywordS, kws, *])) (.refl _) (fun _ _ _ => trivial)
   ·
    replace hr3 := eq_of_beq hr3
    refine run_cond_t rfl (run_skip (fin_next rfl (run_cond_t rfl (run_seq (run_region (ops_val (yld_assign rfl) rfl (ops_nil ?_)))))))
    refine fin_next rfl (run_ret ?_)
    exact ret1 Tryz.results165 () (get_bool rfl (by simp [keywordS, kws, *])) (.refl _) (fun _ _ _ => trivial)
  ·
   replace hr2 := eq_of_beq hr2
   refine run_cond_t rfl (run_skip (fin_next rfl (run_cond_t rfl (run_seq (run_region (ops_val (yld_assign rfl) rfl (ops_nil ?_)))))))
   refine fin_next rfl (run_ret ?_)
   exact ret1 Tryz.results165 () (get_bool rfl (by simp [keywordS, kws, *])) (.refl _) (fun _ _ _ => trivial)
 ·
  replace hr1 := eq_of_beq hr1
  refine run_cond_t rfl (run_skip (fin_next rfl (run_cond_t rfl (run_seq (run_region (ops_val (yld_assign rfl) rfl (ops_nil ?_)))))))
  refine fin_next rfl (run_ret ?_)
  exact ret1 Tryz.results165 () (get_bool rfl (by simp [keywordS, kws, *])) (.refl _) (fun _ _ _ => trivial)

theorem rWord_c (s : Str) (hs : s.length ≤ 140737488351232) :
  Fn0 Tryz.prog 132 #[str s] (.bool (wordS s)) := by
 refine tri_of_body Tryz.func132 rfl rfl Tryz.ntmps132 rfl fun v0 => ?_
 refine run_seq (run_region (ops_val (yld_assign rfl) rfl (ops_nil (fin_next rfl (run_seq (run_seq (run_region ?_)))))))
 refine ops_val (yld_move rfl) rfl (ops_val (yld_lenT Tryz.runUnderlying9 rfl) rfl ?_)
 refine ops_valB (yld_eql rfl rfl) rfl fun r1 hr1 => ?_
 refine ops_val (yld_move rfl) rfl ?_
 cases r1
 ·
  replace hr1 := ne_of_beq_false hr1
  obtain ⟨c, t, es⟩ := List.exists_cons_of_length_pos (l := s) (by omega)
  refine ops_yes rfl rfl (ops_val (yld_move rfl) rfl (ops_yes rfl rfl (ops_val (yld_indexT Tryz.runUnderlying9 rfl rfl (by decide) (show s[(0 : Int).toNat]? = some c by rw [es]; rfl)) rfl ?_)))
  refine ops_yes rfl rfl (ops_callB (rletter_c _) rfl (.refl _) (fun _ _ _ => trivial) rfl fun r2 hr2 => ?_)
  refine ops_yes rfl rfl (ops_val (yld_not rfl) rfl ?_)
  refine ops_val (yld_pick_f rfl rfl) rfl ?_
  refine ops_val (yld_move rfl) rfl ?_
  cases r2
  ·
   refine ops_no rfl rfl rfl rfl (ops_no rfl rfl rfl rfl (ops_val (yld_pick_t rfl rfl) rfl ?_))
   refine ops_nil (fin_next rfl (run_cond_t rfl (run_seq (run_region (ops_val (yld_assign rfl) rfl (ops_nil (fin_next rfl ?_)))))))
   refine run_ret ?_
   exact ret1 Tryz.results132 () (get_bool rfl (by simp_all [wordS])) (.refl _) (fun _ _ _ => trivial)
  ·
   refine ops_yes rfl rfl (ops_val (yld_move rfl) rfl (ops_yes rfl rfl (ops_callB (rkeyword_c _) rfl (.refl _) (fun _ _ _ => trivial) rfl fun r3 hr3 => ?_)))
   refine ops_val (yld_pick_f rfl rfl) rfl ?_
   refine ops_nil (fin_next rfl ?_)
   cases r3
   ·
    have hw : s ≠ [] ∧ letterS (s.headD 0) = true := by subst es; simp_all
    refine run_cond_f rfl (run_skip (fin_next rfl (run_seq (run_seq (run_region (ops_val (yld_assign rfl) rfl (ops_nil ?_)))))))
    refine fin_next rfl (run_block (ok_fr [(0, str s), (3, .int .i64 ((0 : Nat) : Int))] ⟨rfl, rfl, trivial⟩ ?_))
    refine run_loop (ι := {k : Nat // k ≤ s.length ∧ (s.take k).all innerS = true}) (fun i => [(0, str s), (3, .int .i64 (i.1 : Int))]) (fun _ => _) (fun _ => _) (fun i => s.length - i.1) ⟨0, by simp⟩ ?_
    rintro ⟨k, hk⟩
    refine ok_fr [(0, str s), (3, .int .i64 (k : Int))] ⟨rfl, rfl, trivial⟩ ?_
    refine run_seq (run_seq (run_region (ops_val (yld_move rfl) rfl (ops_val (yld_move rfl) rfl (ops_val (yld_lenT Tryz.runUnderlying9 rfl) rfl ?_)))))
    refine ops_valB (yld_lss rfl rfl) rfl fun r4 hr4 => ?_
    refine ops_nil (fin_next rfl ?_)
    cases r4
    ·
     replace hr4 := of_decide_eq_false hr4
     refine run_cond_f rfl (run_exit rfl (fin_next rfl (run_seq (run_region (ops_val (yld_assign rfl) rfl (ops_nil (fin_next rfl ?_)))))))
     refine run_ret ?_
     exact ret1 Tryz.results132 () (get_bool rfl (by have := take_all_end innerS s k (by omega) hk.2; simp_all [wordS, tailS])) (.refl _) (fun _ _ _ => trivial)
    ·
     replace hr4 := of_decide_eq_true hr4
     have hlt : k < s.length := by omega
     obtain ⟨c, hc⟩ : ∃ c, s[k]? = some c := ⟨_, List.getElem?_eq_getElem hlt⟩
     refine run_cond_t rfl (run_skip (fin_next rfl (run_seq (run_block (run_seq (run_region (ops_val (yld_move rfl) rfl ?_)))))))
     refine ops_val (yld_move rfl) rfl (ops_val (yld_indexT Tryz.runUnderlying9 rfl rfl (by omega) hc) rfl ?_)
     refine ops_callB (rinner_c _) rfl (.refl _) (fun _ _ _ => trivial) rfl fun r5 hr5 => ?_
     refine ops_val (yld_not rfl) rfl ?_
     refine ops_nil (fin_next rfl ?_)
     cases r5
     ·
      refine run_cond_t rfl (run_seq (run_region (ops_val (yld_assign rfl) rfl (ops_nil (fin_next rfl (run_ret ?_))))))
      exact ret1 Tryz.results132 () (get_bool rfl (by have := take_all_not innerS s k c hc (by simp [*]); simp_all [wordS, tailS])) (.refl _) (fun _ _ _ => trivial)
     ·
      refine run_cond_f rfl (run_skip (fin_next rfl (run_region (ops_val (yld_move rfl) rfl (ops_val (yld_arith rfl rfl rfl (wrap64 (by omega) (by omega))) rfl ?_)))))
      refine ops_val (yld_assign rfl) rfl (ops_nil (fin_inv rfl ?_))
      exact ok_again ⟨k + 1, hlt, take_all_succ _ s k c hc hk.2 (by simp [*])⟩ (by simp; omega) ⟨rfl, rfl, trivial⟩ (.refl _) (fun _ _ h => h)
   ·
    refine run_cond_t rfl (run_seq (run_region (ops_val (yld_assign rfl) rfl (ops_nil (fin_next rfl (run_ret ?_))))))
    exact ret1 Tryz.results132 () (get_bool rfl (by simp_all [wordS])) (.refl _) (fun _ _ _ => trivial)
 ·
  replace hr1 := eq_of_beq hr1
  have he : s = [] := List.eq_nil_of_length_eq_zero (by omega)
  refine ops_no rfl rfl rfl rfl (ops_no rfl rfl rfl rfl (ops_no rfl rfl rfl rfl (ops_no rfl rfl rfl rfl (ops_val (yld_pick_t rfl rfl) rfl ?_))))
  refine ops_val (yld_move rfl) rfl (ops_no rfl rfl rfl rfl (ops_no rfl rfl rfl rfl (ops_val (yld_pick_t rfl rfl) rfl ?_)))
  refine ops_nil (fin_next rfl (run_cond_t rfl (run_seq (run_region (ops_val (yld_assign rfl) rfl (ops_nil (fin_next rfl ?_)))))))
  refine run_ret ?_
  exact ret1 Tryz.results132 () (get_bool rfl (by simp_all [wordS])) (.refl _) (fun _ _ _ => trivial)

theorem rPlain_c (s : Str) :
  Fn0 Tryz.prog 77 #[str s] (.bool (plainS s)) := by
 refine tri_of_body Tryz.func77 rfl rfl Tryz.ntmps77 rfl fun v0 => ?_
 refine run_seq (run_region (ops_val (yld_assign rfl) rfl (ops_nil (fin_next rfl (run_seq (run_seq (run_region ?_)))))))
 refine ops_val (yld_move rfl) rfl (ops_val (yld_lenT Tryz.runUnderlying9 rfl) rfl ?_)
 refine ops_valB (yld_gtr rfl rfl) rfl fun r1 hr1 => ?_
 refine ops_nil (fin_next rfl ?_)
 cases r1
 ·
  replace hr1 := of_decide_eq_false hr1
  refine run_cond_f rfl (run_skip (fin_next rfl (run_seq (run_seq (run_region (ops_val (yld_assign rfl) rfl (ops_nil ?_)))))))
  refine fin_next rfl (run_block (ok_fr [(0, str s), (3, .int .i64 ((0 : Nat) : Int))] ⟨rfl, rfl, trivial⟩ ?_))
  refine run_loop (ι := {k : Nat // k ≤ s.length ∧ ixS 58 (s.take k) = none}) (fun i => [(0, str s), (3, .int .i64 (i.1 : Int))]) (fun _ => _) (fun _ => _) (fun i => s.length - i.1) ⟨0, by simp [ixS]⟩ ?_
  rintro ⟨k, hk⟩
  refine ok_fr [(0, str s), (3, .int .i64 (k : Int))] ⟨rfl, rfl, trivial⟩ ?_
  refine run_seq (run_seq (run_region (ops_val (yld_move rfl) rfl (ops_val (yld_move rfl) rfl (ops_val (yld_lenT Tryz.runUnderlying9 rfl) rfl ?_)))))
  refine ops_valB (yld_lss rfl rfl) rfl fun r2 hr2 => ?_
  refine ops_nil (fin_next rfl ?_)
  cases r2
  ·
   replace hr2 := of_decide_eq_false hr2
   refine run_cond_f rfl (run_exit rfl (fin_next rfl (run_seq (run_region (ops_val (yld_move rfl) rfl (ops_callB (rWord_c _ (by first | omega | (simp; omega))) rfl (.refl _) (fun _ _ _ => trivial) rfl fun r3 hr3 => ?_))))))
   refine ops_val (yld_assign rfl) rfl (ops_nil (fin_next rfl (run_ret ?_)))
   exact ret1 Tryz.results77 () (get_bool rfl (by rw [plainS, ixS_none s k (by omega) hk.2]; simp_all <;> omega)) (.refl _) (fun _ _ _ => trivial)
  ·
   replace hr2 := of_decide_eq_true hr2
   have hlt : k < s.length := by omega
   obtain ⟨c, hc⟩ : ∃ c, s[k]? = some c := ⟨_, List.getElem?_eq_getElem hlt⟩
   refine run_cond_t rfl (run_skip (fin_next rfl (run_seq (run_block (run_seq (run_region (ops_val (yld_move rfl) rfl ?_)))))))
   refine ops_val (yld_move rfl) rfl (ops_val (yld_indexT Tryz.runUnderlying9 rfl rfl (by omega) hc) rfl ?_)
   refine ops_valB (yld_eql rfl rfl) rfl fun r4 hr4 => ?_
   refine ops_nil (fin_next rfl ?_)
   cases r4
   ·
    replace hr4 := ne_of_beq_false hr4
    refine run_cond_f rfl (run_skip (fin_next rfl (run_region (ops_val (yld_move rfl) rfl (ops_val (yld_arith rfl rfl rfl (wrap64 (by omega) (by omega))) rfl ?_)))))
    refine ops_val (yld_assign rfl) rfl (ops_nil (fin_inv rfl ?_))
    exact ok_again ⟨k + 1, hlt, ixS_step s k c hc hk.2 (by intro e; subst e; simp_all)⟩ (by simp; omega) ⟨rfl, rfl, trivial⟩ (.refl _) (fun _ _ h => h)
   ·
    replace hr4 := eq_of_beq hr4
    obtain rfl : c = 58 := UInt8.toNat_inj.1 (by show c.toNat = 58; omega)
    refine run_cond_t rfl (run_seq (run_region (ops_val (yld_move rfl) rfl (ops_val (yld_move rfl) rfl (ops_val (yld_sliceT (i := 0) (j := k) (kl := .i64) Tryz.runUnderlying9 rfl rfl rfl (by omega) (by omega)) rfl ?_)))))
    refine ops_callB (rWord_c _ (by first | omega | (simp; omega))) rfl (.refl _) (fun _ _ _ => trivial) rfl fun r5 hr5 => ?_
    refine ops_val (yld_move rfl) rfl ?_
    cases r5
    ·
     refine ops_no rfl rfl rfl rfl (ops_no rfl rfl rfl rfl (ops_no rfl rfl rfl rfl (ops_no rfl rfl rfl rfl (ops_no rfl rfl rfl rfl (ops_val (yld_pick_f rfl rfl) rfl ?_)))))
     refine ops_val (yld_assign rfl) rfl (ops_nil (fin_next rfl (run_ret ?_)))
     exact ret1 Tryz.results77 () (get_bool rfl (by rw [plainS, ixS_at s k hc hk.2]; simp_all [List.take_of_length_le] <;> omega)) (.refl _) (fun _ _ _ => trivial)
    ·
     refine ops_yes rfl rfl (ops_val (yld_move rfl) rfl (ops_yes rfl rfl (ops_val (yld_move rfl) rfl (ops_yes rfl rfl (ops_val (yld_arith rfl rfl rfl (wrap64 (by omega) (by omega))) rfl ?_)))))
     refine ops_yes rfl rfl (ops_val (yld_sliceT (i := k + 1) (j := s.length) (kh := .i64) Tryz.runUnderlying9 rfl rfl rfl (by omega) (by omega)) rfl ?_)
     refine ops_yes rfl rfl (ops_callB (rWord_c _ (by first | omega | (simp; omega))) rfl (.refl _) (fun _ _ _ => trivial) rfl fun r6 hr6 => ?_)
     refine ops_val (yld_pick_t rfl rfl) rfl ?_
     refine ops_val (yld_assign rfl) rfl (ops_nil (fin_next rfl (run_ret ?_)))
     exact ret1 Tryz.results77 () (get_bool rfl (by rw [plainS, ixS_at s k hc hk.2]; simp_all [List.take_of_length_le] <;> omega)) (.refl _) (fun _ _ _ => trivial)
 ·
  replace hr1 := of_decide_eq_true hr1
  refine run_cond_t rfl (run_seq (run_region (ops_val (yld_assign rfl) rfl (ops_nil (fin_next rfl (run_ret ?_))))))
  exact ret1 Tryz.results77 () (get_bool rfl (by simp [plainS] <;> omega)) (.refl _) (fun _ _ _ => trivial)

theorem rReserved_c (s : Str) :
  Fn0 Tryz.prog 133 #[str s] (.bool (reservedS s)) := by
 refine tri_of_body Tryz.func133 rfl rfl Tryz.ntmps133 rfl fun v0 => ?_
 refine run_seq (run_region (ops_val (yld_assign rfl) rfl (ops_nil (fin_next rfl (run_seq (run_seq (run_region ?_)))))))
 refine ops_val (yld_move rfl) rfl (ops_val (yld_lenT Tryz.runUnderlying9 rfl) rfl ?_)
 refine ops_valB (yld_lss rfl rfl) rfl fun r1 hr1 => ?_
 refine ops_val (yld_move rfl) rfl ?_
 cases r1
 ·
  replace hr1 := of_decide_eq_false hr1
  refine ops_yes rfl rfl (ops_val (yld_move rfl) rfl (ops_yes rfl rfl (ops_val (yld_lenT Tryz.runUnderlying9 rfl) rfl ?_)))
  refine ops_yes rfl rfl (ops_valB (yld_gtr rfl rfl) rfl fun r2 hr2 => ?_)
  refine ops_val (yld_pick_f rfl rfl) rfl ?_
  refine ops_val (yld_move rfl) rfl ?_
  cases r2
  ·
   replace hr2 := of_decide_eq_false hr2
   obtain ⟨c, t, es⟩ := List.exists_cons_of_length_pos (l := s) (by omega)
   refine ops_yes rfl rfl (ops_val (yld_move rfl) rfl (ops_yes rfl rfl (ops_val (yld_indexT Tryz.runUnderlying9 rfl rfl (by decide) (show s[(0 : Int).toNat]? = some c by rw [es]; rfl)) rfl ?_)))
   refine ops_yes rfl rfl (ops_valB (yld_neq rfl rfl) rfl fun r3 hr3 => ?_)
   refine ops_val (yld_pick_f rfl rfl) rfl ?_
   refine ops_nil (fin_next rfl ?_)
   cases r3
   ·
    replace hr3 := eq_of_bne hr3
    have hq : c.toNat = 95 := by omega
    refine run_cond_f rfl (run_skip (fin_next rfl (run_seq (run_seq (run_region (ops_val (yld_assign rfl) rfl (ops_nil ?_)))))))
    refine fin_next rfl (run_block (ok_fr [(0, str s), (3, .int .i64 ((1 : Nat) : Int))] ⟨rfl, rfl, trivial⟩ ?_))
    refine run_loop (ι := {k : Nat // k ≤ s.length ∧ (s.take k).all innerS = true}) (fun i => [(0, str s), (3, .int .i64 (i.1 : Int))]) (fun _ => _) (fun _ => _) (fun i => s.length - i.1) ⟨1, by omega, by subst es; simp [innerS, hq]⟩ ?_
    rintro ⟨k, hk⟩
    refine ok_fr [(0, str s), (3, .int .i64 (k : Int))] ⟨rfl, rfl, trivial⟩ ?_
    refine run_seq (run_seq (run_region (ops_val (yld_move rfl) rfl (ops_val (yld_move rfl) rfl (ops_val (yld_lenT Tryz.runUnderlying9 rfl) rfl ?_)))))
    refine ops_valB (yld_lss rfl rfl) rfl fun r4 hr4 => ?_
    refine ops_nil (fin_next rfl ?_)
    cases r4
    ·
     replace hr4 := of_decide_eq_false hr4
     refine run_cond_f rfl (run_exit rfl (fin_next rfl (run_seq (run_region (ops_val (yld_assign rfl) rfl (ops_nil (fin_next rfl ?_)))))))
     refine run_ret ?_
     exact ret1 Tryz.results133 () (get_bool rfl (by have := take_all_end innerS s k (by omega) hk.2; subst es; simp [reservedS, tailS, this, hq] <;> simp at * <;> omega)) (.refl _) (fun _ _ _ => trivial)
    ·
     replace hr4 := of_decide_eq_true hr4
     have hlt : k < s.length := by omega
     obtain ⟨c, hc⟩ : ∃ c, s[k]? = some c := ⟨_, List.getElem?_eq_getElem hlt⟩
     refine run_cond_t rfl (run_skip (fin_next rfl (run_seq (run_block (run_seq (run_region (ops_val (yld_move rfl) rfl ?_)))))))
     refine ops_val (yld_move rfl) rfl (ops_val (yld_indexT Tryz.runUnderlying9 rfl rfl (by omega) hc) rfl ?_)
     refine ops_callB (rinner_c _) rfl (.refl _) (fun _ _ _ => trivial) rfl fun r5 hr5 => ?_
     refine ops_val (yld_not rfl) rfl ?_
     refine ops_nil (fin_next rfl ?_)
     cases r5
     ·
      refine run_cond_t rfl (run_seq (run_region (ops_val (yld_assign rfl) rfl (ops_nil (fin_next rfl (run_ret ?_))))))
      exact ret1 Tryz.results133 () (get_bool rfl (by have := take_all_not innerS s k c hc (by simp [*]); simp [reservedS, tailS, this])) (.refl _) (fun _ _ _ => trivial)
     ·
      refine run_cond_f rfl (run_skip (fin_next rfl (run_region (ops_val (yld_move rfl) rfl (ops_val (yld_arith rfl rfl rfl (wrap64 (by omega) (by omega))) rfl ?_)))))
      refine ops_val (yld_assign rfl) rfl (ops_nil (fin_inv rfl ?_))
      exact ok_again ⟨k + 1, hlt, take_all_succ _ s k c hc hk.2 (by simp [*])⟩ (by simp; omega) ⟨rfl, rfl, trivial⟩ (.refl _) (fun _ _ h => h)
   ·
    replace hr3 := ne_of_bne hr3
    refine run_cond_t rfl (run_seq (run_region (ops_val (yld_assign rfl) rfl (ops_nil (fin_next rfl (run_ret ?_))))))
    exact ret1 Tryz.results133 () (get_bool rfl (by first | (simp [reservedS] <;> omega) | (subst es; simp [reservedS] <;> omega))) (.refl _) (fun _ _ _ => trivial)
  ·
   replace hr2 := of_decide_eq_true hr2
   refine ops_no rfl rfl rfl rfl (ops_no rfl rfl rfl rfl (ops_no rfl rfl rfl rfl (ops_val (yld_pick_t rfl rfl) rfl ?_)))
   refine ops_nil (fin_next rfl (run_cond_t rfl (run_seq (run_region (ops_val (yld_assign rfl) rfl (ops_nil (fin_next rfl ?_)))))))
   refine run_ret ?_
   exact ret1 Tryz.results133 () (get_bool rfl (by first | (simp [reservedS] <;> omega) | (subst es; simp [reservedS] <;> omega))) (.refl _) (fun _ _ _ => trivial)
 ·
  replace hr1 := of_decide_eq_true hr1
  refine ops_no rfl rfl rfl rfl (ops_no rfl rfl rfl rfl (ops_no rfl rfl rfl rfl (ops_val (yld_pick_t rfl rfl) rfl ?_)))
  refine ops_val (yld_move rfl) rfl (ops_no rfl rfl rfl rfl (ops_no rfl rfl rfl rfl (ops_no rfl rfl rfl rfl (ops_val (yld_pick_t rfl rfl) rfl ?_))))
  refine ops_nil (fin_next rfl (run_cond_t rfl (run_seq (run_region (ops_val (yld_assign rfl) rfl (ops_nil (fin_next rfl ?_)))))))
  refine run_ret ?_
  exact ret1 Tryz.results133 () (get_bool rfl (by first | (simp [reservedS] <;> omega) | (subst es; simp [reservedS] <;> omega))) (.refl _) (fun _ _ _ => trivial)

theorem rPerson_c (s : Str) :
    Fn0 Tryz.prog 78 #[str s] (.bool (personS s)) := by
  refine tri_of_body Tryz.func78 rfl rfl Tryz.ntmps78 rfl fun v0 => ?_
  refine run_seq (run_region (ops_val (yld_assign rfl) rfl (ops_nil (fin_next rfl (run_seq (run_region (ops_val (yld_move rfl) rfl ?_)))))))
  refine ops_callB (rPlain_c _) rfl (.refl _) (fun _ _ _ => trivial) rfl fun r1 hr1 => ?_
  refine ops_val (yld_move rfl) rfl ?_
  cases r1
  · skip
    refine ops_yes rfl rfl (ops_val (yld_move rfl) rfl (ops_yes rfl rfl (ops_callB (rReserved_c _) rfl (.refl _) (fun _ _ _ => trivial) rfl fun r2 hr2 => ?_)))
    refine ops_val (yld_pick_f rfl rfl) rfl ?_
    refine ops_val (yld_assign rfl) rfl (ops_nil (fin_next rfl (run_ret ?_)))
    exact ret1 Tryz.results78 () (get_bool rfl (by simp [personS, *])) (.refl _) (fun _ _ _ => trivial)
  · skip
    refine ops_no rfl rfl rfl rfl (ops_no rfl rfl rfl rfl (ops_val (yld_pick_t rfl rfl) rfl ?_))
    refine ops_val (yld_assign rfl) rfl (ops_nil (fin_next rfl (run_ret ?_)))
    exact ret1 Tryz.results78 () (get_bool rfl (by simp [personS, *])) (.refl _) (fun _ _ _ => trivial)

theorem rCheckName_c (s : Str) :
    Fn0 Tryz.prog 126 #[str s] (.int .i64 (if personS s then 0 else 20)) := by
  refine tri_of_body Tryz.func126 rfl rfl Tryz.ntmps126 rfl fun v0 => ?_
  refine run_seq (run_region (ops_val (yld_assign rfl) rfl (ops_nil (fin_next rfl (run_seq (run_seq (run_region ?_)))))))
  refine ops_val (yld_move rfl) rfl (ops_callB (rPerson_c _) rfl (.refl _) (fun _ _ _ => trivial) rfl fun r1 hr1 => ?_)
  refine ops_val (yld_not rfl) rfl ?_
  refine ops_nil (fin_next rfl ?_)
  cases r1
  · skip
    refine run_cond_t rfl (run_seq (run_region (ops_val (yld_assign rfl) rfl (ops_nil (fin_next rfl (run_ret ?_))))))
    exact ret1 Tryz.results126 () (get_int rfl (by simp [*])) (.refl _) (fun _ _ _ => trivial)
  · skip
    refine run_cond_f rfl (run_skip (fin_next rfl (run_seq (run_region (ops_val (yld_assign rfl) rfl (ops_nil (fin_next rfl ?_)))))))
    refine run_ret ?_
    exact ret1 Tryz.results126 () (get_int rfl (by simp [*])) (.refl _) (fun _ _ _ => trivial)

end Go.Proofs.YtoafjmalfclpoaaGreatDoor

/-
  Atoms and roles of what is valid are valid; sizes; sub-concepts of valid concepts are valid.
-/
namespace Go.Vs
open Go Go.Sx
/-! ### names -/
theorem word_ne {s : Str} (h : wordS s = true) : ∃ c t, s = c :: t ∧ letterS c = true ∧ tailS s = true := by
  cases s with
  | nil => simp [wordS] at h
  | cons c t =>
    simp only [wordS, Bool.and_eq_true] at h
    exact ⟨c, t, rfl, h.1.1.2, h.1.2⟩
theorem plain_head {s : Str} (h : plainS s = true) : ∃ c t, s = c :: t ∧ letterS c = true := by
  unfold plainS at h
  simp only [Bool.and_eq_true] at h
  cases hx : ixS 58 s with
  | none => rw [hx] at h; obtain ⟨c, t, h1, h2, _⟩ := word_ne h.2; exact ⟨c, t, h1, h2⟩
  | some k =>
    rw [hx] at h
    simp only [Bool.and_eq_true] at h
    obtain ⟨c, t, h1, h2, _⟩ := word_ne h.2.1
    cases s with
    | nil => simp at h1
    | cons d u =>
      cases k with
      | zero => simp at h1
      | succ k => simp only [List.take_succ_cons, List.cons.injEq] at h1; exact ⟨d, u, rfl, h1.1 ▸ h2⟩
theorem tail_mem {s : Str} (h : tailS s = true) : ∀ c ∈ s, innerS c = true := fun c hc => List.all_eq_true.1 h c hc
theorem ixS_split {c : UInt8} {s : Str} {k : Nat} (h : ixS c s = some k) : s = s.take k ++ c :: s.drop (k + 1) := by
  induction s generalizing k with
  | nil => simp [ixS] at h
  | cons b s ih =>
    simp only [ixS] at h
    split at h
    · rename_i hb
      simp only [Option.some.injEq] at h
      subst h; subst hb; simp
    · cases hx : ixS c s with
      | none => rw [hx] at h; simp at h
      | some j =>
        rw [hx] at h
        simp only [Option.map_some, Option.some.injEq] at h
        subst h
        simp only [List.take_succ_cons, List.drop_succ_cons, List.cons_append]
        rw [← ih hx]
theorem plain_mem {s : Str} (h : plainS s = true) : ∀ c ∈ s, innerS c = true ∨ c = 58 := by
  unfold plainS at h
  simp only [Bool.and_eq_true] at h
  cases hx : ixS 58 s with
  | none => rw [hx] at h; obtain ⟨_, _, _, _, h3⟩ := word_ne h.2; exact fun c hc => .inl (tail_mem h3 c hc)
  | some k =>
    rw [hx] at h
    simp only [Bool.and_eq_true] at h
    obtain ⟨_, _, _, _, h3⟩ := word_ne h.2.1
    obtain ⟨_, _, _, _, h4⟩ := word_ne h.2.2
    intro c hc
    rw [ixS_split hx] at hc
    rcases List.mem_append.1 hc with hc | hc
    · exact .inl (tail_mem h3 c hc)
    · rcases List.mem_cons.1 hc with rfl | hc
      · exact .inr rfl
      · exact .inl (tail_mem h4 c hc)
theorem ixS_not_mem {c : UInt8} : ∀ {s : Str}, c ∉ s → ixS c s = none
  | [], _ => rfl
  | b :: s, h => by
    simp only [List.mem_cons, not_or] at h
    simp only [ixS]
    rw [if_neg (fun e => h.1 e.symm), ixS_not_mem h.2]; rfl
theorem plain_nodot {s : Str} (h : plainS s = true) : splitS 46 s = [s] :=
  splitS_none (ixS_not_mem fun hm => by rcases plain_mem h 46 hm with h | h <;> revert h <;> decide)
theorem person_of_plain {s : Str} (h : plainS s = true) : personS s = true := by simp [personS, h]
theorem role_plain {s : Str} (h : plainS s = true) : roleS s = true := by
  unfold roleS
  rw [plain_nodot h]
  simp [person_of_plain h]
theorem splitS_app (c : UInt8) : ∀ (f r : Str), splitS c (f ++ [c] ++ r) = splitS c f ++ splitS c r
  | [], r => by simp [splitS]
  | b :: f, r => by
    have ih := splitS_app c f r
    simp only [List.append_assoc, List.cons_append, List.nil_append] at ih ⊢
    by_cases hb : b = c
    · subst hb; simp only [splitS, if_true, ih, List.cons_append]
    · simp only [splitS, hb, if_false, ih]
      cases hs : splitS c f with
      | nil => exact absurd hs (splitS_ne c f)
      | cons x t => simp
theorem letter_not {c : UInt8} (h : letterS c = true) : c ≠ 42 ∧ c ≠ 33 ∧ c ≠ 123 ∧ c ≠ 60 ∧ c ≠ 95 := by
  refine ⟨?_, ?_, ?_, ?_, ?_⟩ <;> rintro rfl <;> revert h <;> decide
theorem atom_plain {s : Str} (h : plainS s = true) : atomS s = true := by
  obtain ⟨c, t, rfl, hc⟩ := plain_head h
  obtain ⟨h1, h2, h3, h4, _⟩ := letter_not hc
  unfold atomS
  rw [if_neg (by simp [h1, h2]), if_neg (by simp [h3]), if_neg (by simp [h4])]
  exact person_of_plain h
theorem atom_ind {s : Str} (h : personS s = true) : atomS ([123] ++ s ++ [125]) = true := by
  unfold atomS
  have e : ([123] ++ s ++ [125]).length = s.length + 2 := by simp
  rw [if_neg (by simp), if_pos (by
    refine ⟨by omega, by simp, ?_⟩
    rw [List.getElem?_append_right (by simp)]; simp)]
  rw [e]
  have : (List.drop 1 ([123] ++ s ++ [125])).take (s.length + 2 - 1 - 1) = s := by simp
  rw [this]; exact h
theorem atom_angle {t : Str} (h : t ≠ []) : atomS ([60] ++ t ++ [62]) = true := by
  unfold atomS
  have hl : 0 < t.length := List.length_pos_iff.2 h
  have e : ([60] ++ t ++ [62]).length = t.length + 2 := by simp
  rw [if_neg (by simp), if_neg (by simp), if_pos (by
    refine ⟨by omega, by simp, ?_⟩
    rw [List.getElem?_append_right (by simp)]; simp)]
/-! ### sizes and nesting -/
namespace Con
def dep : Con → Nat
  | mk _ _ _ _ _ _ ps => deps ps
where deps : List Con → Nat
  | [] => 0
  | p :: ps => max (1 + dep p) (deps ps)
theorem dep_mem {p : Con} : ∀ {ps : List Con}, p ∈ ps → 1 + p.dep ≤ dep.deps ps
  | q :: ps, h => by
    rcases List.mem_cons.1 h with rfl | h
    · simp only [dep.deps]; omega
    · have := dep_mem h; simp only [dep.deps]; omega
theorem dep_eq (c : Con) : c.dep = dep.deps c.parts := by cases c; rfl
theorem sz_eq (c : Con) : c.sz = 1 + sz.szs c.parts := by cases c; rfl
theorem fits_iff : ∀ (m : Nat) (c : Con), c.sz ≤ m → ∀ d n, (c.fits d n).1 = true ↔ d + c.dep ≤ 8 ∧ n + c.sz ≤ 64
  | 0, c, h => by have := c.sz_pos; omega
  | m + 1, c, h => fun d n => by
    have key : ∀ ps : List Con, (∀ p ∈ ps, p.sz ≤ m) → ∀ n, n ≤ 64 → ((fits.fitss ps (d + 1) n).1 = true ↔ (∀ p ∈ ps, d + 1 + p.dep ≤ 8) ∧ n + sz.szs ps ≤ 64) := by
      intro ps
      induction ps with
      | nil => intro _ n hn; simp [fits.fitss, sz.szs, hn]
      | cons p ps ih =>
        intro hp n hn
        have h1 := fits_iff m p (hp p (by simp)) (d + 1) n
        simp only [fits.fitss, sz.szs, List.mem_cons, forall_eq_or_imp]
        rcases hq : p.fits (d + 1) n with ⟨b, q⟩
        rw [hq] at h1
        cases b with
        | true =>
          have hs := fits_sz _ p (Nat.le_refl _) (d + 1) n (by rw [hq])
          rw [hq] at hs
          simp only at hs h1 ⊢
          have h2 := h1.1 trivial
          rw [ih (fun r hr => hp r (by simp [hr])) q (by omega)]
          constructor
          · rintro ⟨a, b⟩; exact ⟨⟨h2.1, a⟩, by omega⟩
          · rintro ⟨⟨_, a⟩, b⟩; exact ⟨a, by omega⟩
        | false =>
          simp only [Bool.false_eq_true, false_iff] at h1 ⊢
          rintro ⟨⟨a, _⟩, b⟩
          exact h1 ⟨a, by omega⟩
    have hd := dep_eq c
    have hz := sz_eq c
    rw [fits_eq]
    split
    · rename_i hc
      simp only [Bool.or_eq_true, decide_eq_true_eq] at hc
      simp only [Bool.false_eq_true, false_iff]
      rintro ⟨a, b⟩
      omega
    · rename_i hc
      simp only [Bool.or_eq_true, decide_eq_true_eq, not_or] at hc
      rw [key c.parts (fun p hp => by have := sz_part hp; omega) (n + 1) (by omega), hd, hz]
      constructor
      · rintro ⟨a, b⟩
        refine ⟨?_, by omega⟩
        have : ∀ ps : List Con, (∀ p ∈ ps, d + 1 + p.dep ≤ 8) → d + dep.deps ps ≤ 8 := by
          intro ps
          induction ps with
          | nil => intro _; simp [dep.deps]; omega
          | cons p ps ih =>
            intro hp
            have h1 := hp p (by simp)
            have h2 := ih fun q hq => hp q (by simp [hq])
            simp only [dep.deps]; omega
        exact this _ a
      · rintro ⟨a, b⟩
        exact ⟨fun p hp => by have := dep_mem hp; omega, by omega⟩
theorem check_iff (c : Con) : c.check = 0 ↔ c.dep ≤ 8 ∧ c.sz ≤ 64 ∧ c.fine := by
  unfold check fine
  have h := fits_iff _ c (Nat.le_refl _) 0 0
  by_cases hf : (c.fits 0 0).1 = true
  · rw [if_pos hf]
    have := h.1 hf
    constructor
    · intro e; exact ⟨by omega, by omega, e⟩
    · exact fun e => e.2.2
  · rw [if_neg hf]
    constructor
    · intro e; cases e
    · intro e; exact absurd (h.2 ⟨by omega, by omega⟩) hf
theorem check_part {c p : Con} (h : c.check = 0) (hp : p ∈ c.parts) : p.check = 0 := by
  rw [check_iff] at h ⊢
  have h1 := dep_mem hp
  rw [← dep_eq] at h1
  have h2 := sz_part hp
  exact ⟨by omega, by omega, fine_part h.2.2 hp⟩
structure Names (c : Con) : Prop where
  plain : c.kind = 3 ∨ c.kind = 6 ∨ c.kind = 7 → plainS c.name = true
  person : c.kind = 4 → personS c.name = true
  nums : c.kind = 7 → -1099511627776 ≤ c.lo ∧ c.lo ≤ c.hi ∧ c.hi ≤ 1099511627776
theorem names_of {c : Con} (h : c.fine) : Names c := by
  have F := fields h
  have hk : c.kind = 1 ∨ c.kind = 2 ∨ c.kind = 3 ∨ c.kind = 4 ∨ c.kind = 5 ∨ c.kind = 6 ∨ c.kind = 7 := by have := F.k1; have := F.k7; omega
  have h0 := ((fine_iff c).1 h).1
  unfold fieldErr at h0
  rw [if_neg (by have := F.k1; have := F.k7; omega)] at h0
  split at h0
  · cases h0
  · split at h0
    · cases h0
    · rename_i h3
      split at h0
      · cases h0
      · split at h0
        · rename_i h5
          refine ⟨fun e => ?_, fun e => ?_, fun e => ?_⟩
          · rcases e with e | e | e <;> rw [e] at h5 <;> simpa [nd, needL] using h5
          · rw [e] at h5
            simp [nd, needL] at h5
            simp [personS, h5]
          · rw [e] at h3
            simp [nd, needL] at h3
            omega
        · cases h0
theorem join_two (x y : Str) (r : List Str) (sep : Str) : Lib.join (x :: y :: r) sep = x ++ sep ++ Lib.join (y :: r) sep := by simp [Lib.join, List.intercalate]
theorem text_ne {c : Con} (h : c.fine) (hk : 5 ≤ c.kind) : c.text ≠ [] := by
  have F := fields h
  have h7 := F.k7
  rw [text_eq, if_neg (by omega), if_neg (by omega), if_neg (by omega), if_neg (by omega)]
  split
  · rename_i h5
    have hl := F.le
    rw [h5] at hl
    simp [nd, needL] at hl
    match hp : c.parts, hl with
    | [], hl => simp at hl
    | [_], hl => simp at hl
    | p :: q :: r, _ => simp only [List.map_cons, join_two]; simp
  · split
    · simp only [join_two]; simp
    · simp only [join_two]; simp
theorem atom_ok {c : Con} (h : c.check = 0) : atomS c.atom = true := by
  have hf := (check_zero h).1
  have F := fields hf
  have N := names_of hf
  have h1 := F.k1
  have h7 := F.k7
  unfold atom
  split
  · rfl
  · split
    · rfl
    · split
      · exact atom_plain (N.plain (by omega))
      · split
        · exact atom_ind (N.person (by omega))
        · unfold textN
          rw [if_pos h]
          exact atom_angle (text_ne hf (by omega))
theorem atom_len {c : Con} (hok : c.ok) (h : c.check = 0) : c.atom.length ≤ 7000 := by
  have F := fields (check_zero h).1
  have hn := F.nm
  have ht := textN_len hok
  unfold atom
  repeat' split
  all_goals simp <;> omega
/-- the first parts of a conjunction -/
theorem pre_check {c : Con} (h : c.check = 0) (hk : c.kind = 5) {j : Nat} (h2 : 2 ≤ j) (hj : j ≤ c.parts.length) : (c.pre j).check = 0 := by
  have hf := (check_zero h).1
  have F := fields hf
  have hmo := F.mo
  rw [hk] at hmo
  simp [nd, needL] at hmo
  rw [check_iff] at h ⊢
  have key : ∀ (ps : List Con) (j : Nat), sz.szs (ps.take j) ≤ sz.szs ps ∧ dep.deps (ps.take j) ≤ dep.deps ps := by
    intro ps
    induction ps with
    | nil => intro j; simp
    | cons p ps ih =>
      intro j
      cases j with
      | zero => simp [sz.szs, dep.deps]
      | succ j => have := ih j; simp only [List.take_succ_cons, sz.szs, dep.deps]; omega
  have h1 := key c.parts j
  have e1 := dep_eq c
  have e2 := sz_eq c
  refine ⟨?_, ?_, ?_⟩
  · rw [dep_eq]; show dep.deps (c.parts.take j) ≤ 8; omega
  · rw [sz_eq]; show 1 + sz.szs (c.parts.take j) ≤ 64; omega
  · rw [fine_iff]
    refine ⟨?_, fun p hp => fine_part hf (List.mem_of_mem_take hp)⟩
    unfold fieldErr
    have hlen : (c.pre j).parts.length = j := by show (c.parts.take j).length = j; simp; omega
    rw [if_neg (by show ¬ ((5 : Int) < 1 ∨ 7 < (5 : Int)); omega)]
    simp only [hlen]
    have hk5 : (c.pre j).kind = 5 := rfl
    rw [hk5]
    simp [nd, needL, pre, name, lo, hi]
    omega
end Con
end Go.Vs

/-
  The pieces of valid axioms are valid; the pieces of a list are those of its parts.
-/
namespace Go.Vs
open Go Go.Sx
structure PQ (f : Int) (q : Pc) : Prop where
  frm : q.frm = f
  sm : q.sm
  ok : q.valid = true
section
variable {f : Int} (h0 : -1 ≤ f) (h1 : f < 1024) {a b c r s t : Str} {lo hi : Int}
include h0 h1
theorem val1 (ha : atomS a = true) (hc : atomS c = true) : Pc.valid ⟨1, a, [], c, [], [], [], 0, 0, f⟩ = true := by
  unfold Pc.valid; rw [if_neg (by simp; omega)]; simp [nus, nuseL, fldS, ha, hc]
theorem val2 (ha : atomS a = true) (hb : atomS b = true) (hc : atomS c = true) : Pc.valid ⟨2, a, b, c, [], [], [], 0, 0, f⟩ = true := by
  unfold Pc.valid; rw [if_neg (by simp; omega)]; simp [nus, nuseL, fldS, ha, hb, hc]
theorem val3 (ha : atomS a = true) (hr : roleS r = true) (hc : atomS c = true) : Pc.valid ⟨3, a, [], c, r, [], [], 0, 0, f⟩ = true := by
  unfold Pc.valid; rw [if_neg (by simp; omega)]; simp [nus, nuseL, fldS, ha, hr, hc]
theorem val4 (ha : atomS a = true) (hr : roleS r = true) (hc : atomS c = true) : Pc.valid ⟨4, a, [], c, r, [], [], 0, 0, f⟩ = true := by
  unfold Pc.valid; rw [if_neg (by simp; omega)]; simp [nus, nuseL, fldS, ha, hr, hc]
theorem val5 (hr : roleS r = true) (ht : roleS t = true) : Pc.valid ⟨5, [], [], [], r, [], t, 0, 0, f⟩ = true := by
  unfold Pc.valid; rw [if_neg (by simp; omega)]; simp [nus, nuseL, fldS, hr, ht]
theorem val6 (hr : roleS r = true) (hs : roleS s = true) (ht : roleS t = true) : Pc.valid ⟨6, [], [], [], r, s, t, 0, 0, f⟩ = true := by
  unfold Pc.valid; rw [if_neg (by simp; omega)]; simp [nus, nuseL, fldS, hr, hs, ht]
theorem val7 (hr : roleS r = true) : Pc.valid ⟨7, [], [], [], r, [], [], 0, 0, f⟩ = true := by
  unfold Pc.valid; rw [if_neg (by simp; omega)]; simp [nus, nuseL, fldS, hr]
theorem val8 (ha : atomS a = true) (hr : personS r = true) (hn : -1099511627776 ≤ lo ∧ lo ≤ hi ∧ hi ≤ 1099511627776) : Pc.valid ⟨8, a, [], [], r, [], [], lo, hi, f⟩ = true := by
  unfold Pc.valid; rw [if_neg (by simp; omega), if_neg (by simp [nus, nuseL]; omega)]; simp [nus, nuseL, fldS, ha, hr]
theorem val9 (hc : atomS c = true) (hr : personS r = true) (hn : -1099511627776 ≤ lo ∧ lo ≤ hi ∧ hi ≤ 1099511627776) : Pc.valid ⟨9, [], [], c, r, [], [], lo, hi, f⟩ = true := by
  unfold Pc.valid; rw [if_neg (by simp; omega), if_neg (by simp [nus, nuseL]; omega)]; simp [nus, nuseL, fldS, hc, hr]
end
theorem ins_all {Q : Pc → Prop} {f : Int} {l : List Pc} {p : Pc} (hl : ∀ q ∈ l, Q q) (hp : Q { p with frm := f }) : ∀ q ∈ ins f l p, Q q := by
  unfold ins
  split
  · exact hl
  · intro q hq
    rcases List.mem_append.1 hq with hq | hq
    · exact hl q hq
    · simp only [List.mem_singleton] at hq; subst hq; exact hp
theorem plain_lt {s : Str} (h : plainS s = true) : s.length ≤ 24 := Con.plain_len h
theorem person_lt {s : Str} (h : personS s = true) : s.length ≤ 24 := by
  simp only [personS, Bool.or_eq_true] at h
  rcases h with h | h
  · exact Con.plain_len h
  · exact Con.reserved_len h
namespace Con
section
variable {f : Int} (h0 : -1 ≤ f) (h1 : f < 1024)
include h0 h1
theorem andP_all (c : Con) (hok : c.ok) (hc : c.check = 0) (hk : c.kind = 5) : ∀ (r : List Con) (j : Nat) (a : Str) (l : List Pc), 1 ≤ j → j + r.length ≤ c.parts.length → (∀ p ∈ r, p ∈ c.parts) → atomS a = true → a.length ≤ 7000 → (∀ q ∈ l, PQ f q) → ∀ q ∈ andP f c r j a l, PQ f q
  | [], _, _, l, _, _, _, _, _, hl => hl
  | p :: r, j, a, l, hj, hlen, hm, ha, hal, hl => by
    simp only [List.length_cons] at hlen
    have hp := hm p (by simp)
    have hpre := pre_check hc hk (j := j + 1) (by omega) (by omega)
    have x1 := atom_ok hpre
    have x2 := atom_len (pre_ok hok (j + 1)) hpre
    have x3 := atom_ok (check_part hc hp)
    have x4 := atom_len (ok_part hok hp) (check_part hc hp)
    simp only [andP]
    exact andP_all c hok hc hk r (j + 1) _ _ (by omega) (by omega) (fun q hq => hm q (by simp [hq])) x1 x2
      (ins_all hl ⟨rfl, ⟨by dsimp only; omega, by dsimp only; omega, by dsimp only; omega, by simp, by simp, by simp⟩, val2 h0 h1 ha x3 x1⟩)
theorem leftP_all : ∀ (m : Nat) (c : Con), c.sz ≤ m → c.ok → c.check = 0 → ∀ l, (∀ q ∈ l, PQ f q) → ∀ q ∈ c.leftP f l, PQ f q
  | 0, c, h => by have := c.sz_pos; omega
  | m + 1, c, h => fun hok hc l hl => by
    have key : ∀ ps : List Con, (∀ p ∈ ps, p ∈ c.parts) → ∀ l, (∀ q ∈ l, PQ f q) → ∀ q ∈ leftP.lefts f ps l, PQ f q := by
      intro ps
      induction ps with
      | nil => intro _ l hl; exact hl
      | cons p ps ih =>
        intro hp l hl
        have hpm := hp p (by simp)
        exact ih (fun q hq => hp q (by simp [hq])) _ (leftP_all m p (by have := sz_part hpm; omega) (ok_part hok hpm) (check_part hc hpm) l hl)
    have hk := key c.parts (fun _ h => h) l hl
    have F := fields (check_zero hc).1
    have N := names_of (check_zero hc).1
    have ca := atom_ok hc
    have cl := atom_len hok hc
    rw [leftP_eq]
    split
    · rename_i h5
      have hle := F.le
      rw [h5] at hle
      simp [nd, needL] at hle
      match hp : c.parts, hle with
      | [], hle => simp at hle
      | p :: r, _ =>
        have hpm : p ∈ c.parts := by rw [hp]; simp
        have x3 := atom_ok (check_part hc hpm)
        have x4 := atom_len (ok_part hok hpm) (check_part hc hpm)
        refine andP_all h0 h1 c hok hc h5 _ 1 _ _ (by omega) (by rw [hp]; simp; omega) (fun q hq => by rw [hp]; exact List.mem_of_mem_drop hq) (by simpa using x3) (by simpa using x4) (by rw [hp] at hk; exact hk)
    · split
      · rename_i h6
        have hle := F.le
        rw [h6] at hle
        simp [nd, needL] at hle
        have hpl := N.plain (.inr (.inl h6))
        match hp : c.parts, hle with
        | [], hle => simp at hle
        | p :: r, _ =>
          have hpm : p ∈ c.parts := by rw [hp]; simp
          have x3 := atom_ok (check_part hc hpm)
          have x4 := atom_len (ok_part hok hpm) (check_part hc hpm)
          have x5 := plain_lt hpl
          rw [hp] at hk
          exact ins_all hk ⟨rfl, ⟨by simp; omega, by simp, by dsimp only; omega, by dsimp only; omega, by simp, by simp⟩, val4 h0 h1 (by simpa using x3) (role_plain hpl) ca⟩
      · split
        · rename_i h7
          have hpl := N.plain (.inr (.inr h7))
          have x5 := plain_lt hpl
          exact ins_all hl ⟨rfl, ⟨by simp, by simp, by dsimp only; omega, by dsimp only; omega, by simp, by simp⟩, val9 h0 h1 ca (person_of_plain hpl) (N.nums h7)⟩
        · exact hl
theorem rightP_all : ∀ (m : Nat) (c : Con), c.sz ≤ m → c.ok → c.check = 0 → ∀ l, (∀ q ∈ l, PQ f q) → ∀ q ∈ c.rightP f l, PQ f q
  | 0, c, h => by have := c.sz_pos; omega
  | m + 1, c, h => fun hok hc l hl => by
    have ca := atom_ok hc
    have cl := atom_len hok hc
    have key : ∀ ps : List Con, (∀ p ∈ ps, p ∈ c.parts) → ∀ l, (∀ q ∈ l, PQ f q) → ∀ q ∈ rightP.rights f c.atom ps l, PQ f q := by
      intro ps
      induction ps with
      | nil => intro _ l hl; exact hl
      | cons p ps ih =>
        intro hp l hl
        have hpm := hp p (by simp)
        have x3 := atom_ok (check_part hc hpm)
        have x4 := atom_len (ok_part hok hpm) (check_part hc hpm)
        exact ih (fun q hq => hp q (by simp [hq])) _ (rightP_all m p (by have := sz_part hpm; omega) (ok_part hok hpm) (check_part hc hpm) _
          (ins_all hl ⟨rfl, ⟨by dsimp only; omega, by simp, by dsimp only; omega, by simp, by simp, by simp⟩, val1 h0 h1 ca x3⟩))
    have key2 : ∀ ps : List Con, (∀ p ∈ ps, p ∈ c.parts) → ∀ l, (∀ q ∈ l, PQ f q) → ∀ q ∈ rightP.righty f ps l, PQ f q := by
      intro ps
      induction ps with
      | nil => intro _ l hl; exact hl
      | cons p ps ih =>
        intro hp l hl
        have hpm := hp p (by simp)
        exact ih (fun q hq => hp q (by simp [hq])) _ (rightP_all m p (by have := sz_part hpm; omega) (ok_part hok hpm) (check_part hc hpm) l hl)
    have F := fields (check_zero hc).1
    have N := names_of (check_zero hc).1
    rw [rightP_eq]
    split
    · exact key c.parts (fun _ h => h) l hl
    · split
      · rename_i h6
        have hle := F.le
        rw [h6] at hle
        simp [nd, needL] at hle
        have hpl := N.plain (.inr (.inl h6))
        have x5 := plain_lt hpl
        refine key2 c.parts (fun _ h => h) _ (ins_all hl ?_)
        match hp : c.parts, hle with
        | [], hle => simp at hle
        | p :: r, _ =>
          have hpm : p ∈ c.parts := by rw [hp]; simp
          have x3 := atom_ok (check_part hc hpm)
          have x4 := atom_len (ok_part hok hpm) (check_part hc hpm)
          exact ⟨rfl, ⟨by dsimp only; omega, by simp, by simp; omega, by dsimp only; omega, by simp, by simp⟩, val3 h0 h1 ca (role_plain hpl) (by simpa using x3)⟩
      · split
        · rename_i h7
          have hpl := N.plain (.inr (.inr h7))
          have x5 := plain_lt hpl
          exact ins_all hl ⟨rfl, ⟨by dsimp only; omega, by simp, by simp, by dsimp only; omega, by simp, by simp⟩, val8 h0 h1 ca (person_of_plain hpl) (N.nums h7)⟩
        · exact hl
end
end Con
namespace Ax
section
variable {f : Int} (h0 : -1 ≤ f) (h1 : f < 1024)
include h0 h1
theorem chainP_all (role : Str) (hr : plainS role = true) : ∀ (rs : List Str) (g : Str) (l : List Pc), (∀ r ∈ rs, plainS r = true) → (splitS 46 g).length + rs.length ≤ 4 → ((splitS 46 g).all personS = true) → g.length ≤ 100 * (splitS 46 g).length → (∀ q ∈ l, PQ f q) → ∀ q ∈ chainP f role rs g l, PQ f q
  | [], _, _, _, _, _, _, hl => hl
  | r :: t, g, l, hp, hn, hg, hgl, hl => by
    have hpr := hp r (by simp)
    have hrl := plain_lt hpr
    have hrol := plain_lt hr
    simp only [List.length_cons] at hn
    have hgr : roleS g = true := by
      unfold roleS
      rw [decide_eq_true (by omega)]
      simp only [Bool.true_and, Bool.not_eq_true']
      rw [List.any_eq_false]
      intro y hy
      simp [List.all_eq_true.1 hg y hy]
    simp only [chainP]
    by_cases ht : t = []
    · subst ht
      simp only [if_true, chainP]
      exact ins_all hl ⟨rfl, ⟨by simp, by simp, by simp, by dsimp only; omega, by dsimp only; omega, by dsimp only; omega⟩, val6 h0 h1 hgr (role_plain hpr) (role_plain hr)⟩
    · simp only [ht, if_false]
      have htl : 0 < t.length := List.length_pos_iff.2 ht
      have e := splitS_app 46 g r
      rw [plain_nodot hpr] at e
      have hall : (splitS 46 (g ++ [46] ++ r)).all personS = true := by rw [e, List.all_append, hg]; simp [person_of_plain hpr]
      have hlen : (splitS 46 (g ++ [46] ++ r)).length = (splitS 46 g).length + 1 := by rw [e]; simp
      have hgl2 : (g ++ [46] ++ r).length ≤ 100 * (splitS 46 (g ++ [46] ++ r)).length := by rw [hlen]; simp; omega
      have hgr2 : roleS (g ++ [46] ++ r) = true := by
        unfold roleS
        rw [decide_eq_true (by omega)]
        simp only [Bool.true_and, Bool.not_eq_true']
        rw [List.any_eq_false]
        intro y hy
        simp [List.all_eq_true.1 hall y hy]
      exact chainP_all role hr t _ _ (fun q hq => hp q (by simp [hq])) (by omega) hall hgl2
        (ins_all hl ⟨rfl, ⟨by simp, by simp, by simp, by dsimp only; omega, by dsimp only; omega, by dsimp only; omega⟩, val6 h0 h1 hgr (role_plain hpr) hgr2⟩)
theorem pieces_all {x : Ax} (hok : x.ok) (hc : x.check = 0) : ∀ q ∈ x.pieces f, PQ f q := by
  have G := good_of hc
  have L := fun (c : Con) (hok : c.ok) (hc : c.check = 0) => Con.leftP_all h0 h1 _ c (Nat.le_refl _) hok hc
  have Rr := fun (c : Con) (hok : c.ok) (hc : c.check = 0) => Con.rightP_all h0 h1 _ c (Nat.le_refl _) hok hc
  have n : ∀ q ∈ ([] : List Pc), PQ f q := fun q hq => by cases hq
  have h1' := G.k1
  have h9 := G.k9
  have A := fun (c : Con) (hok : c.ok) (hc : c.check = 0) => (⟨Con.atom_ok hc, Con.atom_len hok hc⟩ : atomS c.atom = true ∧ c.atom.length ≤ 7000)
  unfold pieces
  split
  · have l := G.left (by omega); have r := G.right (by omega)
    have a1 := A _ hok.left l; have a2 := A _ hok.right r
    exact ins_all (Rr _ hok.right r _ (L _ hok.left l _ n)) ⟨rfl, ⟨by dsimp only; omega, by simp, by dsimp only; omega, by simp, by simp, by simp⟩, val1 h0 h1 a1.1 a2.1⟩
  · split
    · have l := G.left (by omega); have r := G.right (by omega)
      have a1 := A _ hok.left l; have a2 := A _ hok.right r
      exact ins_all (Rr _ hok.left l _ (L _ hok.right r _ (ins_all (Rr _ hok.right r _ (L _ hok.left l _ n)) ⟨rfl, ⟨by dsimp only; omega, by simp, by dsimp only; omega, by simp, by simp, by simp⟩, val1 h0 h1 a1.1 a2.1⟩))) ⟨rfl, ⟨by dsimp only; omega, by simp, by dsimp only; omega, by simp, by simp, by simp⟩, val1 h0 h1 a2.1 a1.1⟩
    · split
      · have l := G.left (by omega); have r := G.right (by omega)
        have a1 := A _ hok.left l; have a2 := A _ hok.right r
        exact ins_all (L _ hok.right r _ (L _ hok.left l _ n)) ⟨rfl, ⟨by dsimp only; omega, by dsimp only; omega, by simp, by simp, by simp, by simp⟩, val2 h0 h1 a1.1 a2.1 rfl⟩
      · split
        · have r := G.right (by omega); have a2 := A _ hok.right r; have p := G.role (by omega); have pl := plain_lt p
          exact ins_all (Rr _ hok.right r _ n) ⟨rfl, ⟨by simp, by simp, by dsimp only; omega, by dsimp only; omega, by simp, by simp⟩, val4 h0 h1 rfl (role_plain p) a2.1⟩
        · split
          · rename_i h5
            have p := G.role (by omega); have pl := plain_lt p
            have ho := G.one h5
            match hr : x.roles, ho with
            | [r], _ =>
              have p2 := G.roles r (by rw [hr]; simp); have pl2 := plain_lt p2
              exact ins_all n ⟨rfl, ⟨by simp, by simp, by simp, by simp; omega, by simp, by dsimp only; omega⟩, val5 h0 h1 (by simpa using role_plain p2) (role_plain p)⟩
          · split
            · rename_i h6
              have p := G.role (by omega)
              have hch := G.chain h6
              match hr : x.roles, hch with
              | [], hch => simp at hch
              | r :: t, hch =>
                have p2 := G.roles r (by rw [hr]; simp); have pl2 := plain_lt p2
                have e := plain_nodot p2
                simp only [List.length_cons] at hch
                simp only [List.drop_succ_cons, List.drop_zero, List.headD_cons]
                exact chainP_all h0 h1 x.role p t r [] (fun q hq => G.roles q (by rw [hr]; simp [hq])) (by rw [e]; simp; omega) (by rw [e]; simp [person_of_plain p2]) (by rw [e]; simp; omega) n
            · split
              · have p := G.role (by omega); have pl := plain_lt p
                exact ins_all n ⟨rfl, ⟨by simp, by simp, by simp, by dsimp only; omega, by simp, by simp⟩, val7 h0 h1 (role_plain p)⟩
              · split
                · have r := G.right (by omega); have a2 := A _ hok.right r; have p := G.a (by omega); have pl := person_lt p
                  exact ins_all (Rr _ hok.right r _ n) ⟨rfl, ⟨by simp; omega, by simp, by dsimp only; omega, by simp, by simp, by simp⟩, val1 h0 h1 (atom_ind p) a2.1⟩
                · have p := G.role (by omega); have pl := plain_lt p; have pa := G.a (by omega); have pb := G.b (by omega); have l1 := person_lt pa; have l2 := person_lt pb
                  exact ins_all n ⟨rfl, ⟨by simp; omega, by simp, by simp; omega, by dsimp only; omega, by simp, by simp⟩, val3 h0 h1 (atom_ind pa) (role_plain p) (atom_ind pb)⟩
end
end Ax
/-! ### another From -/
def shift (k : Int) (p : Pc) : Pc := { p with frm := p.frm + k }
theorem shift_inj {k : Int} {p q : Pc} (h : shift k p = shift k q) : p = q := by
  cases p; cases q
  simp only [shift, Pc.mk.injEq] at h ⊢
  refine ⟨h.1, h.2.1, h.2.2.1, h.2.2.2.1, h.2.2.2.2.1, h.2.2.2.2.2.1, h.2.2.2.2.2.2.1, h.2.2.2.2.2.2.2.1, h.2.2.2.2.2.2.2.2.1, by omega⟩
theorem ins_shift (f k : Int) (l : List Pc) (p : Pc) : ins (f + k) (l.map (shift k)) p = (ins f l p).map (shift k) := by
  have hm : ({ p with frm := f + k } : Pc) ∈ l.map (shift k) ↔ ({ p with frm := f } : Pc) ∈ l := by
    rw [List.mem_map]
    constructor
    · rintro ⟨q, hq, e⟩
      have : q = { p with frm := f } := shift_inj (k := k) e
      exact this ▸ hq
    · exact fun h => ⟨_, h, rfl⟩
  unfold ins
  by_cases h : ({ p with frm := f } : Pc) ∈ l
  · rw [if_pos (hm.2 h), if_pos h]
  · rw [if_neg (fun q => h (hm.1 q)), if_neg h, List.map_append]; rfl
namespace Con
theorem andP_shift (f k : Int) (c : Con) : ∀ (r : List Con) (j : Nat) (a : Str) (l : List Pc), andP (f + k) c r j a (l.map (shift k)) = (andP f c r j a l).map (shift k)
  | [], _, _, _ => rfl
  | p :: r, j, a, l => by simp only [andP, ins_shift]; exact andP_shift f k c r (j + 1) _ _
theorem leftP_shift (f k : Int) : ∀ (m : Nat) (c : Con), c.sz ≤ m → ∀ l, c.leftP (f + k) (l.map (shift k)) = (c.leftP f l).map (shift k)
  | 0, c, h => by have := c.sz_pos; omega
  | m + 1, c, h => fun l => by
    have key : ∀ ps : List Con, (∀ p ∈ ps, p.sz ≤ m) → ∀ l, leftP.lefts (f + k) ps (l.map (shift k)) = (leftP.lefts f ps l).map (shift k) := by
      intro ps
      induction ps with
      | nil => intro _ l; rfl
      | cons p ps ih =>
        intro hp l
        simp only [leftP.lefts]
        rw [leftP_shift f k m p (hp p (by simp)) l]
        exact ih (fun q hq => hp q (by simp [hq])) _
    have hk := key c.parts (fun p hp => by have := sz_part hp; omega) l
    rw [leftP_eq, leftP_eq, hk]
    split
    · exact andP_shift _ _ _ _ _ _ _
    · split
      · exact ins_shift _ _ _ _
      · split
        · exact ins_shift _ _ _ _
        · rfl
theorem rightP_shift (f k : Int) : ∀ (m : Nat) (c : Con), c.sz ≤ m → ∀ l, c.rightP (f + k) (l.map (shift k)) = (c.rightP f l).map (shift k)
  | 0, c, h => by have := c.sz_pos; omega
  | m + 1, c, h => fun l => by
    have key : ∀ ps : List Con, (∀ p ∈ ps, p.sz ≤ m) → ∀ a l, rightP.rights (f + k) a ps (l.map (shift k)) = (rightP.rights f a ps l).map (shift k) := by
      intro ps
      induction ps with
      | nil => intro _ a l; rfl
      | cons p ps ih =>
        intro hp a l
        simp only [rightP.rights]
        rw [ins_shift, rightP_shift f k m p (hp p (by simp))]
        exact ih (fun q hq => hp q (by simp [hq])) _ _
    have key2 : ∀ ps : List Con, (∀ p ∈ ps, p.sz ≤ m) → ∀ l, rightP.righty (f + k) ps (l.map (shift k)) = (rightP.righty f ps l).map (shift k) := by
      intro ps
      induction ps with
      | nil => intro _ l; rfl
      | cons p ps ih =>
        intro hp l
        simp only [rightP.righty]
        rw [rightP_shift f k m p (hp p (by simp))]
        exact ih (fun q hq => hp q (by simp [hq])) _
    have hps : ∀ p ∈ c.parts, p.sz ≤ m := fun p hp => by have := sz_part hp; omega
    rw [rightP_eq, rightP_eq]
    split
    · exact key c.parts hps _ l
    · split
      · rw [ins_shift]; exact key2 c.parts hps _
      · split
        · exact ins_shift _ _ _ _
        · rfl
end Con
theorem Ax.chainP_shift (f k : Int) (ro : Str) : ∀ (rs : List Str) (g : Str) (l : List Pc), Ax.chainP (f + k) ro rs g (l.map (shift k)) = (Ax.chainP f ro rs g l).map (shift k)
  | [], _, _ => rfl
  | r :: t, g, l => by simp only [Ax.chainP, ins_shift]; exact Ax.chainP_shift f k ro t _ _
theorem Ax.pieces_shift (f k : Int) (x : Ax) : x.pieces (f + k) = (x.pieces f).map (shift k) := by
  have L := fun (c : Con) l => Con.leftP_shift f k _ c (Nat.le_refl _) l
  have Rr := fun (c : Con) l => Con.rightP_shift f k _ c (Nat.le_refl _) l
  have n : ([] : List Pc) = ([] : List Pc).map (shift k) := rfl
  unfold Ax.pieces
  repeat' split
  · rw [n, L, Rr, ins_shift]; rfl
  · rw [n, L, Rr, ins_shift, L, Rr, ins_shift]; rfl
  · rw [n, L, L, ins_shift]; rfl
  · rw [n, Rr, ins_shift]; rfl
  · rw [n, ins_shift]; rfl
  · rw [n, Ax.chainP_shift]; rfl
  · rw [n, ins_shift]; rfl
  · rw [n, Rr, ins_shift]; rfl
  · rw [n, ins_shift]; rfl
/-! ### lists -/
def flat : Nat → List Ax → List Pc
  | _, [] => []
  | i, x :: l => x.pieces (i : Int) ++ flat (i + 1) l
theorem flat_len : ∀ (i : Nat) (l : List Ax), (∀ x ∈ l, x.check = 0) → (flat i l).length ≤ 1000 * l.length
  | _, [], _ => by simp [flat]
  | i, x :: l, h => by
    have h1 := pieces_len (i : Int) (Ax.good_of (h x (by simp)))
    have h2 := flat_len (i + 1) l fun y hy => h y (by simp [hy])
    simp only [flat, List.length_append, List.length_cons]
    omega
theorem gather_eq : ∀ (l : List Ax) (i : Nat) (p : List Pc), (∀ x ∈ l, x.check = 0) → p.length + 1000 * l.length ≤ 16384 → gather i l p = some (p ++ flat i l)
  | [], i, p, _, _ => by simp [gather, flat]
  | x :: l, i, p, h, hl => by
    have h1 := pieces_len (i : Int) (Ax.good_of (h x (by simp)))
    simp only [List.length_cons] at hl
    simp only [gather, flat]
    rw [if_neg (by simp; omega), gather_eq l (i + 1) _ (fun y hy => h y (by simp [hy])) (by simp; omega), List.append_assoc]
theorem flat_append : ∀ (xs ys : List Ax) (i : Nat), flat i (xs ++ ys) = flat i xs ++ flat (i + xs.length) ys
  | [], ys, i => by simp [flat]
  | x :: xs, ys, i => by
    simp only [List.cons_append, flat, List.length_cons, List.append_assoc]
    rw [flat_append xs ys (i + 1), show i + 1 + xs.length = i + (xs.length + 1) by omega]
theorem flat_shift (k : Nat) : ∀ (l : List Ax) (i : Nat), flat (i + k) l = (flat i l).map (shift (k : Int))
  | [], _ => rfl
  | x :: l, i => by
    simp only [flat, List.map_append]
    rw [show ((i + k : Nat) : Int) = (i : Int) + (k : Int) by omega, Ax.pieces_shift, show i + k + 1 = i + 1 + k by omega, flat_shift k l (i + 1)]
/-- each piece belongs to a member of the list, in order -/
theorem flat_all : ∀ (l : List Ax) (i : Nat), i + l.length ≤ 1024 → (∀ x ∈ l, x.ok) → (∀ x ∈ l, x.check = 0) → ∀ q ∈ flat i l, (i : Int) ≤ q.frm ∧ q.frm < ((i + l.length : Nat) : Int) ∧ q.sm ∧ q.valid = true
  | [], _, _, _, _ => by simp [flat]
  | x :: l, i, hi, hok, hc => by
    simp only [List.length_cons] at hi ⊢
    intro q hq
    simp only [flat] at hq
    rcases List.mem_append.1 hq with hq | hq
    · have h := Ax.pieces_all (f := (i : Int)) (by omega) (by omega) (hok x (by simp)) (hc x (by simp)) q hq
      exact ⟨by rw [h.frm]; omega, by rw [h.frm]; omega, h.sm, h.ok⟩
    · have h := flat_all l (i + 1) (by omega) (fun y hy => hok y (by simp [hy])) (fun y hy => hc y (by simp [hy])) q hq
      exact ⟨by omega, by omega, h.2.2⟩
def Mono (l : List Pc) : Prop := l.Pairwise fun p q => p.frm ≤ q.frm
theorem flat_mono : ∀ (l : List Ax) (i : Nat), i + l.length ≤ 1024 → (∀ x ∈ l, x.ok) → (∀ x ∈ l, x.check = 0) → Mono (flat i l)
  | [], _, _, _, _ => List.Pairwise.nil
  | x :: l, i, hi, hok, hc => by
    simp only [List.length_cons] at hi
    have h := Ax.pieces_all (f := (i : Int)) (by omega) (by omega) (hok x (by simp)) (hc x (by simp))
    have h2 := flat_all l (i + 1) (by omega) (fun y hy => hok y (by simp [hy])) (fun y hy => hc y (by simp [hy]))
    simp only [flat, Mono]
    rw [List.pairwise_append]
    refine ⟨?_, flat_mono l (i + 1) (by omega) (fun y hy => hok y (by simp [hy])) (fun y hy => hc y (by simp [hy])), fun p hp q hq => ?_⟩
    · rw [List.pairwise_iff_getElem]
      intro a b ha hb _
      rw [(h _ (List.getElem_mem ha)).frm, (h _ (List.getElem_mem hb)).frm]; omega
    · rw [(h p hp).frm]
      have := (h2 q hq).1
      omega
theorem firstBad_ne : ∀ {l : List Ax}, firstBad l = 0 → ∀ x ∈ l, x.check = 0
  | [], _, _, h => by cases h
  | y :: l, hb, x, hx => by
    simp only [firstBad] at hb
    split at hb
    · rename_i hy
      rcases List.mem_cons.1 hx with rfl | hx
      · exact hy
      · exact firstBad_ne hb x hx
    · rename_i hy; exact absurd hb hy
theorem piecesL_ok {l : List Ax} (hl : l.length ≤ 12) (h : ∀ x ∈ l, x.check = 0) : piecesL l = (flat 0 l, 0) := by
  unfold piecesL
  rw [if_neg (by omega), if_neg (by simp [firstBad_zero h]), gather_eq l 0 [] h (by simp; omega)]
  simp
theorem piecesL_bad {l : List Ax} (hl : l.length ≤ 12) (h : firstBad l ≠ 0) : piecesL l = ([], firstBad l) := by
  unfold piecesL
  rw [if_neg (by omega), if_pos h]
structure PartsLaw (l : List Ax) (k : Nat) (p a b : List Pc) (er ef eg : Int) : Prop where
  bad : er ≠ 0 → p = [] ∧ (ef ≠ 0 ∨ eg ≠ 0)
  ef : er = 0 → ef = 0
  eg : er = 0 → eg = 0
  eq : er = 0 → p = a ++ b.map (shift (k : Int))
  chk : er = 0 → checkP p = 0
  sm : ∀ q ∈ p, q.sm
  rng : er = 0 → ∀ q ∈ p, 0 ≤ q.frm ∧ q.frm < (l.length : Int)
  mono : er = 0 → Mono p
  len : p.length ≤ 12000 ∧ a.length ≤ 12000 ∧ b.length ≤ 12000
  fb : er = 0 → ∀ q ∈ b, 0 ≤ q.frm ∧ q.frm ≤ 12
theorem parts_law {l : List Ax} {k : Nat} (hl : l.length ≤ 12) (hk : k ≤ l.length) (hok : ∀ x ∈ l, x.ok) {p a b : List Pc} {er ef eg : Int} (hP : piecesL l = (p, er)) (hA : piecesL (l.take k) = (a, ef)) (hB : piecesL (l.drop k) = (b, eg)) : PartsLaw l k p a b er ef eg := by
  have hlt : (l.take k).length ≤ 12 := by simp; omega
  have hld : (l.drop k).length ≤ 12 := by simp; omega
  have lens : ∀ (m : List Ax) (q : List Pc) (e : Int), m.length ≤ 12 → piecesL m = (q, e) → q.length ≤ 12000 ∧ ((firstBad m = 0 ∧ e = 0 ∧ q = flat 0 m ∧ ∀ x ∈ m, x.check = 0) ∨ (firstBad m ≠ 0 ∧ e ≠ 0 ∧ q = [])) := by
    intro m q e hm he
    by_cases hb : firstBad m = 0
    · have hc := firstBad_ne hb
      rw [piecesL_ok hm hc] at he
      simp only [Prod.mk.injEq] at he
      obtain ⟨rfl, rfl⟩ := he
      have := flat_len 0 m hc
      exact ⟨by omega, .inl ⟨hb, rfl, rfl, hc⟩⟩
    · rw [piecesL_bad hm hb] at he
      simp only [Prod.mk.injEq] at he
      obtain ⟨rfl, rfl⟩ := he
      exact ⟨by simp, .inr ⟨hb, hb, rfl⟩⟩
  obtain ⟨lp, cp⟩ := lens l p er hl hP
  obtain ⟨la, ca⟩ := lens _ a ef hlt hA
  obtain ⟨lb, cb⟩ := lens _ b eg hld hB
  rcases cp with ⟨p0, rfl, rfl, pc⟩ | ⟨p0, p1, rfl⟩
  · have ct : ∀ x ∈ l.take k, x.check = 0 := fun x hx => pc x (List.mem_of_mem_take hx)
    have cd : ∀ x ∈ l.drop k, x.check = 0 := fun x hx => pc x (List.mem_of_mem_drop hx)
    have hall := flat_all l 0 (by omega) hok pc
    rcases ca with ⟨_, rfl, rfl, _⟩ | ⟨a0, _, _⟩
    · rcases cb with ⟨_, rfl, rfl, _⟩ | ⟨b0, _, _⟩
      · have halld := flat_all (l.drop k) 0 (by omega) (fun x hx => hok x (List.mem_of_mem_drop hx)) cd
        refine ⟨fun h => absurd rfl h, fun _ => rfl, fun _ => rfl, fun _ => ?_, fun _ => ?_, fun q hq => (hall q hq).2.2.1, fun _ q hq => ?_, fun _ => flat_mono l 0 (by omega) hok pc, ⟨lp, la, lb⟩, fun _ q hq => ?_⟩
        · rw [← flat_shift k (l.drop k) 0]
          have e : l = l.take k ++ l.drop k := (List.take_append_drop k l).symm
          have h2 := flat_append (l.take k) (l.drop k) 0
          rw [List.take_append_drop, List.length_take, Nat.min_eq_left hk] at h2
          exact h2
        · unfold checkP
          rw [if_neg (by omega), if_pos (List.all_eq_true.2 fun q hq => (hall q hq).2.2.2)]
        · have := hall q hq; exact ⟨by omega, by omega⟩
        · have := halld q hq; exact ⟨by omega, by omega⟩
      · exact absurd (firstBad_zero cd) b0
    · exact absurd (firstBad_zero ct) a0
  · refine ⟨fun _ => ⟨rfl, ?_⟩, fun h => absurd h p1, fun h => absurd h p1, fun h => absurd h p1, fun h => absurd h p1, fun q hq => by (cases hq), fun h => absurd h p1, fun h => absurd h p1, ⟨by simp, la, lb⟩, fun h => absurd h p1⟩
    rcases ca with ⟨a0, _, _, ac⟩ | ⟨_, a1, _⟩
    · rcases cb with ⟨b0, _, _, bc⟩ | ⟨_, b1, _⟩
      · exfalso
        apply p0
        apply firstBad_zero
        intro x hx
        rw [← List.take_append_drop k l] at hx
        rcases List.mem_append.1 hx with hx | hx
        · exact ac x hx
        · exact bc x hx
      · exact .inr b1
    · exact .inl a1
end Go.Vs

/-
  The pieces of one member of a base: different, few; the pieces of a goal: valid, different; they mention the atoms of its facts.
-/
namespace Go.Vs
open Go Go.Sx
section
variable {f : Int} {R : List Pc → List Pc → Prop} (hr : ∀ l, R l l) (ht : ∀ {a b c}, R a b → R b c → R a c) (hi : ∀ l p, R l (ins f l p))
include hr ht hi
theorem andP_rel (c : Con) : ∀ (r : List Con) (j : Nat) (a : Str) (l : List Pc), R l (c.andP f r j a l)
  | [], _, _, l => hr l
  | p :: r, j, a, l => ht (hi l _) (andP_rel c r (j + 1) _ _)
theorem leftP_rel : ∀ (m : Nat) (c : Con), c.sz ≤ m → ∀ l, R l (c.leftP f l)
  | 0, c, h => by have := c.sz_pos; omega
  | m + 1, c, h => fun l => by
    have key : ∀ ps : List Con, (∀ p ∈ ps, p.sz ≤ m) → ∀ l, R l (Con.leftP.lefts f ps l) := by
      intro ps
      induction ps with
      | nil => intro _ l; exact hr l
      | cons p ps ih => intro hp l; exact ht (leftP_rel m p (hp p (by simp)) l) (ih (fun q hq => hp q (by simp [hq])) _)
    have hk := key c.parts (fun p hp => by have := Con.sz_part hp; omega) l
    rw [Con.leftP_eq]
    split
    · exact ht hk (andP_rel hr ht hi c _ _ _ _)
    · split
      · exact ht hk (hi _ _)
      · split
        · exact hi _ _
        · exact hr l
theorem rightP_rel : ∀ (m : Nat) (c : Con), c.sz ≤ m → ∀ l, R l (c.rightP f l)
  | 0, c, h => by have := c.sz_pos; omega
  | m + 1, c, h => fun l => by
    have key : ∀ ps : List Con, (∀ p ∈ ps, p.sz ≤ m) → ∀ a l, R l (Con.rightP.rights f a ps l) := by
      intro ps
      induction ps with
      | nil => intro _ a l; exact hr l
      | cons p ps ih => intro hp a l; exact ht (hi _ _) (ht (rightP_rel m p (hp p (by simp)) _) (ih (fun q hq => hp q (by simp [hq])) _ _))
    have key2 : ∀ ps : List Con, (∀ p ∈ ps, p.sz ≤ m) → ∀ l, R l (Con.rightP.righty f ps l) := by
      intro ps
      induction ps with
      | nil => intro _ l; exact hr l
      | cons p ps ih => intro hp l; exact ht (rightP_rel m p (hp p (by simp)) l) (ih (fun q hq => hp q (by simp [hq])) _)
    have hps : ∀ p ∈ c.parts, p.sz ≤ m := fun p hp => by have := Con.sz_part hp; omega
    rw [Con.rightP_eq]
    split
    · exact key c.parts hps _ l
    · split
      · exact ht (hi _ _) (key2 c.parts hps _)
      · split
        · exact hi _ _
        · exact hr l
theorem chainP_rel (ro : Str) : ∀ (rs : List Str) (g : Str) (l : List Pc), R l (Ax.chainP f ro rs g l)
  | [], _, l => hr l
  | r :: t, g, l => ht (hi l _) (chainP_rel ro t _ _)
theorem ments_rel : ∀ (xs : List Str) (l : List Pc), R l (ments f xs l)
  | [], l => hr l
  | a :: r, l => ht (hi l _) (ments_rel r _)
theorem pieces_rel (x : Ax) : R [] (x.pieces f) := by
  have L := fun (c : Con) l => leftP_rel hr ht hi _ c (Nat.le_refl _) l
  have Q := fun (c : Con) l => rightP_rel hr ht hi _ c (Nat.le_refl _) l
  unfold Ax.pieces
  repeat' split
  · exact ht (L _ _) (ht (Q _ _) (hi _ _))
  · exact ht (L _ _) (ht (Q _ _) (ht (hi _ _) (ht (L _ _) (ht (Q _ _) (hi _ _)))))
  · exact ht (L _ _) (ht (L _ _) (hi _ _))
  · exact ht (Q _ _) (hi _ _)
  · exact hi _ _
  · exact chainP_rel hr ht hi _ _ _ _
  · exact hi _ _
  · exact ht (Q _ _) (hi _ _)
  · exact hi _ _
end
/-- grows, and stays without repetition -/
structure Gr (a b : List Pc) : Prop where
  nodup : a.Nodup → b.Nodup
  sub : ∀ q ∈ a, q ∈ b
theorem Gr.refl (l : List Pc) : Gr l l := ⟨id, fun _ h => h⟩
theorem Gr.trans {a b c : List Pc} (h : Gr a b) (k : Gr b c) : Gr a c := ⟨fun q => k.nodup (h.nodup q), fun q hq => k.sub q (h.sub q hq)⟩
theorem Gr.ins (f : Int) (l : List Pc) (p : Pc) : Gr l (ins f l p) := by
  unfold Vs.ins
  split
  · exact Gr.refl l
  · rename_i h
    refine ⟨fun hn => ?_, fun q hq => List.mem_append_left _ hq⟩
    rw [List.nodup_append]
    exact ⟨hn, by simp, fun a ha b hb => by simp only [List.mem_singleton] at hb; subst hb; rintro rfl; exact h ha⟩
theorem ins_mem (f : Int) (l : List Pc) (p : Pc) : { p with frm := f } ∈ ins f l p := by
  unfold ins
  split
  · assumption
  · simp
theorem ments_mem (f : Int) : ∀ (xs : List Str) (l : List Pc), ∀ a ∈ xs, { subp a [42] with frm := f } ∈ ments f xs l
  | [], _, _, h => by cases h
  | x :: xs, l, a, h => by
    rcases List.mem_cons.1 h with rfl | h
    · exact (ments_rel (f := f) Gr.refl Gr.trans (Gr.ins f) xs _).sub _ (ins_mem f l _)
    · exact ments_mem f xs _ a h
theorem ments_all {f : Int} (h0 : -1 ≤ f) (h1 : f < 1024) : ∀ (xs : List Str) (l : List Pc), (∀ a ∈ xs, atomS a = true ∧ a.length ≤ 1000000000000) → (∀ q ∈ l, PQ f q) → ∀ q ∈ ments f xs l, PQ f q
  | [], _, _, hl => hl
  | a :: r, l, ha, hl => by
    have h := ha a (by simp)
    exact ments_all h0 h1 r _ (fun b hb => ha b (by simp [hb])) (ins_all hl ⟨rfl, ⟨by simp [subp]; omega, by simp [subp], by simp [subp], by simp [subp], by simp [subp], by simp [subp]⟩, val1 h0 h1 h.1 rfl⟩)
def wgt (c : Con) : Nat := if c.kind = 0 then 0 else c.sz
structure SmallLaw (x : Ax) : Prop where
  few : 1 ≤ (x.pieces 0).length ∧ (x.pieces 0).length ≤ 4 * (wgt x.left + wgt x.right) + 3
  nodup : (x.pieces 0).Nodup
  gnodup : x.goalP.1.Nodup
  gfrm : ∀ q ∈ x.goalP.1, q.frm = -1
  role : x.kind = 5 ∨ x.kind = 6 ∨ x.kind = 7 → x.goalP = ([], [], 22)
  rest : ¬ (x.kind = 5 ∨ x.kind = 6 ∨ x.kind = 7) → x.goalP.2.2 = 0 ∧ checkP x.goalP.1 = 0 ∧ 1 ≤ x.goalP.2.1.length ∧ x.goalP.2.1.length ≤ 2 ∧ ∀ g ∈ x.goalP.2.1, (⟨1, g.a, [], [42], [], [], [], 0, 0, -1⟩ : Pc) ∈ x.goalP.1 ∧ (⟨1, g.b, [], [42], [], [], [], 0, 0, -1⟩ : Pc) ∈ x.goalP.1
  sm : ∀ q ∈ x.goalP.1, q.sm
  len : x.goalP.1.length ≤ 2000
theorem goal_bad {x : Ax} (h : x.check ≠ 0) : x.goalP = ([], [], x.check) := by unfold Ax.goalP; rw [if_pos h]
theorem kind_pos {c : Con} (h : c.check = 0) : wgt c = c.sz := by
  have F := Con.fields (Con.check_zero h).1
  unfold wgt
  rw [if_neg (by have := F.k1; omega)]
theorem pieces_few {x : Ax} (hc : x.check = 0) : (x.pieces 0).length ≤ 4 * (wgt x.left + wgt x.right) + 3 := by
  have G := Ax.good_of hc
  have L := fun (c : Con) l => Con.leftP_len 0 _ c (Nat.le_refl _) l
  have Q := fun (c : Con) l => Con.rightP_len 0 _ c (Nat.le_refl _) l
  have wl : x.kind ≤ 3 → wgt x.left = x.left.sz := fun h => kind_pos (G.left h)
  have wr : x.kind ≤ 4 ∨ x.kind = 8 → wgt x.right = x.right.sz := fun h => kind_pos (G.right h)
  have pl := x.left.sz_pos
  have pr := x.right.sz_pos
  have n0 : ([] : List Pc).length = 0 := rfl
  have I := fun l p => ins_len 0 l p
  have hch : ∀ (ro : Str) (rs : List Str) (f : Str) (l : List Pc), (Ax.chainP 0 ro rs f l).length ≤ l.length + rs.length := by
    intro ro rs
    induction rs with
    | nil => intro f l; simp [Ax.chainP]
    | cons r t ih =>
      intro f l
      simp only [Ax.chainP]
      have a1 := ih (if t = [] then ro else f ++ [46] ++ r) (ins 0 l ⟨6, [], [], [], f, r, if t = [] then ro else f ++ [46] ++ r, 0, 0, 0⟩)
      have a2 := I l ⟨6, [], [], [], f, r, if t = [] then ro else f ++ [46] ++ r, 0, 0, 0⟩
      simp only [List.length_cons]
      omega
  unfold Ax.pieces
  split
  · have := wl (by omega); have := wr (by omega)
    have a1 := L x.left []; have a2 := Q x.right (x.left.leftP 0 []); have a3 := I (x.right.rightP 0 (x.left.leftP 0 [])) ⟨1, x.left.atom, [], x.right.atom, [], [], [], 0, 0, 0⟩
    omega
  · split
    · have := wl (by omega); have := wr (by omega)
      have a1 := L x.left []; have a2 := Q x.right (x.left.leftP 0 []); have a3 := I (x.right.rightP 0 (x.left.leftP 0 [])) ⟨1, x.left.atom, [], x.right.atom, [], [], [], 0, 0, 0⟩
      have a4 := L x.right (ins 0 (x.right.rightP 0 (x.left.leftP 0 [])) ⟨1, x.left.atom, [], x.right.atom, [], [], [], 0, 0, 0⟩)
      have a5 := Q x.left (x.right.leftP 0 (ins 0 (x.right.rightP 0 (x.left.leftP 0 [])) ⟨1, x.left.atom, [], x.right.atom, [], [], [], 0, 0, 0⟩))
      have a6 := I (x.left.rightP 0 (x.right.leftP 0 (ins 0 (x.right.rightP 0 (x.left.leftP 0 [])) ⟨1, x.left.atom, [], x.right.atom, [], [], [], 0, 0, 0⟩))) ⟨1, x.right.atom, [], x.left.atom, [], [], [], 0, 0, 0⟩
      omega
    · split
      · have := wl (by omega); have := wr (by omega)
        have a1 := L x.left []; have a2 := L x.right (x.left.leftP 0 []); have a3 := I (x.right.leftP 0 (x.left.leftP 0 [])) ⟨2, x.left.atom, x.right.atom, [33], [], [], [], 0, 0, 0⟩
        omega
      · split
        · have := wr (by omega)
          have a1 := Q x.right []; have a3 := I (x.right.rightP 0 []) ⟨4, [42], [], x.right.atom, x.role, [], [], 0, 0, 0⟩
          omega
        · split
          · have := I [] ⟨5, [], [], [], x.roles.headD [], [], x.role, 0, 0, 0⟩; omega
          · split
            · rename_i h6
              have := G.chain h6
              have := hch x.role (x.roles.drop 1) (x.roles.headD []) []
              simp only [List.length_drop] at this
              omega
            · split
              · have := I [] ⟨7, [], [], [], x.role, [], [], 0, 0, 0⟩; omega
              · split
                · have := wr (by omega)
                  have a1 := Q x.right []; have a3 := I (x.right.rightP 0 []) ⟨1, [123] ++ x.a ++ [125], [], x.right.atom, [], [], [], 0, 0, 0⟩
                  omega
                · have := I [] ⟨3, [123] ++ x.a ++ [125], [], [123] ++ x.b ++ [125], x.role, [], [], 0, 0, 0⟩; omega
/-- what is known of a goal's list -/
structure GoalOk (p : List Pc) (l : List Fc) : Prop where
  gr : p.Nodup
  pq : ∀ q ∈ p, PQ (-1) q
  len : p.length ≤ 2000
  one : 1 ≤ l.length ∧ l.length ≤ 2
  ment : ∀ g ∈ l, (⟨1, g.a, [], [42], [], [], [], 0, 0, -1⟩ : Pc) ∈ p ∧ (⟨1, g.b, [], [42], [], [], [], 0, 0, -1⟩ : Pc) ∈ p
theorem goal_ok {x : Ax} (hok : x.ok) (hc : x.check = 0) (hk : ¬ (x.kind = 5 ∨ x.kind = 6 ∨ x.kind = 7)) : GoalOk x.goalP.1 x.goalP.2.1 ∧ x.goalP.2.2 = 0 := by
  have G := Ax.good_of hc
  have k1 := G.k1
  have k9 := G.k9
  have gr := fun l p => Gr.ins (-1) l p
  have L := fun (c : Con) l => leftP_rel (f := -1) Gr.refl Gr.trans gr _ c (Nat.le_refl _) l
  have Q := fun (c : Con) l => rightP_rel (f := -1) Gr.refl Gr.trans gr _ c (Nat.le_refl _) l
  have M := fun xs l => ments_rel (f := -1) Gr.refl Gr.trans gr xs l
  have mm := fun xs l a h => ments_mem (-1) xs l a h
  have LA := fun (c : Con) (hok : c.ok) (hc : c.check = 0) l hl => Con.leftP_all (f := -1) (by decide) (by decide) _ c (Nat.le_refl _) hok hc l hl
  have QA := fun (c : Con) (hok : c.ok) (hc : c.check = 0) l hl => Con.rightP_all (f := -1) (by decide) (by decide) _ c (Nat.le_refl _) hok hc l hl
  have MA := fun xs l hx hl => ments_all (f := -1) (by decide) (by decide) xs l hx hl
  have n : ∀ q ∈ ([] : List Pc), PQ (-1) q := fun q hq => by cases hq
  have A := fun (c : Con) (hok : c.ok) (hc : c.check = 0) => (⟨Con.atom_ok hc, by have := Con.atom_len hok hc; omega⟩ : atomS c.atom = true ∧ c.atom.length ≤ 1000000000000)
  have Ll := fun (c : Con) l => Con.leftP_len (-1) _ c (Nat.le_refl _) l
  have Ql := fun (c : Con) l => Con.rightP_len (-1) _ c (Nat.le_refl _) l
  have Ml := fun xs l => ments_len (-1) xs l
  have Il := fun l p => ins_len (-1) l p
  have sl : x.kind ≤ 3 → x.left.sz ≤ 64 := fun h => (Con.check_zero (G.left h)).2
  have sr : x.kind ≤ 4 ∨ x.kind = 8 → x.right.sz ≤ 64 := fun h => (Con.check_zero (G.right h)).2
  have nd : ([] : List Pc).Nodup := List.nodup_nil
  have two : ∀ (a b : Str), atomS a = true ∧ a.length ≤ 1000000000000 → atomS b = true ∧ b.length ≤ 1000000000000 → ∀ c ∈ [a, b], atomS c = true ∧ c.length ≤ 1000000000000 := by
    intro a b ha hb c hc
    simp only [List.mem_cons, List.not_mem_nil, or_false] at hc
    rcases hc with rfl | rfl
    · exact ha
    · exact hb
  have m2 : ∀ (a b : Str) (p : List Pc) (r : Str), Gr (ments (-1) [a, b] []) p → ∀ g ∈ [(⟨1, a, b, r, 0, 0⟩ : Fc)], (⟨1, g.a, [], [42], [], [], [], 0, 0, -1⟩ : Pc) ∈ p ∧ (⟨1, g.b, [], [42], [], [], [], 0, 0, -1⟩ : Pc) ∈ p := by
    intro a b p r hg g hm
    simp only [List.mem_singleton] at hm
    subst hm
    exact ⟨hg.sub _ (mm [a, b] [] a (by simp)), hg.sub _ (mm [a, b] [] b (by simp))⟩
  unfold Ax.goalP
  rw [if_neg (by omega)]
  split
  · have l := G.left (by omega); have r := G.right (by omega); have a1 := A _ hok.left l; have a2 := A _ hok.right r; have := sl (by omega); have := sr (by omega)
    have g1 := Q x.left (ments (-1) [x.left.atom, x.right.atom] []); have g2 := L x.right (x.left.rightP (-1) (ments (-1) [x.left.atom, x.right.atom] []))
    refine ⟨⟨(Gr.trans (M _ _) (Gr.trans g1 g2)).nodup nd, LA _ hok.right r _ (QA _ hok.left l _ (MA _ _ (two _ _ a1 a2) n)), ?_, by simp, m2 _ _ _ _ (Gr.trans g1 g2)⟩, rfl⟩
    have := Ml [x.left.atom, x.right.atom] []; have := Ql x.left (ments (-1) [x.left.atom, x.right.atom] []); have := Ll x.right (x.left.rightP (-1) (ments (-1) [x.left.atom, x.right.atom] []))
    simp only [List.length_cons, List.length_nil] at *
    omega
  · split
    · have l := G.left (by omega); have r := G.right (by omega); have a1 := A _ hok.left l; have a2 := A _ hok.right r; have := sl (by omega); have := sr (by omega)
      have g1 := Q x.left (ments (-1) [x.left.atom, x.right.atom] []); have g2 := L x.right (x.left.rightP (-1) (ments (-1) [x.left.atom, x.right.atom] []))
      have g3 := Q x.right (x.right.leftP (-1) (x.left.rightP (-1) (ments (-1) [x.left.atom, x.right.atom] []))); have g4 := L x.left (x.right.rightP (-1) (x.right.leftP (-1) (x.left.rightP (-1) (ments (-1) [x.left.atom, x.right.atom] []))))
      have gg := Gr.trans g1 (Gr.trans g2 (Gr.trans g3 g4))
      refine ⟨⟨(Gr.trans (M _ _) gg).nodup nd, LA _ hok.left l _ (QA _ hok.right r _ (LA _ hok.right r _ (QA _ hok.left l _ (MA _ _ (two _ _ a1 a2) n)))), ?_, by simp, ?_⟩, rfl⟩
      · have := Ml [x.left.atom, x.right.atom] []; have := Ql x.left (ments (-1) [x.left.atom, x.right.atom] []); have := Ll x.right (x.left.rightP (-1) (ments (-1) [x.left.atom, x.right.atom] []))
        have := Ql x.right (x.right.leftP (-1) (x.left.rightP (-1) (ments (-1) [x.left.atom, x.right.atom] []))); have := Ll x.left (x.right.rightP (-1) (x.right.leftP (-1) (x.left.rightP (-1) (ments (-1) [x.left.atom, x.right.atom] []))))
        simp only [List.length_cons, List.length_nil] at *
        omega
      · intro g hg
        simp only [List.mem_cons, List.not_mem_nil, or_false] at hg
        have e1 := mm [x.left.atom, x.right.atom] [] x.left.atom (by simp)
        have e2 := mm [x.left.atom, x.right.atom] [] x.right.atom (by simp)
        rcases hg with rfl | rfl
        · exact ⟨gg.sub _ e1, gg.sub _ e2⟩
        · exact ⟨gg.sub _ e2, gg.sub _ e1⟩
    · split
      · have l := G.left (by omega); have r := G.right (by omega); have a1 := A _ hok.left l; have a2 := A _ hok.right r; have := sl (by omega); have := sr (by omega)
        have o1 := Con.operandN_len hok.left; have o2 := Con.operandN_len hok.right
        have ax : atomS x.disj = true ∧ x.disj.length ≤ 1000000000000 := by
          refine ⟨?_, by simp [Ax.disj]; omega⟩
          have e : x.disj = [60] ++ (x.left.operandN ++ [32, 97, 110, 100, 32] ++ x.right.operandN) ++ [62] := by simp [Ax.disj]
          rw [e]
          exact atom_angle (by simp)
        have b1 : ∀ (l : List Pc), (∀ q ∈ l, PQ (-1) q) → ∀ (c : Str), atomS c = true → c.length ≤ 1000000000000 → ∀ q ∈ ins (-1) l (subp x.disj c), PQ (-1) q := fun l hl c hc hcl => ins_all hl ⟨rfl, ⟨by simp [subp]; omega, by simp [subp], by simp [subp]; omega, by simp [subp], by simp [subp], by simp [subp]⟩, val1 (by decide) (by decide) ax.1 hc⟩
        have g0 := gr (ments (-1) [x.disj, [33]] []) (subp x.disj x.left.atom)
        have g1 := Q x.left (ins (-1) (ments (-1) [x.disj, [33]] []) (subp x.disj x.left.atom))
        have g2 := gr (x.left.rightP (-1) (ins (-1) (ments (-1) [x.disj, [33]] []) (subp x.disj x.left.atom))) (subp x.disj x.right.atom)
        have g3 := Q x.right (ins (-1) (x.left.rightP (-1) (ins (-1) (ments (-1) [x.disj, [33]] []) (subp x.disj x.left.atom))) (subp x.disj x.right.atom))
        have gg := Gr.trans g0 (Gr.trans g1 (Gr.trans g2 g3))
        refine ⟨⟨(Gr.trans (M _ _) gg).nodup nd, QA _ hok.right r _ (b1 _ (QA _ hok.left l _ (b1 _ (MA _ _ (two _ _ ax ⟨rfl, by simp⟩) n) _ a1.1 a1.2)) _ a2.1 a2.2), ?_, by simp, m2 _ _ _ _ gg⟩, rfl⟩
        have := Ml [x.disj, [33]] []; have := Il (ments (-1) [x.disj, [33]] []) (subp x.disj x.left.atom); have := Ql x.left (ins (-1) (ments (-1) [x.disj, [33]] []) (subp x.disj x.left.atom))
        have := Il (x.left.rightP (-1) (ins (-1) (ments (-1) [x.disj, [33]] []) (subp x.disj x.left.atom))) (subp x.disj x.right.atom)
        have := Ql x.right (ins (-1) (x.left.rightP (-1) (ins (-1) (ments (-1) [x.disj, [33]] []) (subp x.disj x.left.atom))) (subp x.disj x.right.atom))
        simp only [List.length_cons, List.length_nil] at *
        omega
      · split
        · have r := G.right (by omega); have a2 := A _ hok.right r; have := sr (by omega); have p := G.role (by omega); have pl := plain_lt p
          have ay : atomS x.doms = true ∧ x.doms.length ≤ 1000000000000 := by
            refine ⟨?_, by simp [Ax.doms]; omega⟩
            have e : x.doms = [60] ++ ([115, 111, 109, 101, 32] ++ x.role ++ [32, 101, 118, 101, 114, 121, 116, 104, 105, 110, 103]) ++ [62] := by simp [Ax.doms]
            rw [e]
            exact atom_angle (by simp)
          have g0 := gr (ments (-1) [x.doms, x.right.atom] []) ⟨3, x.doms, [], [42], x.role, [], [], 0, 0, 0⟩
          have g1 := L x.right (ins (-1) (ments (-1) [x.doms, x.right.atom] []) ⟨3, x.doms, [], [42], x.role, [], [], 0, 0, 0⟩)
          have gg := Gr.trans g0 g1
          refine ⟨⟨(Gr.trans (M _ _) gg).nodup nd, LA _ hok.right r _ (ins_all (MA _ _ (two _ _ ay a2) n) ⟨rfl, ⟨by dsimp only; omega, by simp, by simp, by dsimp only; omega, by simp, by simp⟩, val3 (by decide) (by decide) ay.1 (role_plain p) rfl⟩), ?_, by simp, m2 _ _ _ _ gg⟩, rfl⟩
          have := Ml [x.doms, x.right.atom] []; have := Il (ments (-1) [x.doms, x.right.atom] []) ⟨3, x.doms, [], [42], x.role, [], [], 0, 0, 0⟩; have := Ll x.right (ins (-1) (ments (-1) [x.doms, x.right.atom] []) ⟨3, x.doms, [], [42], x.role, [], [], 0, 0, 0⟩)
          simp only [List.length_cons, List.length_nil] at *
          omega
        · split
          · have r := G.right (by omega); have a2 := A _ hok.right r; have := sr (by omega); have p := G.a (by omega); have pl := person_lt p
            have ai : atomS (indS x.a) = true ∧ (indS x.a).length ≤ 1000000000000 := ⟨atom_ind p, by simp [indS]; omega⟩
            have g1 := L x.right (ments (-1) [indS x.a, x.right.atom] [])
            refine ⟨⟨(Gr.trans (M _ _) g1).nodup nd, LA _ hok.right r _ (MA _ _ (two _ _ ai a2) n), ?_, by simp, m2 _ _ _ _ g1⟩, rfl⟩
            have := Ml [indS x.a, x.right.atom] []; have := Ll x.right (ments (-1) [indS x.a, x.right.atom] [])
            simp only [List.length_cons, List.length_nil] at *
            omega
          · split
            · have p := G.a (by omega); have pl := person_lt p; have p2 := G.b (by omega); have pl2 := person_lt p2
              have ai : atomS (indS x.a) = true ∧ (indS x.a).length ≤ 1000000000000 := ⟨atom_ind p, by simp [indS]; omega⟩
              have bi : atomS (indS x.b) = true ∧ (indS x.b).length ≤ 1000000000000 := ⟨atom_ind p2, by simp [indS]; omega⟩
              refine ⟨⟨(M _ _).nodup nd, MA _ _ (two _ _ ai bi) n, ?_, by simp, ?_⟩, rfl⟩
              · have := Ml [indS x.a, indS x.b] []
                simp only [List.length_cons, List.length_nil] at *
                omega
              · intro g hm
                simp only [List.mem_singleton] at hm
                subst hm
                exact ⟨mm [indS x.a, indS x.b] [] (indS x.a) (by simp), mm [indS x.a, indS x.b] [] (indS x.b) (by simp)⟩
            · exfalso; omega
theorem small_law {x : Ax} (hok : x.ok) (hc : x.check = 0) : SmallLaw x := by
  have G := Ax.good_of hc
  have hne := Ax.pieces_ne 0 G
  have hp1 : 1 ≤ (x.pieces 0).length := List.length_pos_iff.2 hne
  have hrole : x.kind = 5 ∨ x.kind = 6 ∨ x.kind = 7 → x.goalP = ([], [], 22) := fun h => by
    unfold Ax.goalP
    rw [if_neg (by omega)]
    repeat rw [if_neg (by omega)]
  by_cases hk : x.kind = 5 ∨ x.kind = 6 ∨ x.kind = 7
  · have e := hrole hk
    refine ⟨⟨hp1, pieces_few hc⟩, (pieces_rel (f := 0) Gr.refl Gr.trans (Gr.ins 0) x).nodup List.nodup_nil, by rw [e]; simp, by rw [e]; simp, hrole, fun h => absurd hk h, by rw [e]; simp, by rw [e]; simp⟩
  · obtain ⟨g, e⟩ := goal_ok hok hc hk
    refine ⟨⟨hp1, pieces_few hc⟩, (pieces_rel (f := 0) Gr.refl Gr.trans (Gr.ins 0) x).nodup List.nodup_nil, g.gr, fun q hq => (g.pq q hq).frm, hrole, fun _ => ⟨e, ?_, g.one.1, g.one.2, g.ment⟩, fun q hq => (g.pq q hq).sm, g.len⟩
    unfold checkP
    rw [if_neg (by have := g.len; omega), if_pos (List.all_eq_true.2 fun q hq => (g.pq q hq).ok)]
theorem piecesL_one (x : Ax) : piecesL [x] = if x.check = 0 then (x.pieces 0, 0) else ([], x.check) := by
  by_cases hc : x.check = 0
  · rw [if_pos hc]
    have := piecesL_ok (l := [x]) (by simp) (by simpa using hc)
    rw [this]
    simp [flat]
  · rw [if_neg hc, piecesL_bad (by simp) (by simp [firstBad, hc])]
    simp [firstBad, hc]
end Go.Vs

/-
  Indices of pieces; sorted lists of strings without repetition; rows that a library function rewrites.
-/
namespace Go.Sx
open Go
section
variable {P : Program} {N : Nat} {fr : Fr} {H : Hp} {Γ : List Fct}
theorem bless_eq : ∀ (x y : List UInt8), Op.bytesLess x y = decide (x < y)
  | [], [] => by simp [Op.bytesLess]
  | _ :: _, [] => by simp [Op.bytesLess]
  | [], _ :: _ => by simp [Op.bytesLess]
  | a :: x, b :: y => by
    rw [Op.bytesLess, bless_eq x y]
    simp only [List.cons_lt_cons_iff]
    by_cases h1 : a < b <;> by_cases h2 : a = b <;> by_cases h3 : x < y <;> simp [h1, h2, h3]
theorem bleq_eq (x y : List UInt8) : (Op.bytesLess x y || x == y) = decide (x ≤ y) := by
  rw [bless_eq]
  by_cases h : x ≤ y
  · rw [decide_eq_true h]
    by_cases e : x = y
    · simp [e]
    · have : x < y := by
        apply Decidable.byContradiction
        intro h2
        exact e (List.le_antisymm h (List.not_lt.1 h2))
      simp [this]
  · rw [decide_eq_false h]
    have h1 : ¬ x < y := fun q => h (List.le_of_lt q)
    have h2 : x ≠ y := fun e => h (e ▸ List.le_refl x)
    simp [h1, h2]
theorem yld_slss {t t' ty : TypeId} {x y : Operand} {m n : List UInt8} (hx : Fr.ev fr x = some (str m)) (hy : Fr.ev fr y = some (str n)) : Yld P N fr H Γ (.binOp .lss t x y t') ty (.bool (decide (m < n))) :=
  fun a v h1 _ _ _ _ _ => by rw [← bless_eq]; simp [execOp, h1.ev hx, h1.ev hy, str, eqGuard, binOp, Op.stringOp]
theorem yld_sleq {t t' ty : TypeId} {x y : Operand} {m n : List UInt8} (hx : Fr.ev fr x = some (str m)) (hy : Fr.ev fr y = some (str n)) : Yld P N fr H Γ (.binOp .leq t x y t') ty (.bool (decide (m ≤ n))) :=
  fun a v h1 _ _ _ _ _ => by rw [← bleq_eq]; simp [execOp, h1.ev hx, h1.ev hy, str, eqGuard, binOp, Op.stringOp]
/-- a library function that rewrites a row of one's own -/
theorem tri_of_put {f : FuncId} {args : Array Value} {r : Value} {g : Nat} {cur : Array Value} {T : TypeId} {d : Array (List UInt8)} (hc : Callable P f)
    (h : ∀ v : Vw, v.sat [(g, .cells cur T (0, 0))] → Calls P f args v.w fun e w' => e = .returned r ∧ ∃ n os, w' = Sort.grow (Sort.putRow Go.Proofs.encStr (Sort.ahead v.w n) g 0 d) os) :
    Tri P f args [(g, .cells cur T (0, 0))] Γ (fun _ : Unit => r) (fun _ => [(g, .cells (Sort.putCells Go.Proofs.encStr 0 d cur) T (0, 0))]) (fun _ => []) :=
  ⟨hc, fun v h1 _ => (h v h1).mono fun e w' ⟨he, n, os, hw⟩ => by
    have hg := (h1.own _ List.mem_cons_self)
    have hlt : g < v.w.heap.size := (Array.getElem?_eq_some_iff.1 hg.1).1
    have hb : ∀ b, b < v.w.heap.size → w'.heap[b]? = if b = g then some (.cells (Sort.putCells Go.Proofs.encStr 0 d cur) T (0, 0)) else v.w.heap[b]? := fun b hb => by
      rw [hw]
      simp only [Sort.grow, Sort.putRow, Sort.mapBlock, Sort.ahead]
      rw [Array.getElem?_append_left (by simpa using hb), Array.getElem?_modify]
      by_cases e : b = g
      · subst e
        simp only [if_true, hg.1, Option.map_some, Sort.onCells]
      · rw [if_neg (fun q => e q.symm), if_neg e]
    have hsz : v.w.heap.size ≤ w'.heap.size := by rw [hw]; simp [Sort.grow, Sort.putRow, Sort.mapBlock, Sort.ahead]
    refine ⟨(), ⟨v.im, w'⟩, he, rfl, ⟨fun p hp => ?_, by simp, fun b hbb => Nat.lt_of_lt_of_le (h1.lt b hbb) hsz⟩, trivial, ⟨by rw [hw]; rfl, by rw [hw]; rfl, by rw [hw]; rfl, hsz, fun b hbb hn => ?_, fun _ h => h, fun _ h => .inl h, fun b hm => .inl (by simpa using hm)⟩⟩
    · simp only [List.mem_singleton] at hp
      subst hp
      exact ⟨by show w'.heap[g]? = _; rw [hb g hlt, if_pos rfl], hg.2⟩
    · have hn' : b ≠ g := by simpa using hn
      show w'.heap[b]? = _
      rw [hb b hbb, if_neg hn']⟩
theorem put_take {cur : Array Value} {d : List (List UInt8)} (hs : d.length ≤ cur.size) : (Sort.putCells Go.Proofs.encStr 0 d.toArray cur).toList.take d.length = d.flatMap strC := by
  rw [strC_map]
  apply List.ext_getElem?
  intro j
  rw [List.getElem?_take, List.getElem?_map]
  split
  · rename_i hj
    simp only [Sort.putCells, Array.getElem?_toList, Array.getElem?_mapIdx]
    rw [Array.getElem?_eq_getElem (by omega)]
    simp only [Option.map_some, Nat.zero_le, true_and, Nat.zero_add, List.size_toArray, hj, if_true, Nat.sub_zero]
    rw [List.getElem?_eq_getElem hj]
    simp only [Option.map_some]
    rw [getElem!_pos d.toArray j (by simpa using hj)]
    rfl
  · rename_i hj
    rw [List.getElem?_eq_none (by omega)]; rfl
theorem put_size {cur : Array Value} {d : Array (List UInt8)} : (Sort.putCells Go.Proofs.encStr 0 d cur).size = cur.size := by simp [Sort.putCells]
end
end Go.Sx
namespace Go.Vs
open Go Go.Sx
/-- the places of the pieces with this From -/
def ofs (a : Int) : Nat → List Pc → List Int
  | _, [] => []
  | i, p :: r => if p.frm = a then (i : Int) :: ofs a (i + 1) r else ofs a (i + 1) r
theorem ofs_append (a : Int) : ∀ (xs ys : List Pc) (i : Nat), ofs a i (xs ++ ys) = ofs a i xs ++ ofs a (i + xs.length) ys
  | [], ys, i => by simp [ofs]
  | x :: xs, ys, i => by
    simp only [List.cons_append, ofs, List.length_cons]
    rw [ofs_append a xs ys (i + 1), show i + 1 + xs.length = i + (xs.length + 1) by omega]
    split <;> simp
theorem ofs_step (a : Int) {l : List Pc} {p : Pc} {i : Nat} (h : l[i]? = some p) : ofs a 0 (l.take (i + 1)) = ofs a 0 (l.take i) ++ if p.frm = a then [(i : Int)] else [] := by
  have hi := (List.getElem?_eq_some_iff.1 h).1
  rw [List.take_add_one, h, Option.toList_some, ofs_append, List.length_take, Nat.min_eq_left (by omega), Nat.zero_add]
  simp only [ofs]
theorem ofs_len (a : Int) : ∀ (l : List Pc) (i : Nat), (ofs a i l).length ≤ l.length
  | [], _ => by simp [ofs]
  | p :: r, i => by
    have := ofs_len a r (i + 1)
    simp only [ofs]
    split <;> simp <;> omega
def atoms1 (p : Pc) : List Str := [p.a, p.b, p.c].filter fun s => !(s == [])
def atomsR (l : List Pc) : List Str := l.flatMap atoms1
def atomsL (l : List Pc) : List Str := Lib.compact ((atomsR l).mergeSort fun x y => decide (x ≤ y))
theorem atomsR_len : ∀ l : List Pc, (atomsR l).length ≤ 3 * l.length
  | [] => by simp [atomsR]
  | p :: r => by
    have h1 := atomsR_len r
    have h2 : (atoms1 p).length ≤ 3 := by unfold atoms1; exact List.length_filter_le _ _
    simp only [atomsR, List.flatMap_cons, List.length_append, List.length_cons] at h1 ⊢
    omega
theorem sorted_R (l : List Str) : (l.mergeSort fun x y => decide (x ≤ y)).Pairwise fun x y => x ≤ y := by
  have h := List.pairwise_mergeSort (le := fun x y : Str => decide (x ≤ y)) (fun a b c h1 h2 => by simp only [decide_eq_true_eq] at *; exact List.le_trans h1 h2) (fun a b => by
    simp only [Bool.or_eq_true, decide_eq_true_eq]; exact List.le_total a b) l
  exact h.imp (fun h => of_decide_eq_true h)
theorem compact_get {zs : List Str} : Lib.compact zs = ((List.range zs.length).filter fun j => decide (j = 0 ∨ zs[j]! ≠ zs[j - 1]!)).map fun j => zs[j]! := by
  unfold Lib.compact Lib.compactUpTo Lib.keeps
  have e : ∀ j, zs.toArray[j]! = zs[j]! := fun j => by
    by_cases h : j < zs.length
    · rw [getElem!_pos zs.toArray j (by simpa using h), getElem!_pos zs j h]; simp
    · rw [getElem!_neg zs.toArray j (by simpa using h), getElem!_neg zs j h]
  rw [List.map_congr_left fun j _ => e j]
  congr 2
  funext j
  rw [e, e]
theorem compact_len (zs : List Str) : (Lib.compact zs).length ≤ zs.length := by
  rw [compact_get, List.length_map]
  have := List.length_filter_le (fun j => decide (j = 0 ∨ zs[j]! ≠ zs[j - 1]!)) (List.range zs.length)
  simpa using this
theorem compact_mem {zs : List Str} (x : Str) : x ∈ Lib.compact zs ↔ x ∈ zs := by
  rw [compact_get, List.mem_map]
  constructor
  · rintro ⟨j, hj, rfl⟩
    have hl := List.mem_range.1 (List.mem_filter.1 hj).1
    rw [getElem!_pos zs j hl]
    exact List.getElem_mem hl
  · intro hx
    obtain ⟨j, hj, e⟩ := List.mem_iff_getElem.1 hx
    clear hx
    induction j with
    | zero => exact ⟨0, List.mem_filter.2 ⟨List.mem_range.2 hj, by simp⟩, by rw [getElem!_pos zs 0 hj]; exact e⟩
    | succ j ih =>
      by_cases h : zs[j + 1]! = zs[j]!
      · have hj' : j < zs.length := by omega
        refine ih hj' ?_
        rw [getElem!_pos zs (j + 1) hj, getElem!_pos zs j hj'] at h
        rw [← h]; exact e
      · exact ⟨j + 1, List.mem_filter.2 ⟨List.mem_range.2 hj, decide_eq_true (.inr h)⟩, by rw [getElem!_pos zs (j + 1) hj]; exact e⟩
theorem compact_lt {zs : List Str} (hs : zs.Pairwise fun x y => x ≤ y) : (Lib.compact zs).Pairwise fun x y => x < y := by
  rw [compact_get, List.pairwise_map]
  have hr : (List.range zs.length).Pairwise (· < ·) := List.pairwise_lt_range
  have hf := hr.filter (fun j => decide (j = 0 ∨ zs[j]! ≠ zs[j - 1]!))
  refine List.Pairwise.imp_of_mem ?_ hf
  intro j k hj hk hlt
  have hkl := List.mem_range.1 (List.mem_filter.1 hk).1
  have hkk := (List.mem_filter.1 hk).2
  simp only [decide_eq_true_eq] at hkk
  have hne : zs[k]! ≠ zs[k - 1]! := by
    rcases hkk with h | h
    · omega
    · exact h
  have hle : ∀ a b, a ≤ b → b < zs.length → zs[a]! ≤ zs[b]! := by
    intro a b hab hb
    rcases Nat.lt_or_eq_of_le hab with h | h
    · rw [getElem!_pos zs a (by omega), getElem!_pos zs b hb]
      exact List.pairwise_iff_getElem.1 hs a b (by omega) hb h
    · subst h; exact List.le_refl _
  have h1 := hle j (k - 1) (by omega) (by omega)
  have h2 := hle (k - 1) k (by omega) hkl
  have h3 : zs[k - 1]! < zs[k]! := by
    apply Decidable.byContradiction
    intro h
    exact hne (List.le_antisymm (List.not_lt.1 h) h2)
  exact List.lt_of_le_of_lt h1 h3
theorem atomsL_mem (l : List Pc) (x : Str) : x ∈ atomsL l ↔ x ∈ atomsR l := by
  unfold atomsL
  rw [compact_mem, List.mem_mergeSort]
theorem atomsL_lt (l : List Pc) : (atomsL l).Pairwise fun x y => x < y := compact_lt (sorted_R _)
theorem atomsL_len (l : List Pc) : (atomsL l).length ≤ 3 * l.length := by
  have h1 := compact_len ((atomsR l).mergeSort fun x y => decide (x ≤ y))
  rw [List.length_mergeSort] at h1
  have h2 := atomsR_len l
  unfold atomsL
  omega
end Go.Vs

/-
  Plain laws for the row NormalOf: members of ofs, lists of marks; a row of bools that is written at an index.
-/
namespace Go.Sx
open Go
section
variable {P : Program} {N : Nat} {v0 : Vw} {H0 : Hp} {R : Exit → Act → World → Prop} {K : List Kt} {fr : Fr} {H : Hp} {Γ : List Fct}
variable {ops : Array Oper} {l : List Oper} {d : Nat} {ty : TypeId} {ps : String} {af : Array Edge}
def boolsC (hs : List Bool) : List Value := hs.map Value.bool
theorem boolsC_rep (n : Nat) : List.replicate n (Value.bool false) = boolsC (List.replicate n false) := by simp [boolsC]
theorem yld_loadB {t : TypeId} {x : Operand} {b off : Nat} (i : Nat) {hs : List Bool} {T : TypeId} {fz : Nat × Nat} {u : Bool} (ha : ∀ w, (isAgg t).run P w = .ok false w)
    (hx : Fr.ev fr x = some (.pointer (some ⟨b, off, none⟩))) (hi : H[i]? = some (b, .cells (boolsC hs).toArray T fz)) (hu : hs[off]? = some u) :
    Yld P N fr H Γ (.load t x) ty (.bool u) :=
  yld_load i ha hx hi (by rw [lg_eq]; simp [boolsC, hu])
theorem ops_storeB {t : TypeId} {x y : Operand} {b off : Nat} (i : Nat) {hs : List Bool} {u : Bool} {T : TypeId} (hz : ∀ w, (sizeOf t).run P w = .ok 1 w)
    (hx : Fr.ev fr x = some (.pointer (some ⟨b, off, none⟩))) (hy : Fr.ev fr y = some (.bool u)) (hi : H[i]? = some (b, .cells (boolsC hs).toArray T (0, 0))) (ho : off < hs.length)
    (hk : Ops P R N v0 H0 ops l K fr (H.set i (b, .cells (boolsC (hs.set off u)).toArray T (0, 0))) Γ) :
    Ops P R N v0 H0 ops (⟨none, .store t x y, ty, ps, af, none⟩ :: l) K fr H Γ := by
  refine ops_store i hz hx hy hi rfl (by simp [boolsC]; omega) rfl ?_
  have e : (((boolsC hs).toArray.toList.take off ++ (Value.bool u).cells.toList ++ (boolsC hs).toArray.toList.drop (off + 1)).toArray) = (boolsC (hs.set off u)).toArray := by
    simp only [boolsC, List.toList_toArray]
    rw [List.set_eq_take_append_cons_drop, if_pos ho]
    simp [Value.cells]
  rw [e]
  exact hk
end
end Go.Sx
namespace Go.Vs
open Go Go.Sx
theorem ofs_mem {a v : Int} : ∀ {l : List Pc} {i : Nat}, v ∈ ofs a i l → ∃ (j : Nat) (p : Pc), v = ((i + j : Nat) : Int) ∧ l[j]? = some p ∧ p.frm = a
  | [], _, h => by simp [ofs] at h
  | p :: r, i, h => by
    simp only [ofs] at h
    have key : v ∈ ofs a (i + 1) r → ∃ (j : Nat) (q : Pc), v = ((i + j : Nat) : Int) ∧ (p :: r)[j]? = some q ∧ q.frm = a := fun h => by
      obtain ⟨j, q, e, h1, h2⟩ := ofs_mem h
      exact ⟨j + 1, q, by rw [e]; congr 1; omega, by simpa using h1, h2⟩
    split at h
    · rename_i hp
      rcases List.mem_cons.1 h with e | h
      · exact ⟨0, p, by simpa using e, rfl, hp⟩
      · exact key h
    · exact key h
theorem ofs_in {a v : Int} {l : List Pc} (h : v ∈ ofs a 0 l) : ∃ (j : Nat) (p : Pc), v = (j : Int) ∧ l[j]? = some p ∧ p.frm = a := by
  obtain ⟨j, p, e, h1, h2⟩ := ofs_mem h
  exact ⟨j, p, by rw [e, Nat.zero_add], h1, h2⟩
theorem ofs_has {a : Int} : ∀ {l : List Pc} {i j : Nat} {p : Pc}, l[j]? = some p → p.frm = a → ((i + j : Nat) : Int) ∈ ofs a i l
  | [], _, _, _, h, _ => by simp at h
  | q :: r, i, 0, p, h, hp => by
    simp only [List.getElem?_cons_zero, Option.some.injEq] at h
    subst h
    simp only [ofs, hp, if_true]
    exact List.mem_cons_self
  | q :: r, i, j + 1, p, h, hp => by
    have := ofs_has (i := i + 1) (by simpa using h) hp
    rw [show i + 1 + j = i + (j + 1) by omega] at this
    simp only [ofs]
    split
    · exact List.mem_cons_of_mem _ this
    · exact this
theorem ofs_lt {a : Int} : ∀ (l : List Pc) (i : Nat), (ofs a i l).Pairwise fun x y => x < y
  | [], _ => by simp [ofs]
  | p :: r, i => by
    have ih := ofs_lt (a := a) r (i + 1)
    simp only [ofs]
    split
    · refine List.pairwise_cons.2 ⟨fun v hv => ?_, ih⟩
      obtain ⟨j, q, e, _, _⟩ := ofs_mem hv
      rw [e]; omega
    · exact ih
theorem pw_get {α : Type} {R : α → α → Prop} {l : List α} (h : l.Pairwise R) {i j : Nat} {x y : α} (hx : l[i]? = some x) (hy : l[j]? = some y) (hij : i < j) : R x y := by
  obtain ⟨hi, rfl⟩ := List.getElem?_eq_some_iff.1 hx
  obtain ⟨hj, rfl⟩ := List.getElem?_eq_some_iff.1 hy
  exact List.pairwise_iff_getElem.1 h i j hi hj hij
theorem any_stepG {α : Type} {q : List α} {k : Nat} {z : α} {g : α → Bool} (h : q[k]? = some z) : (q.take (k + 1)).any g = ((q.take k).any g || g z) := by
  rw [List.take_add_one, h]
  simp [List.any_append]
/-- marks: every place whose string is among S is marked -/
def Cov (hs : List Bool) (L S : List Str) : Prop := hs.length = L.length ∧ ∀ (n : Nat) (s : Str), L[n]? = some s → s ∈ S → hs[n]? = some true
theorem Cov.nil (L : List Str) : Cov (List.replicate L.length false) L [] := ⟨by simp, fun _ _ _ h => by simp at h⟩
theorem Cov.set {hs : List Bool} {L S : List Str} (h : Cov hs L S) (n : Nat) : Cov (hs.set n true) L S := ⟨by rw [List.length_set]; exact h.1, fun m s h1 h2 => by
  have h3 := h.2 m s h1 h2
  rw [List.getElem?_set]
  split
  · rename_i e
    subst e
    rw [if_pos (List.getElem?_eq_some_iff.1 h3).1]
  · exact h3⟩
/-- in the middle of a round: also the places below n whose string is y -/
def CovN (hs : List Bool) (L S : List Str) (y : Str) (n : Nat) : Prop := Cov hs L S ∧ ∀ m, m < n → L[m]? = some y → hs[m]? = some true
theorem CovN.zero {hs : List Bool} {L S : List Str} {y : Str} (h : Cov hs L S) : CovN hs L S y 0 := ⟨h, fun _ h => by omega⟩
theorem CovN.hit {hs : List Bool} {L S : List Str} {y : Str} {n : Nat} (h : CovN hs L S y n) (hn : n < L.length) : CovN (hs.set n true) L S y (n + 1) := ⟨h.1.set n, fun m hm e => by
  rw [List.getElem?_set]
  split
  · rename_i e
    rw [if_pos (by rw [h.1.1]; omega)]
  · rename_i e2
    exact h.2 m (by omega) e⟩
theorem CovN.miss {hs : List Bool} {L S : List Str} {y z : Str} {n : Nat} (h : CovN hs L S y n) (hz : L[n]? = some z) (hne : z ≠ y) : CovN hs L S y (n + 1) := ⟨h.1, fun m hm e => by
  by_cases e2 : m = n
  · subst e2
    rw [hz, Option.some.injEq] at e
    exact absurd e hne
  · exact h.2 m (by omega) e⟩
theorem CovN.done {hs : List Bool} {L S : List Str} {y : Str} {n : Nat} (h : CovN hs L S y n) (hn : L.length ≤ n) : Cov hs L (S ++ [y]) := ⟨h.1.1, fun m s h1 h2 => by
  rcases List.mem_append.1 h2 with h2 | h2
  · exact h.1.2 m s h1 h2
  · simp only [List.mem_singleton] at h2
    subst h2
    have := (List.getElem?_eq_some_iff.1 h1).1
    exact h.2 m (by omega) h1⟩
def three (p : Pc) : List Str := [p.a, p.b, p.c]
theorem Cov.all {hs : List Bool} {l : List Pc} (h : Cov hs (atomsL l) (l.flatMap three)) {n : Nat} (hn : n < (atomsL l).length) : hs[n]? = some true := by
  have hm := (atomsL_mem l _).1 (List.getElem_mem hn)
  refine h.2 n _ (List.getElem?_eq_getElem hn) ?_
  simp only [atomsR, List.mem_flatMap, atoms1, List.mem_filter] at hm
  obtain ⟨p, h1, h2⟩ := hm
  exact List.mem_flatMap.2 ⟨p, h1, h2.1⟩
theorem atomsL_ne {l : List Pc} {s : Str} (h : s ∈ atomsL l) : s ≠ [] := by
  have hm := (atomsL_mem l _).1 h
  simp only [atomsR, List.mem_flatMap, atoms1, List.mem_filter] at hm
  obtain ⟨p, h1, h2⟩ := hm
  simpa using h2.2
theorem atomsL_has {l : List Pc} {p : Pc} (hp : p ∈ l) {s : Str} (hs : s ∈ three p) : (decide (s = []) || (atomsL l).any (· == s)) = true := by
  by_cases e : s = []
  · simp [e]
  · rw [Bool.or_eq_true]
    right
    refine List.any_eq_true.2 ⟨s, (atomsL_mem l _).2 ?_, by simp⟩
    simp only [atomsR, List.mem_flatMap, atoms1, List.mem_filter]
    exact ⟨p, hp, hs, by simpa using e⟩
end Go.Vs

/-
  Rules for appending a row that lasts; plain laws for the row NormalLists: the reference's atoms, roles, pieces and sorted insertion.
-/
namespace Go.Sx
open Go
section
variable {P : Program} {N : Nat} {v0 : Vw} {H0 : Hp} {R : Exit → Act → World → Prop} {K : List Kt} {fr : Fr} {H : Hp} {Γ : List Fct}
variable {ops : Array Oper} {l : List Oper} {d : Nat} {ty : TypeId} {ps : String} {af : Array Edge}
/-- append of a row that lasts; it may be nil -/
theorem ops_appendR {x y : Operand} {t e : TypeId} {sz by' n m c : Nat} {sv : Value} {xs news : List Value} {Hr F : Hp} {ad : Option Addr} (he : Elt P t e sz by') (hrow : SRow e sz sv n xs Hr)
    (hx : Fr.ev fr x = some sv) (hy : Fr.ev fr y = some (.slice ad m c)) (hz : ad = none → c = 0) (hmc : m ≤ c) (hH : H.Perm (Hr ++ F)) (hl : news.length = m * sz) (hnews : ∀ v, v.sat H → holds Γ v → RowAt v ad news) (h1c : ∀ u ∈ news, u.oneCell' = true)
    (h63 : n + m ≤ maxLen) (hb : (n + m) * by' ≤ 140737488355328) (hN : Nat.blt d N = true)
    (hk : ∀ sv' Hr', SRow e sz sv' (n + m) (xs ++ news) Hr' → Ops P R N v0 H0 ops l K ((d, sv') :: fr) (Hr' ++ F) Γ) :
    Ops P R N v0 H0 ops (⟨some d, .call ⟨.builtin .append, #[x, y], #[t, t]⟩, ty, ps, af, none⟩ :: l) K fr H Γ := by
  cases ad with
  | none =>
    obtain rfl := hz rfl
    obtain rfl : m = 0 := by omega
    obtain rfl : news = [] := List.eq_nil_of_length_eq_zero (by simpa using hl)
    refine ops_of_wp rfl fun a v h1 h2 h3 h4 => ?_
    obtain ⟨i, z, hi, hz, es, eb, ez⟩ := he.info
    have g := h2.perm hH
    have ho := hrow.owns g
    have hr := run_append_owned_none (P := P) (w := v.w) 0 t ty e i sz he.und hi sv n xs ho
    unfold Oper.wp execOp
    simp only [resolve, invoke, builtin, Sem.run_bind, Sem.run_pure, Result.andThen_ok, List.map_toArray, List.map_cons, List.map_nil, h1.ev hx, h1.ev hy, hr]
    have T : v.to H v (Hr ++ F) := (Vw.to.refl v (Hr ++ F)).permL hH.symm
    exact hk sv Hr (by simpa using hrow) _ v (h1.put hN) g (h3.trans T) h4
  | some a0 =>
    refine ops_append he hrow hx hy hH hl (fun v h2 h4 j u hj => ?_) h1c h63 hb hN hk
    rcases hnews v h2 h4 with h | ⟨b, off, arr, T, fz, h1, _, h3, h5⟩
    · rw [h] at hj; simp at hj
    · rw [Option.some.injEq] at h1
      subst h1
      have := h5 j u hj
      rw [addr_add]
      simp [World.cell?, h3, this]
theorem ops_slit0 {t e : TypeId} {sz : Nat} (hu : ∀ w, (underlying t).run P w = .ok (.slice e) w) (hs : ∀ w, (sizeOf e).run P w = .ok sz w) (hN : Nat.blt d N = true)
    (hk : ∀ b, Ops P R N v0 H0 ops l K ((d, .slice (some ⟨b, 0, none⟩) 0 0) :: fr) ((b, .cells #[] e (0, 0)) :: H) Γ) : Ops P R N v0 H0 ops (⟨some d, .buildSlice t 0 #[], ty, ps, af, none⟩ :: l) K fr H Γ :=
  ops_new (x := fun b => .slice (some ⟨b, 0, none⟩) 0 0) hN (fun a v h1 h2 h4 => by
    simp only [execOp, Instr.buildSlice, Sem.run_bind, hu, Result.andThen_ok, hs, List.map_toArray]
    rw [if_neg (by omega), if_pos (by omega), Nat.zero_mul, show Array.range 0 = #[] by simp]
    simp only [Sem.run_bind, Sem.run_pure, Result.andThen_ok, List.map_nil, List.map_toArray, List.toList_toArray, Instr.fill]
    rfl) hk
theorem ok_giveRowN {k : Act → World → Prop} {e : TypeId} {sz n : Nat} {sv : Value} {xs : List Value} {Hr F : Hp} (hr : SRow e sz sv n xs Hr) (hH : H.Perm (Hr ++ F))
    (h : ∀ ad cap, sv = .slice ad n cap → n ≤ cap → cap ≤ maxLen → (ad = none → cap = 0) → Ok N v0 H0 k fr F (rowF ad xs :: Γ)) : Ok N v0 H0 k fr H Γ := by
  refine ok_giveRow hr hH fun ad cap e1 e2 e3 => h ad cap e1 e2 e3 fun e4 => ?_
  rcases hr.2 with ⟨h1, _, _⟩ | ⟨g, c, cur, h1, _⟩
  · rw [h1] at e1
    simp only [Value.slice.injEq] at e1
    exact e1.2.2.symm
  · rw [h1, e4] at e1
    simp at e1
theorem sad_none {cap i n : Nat} {ad : Option Addr} (h : sad ad cap i n = none) : ad = none := by
  unfold sad at h
  split at h
  · exact h
  · simpa using h
end
end Go.Sx
namespace Go.Vs
open Go Go.Sx
theorem pn_eq (s : Str) : ((if personS s then (0 : Int) else 20) == 0) = personS s := by cases personS s <;> rfl
theorem pn_ne (s : Str) : ((if personS s then (0 : Int) else 20) != 0) = !personS s := by cases personS s <;> rfl
-- valid pieces, kind by kind
section
variable {a b c r s t : Str} {lo hi f : Int}
theorem vp_no (k : Int) (hk : k ≠ 1 ∧ k ≠ 2 ∧ k ≠ 3 ∧ k ≠ 4 ∧ k ≠ 5 ∧ k ≠ 6 ∧ k ≠ 7 ∧ k ≠ 8 ∧ k ≠ 9) : Pc.valid ⟨k, a, b, c, r, s, t, lo, hi, f⟩ = false := by
  unfold Pc.valid
  rw [if_pos (by dsimp only; omega)]
theorem vp_gen (k : Int) (u : NUse) (hu : nus k = u) (h1 : ¬(k < 1 ∨ 9 < k ∨ f < -1 ∨ 1024 ≤ f)) : Pc.valid ⟨k, a, b, c, r, s, t, lo, hi, f⟩ = true ↔
    ((u.numbers = true → -1099511627776 ≤ lo ∧ lo ≤ hi ∧ hi ≤ 1099511627776) ∧ (u.numbers = false → lo = 0 ∧ hi = 0)) ∧ (((((fldS u.a a atomS = true ∧ fldS u.b b atomS = true) ∧ fldS u.c c atomS = true) ∧ fldS u.r r (if u.numbers then personS else roleS) = true) ∧ fldS u.s s roleS = true) ∧ fldS u.t t roleS = true) := by
  unfold Pc.valid
  dsimp only
  rw [if_neg h1, hu]
  by_cases h2 : u.numbers = true ∧ (lo < -1099511627776 ∨ hi < lo ∨ 1099511627776 < hi)
  · rw [if_pos h2]
    constructor
    · intro h; cases h
    · rintro ⟨⟨q, _⟩, _⟩
      have := q h2.1
      omega
  · rw [if_neg h2]
    by_cases h3 : u.numbers = false ∧ (lo ≠ 0 ∨ hi ≠ 0)
    · rw [if_pos h3]
      constructor
      · intro h; cases h
      · rintro ⟨⟨_, q⟩, _⟩
        have := q h3.1
        omega
    · rw [if_neg h3]
      simp only [Bool.and_eq_true]
      constructor
      · intro h
        refine ⟨⟨fun q => ?_, fun q => ?_⟩, h⟩
        · have : ¬ (lo < -1099511627776 ∨ hi < lo ∨ 1099511627776 < hi) := fun e => h2 ⟨q, e⟩
          omega
        · have : ¬ (lo ≠ 0 ∨ hi ≠ 0) := fun e => h3 ⟨q, e⟩
          omega
      · exact fun h => h.2
theorem fld_t (s : Str) (q : Str → Bool) : (fldS true s q = true) = (q s = true) := by simp [fldS]
theorem fld_f (s : Str) (q : Str → Bool) : (fldS false s q = true) = (s = []) := by simp [fldS]
end
-- atoms
def ratomS (s : Str) : Bool :=
  (s == [42] || s == [33]) || personS s || (decide (3 ≤ s.length) && ((decide (s[0]? = some 123) && decide (s[s.length - 1]? = some 125) && personS ((s.drop 1).take (s.length - 1 - 1))) || (decide (s[0]? = some 60) && decide (s[s.length - 1]? = some 62))))
theorem person_head {s : Str} (h : personS s = true) : ∃ c t, s = c :: t ∧ (letterS c = true ∨ c.toNat = 95) := by
  unfold personS at h
  rw [Bool.or_eq_true] at h
  rcases h with h | h
  · obtain ⟨c, t, e, h2⟩ := plain_head h
    exact ⟨c, t, e, .inl h2⟩
  · unfold reservedS at h
    simp only [Bool.and_eq_true, decide_eq_true_eq] at h
    cases s with
    | nil => simp at h
    | cons c t => exact ⟨c, t, rfl, .inr (by simpa using h.1.2)⟩
theorem person_no {s : Str} {c : UInt8} (h0 : s[0]? = some c) (h : c = 123 ∨ c = 60) : personS s = false := by
  cases hp : personS s with
  | false => rfl
  | true =>
    obtain ⟨d, t, rfl, h2⟩ := person_head hp
    simp only [List.getElem?_cons_zero, Option.some.injEq] at h0
    subst h0
    rcases h with rfl | rfl <;> simp [letterS] at h2
theorem ratom_eq (s : Str) : ratomS s = atomS s := by
  unfold ratomS atomS
  by_cases h1 : s = [42] ∨ s = [33]
  · rw [if_pos h1]
    rcases h1 with rfl | rfl <;> rfl
  · rw [if_neg h1]
    have e1 : (s == [42] || s == [33]) = false := by
      rw [Bool.or_eq_false_iff]
      exact ⟨beq_eq_false_iff_ne.2 fun e => h1 (.inl e), beq_eq_false_iff_ne.2 fun e => h1 (.inr e)⟩
    rw [e1, Bool.false_or]
    by_cases h2 : s[0]? = some 123
    · have hp := person_no h2 (.inl rfl)
      rw [hp, Bool.false_or]
      by_cases h3 : s[s.length - 1]? = some 125
      · by_cases hl : 2 ≤ s.length
        · rw [if_pos ⟨hl, h2, h3⟩]
          by_cases h4 : 3 ≤ s.length
          · simp [h2, h3, h4]
          · have : s.length = 2 := by omega
            have hq : personS (List.take (s.length - 1 - 1) (List.drop 1 s)) = false := by rw [this]; rfl
            rw [hq]; simp [h4]
        · rw [if_neg (by simp [hl]), if_neg (by simp; omega)]
          simp [show ¬ 3 ≤ s.length by omega]
      · rw [if_neg (by simp [h3]), if_neg (by simp [h2])]
        simp [h2, h3]
    · rw [if_neg (by simp [h2])]
      by_cases h5 : 3 ≤ s.length ∧ s[0]? = some 60 ∧ s[s.length - 1]? = some 62
      · rw [if_pos h5]
        simp [h5.1, h5.2.1, h5.2.2]
      · rw [if_neg h5]
        have : (decide (3 ≤ s.length) && ((decide (s[0]? = some 123) && decide (s[s.length - 1]? = some 125) && personS ((s.drop 1).take (s.length - 1 - 1))) || (decide (s[0]? = some 60) && decide (s[s.length - 1]? = some 62)))) = false := by
          rw [show decide (s[0]? = some 123) = false from decide_eq_false h2]
          simp only [Bool.false_and, Bool.false_or]
          rw [Bool.eq_false_iff]
          intro h
          simp only [Bool.and_eq_true, decide_eq_true_eq] at h
          exact h5 ⟨h.1, h.2.1, h.2.2⟩
        rw [this, Bool.or_false]
-- roles
structure RInv (s : Str) (a i : Nat) (dn : List Str) : Prop where
  le : a ≤ i
  il : i ≤ s.length
  no : ixS 46 ((s.drop a).take (i - a)) = none
  sp : splitS 46 s = dn ++ splitS 46 (s.drop a)
  al : dn.all personS = true
structure REnd (s : Str) (i : Nat) (dn : List Str) : Prop where
  il : i = s.length + 1
  sp : splitS 46 s = dn
  al : dn.all personS = true
def segS (s : Str) (a i : Nat) : Str := (s.drop a).take (i - a)
theorem RInv.start (s : Str) : RInv s 0 0 [] := ⟨Nat.le_refl _, Nat.zero_le _, by simp [ixS], by simp, rfl⟩
theorem RInv.len {s : Str} {a i : Nat} {dn : List Str} (h : RInv s a i dn) : dn.length ≤ s.length + 1 := by
  have h1 := splitS_len 46 s
  have h2 := cntS_le 46 s
  rw [h.sp, List.length_append] at h1
  omega
theorem REnd.len {s : Str} {i : Nat} {dn : List Str} (h : REnd s i dn) : dn.length ≤ s.length + 1 := by
  have h1 := splitS_len 46 s
  have h2 := cntS_le 46 s
  rw [h.sp] at h1
  omega
theorem RInv.next {s : Str} {a i : Nat} {dn : List Str} {c : UInt8} (h : RInv s a i dn) (hc : s[i]? = some c) (hne : c ≠ 46) : RInv s a (i + 1) dn := by
  have hi := (List.getElem?_eq_some_iff.1 hc).1
  have hle := h.le
  refine ⟨by omega, by omega, ?_, h.sp, h.al⟩
  rw [show i + 1 - a = (i - a) + 1 by omega]
  exact ixS_step (s.drop a) (i - a) c (by rw [List.getElem?_drop, show a + (i - a) = i by omega]; exact hc) h.no hne
theorem RInv.dot {s : Str} {a i : Nat} {dn : List Str} (h : RInv s a i dn) (hc : s[i]? = some 46) : splitS 46 s = dn ++ segS s a i :: splitS 46 (s.drop (i + 1)) := by
  have hle := h.le
  have h2 := ixS_at (s.drop a) (i - a) (by rw [List.getElem?_drop, show a + (i - a) = i by omega]; exact hc) h.no
  rw [h.sp, splitS_some h2, List.drop_drop, show a + (i - a + 1) = i + 1 by omega]
  rfl
theorem RInv.fin {s : Str} {a i : Nat} {dn : List Str} (h : RInv s a i dn) (hi : ¬ i < s.length) : splitS 46 s = dn ++ [segS s a i] := by
  have hle := h.le
  have hil := h.il
  have e : (s.drop a).take (i - a) = s.drop a := List.take_of_length_le (by rw [List.length_drop]; omega)
  have hn := h.no
  rw [e] at hn
  rw [h.sp, splitS_none hn, segS, e]
theorem RInv.dotN {s : Str} {a i : Nat} {dn : List Str} (h : RInv s a i dn) (hc : s[i]? = some 46) (hp : personS (segS s a i) = true) : RInv s (i + 1) (i + 1) (dn ++ [segS s a i]) := by
  have hi := (List.getElem?_eq_some_iff.1 hc).1
  refine ⟨Nat.le_refl _, by omega, by simp [ixS], by rw [h.dot hc]; simp, by simp [h.al, hp]⟩
theorem RInv.finN {s : Str} {a i : Nat} {dn : List Str} (h : RInv s a i dn) (hi : ¬ i < s.length) (hp : personS (segS s a i) = true) : REnd s (i + 1) (dn ++ [segS s a i]) := by
  have hil := h.il
  exact ⟨by omega, h.fin hi, by simp [h.al, hp]⟩
theorem role_bad {s : Str} {x : Str} (hm : x ∈ splitS 46 s) (hp : personS x = false) : roleS s = false := by
  unfold roleS
  rw [show (splitS 46 s).any (fun r => !personS r) = true from List.any_eq_true.2 ⟨x, hm, by simp [hp]⟩]
  simp
theorem REnd.role {s : Str} {i : Nat} {dn : List Str} (h : REnd s i dn) : roleS s = decide ((dn.length : Int) ≤ 4) := by
  unfold roleS
  rw [h.sp]
  have : dn.any (fun r => !personS r) = false := by
    rw [List.any_eq_false]
    intro x hx
    have := List.all_eq_true.1 h.al x hx
    simp [this]
  rw [this]
  simp
  omega
-- sorted insertion
def kS (l : List Str) (s : Str) : Nat := (l.takeWhile fun x => decide (x < s)).length
theorem kS_of {s : Str} : ∀ {l : List Str} {k : Nat}, k ≤ l.length → (∀ x ∈ l.take k, x < s) → (∀ x, l[k]? = some x → ¬ x < s) → kS l s = k
  | [], k, h1, _, _ => by simp at h1; simp [kS, h1]
  | y :: r, 0, _, _, h3 => by
    have := h3 y rfl
    unfold kS
    rw [List.takeWhile_cons_of_neg (by simpa using this)]
    rfl
  | y :: r, k + 1, h1, h2, h3 => by
    have hy : y < s := h2 y (by simp)
    have ih := kS_of (l := r) (k := k) (by simpa using h1) (fun x hx => h2 x (by simp [hx])) (fun x hx => h3 x (by simpa using hx))
    unfold kS at ih ⊢
    rw [List.takeWhile_cons_of_pos (by simpa using hy), List.length_cons, ih]
def withS (l : List Str) (s : Str) : List Str := if s = [] ∨ l[kS l s]? = some s then l else l.take (kS l s) ++ [s] ++ l.drop (kS l s)
theorem kS_le (l : List Str) (s : Str) : kS l s ≤ l.length := (List.takeWhile_sublist _).length_le
theorem withS_len (l : List Str) (s : Str) : (withS l s).length ≤ l.length + 1 := by
  have := kS_le l s
  unfold withS
  split
  · omega
  · simp only [List.length_append, List.length_take, List.length_cons, List.length_nil, List.length_drop]
    omega
theorem withS_mem {l : List Str} {s x : Str} : x ∈ withS l s ↔ x ∈ l ∨ (x = s ∧ s ≠ []) := by
  unfold withS
  split
  · rename_i h
    constructor
    · exact .inl
    · rintro (h2 | ⟨rfl, h2⟩)
      · exact h2
      · rcases h with h | h
        · exact absurd h h2
        · exact List.mem_of_getElem? h
  · rename_i h
    simp only [not_or] at h
    have e : x ∈ l ↔ x ∈ l.take (kS l s) ∨ x ∈ l.drop (kS l s) := by
      rw [← List.mem_append, List.take_append_drop]
    rw [e]
    simp only [List.mem_append, List.mem_singleton]
    constructor
    · rintro ((h1 | h1) | h1)
      · exact .inl (.inl h1)
      · exact .inr ⟨h1, h1 ▸ h.1⟩
      · exact .inl (.inr h1)
    · rintro ((h1 | h1) | h1)
      · exact .inl (.inl h1)
      · exact .inr h1
      · exact .inl (.inr h1.1)
theorem tw_all {s : Str} : ∀ (l : List Str), ∀ x ∈ l.take (kS l s), x < s := by
  intro l x hx
  have e : l.take (kS l s) = l.takeWhile fun x => decide (x < s) := by
    unfold kS
    exact (List.prefix_iff_eq_take.1 (List.takeWhile_prefix _)).symm
  rw [e] at hx
  induction l with
  | nil => simp at hx
  | cons y r ih =>
    by_cases hy : y < s
    · rw [List.takeWhile_cons_of_pos (by simpa using hy)] at hx
      rcases List.mem_cons.1 hx with rfl | hx
      · exact hy
      · refine ih hx ?_
        unfold kS
        exact (List.prefix_iff_eq_take.1 (List.takeWhile_prefix _)).symm
    · rw [List.takeWhile_cons_of_neg (by simpa using hy)] at hx
      simp at hx
theorem tw_next {s : Str} : ∀ (l : List Str) (x : Str), l[kS l s]? = some x → ¬ x < s
  | [], x, h => by simp at h
  | y :: r, x, h => by
    unfold kS at h
    by_cases hy : y < s
    · rw [List.takeWhile_cons_of_pos (by simpa using hy), List.length_cons, List.getElem?_cons_succ] at h
      exact tw_next r x h
    · rw [List.takeWhile_cons_of_neg (by simpa using hy)] at h
      simp only [List.length_nil, List.getElem?_cons_zero, Option.some.injEq] at h
      subst h
      exact hy
theorem withS_lt {l : List Str} {s : Str} (h : l.Pairwise fun x y => x < y) : (withS l s).Pairwise fun x y => x < y := by
  unfold withS
  split
  · exact h
  · rename_i hn
    simp only [not_or] at hn
    have hd : ∀ y ∈ l.drop (kS l s), s < y := by
      intro y hy
      obtain ⟨j, hj, rfl⟩ := List.mem_iff_getElem.1 hy
      rw [List.getElem_drop]
      rw [List.length_drop] at hj
      have hk : kS l s < l.length := by omega
      have h0 := tw_next l _ (List.getElem?_eq_getElem hk)
      have h1 : s < l[kS l s] := by
        apply Decidable.byContradiction
        intro q
        apply hn.2
        rw [List.getElem?_eq_getElem hk, Option.some.injEq]
        exact List.le_antisymm (List.not_lt.1 q) (List.not_lt.1 h0)
      rcases Nat.eq_zero_or_pos j with rfl | hp
      · exact h1
      · exact List.lt_trans h1 (List.pairwise_iff_getElem.1 h _ _ hk (by omega) (by omega))
    rw [List.pairwise_append, List.pairwise_append]
    refine ⟨⟨h.sublist (List.take_sublist _ _), List.pairwise_singleton _ _, fun x hx y hy => ?_⟩, h.sublist (List.drop_sublist _ _), fun x hx y hy => ?_⟩
    · rw [List.mem_singleton] at hy
      subst hy
      exact tw_all l x hx
    · rcases List.mem_append.1 hx with hx | hx
      · exact List.lt_trans (tw_all l x hx) (hd y hy)
      · rw [List.mem_singleton] at hx
        subst hx
        exact hd y hy
def atomsF (l : List Pc) : List Str := l.foldl (fun L p => withS (withS (withS L p.a) p.b) p.c) []
theorem atomsF_step {l : List Pc} {i : Nat} {p : Pc} (h : l[i]? = some p) : atomsF (l.take (i + 1)) = withS (withS (withS (atomsF (l.take i)) p.a) p.b) p.c := by
  rw [List.take_add_one, h, Option.toList_some]
  simp [atomsF, List.foldl_append]
theorem atomsF_gen : ∀ (l : List Pc) (L : List Str), L.Pairwise (fun x y => x < y) → (l.foldl (fun L p => withS (withS (withS L p.a) p.b) p.c) L).Pairwise (fun x y => x < y) ∧ (∀ x, x ∈ l.foldl (fun L p => withS (withS (withS L p.a) p.b) p.c) L ↔ x ∈ L ∨ x ∈ atomsR l) ∧ (l.foldl (fun L p => withS (withS (withS L p.a) p.b) p.c) L).length ≤ L.length + 3 * l.length
  | [], L, h => ⟨h, fun x => by simp [atomsR], by simp⟩
  | p :: r, L, h => by
    obtain ⟨h1, h2, h3⟩ := atomsF_gen r (withS (withS (withS L p.a) p.b) p.c) (withS_lt (withS_lt (withS_lt h)))
    refine ⟨h1, fun x => ?_, ?_⟩
    · rw [List.foldl_cons, h2, withS_mem, withS_mem, withS_mem]
      simp only [atomsR, List.flatMap_cons, List.mem_append, atoms1, List.mem_filter, List.mem_cons, List.not_mem_nil, or_false]
      constructor
      · rintro ((((h | ⟨rfl, h⟩) | ⟨rfl, h⟩) | ⟨rfl, h⟩) | h)
        · exact .inl h
        · exact .inr (.inl ⟨.inl rfl, by simpa using h⟩)
        · exact .inr (.inl ⟨.inr (.inl rfl), by simpa using h⟩)
        · exact .inr (.inl ⟨.inr (.inr rfl), by simpa using h⟩)
        · exact .inr (.inr h)
      · rintro (h | ⟨h, h5⟩ | h)
        · exact .inl (.inl (.inl (.inl h)))
        · have h6 : x ≠ [] := by simpa using h5
          rcases h with rfl | rfl | rfl
          · exact .inl (.inl (.inl (.inr ⟨rfl, h6⟩)))
          · exact .inl (.inl (.inr ⟨rfl, h6⟩))
          · exact .inl (.inr ⟨rfl, h6⟩)
        · exact .inr h
    · rw [List.foldl_cons]
      have a1 := withS_len L p.a
      have a2 := withS_len (withS L p.a) p.b
      have a3 := withS_len (withS (withS L p.a) p.b) p.c
      simp only [List.length_cons]
      omega
theorem sorted_eq : ∀ {l m : List Str}, l.Pairwise (fun x y => x < y) → m.Pairwise (fun x y => x < y) → (∀ x, x ∈ l ↔ x ∈ m) → l = m
  | [], [], _, _, _ => rfl
  | [], y :: m, _, _, h => by have := (h y).2 (by simp); simp at this
  | x :: l, [], _, _, h => by have := (h x).1 (by simp); simp at this
  | x :: l, y :: m, h1, h2, h => by
    rw [List.pairwise_cons] at h1 h2
    have e : x = y := by
      have hx := (h x).1 (by simp)
      have hy := (h y).2 (by simp)
      rcases List.mem_cons.1 hx with e | hx
      · exact e
      rcases List.mem_cons.1 hy with e | hy
      · exact e.symm
      exact absurd (List.lt_trans (h1.1 y hy) (h2.1 x hx)) (List.lt_irrefl _)
    subst e
    congr 1
    refine sorted_eq h1.2 h2.2 fun z => ?_
    have hz := h z
    simp only [List.mem_cons] at hz
    constructor
    · intro q
      rcases hz.1 (.inr q) with e | e
      · subst e
        exact absurd (h1.1 z q) (List.lt_irrefl _)
      · exact e
    · intro q
      rcases hz.2 (.inr q) with e | e
      · subst e
        exact absurd (h2.1 z q) (List.lt_irrefl _)
      · exact e
theorem atoms_eq (l : List Pc) : atomsL l = atomsF l := by
  obtain ⟨h1, h2, _⟩ := atomsF_gen l [] List.Pairwise.nil
  refine sorted_eq (atomsL_lt l) h1 fun x => ?_
  have := h2 x
  rw [atomsL_mem]
  simp only [List.not_mem_nil, false_or] at this
  exact this.symm
theorem atomsF_len (l : List Pc) : (atomsF l).length ≤ 3 * l.length := by
  have := (atomsF_gen l [] List.Pairwise.nil).2.2
  simpa [atomsF] using this
end Go.Vs

/-
  What the reference of layer 2 computes of concepts and of members of a base, and that it is what the program computes.
-/
namespace Go.Sx
open Go
section
variable {P : Program} {N : Nat} {v0 : Vw} {H0 : Hp} {fr : Fr} {H : Hp} {Γ : List Fct}
/-- seven results -/
theorem ret7 {fn : Func} {t : Nat} {ι : Type} {F : Hp} {ret : ι → Value} {H' : ι → Hp} {Γ' : ι → List Fct} {u1 u2 u3 u4 u5 u6 u7 : Value} (hr : fn.results = #[.tmp t, .tmp (t + 1), .tmp (t + 2), .tmp (t + 3), .tmp (t + 4), .tmp (t + 5), .tmp (t + 6)]) (x : ι)
    (h1x : Fr.get fr t = some u1) (h2x : Fr.get fr (t + 1) = some u2) (h3x : Fr.get fr (t + 2) = some u3) (h4x : Fr.get fr (t + 3) = some u4) (h5x : Fr.get fr (t + 4) = some u5) (h6x : Fr.get fr (t + 5) = some u6) (h7x : Fr.get fr (t + 6) = some u7) (hx : .tuple #[u1, u2, u3, u4, u5, u6, u7] = ret x) (hH : H.Perm (H' x ++ F))
    (hΓ : ∀ v, v.sat H → holds Γ v → holds (Γ' x) v) : Ok N v0 H0 (bodyPost P fn (Post v0 H0 ret H' Γ') .ret) fr H Γ :=
  ok_weak hH hΓ fun a v h1 h2 h3 h4 => ⟨h1.defers, ret x, by
    rw [← hx]
    have e1 := h1.val _ _ h1x; have e2 := h1.val _ _ h2x; have e3 := h1.val _ _ h3x; have e4 := h1.val _ _ h4x; have e5 := h1.val _ _ h5x; have e6 := h1.val _ _ h6x; have e7 := h1.val _ _ h7x
    simp [results, hr, e1, e2, e3, e4, e5, e6, e7], x, v, rfl, rfl, h2, h4, h3⟩
end
end Go.Sx
namespace Go.Vs
open Go Go.Sx
namespace Con
def shapeS (c : Con) : Bool :=
  if c.kind = 1 ∨ c.kind = 2 then ((c.lo == 0 && c.hi == 0) && (c.name == [])) && ((c.parts.length : Int) == 0)
  else if c.kind = 3 ∨ c.kind = 4 then (c.lo == 0 && c.hi == 0) && ((c.parts.length : Int) == 0)
  else if c.kind = 5 then (((c.lo == 0 && c.hi == 0) && (c.name == [])) && decide (2 ≤ (c.parts.length : Int))) && decide ((c.parts.length : Int) ≤ 8)
  else if c.kind = 6 then (c.lo == 0 && c.hi == 0) && ((c.parts.length : Int) == 1)
  else if c.kind = 7 then ((((c.parts.length : Int) == 0) && decide (-1099511627776 ≤ c.lo)) && decide (c.lo ≤ c.hi)) && decide (c.hi ≤ 1099511627776)
  else false
def namedS (c : Con) : Bool :=
  if c.kind = 3 ∨ c.kind = 6 ∨ c.kind = 7 then plainS c.name else if c.kind = 4 then personS c.name else true
theorem fieldErr_ref (c : Con) : c.fieldErr = if c.shapeS = false then 21 else if c.namedS = false then 20 else 0 := by
  by_cases hk : c.kind < 1 ∨ 7 < c.kind
  · have : c.shapeS = false := by
      unfold shapeS
      rw [if_neg (by omega), if_neg (by omega), if_neg (by omega), if_neg (by omega), if_neg (by omega)]
    rw [if_pos this]
    unfold fieldErr
    rw [if_pos hk]
  · have hk' : c.kind = 1 ∨ c.kind = 2 ∨ c.kind = 3 ∨ c.kind = 4 ∨ c.kind = 5 ∨ c.kind = 6 ∨ c.kind = 7 := by omega
    unfold fieldErr
    rw [if_neg hk]
    have key : ∀ {p q r : Prop} [Decidable p] [Decidable q] [Decidable r] {s n : Bool}, ((p ∨ q ∨ r) ↔ s = false) → ∀ {g : Prop} [Decidable g], (g ↔ n = true) → (if p then (21 : Int) else if q then 21 else if r then 21 else if g then 0 else 20) = if s = false then 21 else if n = false then 20 else 0 := by
      intro p q r _ _ _ s n h g _ hg
      by_cases hp : p
      · rw [if_pos hp, if_pos (h.1 (.inl hp))]
      · rw [if_neg hp]
        by_cases hq : q
        · rw [if_pos hq, if_pos (h.1 (.inr (.inl hq)))]
        · rw [if_neg hq]
          by_cases hr : r
          · rw [if_pos hr, if_pos (h.1 (.inr (.inr hr)))]
          · have hs : ¬ s = false := fun e => by rcases h.2 e with e | e | e; exact hp e; exact hq e; exact hr e
            rw [if_neg hr, if_neg hs]
            by_cases hgg : g
            · rw [if_pos hgg, if_neg (show ¬ n = false by rw [hg.1 hgg]; simp)]
            · rw [if_neg hgg, if_pos (show n = false by cases n; rfl; exact absurd (hg.2 rfl) hgg)]
    apply key
    · by_cases hn : c.name = [] <;> by_cases hp : c.parts = []
      · rcases hk' with e | e | e | e | e | e | e <;> simp [shapeS, nd, needL, e, hn, hp] <;> omega
      · have := List.length_pos_iff.2 hp
        rcases hk' with e | e | e | e | e | e | e <;> simp [shapeS, nd, needL, e, hn, hp] <;> omega
      · rcases hk' with e | e | e | e | e | e | e <;> simp [shapeS, nd, needL, e, hn, hp] <;> omega
      · have := List.length_pos_iff.2 hp
        rcases hk' with e | e | e | e | e | e | e <;> simp [shapeS, nd, needL, e, hn, hp] <;> omega
    · rcases hk' with e | e | e | e | e | e | e <;> simp [namedS, nd, needL, e, personS]
theorem deps_append : ∀ (xs ys : List Con), dep.deps (xs ++ ys) = max (dep.deps xs) (dep.deps ys)
  | [], ys => by simp [dep.deps]
  | x :: xs, ys => by simp only [List.cons_append, dep.deps, deps_append xs ys]; omega
theorem deps_step {ps : List Con} {p : Con} {i : Nat} (hp : ps[i]? = some p) : dep.deps (ps.take (i + 1)) = max (dep.deps (ps.take i)) (1 + p.dep) := by
  rw [take_snoc hp, deps_append]; simp [dep.deps]
theorem deps_le {d : Nat} : ∀ {ps : List Con}, dep.deps ps ≤ d ↔ ∀ p ∈ ps, 1 + p.dep ≤ d
  | [] => by simp [dep.deps]
  | p :: ps => by
    have := deps_le (d := d) (ps := ps)
    simp only [dep.deps, List.mem_cons, forall_eq_or_imp]
    rw [Nat.max_le, this]
theorem dep_sz : ∀ (m : Nat) (c : Con), c.sz ≤ m → c.dep < c.sz
  | 0, c, h => by have := c.sz_pos; omega
  | m + 1, c, h => by
    have hsz : c.sz = 1 + sz.szs c.parts := by cases c; simp only [sz, parts]
    rw [dep_eq]
    have : dep.deps c.parts ≤ sz.szs c.parts := deps_le.2 fun p hp => by
      have h1 := dep_sz m p (by have := sz_part hp; omega)
      have h2 := sz_mem hp
      omega
    omega
theorem szs_append : ∀ (xs ys : List Con), sz.szs (xs ++ ys) = sz.szs xs + sz.szs ys
  | [], ys => by simp [sz.szs]
  | x :: xs, ys => by simp only [List.cons_append, sz.szs, szs_append xs ys]; omega
theorem szs_step {ps : List Con} {p : Con} {i : Nat} (hp : ps[i]? = some p) : sz.szs (ps.take (i + 1)) = sz.szs (ps.take i) + p.sz := by
  rw [take_snoc hp, szs_append]; simp [sz.szs]
theorem szs_take_le (ps : List Con) (i : Nat) : sz.szs (ps.take i) ≤ sz.szs ps := by
  have := szs_append (ps.take i) (ps.drop i)
  rw [List.take_append_drop] at this
  omega
theorem check_ref (c : Con) : c.check = if 8 < c.dep ∨ 64 < c.sz then 21 else c.firstErr := by
  have h := fits_iff _ c (Nat.le_refl _) 0 0
  unfold check
  by_cases hc : 8 < c.dep ∨ 64 < c.sz
  · rw [if_pos hc, if_neg]
    intro e
    have := h.1 e
    omega
  · rw [if_neg hc, if_pos (h.2 (by omega))]
theorem firstErrs_first {ps : List Con} {p : Con} {i : Nat} (h : firstErr.firstErrs (ps.take i) = 0) (hp : ps[i]? = some p) (hn : p.firstErr ≠ 0) : firstErr.firstErrs ps = p.firstErr := by
  induction ps generalizing i with
  | nil => simp at hp
  | cons q ps ih =>
    cases i with
    | zero =>
      simp only [List.getElem?_cons_zero, Option.some.injEq] at hp
      subst hp
      simp only [firstErr.firstErrs, if_neg hn]
    | succ i =>
      simp only [List.take_succ_cons, firstErr.firstErrs] at h ⊢
      split at h
      · rename_i hq
        rw [if_pos hq]
        exact ih h (by simpa using hp)
      · rename_i hq; exact absurd h hq
theorem firstErrs_step {ps : List Con} {p : Con} {i : Nat} (h : firstErr.firstErrs (ps.take i) = 0) (hp : ps[i]? = some p) (hn : p.firstErr = 0) : firstErr.firstErrs (ps.take (i + 1)) = 0 := by
  rw [take_snoc hp, firstErrs_zero]
  rw [firstErrs_zero] at h
  intro q hq
  rcases List.mem_append.1 hq with hq | hq
  · exact h q hq
  · rw [List.mem_singleton] at hq; subst hq; exact hn
/-- the reference's search for an individual outside a SomeC -/
def rbare : Con → Bool
  | mk k _ _ _ _ _ ps => if k = 4 then true else if k = 6 then false else rbares ps
where rbares : List Con → Bool
  | [] => false
  | p :: ps => rbare p || rbares ps
theorem rbares_any : ∀ (ps : List Con), rbare.rbares ps = ps.any rbare
  | [] => rfl
  | p :: ps => by simp [rbare.rbares, rbares_any ps]
theorem rbare_eq (c : Con) : c.rbare = if c.kind = 4 then true else if c.kind = 6 then false else c.parts.any rbare := by cases c; rw [rbare, rbares_any]; rfl
theorem rbare_fine : ∀ (m : Nat) (c : Con), c.sz ≤ m → c.fine → c.rbare = c.bare
  | 0, c, h => by have := c.sz_pos; omega
  | m + 1, c, h => fun hf => by
    have F := fields hf
    have k1 := F.k1
    have k7 := F.k7
    have hmo := F.mo
    rw [rbare_eq, bare_eq]
    have hp : c.parts.any rbare = c.parts.any bare := by
      rw [Bool.eq_iff_iff, List.any_eq_true, List.any_eq_true]
      constructor
      · rintro ⟨p, hp, e⟩; exact ⟨p, hp, by rw [← rbare_fine m p (by have := sz_part hp; omega) (fine_part hf hp)]; exact e⟩
      · rintro ⟨p, hp, e⟩; exact ⟨p, hp, by rw [rbare_fine m p (by have := sz_part hp; omega) (fine_part hf hp)]; exact e⟩
    have hk : c.kind = 1 ∨ c.kind = 2 ∨ c.kind = 3 ∨ c.kind = 4 ∨ c.kind = 5 ∨ c.kind = 6 ∨ c.kind = 7 := by omega
    rcases hk with e | e | e | e | e | e | e
    all_goals rw [e] at hmo
    all_goals simp only [nd, needL] at hmo
    · have : c.parts = [] := by simpa using hmo
      simp [e, this]
    · have : c.parts = [] := by simpa using hmo
      simp [e, this]
    · have : c.parts = [] := by simpa using hmo
      simp [e, this]
    · simp [e]
    · simp [e, hp]
    · simp [e]
    · have : c.parts = [] := by simpa using hmo
      simp [e, this]
end Con
namespace Ax
theorem shaped_ref {x : Ax} {ul ur uo ua ub : Bool} {um un : Int} (hu : us x.kind = ⟨ul, ur, uo, ua, ub, um, un⟩) :
    x.shaped = !((((((((decide (x.kind < 1) || decide (9 < x.kind)) || (!ul && !x.left.empty)) || (!ur && !x.right.empty)) || (!uo && (x.role != []))) || (!ua && (x.a != []))) || (!ub && (x.b != []))) || decide ((x.roles.length : Int) < um)) || decide (un < (x.roles.length : Int))) := by
  unfold shaped
  by_cases hk : x.kind < 1 ∨ 9 < x.kind
  · rw [if_pos hk]
    have : (decide (x.kind < 1) || decide (9 < x.kind)) = true := by simpa using hk
    rw [this]; simp
  · rw [if_neg hk, hu]
    have h1 : decide (x.kind < 1) = false := decide_eq_false (by omega)
    have h2 : decide (9 < x.kind) = false := decide_eq_false (by omega)
    have h3 : decide (um ≤ (x.roles.length : Int)) = !decide ((x.roles.length : Int) < um) := by rw [← decide_not]; simp
    have h4 : decide ((x.roles.length : Int) ≤ un) = !decide (un < (x.roles.length : Int)) := by rw [← decide_not]; simp
    dsimp only
    rw [h1, h2, h3, h4]
    simp only [Bool.or_false, Bool.false_or, Bool.not_or, Bool.not_and, Bool.not_not, bne]
theorem check_22 {x : Ax} (h : x.shaped = false) : x.check = 22 := by unfold check; rw [if_pos h]
theorem check_20 {x : Ax} (h : x.shaped = true) (hn : x.namedU (us x.kind) = false) : x.check = 20 := by unfold check; rw [if_neg (by rw [h]; simp), if_pos hn]
theorem check_left {x : Ax} (h : x.shaped = true) (hn : x.namedU (us x.kind) = true) (hl : (us x.kind).left = true) (he : x.left.check ≠ 0) : x.check = x.left.check := by
  unfold check; rw [if_neg (by rw [h]; simp), if_neg (by rw [hn]; simp), if_pos ⟨hl, he⟩]
theorem check_right {x : Ax} (h : x.shaped = true) (hn : x.namedU (us x.kind) = true) (hl : (us x.kind).left = true → x.left.check = 0) (hr : (us x.kind).right = true) (he : x.right.check ≠ 0) : x.check = x.right.check := by
  unfold check; rw [if_neg (by rw [h]; simp), if_neg (by rw [hn]; simp), if_neg (fun q => q.2 (hl q.1)), if_pos ⟨hr, he⟩]
theorem check_last {x : Ax} (h : x.shaped = true) (hn : x.namedU (us x.kind) = true) (hl : (us x.kind).left = true → x.left.check = 0) (hr : (us x.kind).right = true → x.right.check = 0) :
    x.check = if ((((us x.kind).right && (x.kind != 3)) && x.right.rbare) || ((x.kind == 2) && x.left.rbare)) = true then 22 else 0 := by
  have hk : 1 ≤ x.kind ∧ x.kind ≤ 9 := by
    unfold shaped at h
    split at h
    · cases h
    · rename_i hh; simp only [not_or] at hh; omega
  have hb : ∀ {c : Con}, c.check = 0 → c.rbare = c.bare := fun {c} e => Con.rbare_fine _ c (Nat.le_refl _) (Con.check_zero e).1
  unfold check
  rw [if_neg (by rw [h]; simp), if_neg (by rw [hn]; simp), if_neg (fun q => q.2 (hl q.1)), if_neg (fun q => q.2 (hr q.1))]
  have hk' : x.kind = 1 ∨ x.kind = 2 ∨ x.kind = 3 ∨ x.kind = 4 ∨ x.kind = 5 ∨ x.kind = 6 ∨ x.kind = 7 ∨ x.kind = 8 ∨ x.kind = 9 := by omega
  rcases hk' with e | e | e | e | e | e | e | e | e <;> simp only [us, useL, e] at hl hr ⊢
  · rw [hb (hr rfl)]; cases x.right.bare <;> simp
  · rw [hb (hr rfl), hb (hl rfl)]; cases x.right.bare <;> cases x.left.bare <;> simp
  · simp
  · rw [hb (hr rfl)]; cases x.right.bare <;> simp
  · simp
  · simp
  · simp
  · rw [hb (hr rfl)]; cases x.right.bare <;> simp
  · simp
end Ax
end Go.Vs

/-
  My own contracts.
-/
namespace Go.Proofs.YtoafjmalfclpoaaGreatDoor
open Go Go.Sx Go.Proofs
set_option linter.unusedVariables false
attribute [local irreducible] Code.wp wpList wpAnyH

open Go.Vs
theorem count2_c : ∀ (m : Nat) (c : Con), c.sz ≤ m → c.ok → ∀ (d most : Int), 0 ≤ d ∧ d ≤ 40 → 0 ≤ most ∧ most ≤ 1000 → Tri Tryz.prog 58 #[Con.val c, .int .i64 d, .int .i64 most] [] [Con.memF c] (fun r : {r : Int // 1 ≤ r ∧ r ≤ most + 4398046511104 ∧ (r ≤ most → (c.sz : Int) ≤ r)} => .int .i64 r.1) (fun _ => []) (fun _ => []) := by
 intro m
 induction m with
 | zero => intro c h; have := c.sz_pos; omega
 | succ m ih =>
  intro c hm hok d most hd hmost
  have hnl := Con.ok_name hok
  have hpl := Con.ok_len hok
  refine tri_of_body Tryz.func58 rfl rfl Tryz.ntmps58 rfl fun v0 => ?_
  refine run_seq (run_region (ops_box rfl rfl fun b1 => ?_))
  refine ops_val (yld_assign rfl) rfl (ops_nil (fin_next rfl (run_seq (run_seq (run_region (ops_val (yld_move rfl) rfl (ops_valB (yld_leq rfl rfl) rfl fun r1 hr1 => ?_)))))))
  refine ops_nil (fin_next rfl ?_)
  cases r1
  ·
   replace hr1 := of_decide_eq_false hr1
   refine run_cond_f rfl (run_skip (fin_next rfl (run_seq (run_region (ops_val (yld_field Tryz.runUnderlying38 rfl rfl rfl Tryz.sizeOf9) rfl ?_)))))
   refine ops_val (yld_load 0 Tryz.isAgg9 rfl rfl rfl) rfl ?_
   refine ops_val (yld_lenT Tryz.runUnderlying9 rfl) rfl ?_
   refine ops_val (yld_eq (yld_quo (n := 40) rfl rfl (by decide) (wrap64 (r := ((List.length (Con.name c) / 40 : Nat) : Int)) (by omega) (by omega))) (show _ = Value.int .i64 ((List.length (Con.name c) / 40 : Nat) : Int) from rfl)) rfl ?_
   refine ops_val (yld_arith rfl rfl rfl (wrap64 (by omega) (by omega))) rfl ?_
   refine ops_val (yld_assign rfl) rfl (ops_nil (fin_next rfl (run_seq (run_seq (run_region (ops_val (yld_assign rfl) rfl (ops_nil ?_)))))))
   refine fin_next rfl (run_block (ok_fr [(1, .int .i64 d), (2, .int .i64 most), (3, .pointer (some ⟨b1, 0, none⟩)), (7, .int .i64 (1 + ((List.length (Con.name c) / 40 : Nat) : Int))), (8, .int .i64 ((0 : Nat) : Int))] ⟨rfl, rfl, rfl, rfl, rfl, trivial⟩ ?_))
   refine run_loop (ι := {x : Nat × Int // x.1 ≤ c.parts.length ∧ 1 ≤ x.2 ∧ x.2 ≤ most + 4398046511104 ∧ (x.2 ≤ most → ((1 + Con.sz.szs (c.parts.take x.1) : Nat) : Int) ≤ x.2)}) (fun x => [(1, .int .i64 d), (2, .int .i64 most), (3, .pointer (some ⟨b1, 0, none⟩)), (7, .int .i64 x.1.2), (8, .int .i64 (x.1.1 : Int))]) (fun _ => _) (fun _ => _) (fun x => c.parts.length - x.1.1) ⟨(0, 1 + ((List.length (Con.name c) / 40 : Nat) : Int)), by simp, by dsimp only; omega, by dsimp only; omega, by simp [Con.sz.szs]; omega⟩ ?_
   rintro ⟨⟨i, n⟩, hk⟩
   dsimp only at hk
   obtain ⟨hk1, hk2, hk3, hk4⟩ := hk
   refine ok_fr [(1, .int .i64 d), (2, .int .i64 most), (3, .pointer (some ⟨b1, 0, none⟩)), (7, .int .i64 n), (8, .int .i64 (i : Int))] ⟨rfl, rfl, rfl, rfl, rfl, trivial⟩ ?_
   refine run_seq (run_seq (run_region (ops_val (yld_move rfl) rfl (ops_val (yld_field Tryz.runUnderlying38 rfl rfl rfl Tryz.sizeOf36) rfl ?_))))
   refine ops_val (yld_load 0 Tryz.isAgg36 rfl rfl rfl) rfl ?_
   refine ops_val (yld_lenS Tryz.runUnderlying36 rfl) rfl ?_
   refine ops_valB (yld_lss rfl rfl) rfl fun r2 hr2 => ?_
   refine ops_val (yld_move rfl) rfl ?_
   refine ops_cut 4 ((decide ((i : Int) < (List.length (Con.parts c) : Int))) && (decide (n ≤ most))) (fun r => [(1, .int .i64 d), (2, .int .i64 most), (3, .pointer (some ⟨b1, 0, none⟩)), (7, .int .i64 n), (8, .int .i64 (i : Int)), (27, .bool r)]) ?_ fun r3 hr3 => ?_
   ·
    cases r2
    ·
     have qr3 := hr2
     replace hr2 := of_decide_eq_false hr2
     refine ops_no rfl rfl rfl rfl (ops_no rfl rfl rfl rfl (ops_no rfl rfl rfl rfl (ops_val (yld_pick_f rfl rfl) rfl ?_)))
     refine ops_nil (fin_inv rfl ?_)
     exact met ⟨rfl, rfl, rfl, rfl, rfl, (get_bool rfl (jaf qr3)), trivial⟩
    ·
     have qr3 := hr2
     replace hr2 := of_decide_eq_true hr2
     refine ops_yes rfl rfl (ops_val (yld_move rfl) rfl (ops_yes rfl rfl (ops_val (yld_move rfl) rfl (ops_yes rfl rfl (ops_valB (yld_leq rfl rfl) rfl fun r4 hr4 => ?_)))))
     refine ops_val (yld_pick_t rfl rfl) rfl ?_
     refine ops_nil (fin_inv rfl ?_)
     exact met ⟨rfl, rfl, rfl, rfl, rfl, (get_bool rfl (jat qr3 hr4)), trivial⟩
   ·
    refine ops_nil (fin_next rfl ?_)
    cases r3
    ·
     simp at hr3
     refine run_cond_f rfl (run_exit rfl (fin_next rfl (run_seq (run_region (ops_val (yld_move rfl) rfl (ops_val (yld_assign rfl) rfl (ops_nil ?_)))))))
     refine fin_next rfl (run_ret ?_)
     exact ret1 Tryz.results58 ⟨n, by omega, by omega, fun q => by have hi : c.parts.length ≤ i := (by simp at *; omega); have := hk4 q; rw [List.take_of_length_le hi] at this; rw [Con.sz_eq]; exact this⟩ rfl (@List.perm_append_comm _ [_] _) (fun _ _ _ => trivial)
    ·
     simp at hr3
     skip
     have hlx1 : i < List.length (Con.parts c) := by omega
     obtain ⟨x1, hx1⟩ : ∃ e0, (Con.parts c)[i]? = some e0 := ⟨_, List.getElem?_eq_getElem hlx1⟩
     have hmx1 : x1 ∈ (Con.parts c) := List.mem_of_getElem? hx1
     refine run_cond_t rfl (run_skip (fin_next rfl (run_seq (run_block (run_region (ops_val (yld_move rfl) rfl (ops_val (yld_field Tryz.runUnderlying38 rfl rfl rfl Tryz.sizeOf36) rfl ?_)))))))
     refine ops_val (yld_load 0 Tryz.isAgg36 rfl rfl rfl) rfl ?_
     refine ops_val (yld_move rfl) rfl (ops_val (yld_indexR Tryz.runUnderlying36 Tryz.sizeOf38 rfl rfl (fun v _ h => row_adr (n := 5) Con.cells_len (by decide) (by exact ((Con.mem_iff c v).1 h.1).1) hx1) (by omega) (by first | omega | (simp; done))) rfl ?_)
     refine ops_val (yld_loadRS (ad := (Con.ad c)) (us := Con.cells x1) Tryz.isAgg38 Tryz.sizeOf38 rfl (fun v _ h => by exact ((Con.mem_iff c v).1 h.1).1) (Con.cells_len _) (row_cells Con.cells_len hx1)) rfl ?_
     refine ops_val (yld_move rfl) rfl (ops_val (yld_arith rfl rfl rfl (wrap64 (by omega) (by omega))) rfl ?_)
     refine ops_val (yld_move rfl) rfl (ops_val (yld_move rfl) rfl (ops_val (yld_arith rfl rfl rfl (wrap64 (by omega) (by omega))) rfl ?_))
     refine ops_call (ih x1 (by have := Con.sz_part hmx1; omega) (Con.ok_part hok hmx1) (d - 1) (most - n) ⟨by omega, by omega⟩ ⟨by omega, by omega⟩) rfl pf_nil (fun v _ h => by exact ⟨(Con.mem_part (c := c) h.1 hmx1), trivial⟩) rfl fun ⟨r, hr1, hr2, hr3⟩ => ?_
     dsimp only
     refine ops_val (yld_arith rfl rfl rfl (wrap64 (by omega) (by omega))) rfl ?_
     refine ops_val (yld_assign rfl) rfl (ops_nil (fin_next rfl (run_region (ops_val (yld_move rfl) rfl (ops_val (yld_arith rfl rfl rfl (wrap64 (by omega) (by omega))) rfl ?_)))))
     refine ops_val (yld_assign rfl) rfl (ops_nil (fin_inv rfl ?_))
     have hst := Con.szs_step hx1
     exact ok_again ⟨(i + 1, n + r), hlx1, by dsimp only; omega, by dsimp only; omega, fun q => by dsimp only at q ⊢; rw [hst]; have := hr3 (by omega); have := hk4 (by omega); omega⟩ (by dsimp only; omega) ⟨rfl, rfl, rfl, rfl, rfl, trivial⟩ (.refl _) (fun _ _ h => h)
  ·
   replace hr1 := of_decide_eq_true hr1
   refine run_cond_t rfl (run_seq (run_region (ops_val (yld_move rfl) rfl (ops_val (yld_arith rfl rfl rfl (wrap64 (by omega) (by omega))) rfl ?_))))
   refine ops_val (yld_assign rfl) rfl (ops_nil (fin_next rfl (run_ret ?_)))
   exact ret1 Tryz.results58 ⟨(most + 1), by omega, by omega, fun q => by omega⟩ rfl (@List.perm_append_comm _ [_] _) (fun _ _ _ => trivial)

theorem few2_c (c : Con) (hok : c.ok) : Tri Tryz.prog 22 #[Con.val c] [] [Con.memF c] (fun b : {b : Bool // b = true → c.sz ≤ 150} => .bool b.1) (fun _ => []) (fun _ => []) := by
  refine tri_of_body Tryz.func22 rfl rfl Tryz.ntmps22 rfl fun v0 => ?_
  refine run_seq (run_region (ops_box rfl rfl fun b1 => ?_))
  refine ops_val (yld_assign rfl) rfl (ops_nil (fin_next rfl (run_seq (run_region (ops_val (yld_loadS 0 Tryz.isAgg38 Tryz.sizeOf38 rfl rfl rfl) rfl ?_)))))
  refine ops_call (count2_c _ c (Nat.le_refl _) hok 40 150 ⟨by decide, by decide⟩ ⟨by decide, by decide⟩) rfl pf_nil (fun v _ h => by exact ⟨h.1, trivial⟩) rfl fun ⟨r, hr1, hr2, hr3⟩ => ?_
  dsimp only
  refine ops_valB (yld_leq rfl rfl) rfl fun r1 hr1 => ?_
  refine ops_val (yld_assign rfl) rfl (ops_nil (fin_next rfl (run_ret ?_)))
  exact ret1 Tryz.results22 ⟨r1, fun q => by rw [q] at hr1; have := of_decide_eq_true hr1; have := hr3 this; omega⟩ rfl (@List.perm_append_comm _ [_] _) (fun _ _ _ => trivial)

structure Ax.Few (x : Ax) : Prop where
  left : x.left.sz ≤ 150
  right : x.right.sz ≤ 150
  roles : x.roles.length ≤ 600

theorem fewAxiom2_c (x : Ax) (hok : x.ok) : Tri Tryz.prog 18 #[Ax.val x] [] [Ax.memF x] (fun b : {b : Bool // b = true → Ax.Few x} => .bool b.1) (fun _ => []) (fun _ => []) := by
 refine tri_of_body Tryz.func18 rfl rfl Tryz.ntmps18 rfl fun v0 => ?_
 have h1 := hok.role
 have h2 := hok.a
 have h3 := hok.b
 have h4 := hok.len
 have h5 := hok.cap
 refine run_seq (run_region (ops_box rfl rfl fun b1 => ?_))
 refine ops_val (yld_assign rfl) rfl (ops_nil (fin_next rfl (run_seq (run_region (ops_val (yld_field Tryz.runUnderlying41 rfl rfl rfl Tryz.sizeOf9) rfl ?_)))))
 refine ops_val (yld_load 0 Tryz.isAgg9 rfl rfl rfl) rfl ?_
 refine ops_val (yld_lenT Tryz.runUnderlying9 rfl) rfl ?_
 refine ops_val (yld_field Tryz.runUnderlying41 rfl rfl rfl Tryz.sizeOf9) rfl ?_
 refine ops_val (yld_load 0 Tryz.isAgg9 rfl rfl rfl) rfl ?_
 refine ops_val (yld_lenT Tryz.runUnderlying9 rfl) rfl ?_
 refine ops_val (yld_arith rfl rfl rfl (wrap64 (by omega) (by omega))) rfl ?_
 refine ops_val (yld_field Tryz.runUnderlying41 rfl rfl rfl Tryz.sizeOf9) rfl ?_
 refine ops_val (yld_load 0 Tryz.isAgg9 rfl rfl rfl) rfl ?_
 refine ops_val (yld_lenT Tryz.runUnderlying9 rfl) rfl ?_
 refine ops_val (yld_arith rfl rfl rfl (wrap64 (by omega) (by omega))) rfl ?_
 refine ops_val (yld_field Tryz.runUnderlying41 rfl rfl rfl Tryz.sizeOf39) rfl ?_
 refine ops_val (yld_load 0 Tryz.isAgg39 rfl rfl rfl) rfl ?_
 refine ops_val (yld_lenS Tryz.runUnderlying39 rfl) rfl ?_
 refine ops_val (yld_arith rfl rfl rfl (wrap64 (by omega) (by omega))) rfl ?_
 refine ops_val (yld_arith rfl rfl rfl (wrap64 (by omega) (by omega))) rfl ?_
 refine ops_val (yld_assign rfl) rfl (ops_nil (fin_next rfl (run_seq (run_seq (run_region (ops_val (yld_assign rfl) rfl (ops_nil ?_)))))))
 refine fin_next rfl (run_block (ok_fr [(1, .pointer (some ⟨b1, 0, none⟩)), (3, .int .i64 (((((Ax.role x).length : Int) + ((Ax.a x).length : Int)) + ((Ax.b x).length : Int)) + (10 * (List.length (Ax.roles x) : Int)))), (4, .int .i64 ((0 : Nat) : Int))] ⟨rfl, rfl, rfl, trivial⟩ ?_))
 refine run_loop (ι := {y : Nat × Int // y.1 ≤ x.roles.length ∧ y.1 ≤ 100 ∧ (x.roles.length : Int) ≤ y.2 ∧ y.2 ≤ 444444444444444444 + y.1 * 140737488351232}) (fun y => [(1, .pointer (some ⟨b1, 0, none⟩)), (3, .int .i64 y.1.2), (4, .int .i64 (y.1.1 : Int))]) (fun _ => _) (fun _ => _) (fun y => x.roles.length - y.1.1) ⟨(0, (((((Ax.role x).length : Int) + ((Ax.a x).length : Int)) + ((Ax.b x).length : Int)) + (10 * (List.length (Ax.roles x) : Int)))), by simp, by simp, by dsimp only; omega, by dsimp only; omega⟩ ?_
 rintro ⟨⟨i, n⟩, hk⟩
 dsimp only at hk
 refine ok_fr [(1, .pointer (some ⟨b1, 0, none⟩)), (3, .int .i64 n), (4, .int .i64 (i : Int))] ⟨rfl, rfl, rfl, trivial⟩ ?_
 refine run_seq (run_seq (run_region (ops_val (yld_move rfl) rfl (ops_val (yld_field Tryz.runUnderlying41 rfl rfl rfl Tryz.sizeOf39) rfl ?_))))
 refine ops_val (yld_load 0 Tryz.isAgg39 rfl rfl rfl) rfl ?_
 refine ops_val (yld_lenS Tryz.runUnderlying39 rfl) rfl ?_
 refine ops_valB (yld_lss rfl rfl) rfl fun r1 hr1 => ?_
 refine ops_val (yld_move rfl) rfl ?_
 cases r1
 ·
  replace hr1 := of_decide_eq_false hr1
  refine ops_no rfl rfl rfl rfl (ops_no rfl rfl rfl rfl (ops_val (yld_pick_f rfl rfl) rfl ?_))
  refine ops_nil (fin_next rfl (run_cond_f rfl (run_exit rfl (fin_next rfl (run_seq (run_region (ops_val (yld_move rfl) rfl ?_)))))))
  refine ops_valB (yld_leq rfl rfl) rfl fun r2 hr2 => ?_
  refine ops_val (yld_move rfl) rfl ?_
  cases r2
  ·
   replace hr2 := of_decide_eq_false hr2
   refine ops_no rfl rfl rfl rfl (ops_no rfl rfl rfl rfl (ops_no rfl rfl rfl rfl (ops_val (yld_pick_f rfl rfl) rfl ?_)))
   refine ops_val (yld_move rfl) rfl (ops_no rfl rfl rfl rfl (ops_no rfl rfl rfl rfl (ops_no rfl rfl rfl rfl (ops_val (yld_pick_f rfl rfl) rfl ?_))))
   refine ops_val (yld_assign rfl) rfl (ops_nil (fin_next rfl (run_ret ?_)))
   exact ret1 Tryz.results18 ⟨false, fun h => by cases h⟩ rfl (@List.perm_append_comm _ [_] _) (fun _ _ _ => trivial)
  ·
   replace hr2 := of_decide_eq_true hr2
   refine ops_yes rfl rfl (ops_val (yld_field Tryz.runUnderlying41 rfl rfl rfl Tryz.sizeOf38) rfl ?_)
   refine ops_yes rfl rfl (ops_val (yld_loadS 0 Tryz.isAgg38 Tryz.sizeOf38 rfl rfl rfl) rfl ?_)
   refine ops_yes rfl rfl (ops_call (few2_c (Ax.left x) hok.left) rfl pf_nil (fun v _ h => by exact ⟨h.1.1, trivial⟩) rfl fun ⟨f1, hf1⟩ => ?_)
   dsimp only
   refine ops_val (yld_pick_t rfl rfl) rfl ?_
   refine ops_val (yld_move rfl) rfl ?_
   cases f1
   ·
    refine ops_no rfl rfl rfl rfl (ops_no rfl rfl rfl rfl (ops_no rfl rfl rfl rfl (ops_val (yld_pick_f rfl rfl) rfl ?_)))
    refine ops_val (yld_assign rfl) rfl (ops_nil (fin_next rfl (run_ret ?_)))
    exact ret1 Tryz.results18 ⟨false, fun h => by cases h⟩ rfl (@List.perm_append_comm _ [_] _) (fun _ _ _ => trivial)
   ·
    refine ops_yes rfl rfl (ops_val (yld_field Tryz.runUnderlying41 rfl rfl rfl Tryz.sizeOf38) rfl ?_)
    refine ops_yes rfl rfl (ops_val (yld_loadS 0 Tryz.isAgg38 Tryz.sizeOf38 rfl rfl rfl) rfl ?_)
    refine ops_yes rfl rfl (ops_call (few2_c (Ax.right x) hok.right) rfl pf_nil (fun v _ h => by exact ⟨h.1.2.1, trivial⟩) rfl fun ⟨f2, hf2⟩ => ?_)
    dsimp only
    refine ops_val (yld_pick_t rfl rfl) rfl ?_
    refine ops_val (yld_assign rfl) rfl (ops_nil (fin_next rfl (run_ret ?_)))
    exact ret1 Tryz.results18 ⟨f2, fun h => ⟨hf1 rfl, hf2 h, by omega⟩⟩ rfl (@List.perm_append_comm _ [_] _) (fun _ _ _ => trivial)
 ·
  replace hr1 := of_decide_eq_true hr1
  refine ops_yes rfl rfl (ops_val (yld_move rfl) rfl (ops_yes rfl rfl (ops_valB (yld_lss rfl rfl) rfl fun r3 hr3 => ?_)))
  refine ops_val (yld_pick_t rfl rfl) rfl ?_
  refine ops_nil (fin_next rfl ?_)
  cases r3
  ·
   replace hr3 := of_decide_eq_false hr3
   refine run_cond_f rfl (run_exit rfl (fin_next rfl (run_seq (run_region (ops_val (yld_move rfl) rfl (ops_valB (yld_leq rfl rfl) rfl fun r4 hr4 => ?_))))))
   refine ops_val (yld_move rfl) rfl ?_
   cases r4
   ·
    replace hr4 := of_decide_eq_false hr4
    refine ops_no rfl rfl rfl rfl (ops_no rfl rfl rfl rfl (ops_no rfl rfl rfl rfl (ops_val (yld_pick_f rfl rfl) rfl ?_)))
    refine ops_val (yld_move rfl) rfl (ops_no rfl rfl rfl rfl (ops_no rfl rfl rfl rfl (ops_no rfl rfl rfl rfl (ops_val (yld_pick_f rfl rfl) rfl ?_))))
    refine ops_val (yld_assign rfl) rfl (ops_nil (fin_next rfl (run_ret ?_)))
    exact ret1 Tryz.results18 ⟨false, fun h => by cases h⟩ rfl (@List.perm_append_comm _ [_] _) (fun _ _ _ => trivial)
   ·
    replace hr4 := of_decide_eq_true hr4
    refine ops_yes rfl rfl (ops_val (yld_field Tryz.runUnderlying41 rfl rfl rfl Tryz.sizeOf38) rfl ?_)
    refine ops_yes rfl rfl (ops_val (yld_loadS 0 Tryz.isAgg38 Tryz.sizeOf38 rfl rfl rfl) rfl ?_)
    refine ops_yes rfl rfl (ops_call (few2_c (Ax.left x) hok.left) rfl pf_nil (fun v _ h => by exact ⟨h.1.1, trivial⟩) rfl fun ⟨f1, hf1⟩ => ?_)
    dsimp only
    refine ops_val (yld_pick_t rfl rfl) rfl ?_
    refine ops_val (yld_move rfl) rfl ?_
    cases f1
    ·
     refine ops_no rfl rfl rfl rfl (ops_no rfl rfl rfl rfl (ops_no rfl rfl rfl rfl (ops_val (yld_pick_f rfl rfl) rfl ?_)))
     refine ops_val (yld_assign rfl) rfl (ops_nil (fin_next rfl (run_ret ?_)))
     exact ret1 Tryz.results18 ⟨false, fun h => by cases h⟩ rfl (@List.perm_append_comm _ [_] _) (fun _ _ _ => trivial)
    ·
     refine ops_yes rfl rfl (ops_val (yld_field Tryz.runUnderlying41 rfl rfl rfl Tryz.sizeOf38) rfl ?_)
     refine ops_yes rfl rfl (ops_val (yld_loadS 0 Tryz.isAgg38 Tryz.sizeOf38 rfl rfl rfl) rfl ?_)
     refine ops_yes rfl rfl (ops_call (few2_c (Ax.right x) hok.right) rfl pf_nil (fun v _ h => by exact ⟨h.1.2.1, trivial⟩) rfl fun ⟨f2, hf2⟩ => ?_)
     dsimp only
     refine ops_val (yld_pick_t rfl rfl) rfl ?_
     refine ops_val (yld_assign rfl) rfl (ops_nil (fin_next rfl (run_ret ?_)))
     exact ret1 Tryz.results18 ⟨f2, fun h => ⟨hf1 rfl, hf2 h, by omega⟩⟩ rfl (@List.perm_append_comm _ [_] _) (fun _ _ _ => trivial)
  ·
   replace hr3 := of_decide_eq_true hr3
   have hlx1 : i < List.length (Ax.roles x) := by omega
   obtain ⟨x1, hx1⟩ : ∃ e0, (Ax.roles x)[i]? = some e0 := ⟨_, List.getElem?_eq_getElem hlx1⟩
   have hmx1 : x1 ∈ (Ax.roles x) := List.mem_of_getElem? hx1
   have hrl := hok.roles x1 hmx1
   refine run_cond_t rfl (run_skip (fin_next rfl (run_seq (run_block (run_region (ops_val (yld_move rfl) rfl (ops_val (yld_field Tryz.runUnderlying41 rfl rfl rfl Tryz.sizeOf39) rfl ?_)))))))
   refine ops_val (yld_load 0 Tryz.isAgg39 rfl rfl rfl) rfl ?_
   refine ops_val (yld_move rfl) rfl (ops_val (yld_indexR Tryz.runUnderlying39 Tryz.sizeOf9 rfl rfl (fun v _ h => row_adr (n := 1) strC_len (by decide) (by exact h.1.2.2) hx1) (by omega) (by first | omega | (simp; done))) rfl ?_)
   refine ops_val (yld_loadR (ad := (Ax.ad x)) Tryz.isAgg9 rfl (fun v _ h => by exact h.1.2.2) (row_cells strC_len hx1 0 _ rfl)) rfl ?_
   refine ops_val (yld_lenT Tryz.runUnderlying9 rfl) rfl ?_
   refine ops_val (yld_arith rfl rfl rfl (wrap64 (by omega) (by omega))) rfl ?_
   refine ops_val (yld_assign rfl) rfl (ops_nil (fin_next rfl (run_region (ops_val (yld_move rfl) rfl (ops_val (yld_arith rfl rfl rfl (wrap64 (by omega) (by omega))) rfl ?_)))))
   refine ops_val (yld_assign rfl) rfl (ops_nil (fin_inv rfl ?_))
   exact ok_again ⟨(i + 1, n + (List.length x1 : Int)), hlx1, by dsimp only; omega, by dsimp only; omega, by dsimp only; omega⟩ (by dsimp only; omega) ⟨rfl, rfl, rfl, trivial⟩ (.refl _) (fun _ _ h => h)

theorem fewAxioms2_c (l : List Ax) (ad : Option Addr) (cap : Nat) (most : Int) (hcap : l.length ≤ cap ∧ cap ≤ 2199023255488) (hok : ∀ x ∈ l, x.ok) : Tri Tryz.prog 38 #[.slice ad (List.length l) cap, .int .i64 most] [] [axsF ad l] (fun b : {b : Bool // b = true → (l.length : Int) ≤ most ∧ ∀ x ∈ l, Ax.Few x} => .bool b.1) (fun _ => []) (fun _ => []) := by
 refine tri_of_body Tryz.func38 rfl rfl Tryz.ntmps38 rfl fun v0 => ?_
 refine run_seq (run_region (ops_val (yld_assign rfl) rfl (ops_nil (fin_next rfl (run_seq (run_seq (run_region ?_)))))))
 refine ops_val (yld_move rfl) rfl (ops_val (yld_lenS Tryz.runUnderlying22 rfl) rfl ?_)
 refine ops_val (yld_move rfl) rfl (ops_valB (yld_gtr rfl rfl) rfl fun r1 hr1 => ?_)
 refine ops_nil (fin_next rfl ?_)
 cases r1
 ·
  replace hr1 := of_decide_eq_false hr1
  refine run_cond_f rfl (run_skip (fin_next rfl (run_seq (run_seq (run_region (ops_val (yld_assign rfl) rfl (ops_nil ?_)))))))
  refine fin_next rfl (run_block (ok_fr [(0, .slice ad (List.length l) cap), (5, .int .i64 ((0 : Nat) : Int))] ⟨rfl, rfl, trivial⟩ ?_))
  refine run_loop (ι := {q : Nat // q ≤ l.length ∧ ∀ x ∈ l.take q, Ax.Few x}) (fun i => [(0, .slice ad (List.length l) cap), (5, .int .i64 (i.1 : Int))]) (fun _ => _) (fun _ => _) (fun i => l.length - i.1) ⟨0, by simp⟩ ?_
  rintro ⟨i, hk⟩
  refine ok_fr [(0, .slice ad (List.length l) cap), (5, .int .i64 (i : Int))] ⟨rfl, rfl, trivial⟩ ?_
  refine run_seq (run_seq (run_region (ops_val (yld_move rfl) rfl (ops_val (yld_move rfl) rfl (ops_val (yld_lenS Tryz.runUnderlying22 rfl) rfl ?_)))))
  refine ops_valB (yld_lss rfl rfl) rfl fun r2 hr2 => ?_
  refine ops_nil (fin_next rfl ?_)
  cases r2
  ·
   replace hr2 := of_decide_eq_false hr2
   refine run_cond_f rfl (run_exit rfl (fin_next rfl (run_seq (run_region (ops_val (yld_assign rfl) rfl (ops_nil (fin_next rfl ?_)))))))
   refine run_ret ?_
   exact ret1 Tryz.results38 ⟨true, fun _ => ⟨by omega, fun x hx => hk.2 x (by rw [List.take_of_length_le (by omega)]; exact hx)⟩⟩ rfl (.refl _) (fun _ _ _ => trivial)
  ·
   replace hr2 := of_decide_eq_true hr2
   have hlx1 : i < List.length l := by omega
   obtain ⟨x1, hx1⟩ : ∃ e0, l[i]? = some e0 := ⟨_, List.getElem?_eq_getElem hlx1⟩
   have hmx1 : x1 ∈ l := List.mem_of_getElem? hx1
   refine run_cond_t rfl (run_skip (fin_next rfl (run_seq (run_block (run_seq (run_region (ops_val (yld_move rfl) rfl ?_)))))))
   refine ops_val (yld_move rfl) rfl (ops_val (yld_indexR Tryz.runUnderlying22 Tryz.sizeOf41 rfl rfl (fun v _ h => row_adr (n := 16) Ax.cells_len (by decide) (by exact h.1.1) hx1) (by omega) (by first | omega | (simp; done))) rfl ?_)
   refine ops_val (yld_loadRS (ad := ad) (us := Ax.cells x1) Tryz.isAgg41 Tryz.sizeOf41 rfl (fun v _ h => by exact h.1.1) (Ax.cells_len _) (row_cells Ax.cells_len hx1)) rfl ?_
   refine ops_call (fewAxiom2_c x1 (hok x1 hmx1)) rfl pf_nil (fun v _ h => by exact ⟨(h.1.2 x1 hmx1), trivial⟩) rfl fun ⟨r, hr⟩ => ?_
   dsimp only
   refine ops_val (yld_not rfl) rfl ?_
   refine ops_nil (fin_next rfl ?_)
   cases r
   ·
    refine run_cond_t rfl (run_seq (run_region (ops_val (yld_assign rfl) rfl (ops_nil (fin_next rfl (run_ret ?_))))))
    exact ret1 Tryz.results38 ⟨false, fun h => by cases h⟩ rfl (.refl _) (fun _ _ _ => trivial)
   ·
    refine run_cond_f rfl (run_skip (fin_next rfl (run_region (ops_val (yld_move rfl) rfl (ops_val (yld_arith rfl rfl rfl (wrap64 (by omega) (by omega))) rfl ?_)))))
    refine ops_val (yld_assign rfl) rfl (ops_nil (fin_inv rfl ?_))
    exact ok_again ⟨i + 1, hlx1, fun x hx => by rw [List.take_add_one, hx1] at hx; simp only [Option.toList_some, List.mem_append, List.mem_singleton] at hx; rcases hx with hx | rfl; exact hk.2 x hx; exact hr rfl⟩ (by simp; omega) ⟨rfl, rfl, trivial⟩ (.refl _) (fun _ _ h => h)
 ·
  replace hr1 := of_decide_eq_true hr1
  refine run_cond_t rfl (run_seq (run_region (ops_val (yld_assign rfl) rfl (ops_nil (fin_next rfl (run_ret ?_))))))
  exact ret1 Tryz.results38 ⟨false, fun h => by cases h⟩ rfl (.refl _) (fun _ _ _ => trivial)

theorem few122_c (l : List Ax) (ad : Option Addr) (cap : Nat) (hcap : l.length ≤ cap ∧ cap ≤ 2199023255488) (hok : ∀ x ∈ l, x.ok) : Tri Tryz.prog 11 #[.slice ad (List.length l) cap] [] [axsF ad l] (fun b : {b : Bool // b = true → l.length ≤ 12 ∧ ∀ x ∈ l, Ax.Few x} => .bool b.1) (fun _ => []) (fun _ => []) := by
  refine tri_of_body Tryz.func11 rfl rfl Tryz.ntmps11 rfl fun v0 => ?_
  refine run_seq (run_region (ops_val (yld_assign rfl) rfl (ops_nil (fin_next rfl (run_seq (run_region (ops_val (yld_move rfl) rfl ?_)))))))
  refine ops_call (fewAxioms2_c l ad cap 12 hcap hok) rfl pf_nil (fun v _ h => by exact ⟨h.1, trivial⟩) rfl fun ⟨r, hr⟩ => ?_
  dsimp only
  refine ops_val (yld_assign rfl) rfl (ops_nil (fin_next rfl (run_ret ?_)))
  exact ret1 Tryz.results11 ⟨r, fun h => ⟨by have := (hr h).1; omega, (hr h).2⟩⟩ rfl (.refl _) (fun _ _ _ => trivial)

end Go.Proofs.YtoafjmalfclpoaaGreatDoor
