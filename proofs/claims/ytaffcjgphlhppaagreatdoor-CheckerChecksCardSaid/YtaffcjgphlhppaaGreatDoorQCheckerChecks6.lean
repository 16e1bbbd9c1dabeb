/-
  Part of the proof of the law CheckerChecks over this seat: the small logic, the data, the contracts of functions (no condition).
-/
import Derived.Test.YtaffcjgphlhppaaGreatDoorQCheckerChecks3
import Derived.Test.YtaffcjgphlhppaaGreatDoorQCheckerChecks2
import Derived.Lib.SlicesCompact
import Derived.Sort.EncStr
import Derived.Test.YtaffcjgphlhppaaGreatDoorQCheckerChecks5
set_option linter.unusedVariables false
set_option linter.unusedSimpArgs false
set_option linter.unusedSectionVars false
namespace Go.Proofs.YtaffcjgphlhppaaGreatDoor
open Go Go.Sx Go.Proofs
attribute [local irreducible] Code.wp wpList wpAnyH
open Go.Vs
theorem iT_ (c : UInt8) :
  Fn0 Tryz.prog 258 #[.int .u8 (c.toNat : Int)] (.bool (cB_ c)) := by
 refine V_ Tryz.func258 rfl rfl Tryz.ntmps258 rfl fun v0 => ?_
 refine g_ (c_ (a_ (e_ rfl) rfl (d_ (b_ rfl (g_ (c_ (a_ (f_ rfl) rfl (C_ (bQ_ rfl rfl) rfl fun r1 hr1 => ?_))))))))
 refine a_ (f_ rfl) rfl ?_
 cases r1
 ·
  replace hr1 := of_decide_eq_false hr1
  refine j_ rfl rfl rfl rfl (j_ rfl rfl rfl rfl (a_ (p_ rfl rfl) rfl (a_ (f_ rfl) rfl (i_ rfl rfl (a_ (f_ rfl) rfl (i_ rfl rfl (C_ (bQ_ rfl rfl) rfl fun r2 hr2 => ?_)))))))
  refine i_ rfl rfl (a_ (f_ rfl) rfl ?_)
  cases r2
  ·
   replace hr2 := of_decide_eq_false hr2
   refine j_ rfl rfl rfl rfl (j_ rfl rfl rfl rfl (i_ rfl rfl (a_ (p_ rfl rfl) rfl (a_ (p_ rfl rfl) rfl (a_ (e_ rfl) rfl (d_ (b_ rfl (y_ ?_))))))))
   exact U_ mf_ () (q_ rfl (by subst_vars; rw [Bool.eq_iff_iff]; simp [cB_] <;> omega)) (.refl _) (fun _ _ _ => trivial)
  ·
   replace hr2 := of_decide_eq_true hr2
   refine i_ rfl rfl (a_ (f_ rfl) rfl (i_ rfl rfl (C_ (bC_ rfl rfl) rfl fun r3 hr3 => ?_)))
   refine i_ rfl rfl (a_ (A_ rfl rfl) rfl (a_ (p_ rfl rfl) rfl (a_ (e_ rfl) rfl (d_ (b_ rfl (y_ ?_))))))
   exact U_ mf_ () (q_ rfl (by subst_vars; rw [Bool.eq_iff_iff]; simp [cB_] <;> omega)) (.refl _) (fun _ _ _ => trivial)
 ·
  replace hr1 := of_decide_eq_true hr1
  refine i_ rfl rfl (a_ (f_ rfl) rfl (i_ rfl rfl (C_ (bC_ rfl rfl) rfl fun r4 hr4 => ?_)))
  refine a_ (A_ rfl rfl) rfl (a_ (f_ rfl) rfl ?_)
  cases r4
  ·
   replace hr4 := of_decide_eq_false hr4
   refine i_ rfl rfl (a_ (f_ rfl) rfl (i_ rfl rfl (C_ (bQ_ rfl rfl) rfl fun r5 hr5 => ?_)))
   refine i_ rfl rfl (a_ (f_ rfl) rfl ?_)
   cases r5
   ·
    replace hr5 := of_decide_eq_false hr5
    refine j_ rfl rfl rfl rfl (j_ rfl rfl rfl rfl (i_ rfl rfl (a_ (p_ rfl rfl) rfl (a_ (p_ rfl rfl) rfl (a_ (e_ rfl) rfl (d_ (b_ rfl (y_ ?_))))))))
    exact U_ mf_ () (q_ rfl (by subst_vars; rw [Bool.eq_iff_iff]; simp [cB_] <;> omega)) (.refl _) (fun _ _ _ => trivial)
   ·
    replace hr5 := of_decide_eq_true hr5
    refine i_ rfl rfl (a_ (f_ rfl) rfl (i_ rfl rfl (C_ (bC_ rfl rfl) rfl fun r6 hr6 => ?_)))
    refine i_ rfl rfl (a_ (A_ rfl rfl) rfl (a_ (p_ rfl rfl) rfl (a_ (e_ rfl) rfl (d_ (b_ rfl (y_ ?_))))))
    exact U_ mf_ () (q_ rfl (by subst_vars; rw [Bool.eq_iff_iff]; simp [cB_] <;> omega)) (.refl _) (fun _ _ _ => trivial)
  ·
   replace hr4 := of_decide_eq_true hr4
   refine j_ rfl rfl rfl rfl (j_ rfl rfl rfl rfl (j_ rfl rfl rfl rfl (j_ rfl rfl rfl rfl (j_ rfl rfl rfl rfl (j_ rfl rfl rfl rfl (a_ (A_ rfl rfl) rfl (a_ (e_ rfl) rfl (d_ (b_ rfl ?_)))))))))
   refine y_ ?_
   exact U_ mf_ () (q_ rfl (by subst_vars; rw [Bool.eq_iff_iff]; simp [cB_] <;> omega)) (.refl _) (fun _ _ _ => trivial)
theorem ks_ (c : UInt8) :
    Fn0 Tryz.prog 245 #[.int .u8 (c.toNat : Int)] (.bool (cL_ c)) := by
  refine V_ Tryz.func245 rfl rfl Tryz.ntmps245 rfl fun v0 => ?_
  refine g_ (c_ (a_ (e_ rfl) rfl (d_ (b_ rfl (g_ (c_ (a_ (f_ rfl) rfl (X_ (iT_ _) rfl (.refl _) (fun _ _ _ => trivial) rfl fun r1 hr1 => ?_))))))))
  refine a_ (f_ rfl) rfl ?_
  cases r1
  · skip
    refine i_ rfl rfl (a_ (f_ rfl) rfl (i_ rfl rfl (C_ (bQ_ rfl rfl) rfl fun r2 hr2 => ?_)))
    refine i_ rfl rfl (a_ (f_ rfl) rfl ?_)
    cases r2
    · skip
      replace hr2 := of_decide_eq_false hr2
      refine j_ rfl rfl rfl rfl (j_ rfl rfl rfl rfl (i_ rfl rfl (a_ (p_ rfl rfl) rfl (a_ (p_ rfl rfl) rfl (a_ (f_ rfl) rfl (i_ rfl rfl (a_ (f_ rfl) rfl (i_ rfl rfl (C_ (ab_ rfl rfl) rfl fun r3 hr3 => ?_)))))))))
      refine a_ (p_ rfl rfl) rfl (a_ (e_ rfl) rfl (d_ (b_ rfl (y_ ?_))))
      exact U_ Tryz.results245 () (q_ rfl (by subst_vars; rw [Bool.eq_iff_iff]; simp [cL_, *] <;> omega)) (.refl _) (fun _ _ _ => trivial)
    · skip
      replace hr2 := of_decide_eq_true hr2
      refine i_ rfl rfl (a_ (f_ rfl) rfl (i_ rfl rfl (C_ (bC_ rfl rfl) rfl fun r4 hr4 => ?_)))
      refine i_ rfl rfl (a_ (A_ rfl rfl) rfl (a_ (p_ rfl rfl) rfl (a_ (f_ rfl) rfl ?_)))
      cases r4
      · skip
        replace hr4 := of_decide_eq_false hr4
        refine i_ rfl rfl (a_ (f_ rfl) rfl (i_ rfl rfl (C_ (ab_ rfl rfl) rfl fun r5 hr5 => ?_)))
        refine a_ (p_ rfl rfl) rfl (a_ (e_ rfl) rfl (d_ (b_ rfl (y_ ?_))))
        exact U_ Tryz.results245 () (q_ rfl (by subst_vars; rw [Bool.eq_iff_iff]; simp [cL_, *] <;> omega)) (.refl _) (fun _ _ _ => trivial)
      · skip
        replace hr4 := of_decide_eq_true hr4
        refine j_ rfl rfl rfl rfl (j_ rfl rfl rfl rfl (a_ (A_ rfl rfl) rfl (a_ (e_ rfl) rfl (d_ (b_ rfl (y_ ?_))))))
        exact U_ Tryz.results245 () (q_ rfl (by subst_vars; rw [Bool.eq_iff_iff]; simp [cL_, *] <;> omega)) (.refl _) (fun _ _ _ => trivial)
  · skip
    refine j_ rfl rfl rfl rfl (j_ rfl rfl rfl rfl (j_ rfl rfl rfl rfl (j_ rfl rfl rfl rfl (j_ rfl rfl rfl rfl (j_ rfl rfl rfl rfl (a_ (A_ rfl rfl) rfl (a_ (f_ rfl) rfl (j_ rfl rfl rfl rfl (j_ rfl rfl rfl rfl ?_)))))))))
    refine a_ (A_ rfl rfl) rfl (a_ (e_ rfl) rfl (d_ (b_ rfl (y_ ?_))))
    exact U_ Tryz.results245 () (q_ rfl (by subst_vars; rw [Bool.eq_iff_iff]; simp [cL_, *] <;> omega)) (.refl _) (fun _ _ _ => trivial)
theorem lt_ (s : Str) :
  Fn0 Tryz.prog 259 #[str s] (.bool (aX_ s)) := by
 refine V_ Tryz.func259 rfl rfl Tryz.ntmps259 rfl fun v0 => ?_
 refine g_ (c_ (a_ (e_ rfl) rfl (d_ (b_ rfl (g_ (g_ (c_ (a_ (f_ rfl) rfl (d_ ?_)))))))))
 refine b_ rfl (ae_ (g_ (g_ (c_ (C_ (az_ rfl rfl) rfl fun r1 hr1 => ?_)))))
 refine a_ (e_ rfl) rfl (d_ (b_ rfl ?_))
 cases r1
 ·
  replace hr1 := ne_of_beq_false hr1
  refine B_ rfl (g_ (c_ (C_ (az_ rfl rfl) rfl fun r2 hr2 => ?_)))
  refine a_ (e_ rfl) rfl (d_ (b_ rfl ?_))
  cases r2
  ·
   replace hr2 := ne_of_beq_false hr2
   refine B_ rfl (g_ (c_ (C_ (az_ rfl rfl) rfl fun r3 hr3 => ?_)))
   refine a_ (e_ rfl) rfl (d_ (b_ rfl ?_))
   cases r3
   ·
    replace hr3 := ne_of_beq_false hr3
    refine B_ rfl (g_ (c_ (C_ (az_ rfl rfl) rfl fun r4 hr4 => ?_)))
    refine a_ (e_ rfl) rfl (d_ (b_ rfl ?_))
    cases r4
    ·
     replace hr4 := ne_of_beq_false hr4
     refine B_ rfl (g_ (c_ (C_ (az_ rfl rfl) rfl fun r5 hr5 => ?_)))
     refine a_ (e_ rfl) rfl (d_ (b_ rfl ?_))
     cases r5
     ·
      replace hr5 := ne_of_beq_false hr5
      refine B_ rfl (g_ (c_ (C_ (az_ rfl rfl) rfl fun r6 hr6 => ?_)))
      refine a_ (e_ rfl) rfl (d_ (b_ rfl ?_))
      cases r6
      ·
       replace hr6 := ne_of_beq_false hr6
       refine B_ rfl (g_ (c_ (C_ (az_ rfl rfl) rfl fun r7 hr7 => ?_)))
       refine a_ (e_ rfl) rfl (d_ (b_ rfl ?_))
       cases r7
       ·
        replace hr7 := ne_of_beq_false hr7
        refine B_ rfl (g_ (c_ (C_ (az_ rfl rfl) rfl fun r8 hr8 => ?_)))
        refine a_ (e_ rfl) rfl (d_ (b_ rfl ?_))
        cases r8
        ·
         replace hr8 := ne_of_beq_false hr8
         refine B_ rfl (g_ (c_ (C_ (az_ rfl rfl) rfl fun r9 hr9 => ?_)))
         refine a_ (e_ rfl) rfl (d_ (b_ rfl ?_))
         cases r9
         ·
          replace hr9 := ne_of_beq_false hr9
          refine B_ rfl (g_ (c_ (C_ (az_ rfl rfl) rfl fun r10 hr10 => ?_)))
          refine a_ (e_ rfl) rfl (d_ (b_ rfl ?_))
          cases r10
          ·
           replace hr10 := ne_of_beq_false hr10
           refine B_ rfl (g_ (c_ (C_ (az_ rfl rfl) rfl fun r11 hr11 => ?_)))
           refine a_ (e_ rfl) rfl (d_ (b_ rfl ?_))
           cases r11
           ·
            replace hr11 := ne_of_beq_false hr11
            refine B_ rfl (g_ (c_ (C_ (az_ rfl rfl) rfl fun r12 hr12 => ?_)))
            refine a_ (e_ rfl) rfl (d_ (b_ rfl ?_))
            cases r12
            ·
             replace hr12 := ne_of_beq_false hr12
             refine B_ rfl (g_ (c_ (C_ (az_ rfl rfl) rfl fun r13 hr13 => ?_)))
             refine a_ (e_ rfl) rfl (d_ (b_ rfl ?_))
             cases r13
             ·
              replace hr13 := ne_of_beq_false hr13
              refine B_ rfl (g_ (c_ (C_ (az_ rfl rfl) rfl fun r14 hr14 => ?_)))
              refine a_ (e_ rfl) rfl (d_ (b_ rfl ?_))
              cases r14
              ·
               replace hr14 := ne_of_beq_false hr14
               refine B_ rfl (g_ (c_ (C_ (az_ rfl rfl) rfl fun r15 hr15 => ?_)))
               refine a_ (e_ rfl) rfl (d_ (b_ rfl ?_))
               cases r15
               ·
                replace hr15 := ne_of_beq_false hr15
                refine B_ rfl (g_ (c_ (C_ (az_ rfl rfl) rfl fun r16 hr16 => ?_)))
                refine a_ (e_ rfl) rfl (d_ (b_ rfl ?_))
                cases r16
                ·
                 replace hr16 := ne_of_beq_false hr16
                 refine B_ rfl (g_ (c_ (C_ (az_ rfl rfl) rfl fun r17 hr17 => ?_)))
                 refine a_ (e_ rfl) rfl (d_ (b_ rfl ?_))
                 cases r17
                 ·
                  replace hr17 := ne_of_beq_false hr17
                  refine B_ rfl (g_ (c_ (C_ (az_ rfl rfl) rfl fun r18 hr18 => ?_)))
                  refine a_ (e_ rfl) rfl (d_ (b_ rfl ?_))
                  cases r18
                  ·
                   replace hr18 := ne_of_beq_false hr18
                   refine B_ rfl (g_ (c_ (C_ (az_ rfl rfl) rfl fun r19 hr19 => ?_)))
                   refine a_ (e_ rfl) rfl (d_ (b_ rfl ?_))
                   cases r19
                   ·
                    replace hr19 := ne_of_beq_false hr19
                    refine B_ rfl (g_ (c_ (C_ (az_ rfl rfl) rfl fun r20 hr20 => ?_)))
                    refine a_ (e_ rfl) rfl (d_ (b_ rfl ?_))
                    cases r20
                    ·
                     replace hr20 := ne_of_beq_false hr20
                     refine B_ rfl (g_ (c_ (C_ (az_ rfl rfl) rfl fun r21 hr21 => ?_)))
                     refine a_ (e_ rfl) rfl (d_ (b_ rfl ?_))
                     cases r21
                     ·
                      replace hr21 := ne_of_beq_false hr21
                      refine B_ rfl (c_ (C_ (az_ rfl rfl) rfl fun r22 hr22 => ?_))
                      refine a_ (e_ rfl) rfl (d_ (b_ rfl ?_))
                      cases r22
                      ·
                       replace hr22 := ne_of_beq_false hr22
                       refine B_ rfl (J_ (b_ rfl (g_ (c_ (a_ (e_ rfl) rfl (d_ (b_ rfl (y_ ?_))))))))
                       exact U_ bg_ () (q_ rfl (by simp [aX_, kws, *])) (.refl _) (fun _ _ _ => trivial)
                      ·
                       replace hr22 := eq_of_beq hr22
                       refine v_ rfl (g_ (c_ (a_ (e_ rfl) rfl (d_ (b_ rfl (y_ ?_))))))
                       exact U_ bg_ () (q_ rfl (by simp [aX_, kws, *])) (.refl _) (fun _ _ _ => trivial)
                     ·
                      replace hr21 := eq_of_beq hr21
                      refine v_ rfl (J_ (b_ rfl (v_ rfl (g_ (c_ (a_ (e_ rfl) rfl (d_ (b_ rfl (y_ ?_)))))))))
                      exact U_ bg_ () (q_ rfl (by simp [aX_, kws, *])) (.refl _) (fun _ _ _ => trivial)
                    ·
                     replace hr20 := eq_of_beq hr20
                     refine v_ rfl (J_ (b_ rfl (v_ rfl (g_ (c_ (a_ (e_ rfl) rfl (d_ (b_ rfl (y_ ?_)))))))))
                     exact U_ bg_ () (q_ rfl (by simp [aX_, kws, *])) (.refl _) (fun _ _ _ => trivial)
                   ·
                    replace hr19 := eq_of_beq hr19
                    refine v_ rfl (J_ (b_ rfl (v_ rfl (g_ (c_ (a_ (e_ rfl) rfl (d_ (b_ rfl (y_ ?_)))))))))
                    exact U_ bg_ () (q_ rfl (by simp [aX_, kws, *])) (.refl _) (fun _ _ _ => trivial)
                  ·
                   replace hr18 := eq_of_beq hr18
                   refine v_ rfl (J_ (b_ rfl (v_ rfl (g_ (c_ (a_ (e_ rfl) rfl (d_ (b_ rfl (y_ ?_)))))))))
                   exact U_ bg_ () (q_ rfl (by simp [aX_, kws, *])) (.refl _) (fun _ _ _ => trivial)
                 ·
                  replace hr17 := eq_of_beq hr17
                  refine v_ rfl (J_ (b_ rfl (v_ rfl (g_ (c_ (a_ (e_ rfl) rfl (d_ (b_ rfl (y_ ?_)))))))))
                  exact U_ bg_ () (q_ rfl (by simp [aX_, kws, *])) (.refl _) (fun _ _ _ => trivial)
                ·
                 replace hr16 := eq_of_beq hr16
                 refine v_ rfl (J_ (b_ rfl (v_ rfl (g_ (c_ (a_ (e_ rfl) rfl (d_ (b_ rfl (y_ ?_)))))))))
                 exact U_ bg_ () (q_ rfl (by simp [aX_, kws, *])) (.refl _) (fun _ _ _ => trivial)
               ·
                replace hr15 := eq_of_beq hr15
                refine v_ rfl (J_ (b_ rfl (v_ rfl (g_ (c_ (a_ (e_ rfl) rfl (d_ (b_ rfl (y_ ?_)))))))))
                exact U_ bg_ () (q_ rfl (by simp [aX_, kws, *])) (.refl _) (fun _ _ _ => trivial)
              ·
               replace hr14 := eq_of_beq hr14
               refine v_ rfl (J_ (b_ rfl (v_ rfl (g_ (c_ (a_ (e_ rfl) rfl (d_ (b_ rfl (y_ ?_)))))))))
               exact U_ bg_ () (q_ rfl (by simp [aX_, kws, *])) (.refl _) (fun _ _ _ => trivial)
             ·
              replace hr13 := eq_of_beq hr13
              refine v_ rfl (J_ (b_ rfl (v_ rfl (g_ (c_ (a_ (e_ rfl) rfl (d_ (b_ rfl (y_ ?_)))))))))
              exact U_ bg_ () (q_ rfl (by simp [aX_, kws, *])) (.refl _) (fun _ _ _ => trivial)
            ·
             replace hr12 := eq_of_beq hr12
             refine v_ rfl (J_ (b_ rfl (v_ rfl (g_ (c_ (a_ (e_ rfl) rfl (d_ (b_ rfl (y_ ?_)))))))))
             exact U_ bg_ () (q_ rfl (by simp [aX_, kws, *])) (.refl _) (fun _ _ _ => trivial)
           ·
            replace hr11 := eq_of_beq hr11
            refine v_ rfl (J_ (b_ rfl (v_ rfl (g_ (c_ (a_ (e_ rfl) rfl (d_ (b_ rfl (y_ ?_)))))))))
            exact U_ bg_ () (q_ rfl (by simp [aX_, kws, *])) (.refl _) (fun _ _ _ => trivial)
          ·
           replace hr10 := eq_of_beq hr10
           refine v_ rfl (J_ (b_ rfl (v_ rfl (g_ (c_ (a_ (e_ rfl) rfl (d_ (b_ rfl (y_ ?_)))))))))
           exact U_ bg_ () (q_ rfl (by simp [aX_, kws, *])) (.refl _) (fun _ _ _ => trivial)
         ·
          replace hr9 := eq_of_beq hr9
          refine v_ rfl (J_ (b_ rfl (v_ rfl (g_ (c_ (a_ (e_ rfl) rfl (d_ (b_ rfl (y_ ?_)))))))))
          exact U_ bg_ () (q_ rfl (by simp [aX_, kws, *])) (.refl _) (fun _ _ _ => trivial)
        ·
         replace hr8 := eq_of_beq hr8
         refine v_ rfl (J_ (b_ rfl (v_ rfl (g_ (c_ (a_ (e_ rfl) rfl (d_ (b_ rfl (y_ ?_)))))))))
         exact U_ bg_ () (q_ rfl (by simp [aX_, kws, *])) (.refl _) (fun _ _ _ => trivial)
       ·
        replace hr7 := eq_of_beq hr7
        refine v_ rfl (J_ (b_ rfl (v_ rfl (g_ (c_ (a_ (e_ rfl) rfl (d_ (b_ rfl (y_ ?_)))))))))
        exact U_ bg_ () (q_ rfl (by simp [aX_, kws, *])) (.refl _) (fun _ _ _ => trivial)
      ·
       replace hr6 := eq_of_beq hr6
       refine v_ rfl (J_ (b_ rfl (v_ rfl (g_ (c_ (a_ (e_ rfl) rfl (d_ (b_ rfl (y_ ?_)))))))))
       exact U_ bg_ () (q_ rfl (by simp [aX_, kws, *])) (.refl _) (fun _ _ _ => trivial)
     ·
      replace hr5 := eq_of_beq hr5
      refine v_ rfl (J_ (b_ rfl (v_ rfl (g_ (c_ (a_ (e_ rfl) rfl (d_ (b_ rfl (y_ ?_)))))))))
      exact U_ bg_ () (q_ rfl (by simp [aX_, kws, *])) (.refl _) (fun _ _ _ => trivial)
    ·
     replace hr4 := eq_of_beq hr4
     refine v_ rfl (J_ (b_ rfl (v_ rfl (g_ (c_ (a_ (e_ rfl) rfl (d_ (b_ rfl (y_ ?_)))))))))
     exact U_ bg_ () (q_ rfl (by simp [aX_, kws, *])) (.refl _) (fun _ _ _ => trivial)
   ·
    replace hr3 := eq_of_beq hr3
    refine v_ rfl (J_ (b_ rfl (v_ rfl (g_ (c_ (a_ (e_ rfl) rfl (d_ (b_ rfl (y_ ?_)))))))))
    exact U_ bg_ () (q_ rfl (by simp [aX_, kws, *])) (.refl _) (fun _ _ _ => trivial)
  ·
   replace hr2 := eq_of_beq hr2
   refine v_ rfl (J_ (b_ rfl (v_ rfl (g_ (c_ (a_ (e_ rfl) rfl (d_ (b_ rfl (y_ ?_)))))))))
   exact U_ bg_ () (q_ rfl (by simp [aX_, kws, *])) (.refl _) (fun _ _ _ => trivial)
 ·
  replace hr1 := eq_of_beq hr1
  refine v_ rfl (J_ (b_ rfl (v_ rfl (g_ (c_ (a_ (e_ rfl) rfl (d_ (b_ rfl (y_ ?_)))))))))
  exact U_ bg_ () (q_ rfl (by simp [aX_, kws, *])) (.refl _) (fun _ _ _ => trivial)
theorem jH_ (s : Str) (hs : s.length ≤ 140737488351232) :
  Fn0 Tryz.prog 244 #[str s] (.bool (eb_ s)) := by
 refine V_ Tryz.func244 rfl rfl Tryz.ntmps244 rfl fun v0 => ?_
 refine g_ (c_ (a_ (e_ rfl) rfl (d_ (b_ rfl (g_ (g_ (c_ (a_ (f_ rfl) rfl (a_ (bu_ Q_ rfl) rfl ?_)))))))))
 refine C_ (ab_ rfl rfl) rfl fun r1 hr1 => ?_
 refine a_ (f_ rfl) rfl ?_
 cases r1
 ·
  replace hr1 := ne_of_beq_false hr1
  obtain ⟨c, t, es⟩ := List.exists_cons_of_length_pos (l := s) (by omega)
  refine i_ rfl rfl (a_ (f_ rfl) rfl (i_ rfl rfl (a_ (bm_ Q_ rfl rfl (by decide) (show s[(0 : Int).toNat]? = some c by rw [es]; rfl)) rfl (i_ rfl rfl (X_ (iT_ _) rfl (.refl _) (fun _ _ _ => trivial) rfl fun r2 hr2 => ?_)))))
  refine i_ rfl rfl (a_ (bq_ rfl) rfl (a_ (p_ rfl rfl) rfl (a_ (f_ rfl) rfl ?_)))
  cases r2
  ·
   refine j_ rfl rfl rfl rfl (j_ rfl rfl rfl rfl (a_ (A_ rfl rfl) rfl (d_ (b_ rfl (v_ rfl (g_ (c_ (a_ (e_ rfl) rfl (d_ ?_)))))))))
   refine b_ rfl (y_ ?_)
   exact U_ mg_ () (q_ rfl (by simp_all [eb_])) (.refl _) (fun _ _ _ => trivial)
  ·
   refine i_ rfl rfl (a_ (f_ rfl) rfl (i_ rfl rfl (X_ (lt_ _) rfl (.refl _) (fun _ _ _ => trivial) rfl fun r3 hr3 => ?_)))
   refine a_ (p_ rfl rfl) rfl (d_ (b_ rfl ?_))
   cases r3
   ·
    have hw : s ≠ [] ∧ cB_ (s.headD 0) = true := by subst es; simp_all
    refine B_ rfl (J_ (b_ rfl (g_ (g_ (c_ (a_ (e_ rfl) rfl (d_ (b_ rfl (ae_ ?_)))))))))
    refine cq_ [(0, str s), (3, .int .i64 ((0 : Nat) : Int))] ⟨rfl, rfl, trivial⟩ ?_
    refine cx_ (ι := {k : Nat // k ≤ s.length ∧ (s.take k).all cL_ = true}) (fun i => [(0, str s), (3, .int .i64 (i.1 : Int))]) (fun _ => _) (fun _ => _) (fun i => s.length - i.1) ⟨0, by simp⟩ ?_
    rintro ⟨k, hk⟩
    refine cq_ [(0, str s), (3, .int .i64 (k : Int))] ⟨rfl, rfl, trivial⟩ ?_
    refine g_ (g_ (c_ (a_ (f_ rfl) rfl (a_ (f_ rfl) rfl (a_ (bu_ Q_ rfl) rfl (C_ (as_ rfl rfl) rfl fun r4 hr4 => ?_))))))
    refine d_ (b_ rfl ?_)
    cases r4
    ·
     replace hr4 := of_decide_eq_false hr4
     refine B_ rfl (bd_ rfl (b_ rfl (g_ (c_ (a_ (e_ rfl) rfl (d_ (b_ rfl (y_ ?_))))))))
     exact U_ mg_ () (q_ rfl (by have := fq_ cL_ s k (by omega) hk.2; simp_all [eb_, fF_])) (.refl _) (fun _ _ _ => trivial)
    ·
     replace hr4 := of_decide_eq_true hr4
     have hlt : k < s.length := by omega
     obtain ⟨c, hc⟩ : ∃ c, s[k]? = some c := ⟨_, List.getElem?_eq_getElem hlt⟩
     refine v_ rfl (J_ (b_ rfl (g_ (ae_ (g_ (c_ (a_ (f_ rfl) rfl (a_ (f_ rfl) rfl (a_ (bm_ Q_ rfl rfl (by omega) hc) rfl ?_)))))))))
     refine X_ (ks_ _) rfl (.refl _) (fun _ _ _ => trivial) rfl fun r5 hr5 => ?_
     refine a_ (bq_ rfl) rfl (d_ (b_ rfl ?_))
     cases r5
     ·
      refine v_ rfl (g_ (c_ (a_ (e_ rfl) rfl (d_ (b_ rfl (y_ ?_))))))
      exact U_ mg_ () (q_ rfl (by have := ep_ cL_ s k c hc (by simp [*]); simp_all [eb_, fF_])) (.refl _) (fun _ _ _ => trivial)
     ·
      refine B_ rfl (J_ (b_ rfl (c_ (a_ (f_ rfl) rfl (a_ (ac_ rfl rfl rfl (aE_ (by omega) (by omega))) rfl (a_ (e_ rfl) rfl (d_ (z_ rfl ?_))))))))
      exact aP_ ⟨k + 1, hlt, dw_ _ s k c hc hk.2 (by simp [*])⟩ (by simp; omega) ⟨rfl, rfl, trivial⟩ (.refl _) (fun _ _ h => h)
   ·
    refine v_ rfl (g_ (c_ (a_ (e_ rfl) rfl (d_ (b_ rfl (y_ ?_))))))
    exact U_ mg_ () (q_ rfl (by simp_all [eb_])) (.refl _) (fun _ _ _ => trivial)
 ·
  replace hr1 := eq_of_beq hr1
  have he : s = [] := List.eq_nil_of_length_eq_zero (by omega)
  refine j_ rfl rfl rfl rfl (j_ rfl rfl rfl rfl (j_ rfl rfl rfl rfl (j_ rfl rfl rfl rfl (a_ (A_ rfl rfl) rfl (a_ (f_ rfl) rfl (j_ rfl rfl rfl rfl (j_ rfl rfl rfl rfl (a_ (A_ rfl rfl) rfl (d_ ?_)))))))))
  refine b_ rfl (v_ rfl (g_ (c_ (a_ (e_ rfl) rfl (d_ (b_ rfl (y_ ?_)))))))
  exact U_ mg_ () (q_ rfl (by simp_all [eb_])) (.refl _) (fun _ _ _ => trivial)
theorem nV_ (s : Str) :
  Fn0 Tryz.prog 212 #[str s] (.bool (bZ_ s)) := by
 refine V_ Tryz.func212 rfl rfl Tryz.ntmps212 rfl fun v0 => ?_
 refine g_ (c_ (a_ (e_ rfl) rfl (d_ (b_ rfl (g_ (g_ (c_ (a_ (f_ rfl) rfl (a_ (bu_ Q_ rfl) rfl ?_)))))))))
 refine C_ (bD_ rfl rfl) rfl fun r1 hr1 => ?_
 refine d_ (b_ rfl ?_)
 cases r1
 ·
  replace hr1 := of_decide_eq_false hr1
  refine B_ rfl (J_ (b_ rfl (g_ (g_ (c_ (a_ (e_ rfl) rfl (d_ (b_ rfl (ae_ ?_)))))))))
  refine cq_ [(0, str s), (3, .int .i64 ((0 : Nat) : Int))] ⟨rfl, rfl, trivial⟩ ?_
  refine cx_ (ι := {k : Nat // k ≤ s.length ∧ ixS 58 (s.take k) = none}) (fun i => [(0, str s), (3, .int .i64 (i.1 : Int))]) (fun _ => _) (fun _ => _) (fun i => s.length - i.1) ⟨0, by simp [ixS]⟩ ?_
  rintro ⟨k, hk⟩
  refine cq_ [(0, str s), (3, .int .i64 (k : Int))] ⟨rfl, rfl, trivial⟩ ?_
  refine g_ (g_ (c_ (a_ (f_ rfl) rfl (a_ (f_ rfl) rfl (a_ (bu_ Q_ rfl) rfl (C_ (as_ rfl rfl) rfl fun r2 hr2 => ?_))))))
  refine d_ (b_ rfl ?_)
  cases r2
  ·
   replace hr2 := of_decide_eq_false hr2
   refine B_ rfl (bd_ rfl (b_ rfl (g_ (c_ (a_ (f_ rfl) rfl (X_ (jH_ _ (by first | omega | (simp; omega))) rfl (.refl _) (fun _ _ _ => trivial) rfl fun r3 hr3 => ?_))))))
   refine a_ (e_ rfl) rfl (d_ (b_ rfl (y_ ?_)))
   exact U_ Tryz.results212 () (q_ rfl (by rw [bZ_, or_ s k (by omega) hk.2]; simp_all <;> omega)) (.refl _) (fun _ _ _ => trivial)
  ·
   replace hr2 := of_decide_eq_true hr2
   have hlt : k < s.length := by omega
   obtain ⟨c, hc⟩ : ∃ c, s[k]? = some c := ⟨_, List.getElem?_eq_getElem hlt⟩
   refine v_ rfl (J_ (b_ rfl (g_ (ae_ (g_ (c_ (a_ (f_ rfl) rfl (a_ (f_ rfl) rfl (a_ (bm_ Q_ rfl rfl (by omega) hc) rfl ?_)))))))))
   refine C_ (ab_ rfl rfl) rfl fun r4 hr4 => ?_
   refine d_ (b_ rfl ?_)
   cases r4
   ·
    replace hr4 := ne_of_beq_false hr4
    refine B_ rfl (J_ (b_ rfl (c_ (a_ (f_ rfl) rfl (a_ (ac_ rfl rfl rfl (aE_ (by omega) (by omega))) rfl (a_ (e_ rfl) rfl (d_ (z_ rfl ?_))))))))
    exact aP_ ⟨k + 1, hlt, kQ_ s k c hc hk.2 (by intro e; subst e; simp_all)⟩ (by simp; omega) ⟨rfl, rfl, trivial⟩ (.refl _) (fun _ _ h => h)
   ·
    replace hr4 := eq_of_beq hr4
    obtain rfl : c = 58 := UInt8.toNat_inj.1 (by show c.toNat = 58; omega)
    refine v_ rfl (g_ (c_ (a_ (f_ rfl) rfl (a_ (f_ rfl) rfl (a_ (cC_ (i := 0) (j := k) (kl := .i64) Q_ rfl rfl rfl (by omega) (by omega)) rfl (X_ (jH_ _ (by first | omega | (simp; omega))) rfl (.refl _) (fun _ _ _ => trivial) rfl fun r5 hr5 => ?_))))))
    refine a_ (f_ rfl) rfl ?_
    cases r5
    ·
     refine j_ rfl rfl rfl rfl (j_ rfl rfl rfl rfl (j_ rfl rfl rfl rfl (j_ rfl rfl rfl rfl (j_ rfl rfl rfl rfl (a_ (p_ rfl rfl) rfl (a_ (e_ rfl) rfl (d_ (b_ rfl (y_ ?_)))))))))
     exact U_ Tryz.results212 () (q_ rfl (by rw [bZ_, lG_ s k hc hk.2]; simp_all [List.take_of_length_le] <;> omega)) (.refl _) (fun _ _ _ => trivial)
    ·
     refine i_ rfl rfl (a_ (f_ rfl) rfl (i_ rfl rfl (a_ (f_ rfl) rfl (i_ rfl rfl (a_ (ac_ rfl rfl rfl (aE_ (by omega) (by omega))) rfl (i_ rfl rfl (a_ (cC_ (i := k + 1) (j := s.length) (kh := .i64) Q_ rfl rfl rfl (by omega) (by omega)) rfl (i_ rfl rfl (X_ (jH_ _ (by first | omega | (simp; omega))) rfl (.refl _) (fun _ _ _ => trivial) rfl fun r6 hr6 => ?_)))))))))
     refine a_ (A_ rfl rfl) rfl (a_ (e_ rfl) rfl (d_ (b_ rfl (y_ ?_))))
     exact U_ Tryz.results212 () (q_ rfl (by rw [bZ_, lG_ s k hc hk.2]; simp_all [List.take_of_length_le] <;> omega)) (.refl _) (fun _ _ _ => trivial)
 ·
  replace hr1 := of_decide_eq_true hr1
  refine v_ rfl (g_ (c_ (a_ (e_ rfl) rfl (d_ (b_ rfl (y_ ?_))))))
  exact U_ Tryz.results212 () (q_ rfl (by simp [bZ_] <;> omega)) (.refl _) (fun _ _ _ => trivial)
theorem kt_ (s : Str) :
  Fn0 Tryz.prog 213 #[str s] (.bool (bK_ s)) := by
 refine V_ Tryz.func213 rfl rfl Tryz.ntmps213 rfl fun v0 => ?_
 refine g_ (c_ (a_ (e_ rfl) rfl (d_ (b_ rfl (g_ (g_ (c_ (a_ (f_ rfl) rfl (a_ (bu_ Q_ rfl) rfl ?_)))))))))
 refine C_ (as_ rfl rfl) rfl fun r1 hr1 => ?_
 refine a_ (f_ rfl) rfl ?_
 cases r1
 ·
  replace hr1 := of_decide_eq_false hr1
  refine i_ rfl rfl (a_ (f_ rfl) rfl (i_ rfl rfl (a_ (bu_ Q_ rfl) rfl (i_ rfl rfl (C_ (bD_ rfl rfl) rfl fun r2 hr2 => ?_)))))
  refine a_ (p_ rfl rfl) rfl (a_ (f_ rfl) rfl ?_)
  cases r2
  ·
   replace hr2 := of_decide_eq_false hr2
   obtain ⟨c, t, es⟩ := List.exists_cons_of_length_pos (l := s) (by omega)
   refine i_ rfl rfl (a_ (f_ rfl) rfl (i_ rfl rfl (a_ (bm_ Q_ rfl rfl (by decide) (show s[(0 : Int).toNat]? = some c by rw [es]; rfl)) rfl (i_ rfl rfl (C_ (bA_ rfl rfl) rfl fun r3 hr3 => ?_)))))
   refine a_ (p_ rfl rfl) rfl (d_ (b_ rfl ?_))
   cases r3
   ·
    replace hr3 := bt_ hr3
    have hq : c.toNat = 95 := by omega
    refine B_ rfl (J_ (b_ rfl (g_ (g_ (c_ (a_ (e_ rfl) rfl (d_ (b_ rfl (ae_ ?_)))))))))
    refine cq_ [(0, str s), (3, .int .i64 ((1 : Nat) : Int))] ⟨rfl, rfl, trivial⟩ ?_
    refine cx_ (ι := {k : Nat // k ≤ s.length ∧ (s.take k).all cL_ = true}) (fun i => [(0, str s), (3, .int .i64 (i.1 : Int))]) (fun _ => _) (fun _ => _) (fun i => s.length - i.1) ⟨1, by omega, by subst es; simp [cL_, hq]⟩ ?_
    rintro ⟨k, hk⟩
    refine cq_ [(0, str s), (3, .int .i64 (k : Int))] ⟨rfl, rfl, trivial⟩ ?_
    refine g_ (g_ (c_ (a_ (f_ rfl) rfl (a_ (f_ rfl) rfl (a_ (bu_ Q_ rfl) rfl (C_ (as_ rfl rfl) rfl fun r4 hr4 => ?_))))))
    refine d_ (b_ rfl ?_)
    cases r4
    ·
     replace hr4 := of_decide_eq_false hr4
     refine B_ rfl (bd_ rfl (b_ rfl (g_ (c_ (a_ (e_ rfl) rfl (d_ (b_ rfl (y_ ?_))))))))
     exact U_ mh_ () (q_ rfl (by have := fq_ cL_ s k (by omega) hk.2; subst es; simp [bK_, fF_, this, hq] <;> simp at * <;> omega)) (.refl _) (fun _ _ _ => trivial)
    ·
     replace hr4 := of_decide_eq_true hr4
     have hlt : k < s.length := by omega
     obtain ⟨c, hc⟩ : ∃ c, s[k]? = some c := ⟨_, List.getElem?_eq_getElem hlt⟩
     refine v_ rfl (J_ (b_ rfl (g_ (ae_ (g_ (c_ (a_ (f_ rfl) rfl (a_ (f_ rfl) rfl (a_ (bm_ Q_ rfl rfl (by omega) hc) rfl ?_)))))))))
     refine X_ (ks_ _) rfl (.refl _) (fun _ _ _ => trivial) rfl fun r5 hr5 => ?_
     refine a_ (bq_ rfl) rfl (d_ (b_ rfl ?_))
     cases r5
     ·
      refine v_ rfl (g_ (c_ (a_ (e_ rfl) rfl (d_ (b_ rfl (y_ ?_))))))
      exact U_ mh_ () (q_ rfl (by have := ep_ cL_ s k c hc (by simp [*]); simp [bK_, fF_, this])) (.refl _) (fun _ _ _ => trivial)
     ·
      refine B_ rfl (J_ (b_ rfl (c_ (a_ (f_ rfl) rfl (a_ (ac_ rfl rfl rfl (aE_ (by omega) (by omega))) rfl (a_ (e_ rfl) rfl (d_ (z_ rfl ?_))))))))
      exact aP_ ⟨k + 1, hlt, dw_ _ s k c hc hk.2 (by simp [*])⟩ (by simp; omega) ⟨rfl, rfl, trivial⟩ (.refl _) (fun _ _ h => h)
   ·
    replace hr3 := bs_ hr3
    refine v_ rfl (g_ (c_ (a_ (e_ rfl) rfl (d_ (b_ rfl (y_ ?_))))))
    exact U_ mh_ () (q_ rfl (by first | (simp [bK_] <;> omega) | (subst es; simp [bK_] <;> omega))) (.refl _) (fun _ _ _ => trivial)
  ·
   replace hr2 := of_decide_eq_true hr2
   refine j_ rfl rfl rfl rfl (j_ rfl rfl rfl rfl (j_ rfl rfl rfl rfl (a_ (A_ rfl rfl) rfl (d_ (b_ rfl (v_ rfl (g_ (c_ (a_ (e_ rfl) rfl ?_)))))))))
   refine d_ (b_ rfl (y_ ?_))
   exact U_ mh_ () (q_ rfl (by first | (simp [bK_] <;> omega) | (subst es; simp [bK_] <;> omega))) (.refl _) (fun _ _ _ => trivial)
 ·
  replace hr1 := of_decide_eq_true hr1
  refine j_ rfl rfl rfl rfl (j_ rfl rfl rfl rfl (j_ rfl rfl rfl rfl (a_ (A_ rfl rfl) rfl (a_ (f_ rfl) rfl (j_ rfl rfl rfl rfl (j_ rfl rfl rfl rfl (j_ rfl rfl rfl rfl (a_ (A_ rfl rfl) rfl (d_ ?_)))))))))
  refine b_ rfl (v_ rfl (g_ (c_ (a_ (e_ rfl) rfl (d_ (b_ rfl (y_ ?_)))))))
  exact U_ mh_ () (q_ rfl (by first | (simp [bK_] <;> omega) | (subst es; simp [bK_] <;> omega))) (.refl _) (fun _ _ _ => trivial)
theorem mP_ (s : Str) :
    Fn0 Tryz.prog 184 #[str s] (.bool (aN_ s)) := by
  refine V_ Tryz.func184 rfl rfl Tryz.ntmps184 rfl fun v0 => ?_
  refine g_ (c_ (a_ (e_ rfl) rfl (d_ (b_ rfl (g_ (c_ (a_ (f_ rfl) rfl (X_ (nV_ _) rfl (.refl _) (fun _ _ _ => trivial) rfl fun r1 hr1 => ?_))))))))
  refine a_ (f_ rfl) rfl ?_
  cases r1
  · skip
    refine i_ rfl rfl (a_ (f_ rfl) rfl (i_ rfl rfl (X_ (kt_ _) rfl (.refl _) (fun _ _ _ => trivial) rfl fun r2 hr2 => ?_)))
    refine a_ (p_ rfl rfl) rfl (a_ (e_ rfl) rfl (d_ (b_ rfl (y_ ?_))))
    exact U_ Tryz.results184 () (q_ rfl (by simp [aN_, *])) (.refl _) (fun _ _ _ => trivial)
  · skip
    refine j_ rfl rfl rfl rfl (j_ rfl rfl rfl rfl (a_ (A_ rfl rfl) rfl (a_ (e_ rfl) rfl (d_ (b_ rfl (y_ ?_))))))
    exact U_ Tryz.results184 () (q_ rfl (by simp [aN_, *])) (.refl _) (fun _ _ _ => trivial)
theorem dd_ (s : Str) :
    Fn0 Tryz.prog 152 #[str s] (.int .i64 (if aN_ s then 0 else 20)) := by
  refine V_ Tryz.func152 rfl rfl Tryz.ntmps152 rfl fun v0 => ?_
  refine g_ (c_ (a_ (e_ rfl) rfl (d_ (b_ rfl (g_ (g_ (c_ (a_ (f_ rfl) rfl (X_ (mP_ _) rfl (.refl _) (fun _ _ _ => trivial) rfl fun r1 hr1 => ?_)))))))))
  refine a_ (bq_ rfl) rfl (d_ (b_ rfl ?_))
  cases r1
  · skip
    refine v_ rfl (g_ (c_ (a_ (e_ rfl) rfl (d_ (b_ rfl (y_ ?_))))))
    exact U_ Tryz.results152 () (ar_ rfl (by simp [*])) (.refl _) (fun _ _ _ => trivial)
  · skip
    refine B_ rfl (J_ (b_ rfl (g_ (c_ (a_ (e_ rfl) rfl (d_ (b_ rfl (y_ ?_))))))))
    exact U_ Tryz.results152 () (ar_ rfl (by simp [*])) (.refl _) (fun _ _ _ => trivial)
end Go.Proofs.YtaffcjgphlhppaaGreatDoor
namespace Go.Vs
open Go Go.Sx
theorem lZ_ {s : Str} (h : eb_ s = true) : ∃ c t, s = c :: t ∧ cB_ c = true ∧ fF_ s = true := by
  cases s with
  | nil => simp [eb_] at h
  | cons c t =>
    simp only [eb_, Bool.and_eq_true] at h
    exact ⟨c, t, rfl, h.1.1.2, h.1.2⟩
theorem lz_ {s : Str} (h : bZ_ s = true) : ∃ c t, s = c :: t ∧ cB_ c = true := by
  unfold bZ_ at h
  simp only [Bool.and_eq_true] at h
  cases hx : ixS 58 s with
  | none => rw [hx] at h; obtain ⟨c, t, h1, h2, _⟩ := lZ_ h.2; exact ⟨c, t, h1, h2⟩
  | some k =>
    rw [hx] at h
    simp only [Bool.and_eq_true] at h
    obtain ⟨c, t, h1, h2, _⟩ := lZ_ h.2.1
    cases s with
    | nil => simp at h1
    | cons d u =>
      cases k with
      | zero => simp at h1
      | succ k => simp only [List.take_succ_cons, List.cons.injEq] at h1; exact ⟨d, u, rfl, h1.1 ▸ h2⟩
namespace Con
end Con
end Go.Vs
namespace Go.Sx
open Go
section
variable {P : Program} {N : Nf} {fr : Fr} {H : Hp} {Γ : List Fct}
theorem hL_ {f : FuncId} {args : Array Value} {r : Value} {g : Nat} {cur : Array Value} {T : TypeId} {d : Array (List UInt8)} (hc : fm_ P f)
    (h : ∀ v : Vw, v.sat [(g, .cells cur T (0, 0))] → Calls P f args v.w fun e w' => e = .returned r ∧ ∃ n os, w' = Sort.grow (Sort.putRow Go.Proofs.encStr (Sort.ahead v.w n) g 0 d) os) :
    Tri P f args [(g, .cells cur T (0, 0))] Γ (fun _ : Unit => r) (fun _ => [(g, .cells (Sort.putCells Go.Proofs.encStr 0 d cur) T (0, 0))]) (fun _ => []) :=
  ⟨hc, fun v h1 _ => (h v h1).mono fun e w' ⟨he, n, os, hw⟩ => by
    have hg := (h1.own _ List.mem_cons_self)
    have hlt : g < v.w.heap.size := (Array.getElem?_eq_some_iff.1 hg.1).1
    have hb : ∀ b, b < v.w.heap.size → w'.heap[b]? = if b = g then some (.cells (Sort.putCells Go.Proofs.encStr 0 d cur) T (0, 0)) else v.w.heap[b]? := fun b hb => by
      rw [hw]
      simp only [Sort.grow, Sort.putRow, Sort.mapBlock, Sort.ahead]
      rw [Array.getElem?_append_left (by simpa using hb), Array.getElem?_modify]
      by_cases e : b = g
      · subst e
        simp only [if_true, hg.1, Option.map_some, Sort.onCells]
      · rw [if_neg (fun q => e q.symm), if_neg e]
    have hsz : v.w.heap.size ≤ w'.heap.size := by rw [hw]; simp [Sort.grow, Sort.putRow, Sort.mapBlock, Sort.ahead]
    refine ⟨(), ⟨v.im, w', v.sl⟩, he, rfl, ⟨fun p hp => ?_, by simp, fun b hbb => Nat.lt_of_lt_of_le (h1.lt b hbb) hsz⟩, trivial, ⟨by rw [hw]; rfl, by rw [hw]; rfl, by rw [hw]; rfl, hsz, fun b hbb hn => ?_, fun _ h => h, fun _ h => .inl h, fun b hm => .inl (by simpa using hm), rfl, .inr (by rw [hw]; exact Nat.le_add_right _ _)⟩⟩
    · simp only [List.mem_singleton] at hp
      subst hp
      exact ⟨by show w'.heap[g]? = _; rw [hb g hlt, if_pos rfl], hg.2⟩
    · have hn' : b ≠ g := by simpa using hn
      show w'.heap[b]? = _
      rw [hb b hbb, if_neg hn']⟩
theorem ku_ {cur : Array Value} {d : List (List UInt8)} (hs : d.length ≤ cur.size) : (Sort.putCells Go.Proofs.encStr 0 d.toArray cur).toList.take d.length = d.flatMap dx_ := by
  rw [hP_]
  apply List.ext_getElem?
  intro j
  rw [List.getElem?_take, List.getElem?_map]
  split
  · rename_i hj
    simp only [Sort.putCells, Array.getElem?_toList, Array.getElem?_mapIdx]
    rw [Array.getElem?_eq_getElem (by omega)]
    simp only [Option.map_some, Nat.zero_le, true_and, Nat.zero_add, List.size_toArray, hj, if_true, Nat.sub_zero]
    rw [List.getElem?_eq_getElem hj]
    simp only [Option.map_some]
    rw [getElem!_pos d.toArray j (by simpa using hj)]
    rfl
  · rename_i hj
    rw [List.getElem?_eq_none (by omega)]; rfl
theorem kv_ {cur : Array Value} {d : Array (List UInt8)} : (Sort.putCells Go.Proofs.encStr 0 d cur).size = cur.size := by simp [Sort.putCells]
end
end Go.Sx
namespace Go.Vs
open Go Go.Sx
def hn_ (p : Pc) : List Str := [p.a, p.b, p.c].filter fun s => !(s == [])
def cI_ (l : List Pc) : List Str := l.flatMap hn_
def cU_ (l : List Pc) : List Str := Lib.compact ((cI_ l).mergeSort fun x y => decide (x ≤ y))
theorem gr_ : ∀ l : List Pc, (cI_ l).length ≤ 3 * l.length
  | [] => by simp [cI_]
  | p :: r => by
    have h1 := gr_ r
    have h2 : (hn_ p).length ≤ 3 := by unfold hn_; exact List.length_filter_le _ _
    simp only [cI_, List.flatMap_cons, List.length_append, List.length_cons] at h1 ⊢
    omega
theorem hz_ {zs : List Str} : Lib.compact zs = ((List.range zs.length).filter fun j => decide (j = 0 ∨ zs[j]! ≠ zs[j - 1]!)).map fun j => zs[j]! := by
  unfold Lib.compact Lib.compactUpTo Lib.keeps
  have e : ∀ j, zs.toArray[j]! = zs[j]! := fun j => by
    by_cases h : j < zs.length
    · rw [getElem!_pos zs.toArray j (by simpa using h), getElem!_pos zs j h]; simp
    · rw [getElem!_neg zs.toArray j (by simpa using h), getElem!_neg zs j h]
  rw [List.map_congr_left fun j _ => e j]
  congr 2
  funext j
  rw [e, e]
theorem hy_ (zs : List Str) : (Lib.compact zs).length ≤ zs.length := by
  rw [hz_, List.length_map]
  have := List.length_filter_le (fun j => decide (j = 0 ∨ zs[j]! ≠ zs[j - 1]!)) (List.range zs.length)
  simpa using this
theorem lj_ {zs : List Str} (x : Str) : x ∈ Lib.compact zs ↔ x ∈ zs := by
  rw [hz_, List.mem_map]
  constructor
  · rintro ⟨j, hj, rfl⟩
    have hl := List.mem_range.1 (List.mem_filter.1 hj).1
    rw [getElem!_pos zs j hl]
    exact List.getElem_mem hl
  · intro hx
    obtain ⟨j, hj, e⟩ := List.mem_iff_getElem.1 hx
    clear hx
    induction j with
    | zero => exact ⟨0, List.mem_filter.2 ⟨List.mem_range.2 hj, by simp⟩, by rw [getElem!_pos zs 0 hj]; exact e⟩
    | succ j ih =>
      by_cases h : zs[j + 1]! = zs[j]!
      · have hj' : j < zs.length := by omega
        refine ih hj' ?_
        rw [getElem!_pos zs (j + 1) hj, getElem!_pos zs j hj'] at h
        rw [← h]; exact e
      · exact ⟨j + 1, List.mem_filter.2 ⟨List.mem_range.2 hj, decide_eq_true (.inr h)⟩, by rw [getElem!_pos zs (j + 1) hj]; exact e⟩
theorem iC_ (l : List Pc) (x : Str) : x ∈ cU_ l ↔ x ∈ cI_ l := by
  unfold cU_
  rw [lj_, List.mem_mergeSort]
theorem lT_ (l : List Pc) : (cU_ l).length ≤ 3 * l.length := by
  have h1 := hy_ ((cI_ l).mergeSort fun x y => decide (x ≤ y))
  rw [List.length_mergeSort] at h1
  have h2 := gr_ l
  unfold cU_
  omega
end Go.Vs
namespace Go.Proofs.YtaffcjgphlhppaaGreatDoor
open Go Go.Sx Go.Proofs
attribute [local irreducible] Code.wp wpList wpAnyH
open Go.Vs
theorem eltS : Elt Tryz.prog 46 9 1 16 := lf_ Tryz.underlying46 (z := .string ⟨#[]⟩) (by kernel_rfl) rfl (by decide)
theorem jm_ {g n cap : Nat} {cur : Array Value} {xs : List Str} {v : Vw} (hs : v.sat [(g, .cells cur 9 (0, 0))]) (ht : cur.toList.take (xs.length * 1) = xs.flatMap dx_) : Sort.Holds encStr v.w g 0 xs.toArray := by
  intro j hj
  have hb := (hs.own _ List.mem_cons_self).1
  simp only [List.size_toArray] at hj
  have hc : cur[j]? = some (str xs[j]) := mG_ ht j xs[j] (List.getElem?_eq_getElem hj)
  refine ⟨?_, ?_⟩
  · simp only [World.cell?, Nat.zero_add, hb, Option.isSome_none, Bool.false_eq_true, if_false]
    rw [hc, getElem!_pos xs.toArray j (by simpa using hj)]
    rfl
  · simp [World.frozen?, hb]
theorem pa_ {sv : Value} {xs : List Str} {Hr : Hp} (h : bE_ 9 1 sv xs.length (xs.flatMap dx_) Hr) (hl : xs.length ≤ 1000000000000) :
    Tri Tryz.prog 97 #[sv] Hr [] (fun _ : {y : Hp // bE_ 9 1 sv xs.length ((xs.mergeSort fun x y => decide (x ≤ y)).flatMap dx_) y} => .tuple #[]) (fun y => y.1) (fun _ => []) := by
  rcases h.2 with ⟨rfl, h2, rfl⟩ | ⟨g, cap, cur, rfl, rfl, h3, h4, h5, h6⟩
  · obtain rfl : xs = [] := List.eq_nil_of_length_eq_zero h2
    have T := gv_ (P := Tryz.prog) (H := []) (Γ := []) (callable Tryz.func97 rfl rfl) (fun v _ _ => (Tryz.slices_Sort_string_none none 0 v.w).mono (by rintro e w' ⟨rfl, rfl⟩; exact ⟨rfl, ⟨rfl, rfl, rfl, Nat.le_refl _, fun _ _ => rfl⟩, .inr (Nat.le_refl _)⟩))
    exact ⟨T.callable, fun v a b => (T.run v a b).mono (by rintro e w' ⟨x, v', e1, e2, e3, e4, e5⟩; exact ⟨⟨[], by simpa using bE_.nil _ _⟩, v', e1, e2, e3, e4, e5⟩)⟩
  · have T := hL_ (P := Tryz.prog) (Γ := []) (d := (xs.mergeSort fun x y => decide (x ≤ y)).toArray) (callable Tryz.func97 rfl rfl) (fun v hs => Tryz.slices_Sort_string g 0 cap xs v.w (jm_ (n := 0) (cap := 0) hs h6) (Array.getElem?_eq_some_iff.1 (hs.own _ List.mem_cons_self).1).1 (by omega))
    have hsz : (xs.mergeSort fun x y => decide (x ≤ y)).length = xs.length := List.length_mergeSort _
    refine ⟨T.callable, fun v a b => (T.run v a b).mono ?_⟩
    rintro e w' ⟨x, v', e1, e2, e3, e4, e5⟩
    refine ⟨⟨_, by rw [eU_ dx_ 1 cs_, hsz], .inr ⟨g, cap, _, rfl, rfl, h3, h4, by rw [kv_]; exact h5, ?_⟩⟩, v', e1, e2, e3, e4, e5⟩
    have := ku_ (cur := cur) (d := xs.mergeSort fun x y => decide (x ≤ y)) (by rw [hsz, h5]; omega)
    rw [hsz] at this
    rw [Nat.mul_one]; exact this
theorem lP_ {sv : Value} {xs : List Str} {Hr : Hp} (h : bE_ 9 1 sv xs.length (xs.flatMap dx_) Hr) (hl : xs.length ≤ 1000000000000) :
    Tri Tryz.prog 98 #[sv] Hr [] (fun y : {y : Value × Hp // bE_ 9 1 y.1 (Lib.compact xs).length ((Lib.compact xs).flatMap dx_) y.2} => y.1.1) (fun y => y.1.2) (fun _ => []) := by
  rcases h.2 with ⟨rfl, h2, rfl⟩ | ⟨g, cap, cur, rfl, rfl, h3, h4, h5, h6⟩
  · obtain rfl : xs = [] := List.eq_nil_of_length_eq_zero h2
    have T := gv_ (P := Tryz.prog) (H := []) (Γ := []) (callable Tryz.func98 rfl rfl) (fun v _ _ => (Tryz.slices_Compact_string_empty none 0 v.w).mono (by rintro e w' ⟨rfl, rfl⟩; exact ⟨rfl, ⟨rfl, rfl, rfl, Nat.le_refl _, fun _ _ => rfl⟩, .inr (Nat.le_refl _)⟩))
    exact ⟨T.callable, fun v a b => (T.run v a b).mono (by rintro e w' ⟨x, v', e1, e2, e3, e4, e5⟩; exact ⟨⟨(.slice none 0 0, []), by simpa [Lib.compact, Lib.compactUpTo] using bE_.nil _ _⟩, v', e1, e2, e3, e4, e5⟩)⟩
  · have hcl := hy_ xs
    have T := hL_ (P := Tryz.prog) (Γ := []) (r := .slice (some ⟨g, 0, none⟩) (Lib.compact xs).length cap) (d := (Lib.compact xs ++ List.replicate (xs.length - (Lib.compact xs).length) []).toArray) (callable Tryz.func98 rfl rfl) (fun v hs => (Tryz.slices_Compact_string g 0 cap xs v.w (jm_ (n := 0) (cap := 0) hs h6) (by omega) h3).mono (by
      rintro e w' ⟨rfl, q, rfl⟩
      exact ⟨rfl, q, #[], by rw [Sort.grow_empty]⟩))
    refine ⟨T.callable, fun v a b => (T.run v a b).mono ?_⟩
    rintro e w' ⟨x, v', e1, e2, e3, e4, e5⟩
    refine ⟨⟨(.slice (some ⟨g, 0, none⟩) (Lib.compact xs).length cap, _), by rw [eU_ dx_ 1 cs_], .inr ⟨g, cap, _, rfl, rfl, by omega, h4, by rw [kv_]; exact h5, ?_⟩⟩, v', e1, e2, e3, e4, e5⟩
    have hd : (Lib.compact xs ++ List.replicate (xs.length - (Lib.compact xs).length) ([] : Str)).length = xs.length := by simp; omega
    have := ku_ (cur := cur) (d := Lib.compact xs ++ List.replicate (xs.length - (Lib.compact xs).length) []) (by rw [hd, h5]; omega)
    rw [hd] at this
    have h7 := congrArg (List.take (Lib.compact xs).length) this
    rw [List.take_take, Nat.min_eq_left hcl, List.flatMap_append, List.take_append_of_le_length (by rw [eU_ dx_ 1 cs_]; omega), List.take_of_length_le (l := (Lib.compact xs).flatMap dx_) (by rw [eU_ dx_ 1 cs_]; omega)] at h7
    rw [Nat.mul_one]; exact h7
theorem pS_ (l : List Pc) (ad : Option Addr) (cap : Nat) (hl : l.length ≤ 100000000000) : Tri Tryz.prog 73 #[.slice ad (List.length l) cap] [] [aW_ ad (List.flatMap Pc.cells l)] (fun y : {y : Option Addr × Nat // (cU_ l).length ≤ y.2 ∧ y.2 ≤ maxLen} => .slice y.1.1 (cU_ l).length y.1.2) (fun _ => []) (fun y => [aW_ y.1.1 ((cU_ l).flatMap dx_)]) := by
 refine V_ Tryz.func73 rfl rfl Tryz.ntmps73 rfl fun v0 => ?_
 refine g_ (c_ (a_ (e_ rfl) rfl (d_ (b_ rfl (g_ (g_ (c_ (a_ (f_ rfl) rfl (a_ (aC_ aG_ rfl) rfl ?_)))))))))
 refine a_ (f_ rfl) rfl (d_ (b_ rfl (ae_ (cq_ [(2, .slice none 0 0), (7, .slice ad (List.length l) cap), (8, .int .i64 (List.length l : Int)), (9, .int .i64 ((0 : Nat) : Int))] ⟨rfl, rfl, rfl, rfl, trivial⟩ ?_))))
 refine cx_ (ι := {y : Nat × Value × Hp // y.1 ≤ l.length ∧ bE_ 9 1 y.2.1 (cI_ (l.take y.1)).length ((cI_ (l.take y.1)).flatMap dx_) y.2.2}) (fun y => [(2, y.1.2.1), (7, .slice ad (List.length l) cap), (8, .int .i64 (List.length l : Int)), (9, .int .i64 (y.1.1 : Int))]) (fun y => y.1.2.2) (fun _ => _) (fun y => l.length - y.1.1) ⟨(0, .slice none 0 0, []), by simp, bE_.nil _ _⟩ ?_
 rintro ⟨⟨i, sv, Hr⟩, hi, hrow⟩
 dsimp only at hi hrow
 dsimp only
 have hol := gr_ (l.take i)
 rw [List.length_take] at hol
 refine cq_ [(2, sv), (7, .slice ad (List.length l) cap), (8, .int .i64 (List.length l : Int)), (9, .int .i64 (i : Int))] ⟨rfl, rfl, rfl, rfl, trivial⟩ ?_
 refine g_ (c_ (C_ (as_ rfl rfl) rfl fun r1 hr1 => ?_))
 refine d_ (b_ rfl (g_ ?_))
 cases r1
 ·
  replace hr1 := of_decide_eq_false hr1
  refine B_ rfl (bd_ rfl (b_ rfl (g_ ?_)))
  have et : l.take i = l := List.take_of_length_le (by omega)
  rw [et] at hrow hol
  refine c_ (a_ (f_ rfl) rfl (S_ (pa_ hrow (by omega)) rfl de_ (fun _ _ _ => by exact trivial) rfl fun ⟨Hs, hs⟩ => ?_))
  dsimp only
  refine bj_ (List.Perm.symm de_) ?_
  have hs2 : bE_ 9 1 sv ((cI_ l).mergeSort fun x y => decide (x ≤ y)).length (((cI_ l).mergeSort fun x y => decide (x ≤ y)).flatMap dx_) Hs := by rw [List.length_mergeSort]; exact hs
  refine d_ (b_ rfl (g_ (c_ (a_ (f_ rfl) rfl (S_ (lP_ hs2 (by rw [List.length_mergeSort]; omega)) rfl de_ (fun _ _ _ => by exact trivial) rfl fun ⟨⟨sc, Hc⟩, hc⟩ => ?_)))))
  dsimp only
  refine bj_ (List.Perm.symm de_) (a_ (e_ rfl) rfl (d_ (b_ rfl (y_ (ig_ hc de_ fun ad2 cp2 hsv hc1 hc2 => ?_)))))
  exact U_ Tryz.results73 ⟨(ad2, cp2), hc1, hc2⟩ (gO_ rfl hsv) D_ (fun v _ h => ⟨h.1, trivial⟩)
 ·
  replace hr1 := of_decide_eq_true hr1
  have hlx1 : i < List.length l := by omega
  obtain ⟨x1, hx1⟩ : ∃ e0, l[i]? = some e0 := ⟨_, List.getElem?_eq_getElem hlx1⟩
  have hmx1 : x1 ∈ l := List.mem_of_getElem? hx1
  refine v_ rfl (J_ (b_ rfl (g_ (ae_ (g_ (c_ (a_ (ag_ aG_ Y_ rfl rfl (fun v _ h => aH_ (n := 10) Pc.cells_len (by decide) (by exact h.1) hx1) (by omega) (by first | omega | (simp; done))) rfl (a_ (aM_ (ad := ad) (us := Pc.cells x1) bi_ Y_ rfl (fun v _ h => by exact h.1) (Pc.cells_len _) (ak_ Pc.cells_len hx1)) rfl (am_ eK_ rfl fun b1 => ?_)))))))))
  refine W_ 0 Y_ rfl rfl rfl rfl rfl rfl (d_ (b_ rfl (g_ (c_ (a_ (h_ r_ rfl rfl rfl o_) rfl (a_ (m_ 0 x_ rfl rfl rfl) rfl (a_ (h_ r_ rfl rfl rfl o_) rfl (a_ (m_ 0 x_ rfl rfl rfl) rfl (a_ (h_ r_ rfl rfl rfl o_) rfl ?_)))))))))
  refine a_ (m_ 0 x_ rfl rfl rfl) rfl (bk_ aQ_ o_ Tryz.zeroValue9 rfl rfl rfl rfl rfl rfl fun b2 => ?_)
  refine bS_ (List.flatMap dx_ [(Pc.a x1), (Pc.b x1), (Pc.c x1)]) G_ rfl ?_
  refine a_ (aC_ aQ_ rfl) rfl (a_ (f_ rfl) rfl (d_ (b_ rfl (ae_ (cq_ [(2, sv), (7, .slice ad (List.length l) cap), (8, .int .i64 (List.length l : Int)), (9, .int .i64 (i : Int)), (19, .slice (some ⟨b2, 0, none⟩) (List.length [(Pc.a x1), (Pc.b x1), (Pc.c x1)]) 3), (20, .int .i64 3), (21, .int .i64 ((0 : Nat) : Int))] ⟨rfl, rfl, rfl, rfl, rfl, rfl, rfl, trivial⟩ ?_)))))
  refine cx_ (ι := {y : Nat × Value × Hp // y.1 ≤ 3 ∧ bE_ 9 1 y.2.1 (cI_ (l.take i) ++ (List.take y.1 [x1.a, x1.b, x1.c]).filter fun s => !(s == [])).length ((cI_ (l.take i) ++ (List.take y.1 [x1.a, x1.b, x1.c]).filter fun s => !(s == [])).flatMap dx_) y.2.2}) (fun y => [(2, y.1.2.1), (7, .slice ad (List.length l) cap), (8, .int .i64 (List.length l : Int)), (9, .int .i64 (i : Int)), (19, .slice (some ⟨b2, 0, none⟩) (List.length [(Pc.a x1), (Pc.b x1), (Pc.c x1)]) 3), (20, .int .i64 3), (21, .int .i64 (y.1.1 : Int))]) (fun y => _ ::  y.1.2.2) (fun _ => _) (fun y => 3 - y.1.1) ⟨(0, sv, Hr), by simp, by simpa using hrow⟩ ?_
  rintro ⟨⟨k, sw, Hw⟩, hk, hkr⟩
  dsimp only at hk hkr
  dsimp only
  have hfl : ((cI_ (l.take i) ++ (List.take k [x1.a, x1.b, x1.c]).filter fun s => !(s == []))).length ≤ (cI_ (l.take i)).length + 3 := by
   have := List.length_filter_le (fun s => !(s == [])) (List.take k [x1.a, x1.b, x1.c])
   simp only [List.length_append, List.length_take, List.length_cons, List.length_nil] at this ⊢
   omega
  refine cq_ [(2, sw), (7, .slice ad (List.length l) cap), (8, .int .i64 (List.length l : Int)), (9, .int .i64 (i : Int)), (19, .slice (some ⟨b2, 0, none⟩) (List.length [(Pc.a x1), (Pc.b x1), (Pc.c x1)]) 3), (20, .int .i64 3), (21, .int .i64 (k : Int))] ⟨rfl, rfl, rfl, rfl, rfl, rfl, rfl, trivial⟩ ?_
  refine g_ (c_ (C_ (as_ rfl rfl) rfl fun r2 hr2 => ?_))
  refine d_ (b_ rfl (g_ ?_))
  cases r2
  ·
   replace hr2 := of_decide_eq_false hr2
   refine B_ rfl (bd_ rfl (b_ rfl (c_ (a_ (ac_ rfl rfl rfl (aE_ (by omega) (by omega))) rfl (a_ (f_ rfl) rfl (d_ (z_ rfl ?_)))))))
   have hst : cI_ (l.take (i + 1)) = cI_ (l.take i) ++ hn_ x1 := by unfold cI_; rw [List.take_add_one, hx1, List.flatMap_append]; simp
   exact aP_ ⟨(i + 1, sw, Hw), hlx1, by dsimp only; rw [hst]; have := hkr; rw [List.take_of_length_le (show [x1.a, x1.b, x1.c].length ≤ k by simp; omega)] at this; exact this⟩ (by dsimp only; omega) ⟨rfl, rfl, rfl, rfl, trivial⟩ (O_ de_) (fun _ _ h => h.2)
  ·
   replace hr2 := of_decide_eq_true hr2
   have hly1 : k < List.length [(Pc.a x1), (Pc.b x1), (Pc.c x1)] := by simp; omega
   obtain ⟨y1, hy1⟩ : ∃ e0, [(Pc.a x1), (Pc.b x1), (Pc.c x1)][k]? = some e0 := ⟨_, List.getElem?_eq_getElem hly1⟩
   have hmy1 : y1 ∈ [(Pc.a x1), (Pc.b x1), (Pc.c x1)] := List.mem_of_getElem? hy1
   refine v_ rfl (J_ (b_ rfl (g_ (ae_ (g_ (c_ (a_ (ag_ aQ_ o_ rfl rfl (fun v _ h => aH_ (n := 1) cs_ (by decide) (by exact h.1) hy1) (by omega) (by first | omega | (simp; done))) rfl (a_ (bb_ (ad := (some ⟨b2, 0, none⟩)) x_ rfl (fun v _ h => by exact h.1) (ak_ cs_ hy1 0 _ rfl)) rfl (a_ (e_ rfl) rfl ?_)))))))))
   refine d_ (b_ rfl (g_ (c_ (a_ (f_ rfl) rfl (C_ (fD_ rfl rfl) rfl fun r3 hr3 => ?_)))))
   refine d_ (b_ rfl ?_)
   cases r3
   ·
    replace hr3 := bt_ hr3
    refine B_ rfl (J_ (b_ rfl (c_ (a_ (ac_ rfl rfl rfl (aE_ (by omega) (by omega))) rfl (a_ (f_ rfl) rfl (d_ (z_ rfl ?_)))))))
    have hst : (cI_ (l.take i) ++ (List.take (k + 1) [x1.a, x1.b, x1.c]).filter fun s => !(s == [])) = (cI_ (l.take i) ++ (List.take k [x1.a, x1.b, x1.c]).filter fun s => !(s == [])) ++ [y1].filter (fun s => !(s == [])) := by rw [List.append_assoc, ← List.filter_append, List.take_add_one, hy1]; simp
    rw [show [y1].filter (fun s => !(s == [])) = [] by simp [*], List.append_nil] at hst
    exact aP_ ⟨(k + 1, sw, Hw), by dsimp only; omega, by dsimp only; rw [hst]; exact hkr⟩ (by dsimp only; omega) ⟨rfl, rfl, rfl, rfl, rfl, rfl, rfl, trivial⟩ (T_ G_ de_) (fun _ _ h => h)
   ·
    replace hr3 := bs_ hr3
    refine v_ rfl (c_ (a_ (f_ rfl) rfl (a_ (f_ rfl) rfl (bk_ aQ_ o_ Tryz.zeroValue9 rfl rfl rfl rfl rfl rfl fun b3 => ?_))))
    refine bW_ (news := [str y1]) eltS hkr rfl rfl (O_ (O_ de_)) rfl (cz_ 0 rfl) (pn_ rfl) (by simp only [maxLen]; omega) (by omega) rfl fun sv2 Hr2 hrow2 => ?_
    refine bj_ (@List.perm_append_comm _ _ [_, _]) (a_ (e_ rfl) rfl (d_ (b_ rfl (c_ (a_ (ac_ rfl rfl rfl (aE_ (by omega) (by omega))) rfl (a_ (f_ rfl) rfl (d_ (z_ rfl ?_))))))))
    have hst : (cI_ (l.take i) ++ (List.take (k + 1) [x1.a, x1.b, x1.c]).filter fun s => !(s == [])) = (cI_ (l.take i) ++ (List.take k [x1.a, x1.b, x1.c]).filter fun s => !(s == [])) ++ [y1].filter (fun s => !(s == [])) := by rw [List.append_assoc, ← List.filter_append, List.take_add_one, hy1]; simp
    rw [show [y1].filter (fun s => !(s == [])) = [y1] by simp [*]] at hst
    exact aP_ ⟨(k + 1, sv2, Hr2), by dsimp only; omega, by dsimp only; rw [hst]; rw [List.length_append (bs := [y1]), List.flatMap_append (ys := [y1])]; exact hrow2⟩ (by dsimp only; omega) ⟨rfl, rfl, rfl, rfl, rfl, rfl, rfl, trivial⟩ (T_ (O_ G_) (O_ de_)) (fun _ _ h => h)
end Go.Proofs.YtaffcjgphlhppaaGreatDoor
namespace Go.Sx
open Go
section
variable {P : Program} {N : Nf} {v0 : Vw} {H0 : Hp} {R : Exit → Act → World → Prop} {K : List Kt} {fr : Fr} {H : Hp} {Γ : List Fct}
variable {ops : Array Oper} {l : List Oper} {d : Nat} {ty : TypeId} {ps : String} {af : Array Edge}
end
end Go.Sx
namespace Go.Vs
open Go Go.Sx
def Cov (hs : List Bool) (L S : List Str) : Prop := hs.length = L.length ∧ ∀ (n : Nat) (s : Str), L[n]? = some s → s ∈ S → hs[n]? = some true
theorem Cov.nil (L : List Str) : Cov (List.replicate L.length false) L [] := ⟨by simp, fun _ _ _ h => by simp at h⟩
theorem Cov.set {hs : List Bool} {L S : List Str} (h : Cov hs L S) (n : Nat) : Cov (hs.set n true) L S := ⟨by rw [List.length_set]; exact h.1, fun m s h1 h2 => by
  have h3 := h.2 m s h1 h2
  rw [List.getElem?_set]
  split
  · rename_i e
    subst e
    rw [if_pos (List.getElem?_eq_some_iff.1 h3).1]
  · exact h3⟩
def lV_ (hs : List Bool) (L S : List Str) (y : Str) (n : Nat) : Prop := Cov hs L S ∧ ∀ m, m < n → L[m]? = some y → hs[m]? = some true
theorem lV_.zero {hs : List Bool} {L S : List Str} {y : Str} (h : Cov hs L S) : lV_ hs L S y 0 := ⟨h, fun _ h => by omega⟩
theorem lV_.hit {hs : List Bool} {L S : List Str} {y : Str} {n : Nat} (h : lV_ hs L S y n) (hn : n < L.length) : lV_ (hs.set n true) L S y (n + 1) := ⟨h.1.set n, fun m hm e => by
  rw [List.getElem?_set]
  split
  · rename_i e
    rw [if_pos (by rw [h.1.1]; omega)]
  · rename_i e2
    exact h.2 m (by omega) e⟩
theorem lV_.done {hs : List Bool} {L S : List Str} {y : Str} {n : Nat} (h : lV_ hs L S y n) (hn : L.length ≤ n) : Cov hs L (S ++ [y]) := ⟨h.1.1, fun m s h1 h2 => by
  rcases List.mem_append.1 h2 with h2 | h2
  · exact h.1.2 m s h1 h2
  · simp only [List.mem_singleton] at h2
    subst h2
    have := (List.getElem?_eq_some_iff.1 h1).1
    exact h.2 m (by omega) h1⟩
def three (p : Pc) : List Str := [p.a, p.b, p.c]
theorem Cov.all {hs : List Bool} {l : List Pc} (h : Cov hs (cU_ l) (l.flatMap three)) {n : Nat} (hn : n < (cU_ l).length) : hs[n]? = some true := by
  have hm := (iC_ l _).1 (List.getElem_mem hn)
  refine h.2 n _ (List.getElem?_eq_getElem hn) ?_
  simp only [cI_, List.mem_flatMap, hn_, List.mem_filter] at hm
  obtain ⟨p, h1, h2⟩ := hm
  exact List.mem_flatMap.2 ⟨p, h1, h2.1⟩
end Go.Vs
namespace Go.Vs
open Go Go.Sx
theorem kA_ (s : Str) : ((if aN_ s then (0 : Int) else 20) == 0) = aN_ s := by cases aN_ s <;> rfl
theorem qb_ (s : Str) : ((if aN_ s then (0 : Int) else 20) != 0) = !aN_ s := by cases aN_ s <;> rfl
-- valid pieces, kind by kind
section
variable {a b c r s t : Str} {lo hi f : Int}
theorem vp_no (k : Int) (hk : k ≠ 1 ∧ k ≠ 2 ∧ k ≠ 3 ∧ k ≠ 4 ∧ k ≠ 5 ∧ k ≠ 6 ∧ k ≠ 7 ∧ k ≠ 8 ∧ k ≠ 9) : Pc.valid ⟨k, a, b, c, r, s, t, lo, hi, f⟩ = false := by
  unfold Pc.valid
  rw [if_pos (by dsimp only; omega)]
theorem fp_ (k : Int) (u : NUse) (hu : nus k = u) (h1 : ¬(k < 1 ∨ 9 < k ∨ f < -1 ∨ 1024 ≤ f)) : Pc.valid ⟨k, a, b, c, r, s, t, lo, hi, f⟩ = true ↔
    ((u.numbers = true → -1099511627776 ≤ lo ∧ lo ≤ hi ∧ hi ≤ 1099511627776) ∧ (u.numbers = false → lo = 0 ∧ hi = 0)) ∧ (((((cg_ u.a a aR_ = true ∧ cg_ u.b b aR_ = true) ∧ cg_ u.c c aR_ = true) ∧ cg_ u.r r (if u.numbers then aN_ else bO_) = true) ∧ cg_ u.s s bO_ = true) ∧ cg_ u.t t bO_ = true) := by
  unfold Pc.valid
  dsimp only
  rw [if_neg h1, hu]
  by_cases h2 : u.numbers = true ∧ (lo < -1099511627776 ∨ hi < lo ∨ 1099511627776 < hi)
  · rw [if_pos h2]
    constructor
    · intro h; cases h
    · rintro ⟨⟨q, _⟩, _⟩
      have := q h2.1
      omega
  · rw [if_neg h2]
    by_cases h3 : u.numbers = false ∧ (lo ≠ 0 ∨ hi ≠ 0)
    · rw [if_pos h3]
      constructor
      · intro h; cases h
      · rintro ⟨⟨_, q⟩, _⟩
        have := q h3.1
        omega
    · rw [if_neg h3]
      simp only [Bool.and_eq_true]
      constructor
      · intro h
        refine ⟨⟨fun q => ?_, fun q => ?_⟩, h⟩
        · have : ¬ (lo < -1099511627776 ∨ hi < lo ∨ 1099511627776 < hi) := fun e => h2 ⟨q, e⟩
          omega
        · have : ¬ (lo ≠ 0 ∨ hi ≠ 0) := fun e => h3 ⟨q, e⟩
          omega
      · exact fun h => h.2
theorem gP_ (s : Str) (q : Str → Bool) : (cg_ true s q = true) = (q s = true) := by simp [cg_]
theorem gQ_ (s : Str) (q : Str → Bool) : (cg_ false s q = true) = (s = []) := by simp [cg_]
end
-- atoms
def dU_ (s : Str) : Bool :=
  (s == [42] || s == [33]) || aN_ s || (decide (3 ≤ s.length) && ((decide (s[0]? = some 123) && decide (s[s.length - 1]? = some 125) && aN_ ((s.drop 1).take (s.length - 1 - 1))) || (decide (s[0]? = some 60) && decide (s[s.length - 1]? = some 62))))
theorem kB_ {s : Str} (h : aN_ s = true) : ∃ c t, s = c :: t ∧ (cB_ c = true ∨ c.toNat = 95) := by
  unfold aN_ at h
  rw [Bool.or_eq_true] at h
  rcases h with h | h
  · obtain ⟨c, t, e, h2⟩ := lz_ h
    exact ⟨c, t, e, .inl h2⟩
  · unfold bK_ at h
    simp only [Bool.and_eq_true, decide_eq_true_eq] at h
    cases s with
    | nil => simp at h
    | cons c t => exact ⟨c, t, rfl, .inr (by simpa using h.1.2)⟩
theorem mS_ {s : Str} {c : UInt8} (h0 : s[0]? = some c) (h : c = 123 ∨ c = 60) : aN_ s = false := by
  cases hp : aN_ s with
  | false => rfl
  | true =>
    obtain ⟨d, t, rfl, h2⟩ := kB_ hp
    simp only [List.getElem?_cons_zero, Option.some.injEq] at h0
    subst h0
    rcases h with rfl | rfl <;> simp [cB_] at h2
theorem dp_ (s : Str) : dU_ s = aR_ s := by
  unfold dU_ aR_
  by_cases h1 : s = [42] ∨ s = [33]
  · rw [if_pos h1]
    rcases h1 with rfl | rfl <;> rfl
  · rw [if_neg h1]
    have e1 : (s == [42] || s == [33]) = false := by
      rw [Bool.or_eq_false_iff]
      exact ⟨beq_eq_false_iff_ne.2 fun e => h1 (.inl e), beq_eq_false_iff_ne.2 fun e => h1 (.inr e)⟩
    rw [e1, Bool.false_or]
    by_cases h2 : s[0]? = some 123
    · have hp := mS_ h2 (.inl rfl)
      rw [hp, Bool.false_or]
      by_cases h3 : s[s.length - 1]? = some 125
      · by_cases hl : 2 ≤ s.length
        · rw [if_pos ⟨hl, h2, h3⟩]
          by_cases h4 : 3 ≤ s.length
          · simp [h2, h3, h4]
          · have : s.length = 2 := by omega
            have hq : aN_ (List.take (s.length - 1 - 1) (List.drop 1 s)) = false := by rw [this]; rfl
            rw [hq]; simp [h4]
        · rw [if_neg (by simp [hl]), if_neg (by simp; omega)]
          simp [show ¬ 3 ≤ s.length by omega]
      · rw [if_neg (by simp [h3]), if_neg (by simp [h2])]
        simp [h2, h3]
    · rw [if_neg (by simp [h2])]
      by_cases h5 : 3 ≤ s.length ∧ s[0]? = some 60 ∧ s[s.length - 1]? = some 62
      · rw [if_pos h5]
        simp [h5.1, h5.2.1, h5.2.2]
      · rw [if_neg h5]
        have : (decide (3 ≤ s.length) && ((decide (s[0]? = some 123) && decide (s[s.length - 1]? = some 125) && aN_ ((s.drop 1).take (s.length - 1 - 1))) || (decide (s[0]? = some 60) && decide (s[s.length - 1]? = some 62)))) = false := by
          rw [show decide (s[0]? = some 123) = false from decide_eq_false h2]
          simp only [Bool.false_and, Bool.false_or]
          rw [Bool.eq_false_iff]
          intro h
          simp only [Bool.and_eq_true, decide_eq_true_eq] at h
          exact h5 ⟨h.1, h.2.1, h.2.2⟩
        rw [this, Bool.or_false]
-- roles
structure RInv (s : Str) (a i : Nat) (dn : List Str) : Prop where
  le : a ≤ i
  il : i ≤ s.length
  no : ixS 46 ((s.drop a).take (i - a)) = none
  sp : br_ 46 s = dn ++ br_ 46 (s.drop a)
  al : dn.all aN_ = true
structure REnd (s : Str) (i : Nat) (dn : List Str) : Prop where
  il : i = s.length + 1
  sp : br_ 46 s = dn
  al : dn.all aN_ = true
def gk_ (s : Str) (a i : Nat) : Str := (s.drop a).take (i - a)
theorem RInv.start (s : Str) : RInv s 0 0 [] := ⟨Nat.le_refl _, Nat.zero_le _, by simp [ixS], by simp, rfl⟩
theorem RInv.len {s : Str} {a i : Nat} {dn : List Str} (h : RInv s a i dn) : dn.length ≤ s.length + 1 := by
  have h1 := dc_ 46 s
  have h2 := gV_ 46 s
  rw [h.sp, List.length_append] at h1
  omega
theorem REnd.len {s : Str} {i : Nat} {dn : List Str} (h : REnd s i dn) : dn.length ≤ s.length + 1 := by
  have h1 := dc_ 46 s
  have h2 := gV_ 46 s
  rw [h.sp] at h1
  omega
theorem RInv.next {s : Str} {a i : Nat} {dn : List Str} {c : UInt8} (h : RInv s a i dn) (hc : s[i]? = some c) (hne : c ≠ 46) : RInv s a (i + 1) dn := by
  have hi := (List.getElem?_eq_some_iff.1 hc).1
  have hle := h.le
  refine ⟨by omega, by omega, ?_, h.sp, h.al⟩
  rw [show i + 1 - a = (i - a) + 1 by omega]
  exact kQ_ (s.drop a) (i - a) c (by rw [List.getElem?_drop, show a + (i - a) = i by omega]; exact hc) h.no hne
theorem RInv.dot {s : Str} {a i : Nat} {dn : List Str} (h : RInv s a i dn) (hc : s[i]? = some 46) : br_ 46 s = dn ++ gk_ s a i :: br_ 46 (s.drop (i + 1)) := by
  have hle := h.le
  have h2 := lG_ (s.drop a) (i - a) (by rw [List.getElem?_drop, show a + (i - a) = i by omega]; exact hc) h.no
  rw [h.sp, eL_ h2, List.drop_drop, show a + (i - a + 1) = i + 1 by omega]
  rfl
theorem RInv.fin {s : Str} {a i : Nat} {dn : List Str} (h : RInv s a i dn) (hi : ¬ i < s.length) : br_ 46 s = dn ++ [gk_ s a i] := by
  have hle := h.le
  have hil := h.il
  have e : (s.drop a).take (i - a) = s.drop a := List.take_of_length_le (by rw [List.length_drop]; omega)
  have hn := h.no
  rw [e] at hn
  rw [h.sp, eM_ hn, gk_, e]
theorem RInv.dotN {s : Str} {a i : Nat} {dn : List Str} (h : RInv s a i dn) (hc : s[i]? = some 46) (hp : aN_ (gk_ s a i) = true) : RInv s (i + 1) (i + 1) (dn ++ [gk_ s a i]) := by
  have hi := (List.getElem?_eq_some_iff.1 hc).1
  refine ⟨Nat.le_refl _, by omega, by simp [ixS], by rw [h.dot hc]; simp, by simp [h.al, hp]⟩
theorem RInv.finN {s : Str} {a i : Nat} {dn : List Str} (h : RInv s a i dn) (hi : ¬ i < s.length) (hp : aN_ (gk_ s a i) = true) : REnd s (i + 1) (dn ++ [gk_ s a i]) := by
  have hil := h.il
  exact ⟨by omega, h.fin hi, by simp [h.al, hp]⟩
theorem kr_ {s : Str} {x : Str} (hm : x ∈ br_ 46 s) (hp : aN_ x = false) : bO_ s = false := by
  unfold bO_
  rw [show (br_ 46 s).any (fun r => !aN_ r) = true from List.any_eq_true.2 ⟨x, hm, by simp [hp]⟩]
  simp
theorem REnd.role {s : Str} {i : Nat} {dn : List Str} (h : REnd s i dn) : bO_ s = decide ((dn.length : Int) ≤ 4) := by
  unfold bO_
  rw [h.sp]
  have : dn.any (fun r => !aN_ r) = false := by
    rw [List.any_eq_false]
    intro x hx
    have := List.all_eq_true.1 h.al x hx
    simp [this]
  rw [this]
  simp
  omega
-- sorted insertion
end Go.Vs
