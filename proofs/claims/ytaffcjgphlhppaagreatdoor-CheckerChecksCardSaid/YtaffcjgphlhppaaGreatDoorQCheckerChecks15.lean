/-
  Part of the proof of the law CheckerChecks over this seat: the small logic, the data, the contracts of functions (no condition).
-/
import Derived.Test.YtaffcjgphlhppaaGreatDoorQCheckerChecks14
import Derived.Test.YtaffcjgphlhppaaGreatDoorQCheckerChecks7
set_option linter.unusedVariables false
set_option linter.unusedSimpArgs false
set_option linter.unusedSectionVars false
namespace Go.Proofs.YtaffcjgphlhppaaGreatDoor
open Go Go.Sx Go.Proofs
attribute [local irreducible] Code.wp wpList wpAnyH
open Go.Vs
theorem ec_ (a b : Str) : Fn0 Tryz.prog 154 #[str a, str b] (Fc.val (aJ_ a b)) := by
  refine V_ Tryz.func154 rfl rfl Tryz.ntmps154 rfl fun v0 => ?_
  refine g_ (c_ (am_ bc_ rfl fun b1 => ?_))
  refine d_ (b_ rfl (g_ (c_ (a_ (f_ rfl) rfl (a_ (f_ rfl) rfl (a_ (ax_ dK_ rfl rfl) rfl (W_ 0 n_ rfl rfl rfl rfl rfl rfl (d_ (b_ rfl ?_)))))))))
  refine y_ ?_
  exact fI_ () (fun aa v h1 h2 => co_ (us := Fc.cells (aJ_ a b)) 0 Tryz.results154 N_ n_ rfl rfl rfl aa v h1 h2) D_ (fun _ _ _ => trivial)
theorem dt_ (a r b : Str) : Fn0 Tryz.prog 155 #[str a, str r, str b] (Fc.val (bw_ a r b)) := by
  refine V_ Tryz.func155 rfl rfl Tryz.ntmps155 rfl fun v0 => ?_
  refine g_ (c_ (am_ bc_ rfl fun b1 => ?_))
  refine d_ (b_ rfl (g_ (c_ (a_ (f_ rfl) rfl (a_ (f_ rfl) rfl (a_ (f_ rfl) rfl (a_ (ax_ dK_ rfl rfl) rfl (W_ 0 n_ rfl rfl rfl rfl rfl rfl (d_ ?_)))))))))
  refine b_ rfl (y_ ?_)
  exact fI_ () (fun aa v h1 h2 => co_ (us := Fc.cells (bw_ a r b)) 0 Tryz.results155 N_ n_ rfl rfl rfl aa v h1 h2) D_ (fun _ _ _ => trivial)
theorem jI_ (f : Fc) (hsm : f.sml) : Fn0 Tryz.prog 79 #[Fc.val f] (.bool (wf2 f)) := by
 refine V_ Tryz.func79 rfl rfl Tryz.ntmps79 rfl fun v0 => ?_
 obtain ⟨hsa, hsb, hsr⟩ := hsm
 refine g_ (c_ (aO_ rfl rfl fun b1 => ?_))
 refine a_ (e_ rfl) rfl (d_ (b_ rfl (g_ (g_ (c_ (a_ (h_ k_ rfl rfl rfl o_) rfl (a_ (m_ 0 x_ rfl rfl rfl) rfl (X_ (dj_ (Fc.a f) (by omega)) rfl D_ (fun _ _ _ => by exact trivial) rfl fun r1 hr1 => ?_))))))))
 refine a_ (bq_ rfl) rfl (d_ (b_ rfl ?_))
 cases r1
 ·
  refine v_ rfl (g_ (c_ (a_ (e_ rfl) rfl (d_ (b_ rfl (y_ ?_))))))
  exact U_ cF_ () (q_ rfl (by rw [← dC_]; simp only [gu_, ge_iff_le, reduceCtorEq, hr1, if_true, if_false, decide_true, decide_false, Bool.and_true, Bool.and_false, Bool.true_and, Bool.false_and, Bool.or_true, Bool.or_false, Bool.true_or, Bool.false_or, Bool.not_true, Bool.not_false, ne_eq, not_true_eq_false, not_false_eq_true, true_and, and_true, false_and, and_false, true_or, or_true, false_or, or_false, ite_true, ite_false, Bool.false_eq_true])) D_ (fun _ _ _ => trivial)
 ·
  refine B_ rfl (J_ (b_ rfl (g_ (g_ (c_ (a_ (h_ k_ rfl rfl rfl w_) rfl (a_ (m_ 0 E_ rfl rfl rfl) rfl (d_ (b_ rfl ?_)))))))))
  refine ae_ (g_ (c_ (C_ (ab_ rfl rfl) rfl fun r2 hr2 => ?_)))
  refine a_ (e_ rfl) rfl (d_ (b_ rfl ?_))
  cases r2
  ·
   replace hr2 := ne_of_beq_false hr2
   refine B_ rfl (g_ (c_ (C_ (ab_ rfl rfl) rfl fun r3 hr3 => ?_)))
   refine a_ (e_ rfl) rfl (d_ (b_ rfl ?_))
   cases r3
   ·
    replace hr3 := ne_of_beq_false hr3
    refine B_ rfl (g_ (c_ (C_ (ab_ rfl rfl) rfl fun r4 hr4 => ?_)))
    refine a_ (e_ rfl) rfl (d_ (b_ rfl ?_))
    cases r4
    ·
     replace hr4 := ne_of_beq_false hr4
     refine B_ rfl (J_ (b_ rfl (g_ (c_ (a_ (e_ rfl) rfl (d_ (b_ rfl (y_ ?_))))))))
     exact U_ cF_ () (q_ rfl (by rw [← dC_]; have p2 := eq_false hr2; have p3 := eq_false hr3; have p4 := eq_false hr4; simp only [gu_, ge_iff_le, reduceCtorEq, hr1, p2, p3, p4, if_true, if_false, decide_true, decide_false, Bool.and_true, Bool.and_false, Bool.true_and, Bool.false_and, Bool.or_true, Bool.or_false, Bool.true_or, Bool.false_or, Bool.not_true, Bool.not_false, ne_eq, not_true_eq_false, not_false_eq_true, true_and, and_true, false_and, and_false, true_or, or_true, false_or, or_false, ite_true, ite_false, Bool.false_eq_true])) D_ (fun _ _ _ => trivial)
    ·
     replace hr4 := eq_of_beq hr4
     refine v_ rfl (g_ (c_ (a_ (h_ k_ rfl rfl rfl o_) rfl (a_ (m_ 0 x_ rfl rfl rfl) rfl (C_ (az_ rfl rfl) rfl fun r5 hr5 => ?_)))))
     refine a_ (f_ rfl) rfl ?_
     cases r5
     ·
      replace hr5 := ne_of_beq_false hr5
      refine j_ rfl rfl rfl rfl (j_ rfl rfl rfl rfl (j_ rfl rfl rfl rfl (j_ rfl rfl rfl rfl (a_ (p_ rfl rfl) rfl (a_ (f_ rfl) rfl (j_ rfl rfl rfl rfl (j_ rfl rfl rfl rfl (j_ rfl rfl rfl rfl (j_ rfl rfl rfl rfl ?_)))))))))
      refine j_ rfl rfl rfl rfl (a_ (p_ rfl rfl) rfl (a_ (f_ rfl) rfl (j_ rfl rfl rfl rfl (j_ rfl rfl rfl rfl (j_ rfl rfl rfl rfl (a_ (p_ rfl rfl) rfl (a_ (f_ rfl) rfl (j_ rfl rfl rfl rfl (j_ rfl rfl rfl rfl ?_)))))))))
      refine j_ rfl rfl rfl rfl (a_ (p_ rfl rfl) rfl (a_ (e_ rfl) rfl (d_ (b_ rfl (y_ ?_)))))
      exact U_ cF_ () (q_ rfl (by rw [← dC_]; have p2 := eq_false hr2; have p3 := eq_false hr3; have p4 := eq_true hr4; have p5 := eq_false hr5; simp only [gu_, ge_iff_le, reduceCtorEq, hr1, p2, p3, p4, p5, if_true, if_false, decide_true, decide_false, Bool.and_true, Bool.and_false, Bool.true_and, Bool.false_and, Bool.or_true, Bool.or_false, Bool.true_or, Bool.false_or, Bool.not_true, Bool.not_false, ne_eq, not_true_eq_false, not_false_eq_true, true_and, and_true, false_and, and_false, true_or, or_true, false_or, or_false, ite_true, ite_false, Bool.false_eq_true])) D_ (fun _ _ _ => trivial)
     ·
      replace hr5 := eq_of_beq hr5
      refine i_ rfl rfl (a_ (h_ k_ rfl rfl rfl o_) rfl (i_ rfl rfl (a_ (m_ 0 x_ rfl rfl rfl) rfl (i_ rfl rfl (S_ (dd_ _) rfl D_ (fun _ _ _ => by exact trivial) rfl fun _ => ?_)))))
      refine i_ rfl rfl (C_ (bP_ (ab_ rfl rfl) (congrArg Value.bool (kA_ _))) rfl fun r6 hr6 => ?_)
      refine a_ (A_ rfl rfl) rfl (a_ (f_ rfl) rfl ?_)
      cases r6
      ·
       refine j_ rfl rfl rfl rfl (j_ rfl rfl rfl rfl (j_ rfl rfl rfl rfl (j_ rfl rfl rfl rfl (j_ rfl rfl rfl rfl (a_ (p_ rfl rfl) rfl (a_ (f_ rfl) rfl (j_ rfl rfl rfl rfl (j_ rfl rfl rfl rfl (j_ rfl rfl rfl rfl ?_)))))))))
       refine a_ (p_ rfl rfl) rfl (a_ (f_ rfl) rfl (j_ rfl rfl rfl rfl (j_ rfl rfl rfl rfl (j_ rfl rfl rfl rfl (a_ (p_ rfl rfl) rfl (a_ (e_ rfl) rfl (d_ (b_ rfl (y_ ?_)))))))))
       exact U_ cF_ () (q_ rfl (by rw [← dC_]; have p2 := eq_false hr2; have p3 := eq_false hr3; have p4 := eq_true hr4; have p5 := eq_true hr5; simp only [gu_, ge_iff_le, reduceCtorEq, hr1, p2, p3, p4, p5, hr6, if_true, if_false, decide_true, decide_false, Bool.and_true, Bool.and_false, Bool.true_and, Bool.false_and, Bool.or_true, Bool.or_false, Bool.true_or, Bool.false_or, Bool.not_true, Bool.not_false, ne_eq, not_true_eq_false, not_false_eq_true, true_and, and_true, false_and, and_false, true_or, or_true, false_or, or_false, ite_true, ite_false, Bool.false_eq_true])) D_ (fun _ _ _ => trivial)
      ·
       refine i_ rfl rfl (a_ (h_ k_ rfl rfl rfl w_) rfl (i_ rfl rfl (a_ (m_ 0 E_ rfl rfl rfl) rfl (i_ rfl rfl (a_ (h_ k_ rfl rfl rfl w_) rfl (i_ rfl rfl (a_ (m_ 0 E_ rfl rfl rfl) rfl (i_ rfl rfl (C_ (bC_ rfl rfl) rfl fun r7 hr7 => ?_)))))))))
       refine a_ (A_ rfl rfl) rfl (a_ (f_ rfl) rfl ?_)
       cases r7
       ·
        replace hr7 := of_decide_eq_false hr7
        refine j_ rfl rfl rfl rfl (j_ rfl rfl rfl rfl (j_ rfl rfl rfl rfl (a_ (p_ rfl rfl) rfl (a_ (f_ rfl) rfl (j_ rfl rfl rfl rfl (j_ rfl rfl rfl rfl (j_ rfl rfl rfl rfl (a_ (p_ rfl rfl) rfl (a_ (e_ rfl) rfl ?_)))))))))
        refine d_ (b_ rfl (y_ ?_))
        exact U_ cF_ () (q_ rfl (by rw [← dC_]; have p2 := eq_false hr2; have p3 := eq_false hr3; have p4 := eq_true hr4; have p5 := eq_true hr5; have p7 := eq_false hr7; simp only [gu_, ge_iff_le, reduceCtorEq, hr1, p2, p3, p4, p5, hr6, p7, if_true, if_false, decide_true, decide_false, Bool.and_true, Bool.and_false, Bool.true_and, Bool.false_and, Bool.or_true, Bool.or_false, Bool.true_or, Bool.false_or, Bool.not_true, Bool.not_false, ne_eq, not_true_eq_false, not_false_eq_true, true_and, and_true, false_and, and_false, true_or, or_true, false_or, or_false, ite_true, ite_false, Bool.false_eq_true])) D_ (fun _ _ _ => trivial)
       ·
        replace hr7 := of_decide_eq_true hr7
        refine i_ rfl rfl (a_ (h_ k_ rfl rfl rfl w_) rfl (i_ rfl rfl (a_ (m_ 0 E_ rfl rfl rfl) rfl (i_ rfl rfl (C_ (bQ_ rfl rfl) rfl fun r8 hr8 => ?_)))))
        refine a_ (A_ rfl rfl) rfl (a_ (f_ rfl) rfl ?_)
        cases r8
        ·
         replace hr8 := of_decide_eq_false hr8
         refine j_ rfl rfl rfl rfl (j_ rfl rfl rfl rfl (j_ rfl rfl rfl rfl (a_ (p_ rfl rfl) rfl (a_ (e_ rfl) rfl (d_ (b_ rfl (y_ ?_)))))))
         exact U_ cF_ () (q_ rfl (by rw [← dC_]; have p2 := eq_false hr2; have p3 := eq_false hr3; have p4 := eq_true hr4; have p5 := eq_true hr5; have p7 := eq_true hr7; have p8 := eq_false hr8; simp only [gu_, ge_iff_le, reduceCtorEq, hr1, p2, p3, p4, p5, hr6, p7, p8, if_true, if_false, decide_true, decide_false, Bool.and_true, Bool.and_false, Bool.true_and, Bool.false_and, Bool.or_true, Bool.or_false, Bool.true_or, Bool.false_or, Bool.not_true, Bool.not_false, ne_eq, not_true_eq_false, not_false_eq_true, true_and, and_true, false_and, and_false, true_or, or_true, false_or, or_false, ite_true, ite_false, Bool.false_eq_true])) D_ (fun _ _ _ => trivial)
        ·
         replace hr8 := of_decide_eq_true hr8
         refine i_ rfl rfl (a_ (h_ k_ rfl rfl rfl w_) rfl (i_ rfl rfl (a_ (m_ 0 E_ rfl rfl rfl) rfl (i_ rfl rfl (C_ (bC_ rfl rfl) rfl fun r9 hr9 => ?_)))))
         refine a_ (A_ rfl rfl) rfl (a_ (e_ rfl) rfl (d_ (b_ rfl (y_ ?_))))
         exact U_ cF_ () (q_ rfl (by rw [← dC_]; have p2 := eq_false hr2; have p3 := eq_false hr3; have p4 := eq_true hr4; have p5 := eq_true hr5; have p7 := eq_true hr7; have p8 := eq_true hr8; rw [← hr9]; simp only [gu_, ge_iff_le, reduceCtorEq, hr1, p2, p3, p4, p5, hr6, p7, p8, if_true, if_false, decide_true, decide_false, Bool.and_true, Bool.and_false, Bool.true_and, Bool.false_and, Bool.or_true, Bool.or_false, Bool.true_or, Bool.false_or, Bool.not_true, Bool.not_false, ne_eq, not_true_eq_false, not_false_eq_true, true_and, and_true, false_and, and_false, true_or, or_true, false_or, or_false, ite_true, ite_false, Bool.false_eq_true])) D_ (fun _ _ _ => trivial)
   ·
    replace hr3 := eq_of_beq hr3
    refine v_ rfl (g_ (c_ (a_ (h_ k_ rfl rfl rfl o_) rfl (a_ (m_ 0 x_ rfl rfl rfl) rfl (X_ (dj_ (Fc.b f) (by omega)) rfl D_ (fun _ _ _ => by exact trivial) rfl fun r10 hr10 => ?_)))))
    refine a_ (f_ rfl) rfl ?_
    cases r10
    ·
     refine j_ rfl rfl rfl rfl (j_ rfl rfl rfl rfl (j_ rfl rfl rfl rfl (a_ (p_ rfl rfl) rfl (a_ (f_ rfl) rfl (j_ rfl rfl rfl rfl (j_ rfl rfl rfl rfl (j_ rfl rfl rfl rfl (j_ rfl rfl rfl rfl (j_ rfl rfl rfl rfl ?_)))))))))
     refine j_ rfl rfl rfl rfl (j_ rfl rfl rfl rfl (j_ rfl rfl rfl rfl (j_ rfl rfl rfl rfl (j_ rfl rfl rfl rfl (j_ rfl rfl rfl rfl (a_ (p_ rfl rfl) rfl (a_ (e_ rfl) rfl (d_ (b_ rfl ?_)))))))))
     refine y_ ?_
     exact U_ cF_ () (q_ rfl (by rw [← dC_]; have p2 := eq_false hr2; have p3 := eq_true hr3; simp only [gu_, ge_iff_le, reduceCtorEq, hr1, p2, p3, hr10, if_true, if_false, decide_true, decide_false, Bool.and_true, Bool.and_false, Bool.true_and, Bool.false_and, Bool.or_true, Bool.or_false, Bool.true_or, Bool.false_or, Bool.not_true, Bool.not_false, ne_eq, not_true_eq_false, not_false_eq_true, true_and, and_true, false_and, and_false, true_or, or_true, false_or, or_false, ite_true, ite_false, Bool.false_eq_true])) D_ (fun _ _ _ => trivial)
    ·
     refine i_ rfl rfl (a_ (h_ k_ rfl rfl rfl o_) rfl (i_ rfl rfl (a_ (m_ 0 x_ rfl rfl rfl) rfl (i_ rfl rfl (X_ (eq_ (Fc.r f) (by omega)) rfl D_ (fun _ _ _ => by exact trivial) rfl fun r11 hr11 => ?_)))))
     refine a_ (A_ rfl rfl) rfl (a_ (f_ rfl) rfl ?_)
     cases r11
     ·
      refine j_ rfl rfl rfl rfl (j_ rfl rfl rfl rfl (j_ rfl rfl rfl rfl (j_ rfl rfl rfl rfl (j_ rfl rfl rfl rfl (j_ rfl rfl rfl rfl (j_ rfl rfl rfl rfl (j_ rfl rfl rfl rfl (j_ rfl rfl rfl rfl (j_ rfl rfl rfl rfl ?_)))))))))
      refine j_ rfl rfl rfl rfl (a_ (p_ rfl rfl) rfl (a_ (e_ rfl) rfl (d_ (b_ rfl (y_ ?_)))))
      exact U_ cF_ () (q_ rfl (by rw [← dC_]; have p2 := eq_false hr2; have p3 := eq_true hr3; simp only [gu_, ge_iff_le, reduceCtorEq, hr1, p2, p3, hr10, hr11, if_true, if_false, decide_true, decide_false, Bool.and_true, Bool.and_false, Bool.true_and, Bool.false_and, Bool.or_true, Bool.or_false, Bool.true_or, Bool.false_or, Bool.not_true, Bool.not_false, ne_eq, not_true_eq_false, not_false_eq_true, true_and, and_true, false_and, and_false, true_or, or_true, false_or, or_false, ite_true, ite_false, Bool.false_eq_true])) D_ (fun _ _ _ => trivial)
     ·
      refine i_ rfl rfl (a_ (M_ 0 N_ n_ rfl rfl rfl) rfl (i_ rfl rfl (a_ (h_ k_ rfl rfl rfl w_) rfl (i_ rfl rfl (a_ (m_ 0 E_ rfl rfl rfl) rfl (i_ rfl rfl (a_ (h_ k_ rfl rfl rfl o_) rfl (i_ rfl rfl (a_ (m_ 0 x_ rfl rfl rfl) rfl ?_)))))))))
      refine i_ rfl rfl (a_ (h_ k_ rfl rfl rfl o_) rfl (i_ rfl rfl (a_ (m_ 0 x_ rfl rfl rfl) rfl (i_ rfl rfl (a_ (h_ k_ rfl rfl rfl o_) rfl (i_ rfl rfl (a_ (m_ 0 x_ rfl rfl rfl) rfl (i_ rfl rfl (a_ (ax_ dK_ rfl rfl) rfl ?_)))))))))
      refine i_ rfl rfl (C_ (af_ (p := f) (q := (Fc.mk (Fc.kind f) (Fc.a f) (Fc.b f) (Fc.r f) 0 0)) rfl rfl) rfl fun r12 hr12 => ?_)
      refine a_ (A_ rfl rfl) rfl (a_ (e_ rfl) rfl (d_ (b_ rfl (y_ ?_))))
      exact U_ cF_ () (q_ rfl (by rw [← dC_]; have p2 := eq_false hr2; have p3 := eq_true hr3; rw [← hr12]; simp only [gu_, ge_iff_le, reduceCtorEq, hr1, p2, p3, hr10, hr11, if_true, if_false, decide_true, decide_false, Bool.and_true, Bool.and_false, Bool.true_and, Bool.false_and, Bool.or_true, Bool.or_false, Bool.true_or, Bool.false_or, Bool.not_true, Bool.not_false, ne_eq, not_true_eq_false, not_false_eq_true, true_and, and_true, false_and, and_false, true_or, or_true, false_or, or_false, ite_true, ite_false, Bool.false_eq_true])) D_ (fun _ _ _ => trivial)
  ·
   replace hr2 := eq_of_beq hr2
   refine v_ rfl (g_ (c_ (a_ (h_ k_ rfl rfl rfl o_) rfl (a_ (m_ 0 x_ rfl rfl rfl) rfl (X_ (dj_ (Fc.b f) (by omega)) rfl D_ (fun _ _ _ => by exact trivial) rfl fun r13 hr13 => ?_)))))
   refine a_ (f_ rfl) rfl ?_
   cases r13
   ·
    refine j_ rfl rfl rfl rfl (j_ rfl rfl rfl rfl (j_ rfl rfl rfl rfl (j_ rfl rfl rfl rfl (j_ rfl rfl rfl rfl (j_ rfl rfl rfl rfl (j_ rfl rfl rfl rfl (j_ rfl rfl rfl rfl (j_ rfl rfl rfl rfl (a_ (p_ rfl rfl) rfl ?_)))))))))
    refine a_ (e_ rfl) rfl (d_ (b_ rfl (y_ ?_)))
    exact U_ cF_ () (q_ rfl (by rw [← dC_]; have p2 := eq_true hr2; simp only [gu_, ge_iff_le, reduceCtorEq, hr1, p2, hr13, if_true, if_false, decide_true, decide_false, Bool.and_true, Bool.and_false, Bool.true_and, Bool.false_and, Bool.or_true, Bool.or_false, Bool.true_or, Bool.false_or, Bool.not_true, Bool.not_false, ne_eq, not_true_eq_false, not_false_eq_true, true_and, and_true, false_and, and_false, true_or, or_true, false_or, or_false, ite_true, ite_false, Bool.false_eq_true])) D_ (fun _ _ _ => trivial)
   ·
    refine i_ rfl rfl (a_ (M_ 0 N_ n_ rfl rfl rfl) rfl (i_ rfl rfl (a_ (h_ k_ rfl rfl rfl w_) rfl (i_ rfl rfl (a_ (m_ 0 E_ rfl rfl rfl) rfl (i_ rfl rfl (a_ (h_ k_ rfl rfl rfl o_) rfl (i_ rfl rfl (a_ (m_ 0 x_ rfl rfl rfl) rfl ?_)))))))))
    refine i_ rfl rfl (a_ (h_ k_ rfl rfl rfl o_) rfl (i_ rfl rfl (a_ (m_ 0 x_ rfl rfl rfl) rfl (i_ rfl rfl (a_ (ax_ dK_ rfl rfl) rfl (i_ rfl rfl (C_ (af_ (p := f) (q := (Fc.mk (Fc.kind f) (Fc.a f) (Fc.b f) [] 0 0)) rfl rfl) rfl fun r14 hr14 => ?_)))))))
    refine a_ (A_ rfl rfl) rfl (a_ (e_ rfl) rfl (d_ (b_ rfl (y_ ?_))))
    exact U_ cF_ () (q_ rfl (by rw [← dC_]; have p2 := eq_true hr2; rw [← hr14]; simp only [gu_, ge_iff_le, reduceCtorEq, hr1, p2, hr13, if_true, if_false, decide_true, decide_false, Bool.and_true, Bool.and_false, Bool.true_and, Bool.false_and, Bool.or_true, Bool.or_false, Bool.true_or, Bool.false_or, Bool.not_true, Bool.not_false, ne_eq, not_true_eq_false, not_false_eq_true, true_and, and_true, false_and, and_false, true_or, or_true, false_or, or_false, ite_true, ite_false, Bool.false_eq_true])) D_ (fun _ _ _ => trivial)
theorem pk_ (k : Int) : Fn0 Tryz.prog 80 #[.int .i64 k] (.int .i64 (dk_ k)) := by
 refine V_ Tryz.func80 rfl rfl Tryz.ntmps80 rfl fun v0 => ?_
 refine g_ (c_ (a_ (e_ rfl) rfl (d_ (b_ rfl (g_ (g_ (c_ (a_ (f_ rfl) rfl (d_ ?_)))))))))
 refine b_ rfl (ae_ (g_ (g_ (c_ (C_ (ab_ rfl rfl) rfl fun r1 hr1 => ?_)))))
 refine a_ (e_ rfl) rfl (d_ (b_ rfl ?_))
 cases r1
 ·
  replace hr1 := ne_of_beq_false hr1
  refine B_ rfl (g_ (c_ (C_ (ab_ rfl rfl) rfl fun r2 hr2 => ?_)))
  refine a_ (e_ rfl) rfl (d_ (b_ rfl ?_))
  cases r2
  ·
   replace hr2 := ne_of_beq_false hr2
   refine B_ rfl (c_ (C_ (ab_ rfl rfl) rfl fun r3 hr3 => ?_))
   refine a_ (e_ rfl) rfl (d_ (b_ rfl ?_))
   cases r3
   ·
    replace hr3 := ne_of_beq_false hr3
    refine B_ rfl (g_ (g_ (c_ (C_ (ab_ rfl rfl) rfl fun r4 hr4 => ?_))))
    refine a_ (e_ rfl) rfl (d_ (b_ rfl ?_))
    cases r4
    ·
     replace hr4 := ne_of_beq_false hr4
     refine B_ rfl (g_ (c_ (C_ (ab_ rfl rfl) rfl fun r5 hr5 => ?_)))
     refine a_ (e_ rfl) rfl (d_ (b_ rfl ?_))
     cases r5
     ·
      replace hr5 := ne_of_beq_false hr5
      refine B_ rfl (g_ (c_ (C_ (ab_ rfl rfl) rfl fun r6 hr6 => ?_)))
      refine a_ (e_ rfl) rfl (d_ (b_ rfl ?_))
      cases r6
      ·
       replace hr6 := ne_of_beq_false hr6
       refine B_ rfl (g_ (c_ (C_ (ab_ rfl rfl) rfl fun r7 hr7 => ?_)))
       refine a_ (e_ rfl) rfl (d_ (b_ rfl ?_))
       cases r7
       ·
        replace hr7 := ne_of_beq_false hr7
        refine B_ rfl (g_ (c_ (C_ (ab_ rfl rfl) rfl fun r8 hr8 => ?_)))
        refine a_ (e_ rfl) rfl (d_ (b_ rfl ?_))
        cases r8
        ·
         replace hr8 := ne_of_beq_false hr8
         refine B_ rfl (c_ (C_ (ab_ rfl rfl) rfl fun r9 hr9 => ?_))
         refine a_ (e_ rfl) rfl (d_ (b_ rfl ?_))
         cases r9
         ·
          replace hr9 := ne_of_beq_false hr9
          refine B_ rfl (J_ (b_ rfl (g_ (c_ (a_ (e_ rfl) rfl (d_ (b_ rfl (y_ ?_))))))))
          exact U_ do_ () (ar_ rfl (by have p1 := eq_false hr1; have p2 := eq_false hr2; have p3 := eq_false hr3; have p4 := eq_false hr4; have p5 := eq_false hr5; have p6 := eq_false hr6; have p7 := eq_false hr7; have p8 := eq_false hr8; have p9 := eq_false hr9; simp only [dk_, p1, p2, p3, p4, p5, p6, p7, p8, p9, if_true, if_false, decide_true, decide_false, Bool.and_true, Bool.and_false, Bool.true_and, Bool.false_and, Bool.or_true, Bool.or_false, Bool.true_or, Bool.false_or, Bool.not_true, Bool.not_false, ne_eq, not_true_eq_false, not_false_eq_true, true_and, and_true, false_and, and_false, true_or, or_true, false_or, or_false, ite_true, ite_false, Bool.false_eq_true])) D_ (fun _ _ _ => trivial)
         ·
          replace hr9 := eq_of_beq hr9
          refine v_ rfl (g_ (c_ (a_ (e_ rfl) rfl (d_ (b_ rfl (y_ ?_))))))
          exact U_ do_ () (ar_ rfl (by have p1 := eq_false hr1; have p2 := eq_false hr2; have p3 := eq_false hr3; have p4 := eq_false hr4; have p5 := eq_false hr5; have p6 := eq_false hr6; have p7 := eq_false hr7; have p8 := eq_false hr8; have p9 := eq_true hr9; simp only [dk_, p1, p2, p3, p4, p5, p6, p7, p8, p9, if_true, if_false, decide_true, decide_false, Bool.and_true, Bool.and_false, Bool.true_and, Bool.false_and, Bool.or_true, Bool.or_false, Bool.true_or, Bool.false_or, Bool.not_true, Bool.not_false, ne_eq, not_true_eq_false, not_false_eq_true, true_and, and_true, false_and, and_false, true_or, or_true, false_or, or_false, ite_true, ite_false, Bool.false_eq_true])) D_ (fun _ _ _ => trivial)
        ·
         replace hr8 := eq_of_beq hr8
         refine v_ rfl (J_ (b_ rfl (v_ rfl (g_ (c_ (a_ (e_ rfl) rfl (d_ (b_ rfl (y_ ?_)))))))))
         exact U_ do_ () (ar_ rfl (by have p1 := eq_false hr1; have p2 := eq_false hr2; have p3 := eq_false hr3; have p4 := eq_false hr4; have p5 := eq_false hr5; have p6 := eq_false hr6; have p7 := eq_false hr7; have p8 := eq_true hr8; simp only [dk_, p1, p2, p3, p4, p5, p6, p7, p8, if_true, if_false, decide_true, decide_false, Bool.and_true, Bool.and_false, Bool.true_and, Bool.false_and, Bool.or_true, Bool.or_false, Bool.true_or, Bool.false_or, Bool.not_true, Bool.not_false, ne_eq, not_true_eq_false, not_false_eq_true, true_and, and_true, false_and, and_false, true_or, or_true, false_or, or_false, ite_true, ite_false, Bool.false_eq_true])) D_ (fun _ _ _ => trivial)
       ·
        replace hr7 := eq_of_beq hr7
        refine v_ rfl (J_ (b_ rfl (v_ rfl (g_ (c_ (a_ (e_ rfl) rfl (d_ (b_ rfl (y_ ?_)))))))))
        exact U_ do_ () (ar_ rfl (by have p1 := eq_false hr1; have p2 := eq_false hr2; have p3 := eq_false hr3; have p4 := eq_false hr4; have p5 := eq_false hr5; have p6 := eq_false hr6; have p7 := eq_true hr7; simp only [dk_, p1, p2, p3, p4, p5, p6, p7, if_true, if_false, decide_true, decide_false, Bool.and_true, Bool.and_false, Bool.true_and, Bool.false_and, Bool.or_true, Bool.or_false, Bool.true_or, Bool.false_or, Bool.not_true, Bool.not_false, ne_eq, not_true_eq_false, not_false_eq_true, true_and, and_true, false_and, and_false, true_or, or_true, false_or, or_false, ite_true, ite_false, Bool.false_eq_true])) D_ (fun _ _ _ => trivial)
      ·
       replace hr6 := eq_of_beq hr6
       refine v_ rfl (J_ (b_ rfl (v_ rfl (g_ (c_ (a_ (e_ rfl) rfl (d_ (b_ rfl (y_ ?_)))))))))
       exact U_ do_ () (ar_ rfl (by have p1 := eq_false hr1; have p2 := eq_false hr2; have p3 := eq_false hr3; have p4 := eq_false hr4; have p5 := eq_false hr5; have p6 := eq_true hr6; simp only [dk_, p1, p2, p3, p4, p5, p6, if_true, if_false, decide_true, decide_false, Bool.and_true, Bool.and_false, Bool.true_and, Bool.false_and, Bool.or_true, Bool.or_false, Bool.true_or, Bool.false_or, Bool.not_true, Bool.not_false, ne_eq, not_true_eq_false, not_false_eq_true, true_and, and_true, false_and, and_false, true_or, or_true, false_or, or_false, ite_true, ite_false, Bool.false_eq_true])) D_ (fun _ _ _ => trivial)
     ·
      replace hr5 := eq_of_beq hr5
      refine v_ rfl (J_ (b_ rfl (v_ rfl (g_ (c_ (a_ (e_ rfl) rfl (d_ (b_ rfl (y_ ?_)))))))))
      exact U_ do_ () (ar_ rfl (by have p1 := eq_false hr1; have p2 := eq_false hr2; have p3 := eq_false hr3; have p4 := eq_false hr4; have p5 := eq_true hr5; simp only [dk_, p1, p2, p3, p4, p5, if_true, if_false, decide_true, decide_false, Bool.and_true, Bool.and_false, Bool.true_and, Bool.false_and, Bool.or_true, Bool.or_false, Bool.true_or, Bool.false_or, Bool.not_true, Bool.not_false, ne_eq, not_true_eq_false, not_false_eq_true, true_and, and_true, false_and, and_false, true_or, or_true, false_or, or_false, ite_true, ite_false, Bool.false_eq_true])) D_ (fun _ _ _ => trivial)
    ·
     replace hr4 := eq_of_beq hr4
     refine v_ rfl (J_ (b_ rfl (v_ rfl (g_ (c_ (a_ (e_ rfl) rfl (d_ (b_ rfl (y_ ?_)))))))))
     exact U_ do_ () (ar_ rfl (by have p1 := eq_false hr1; have p2 := eq_false hr2; have p3 := eq_false hr3; have p4 := eq_true hr4; simp only [dk_, p1, p2, p3, p4, if_true, if_false, decide_true, decide_false, Bool.and_true, Bool.and_false, Bool.true_and, Bool.false_and, Bool.or_true, Bool.or_false, Bool.true_or, Bool.false_or, Bool.not_true, Bool.not_false, ne_eq, not_true_eq_false, not_false_eq_true, true_and, and_true, false_and, and_false, true_or, or_true, false_or, or_false, ite_true, ite_false, Bool.false_eq_true])) D_ (fun _ _ _ => trivial)
   ·
    replace hr3 := eq_of_beq hr3
    refine v_ rfl (g_ (c_ (a_ (e_ rfl) rfl (d_ (b_ rfl (y_ ?_))))))
    exact U_ do_ () (ar_ rfl (by have p1 := eq_false hr1; have p2 := eq_false hr2; have p3 := eq_true hr3; simp only [dk_, p1, p2, p3, if_true, if_false, decide_true, decide_false, Bool.and_true, Bool.and_false, Bool.true_and, Bool.false_and, Bool.or_true, Bool.or_false, Bool.true_or, Bool.false_or, Bool.not_true, Bool.not_false, ne_eq, not_true_eq_false, not_false_eq_true, true_and, and_true, false_and, and_false, true_or, or_true, false_or, or_false, ite_true, ite_false, Bool.false_eq_true])) D_ (fun _ _ _ => trivial)
  ·
   replace hr2 := eq_of_beq hr2
   refine v_ rfl (J_ (b_ rfl (v_ rfl (g_ (c_ (a_ (e_ rfl) rfl (d_ (b_ rfl (y_ ?_)))))))))
   exact U_ do_ () (ar_ rfl (by have p1 := eq_false hr1; have p2 := eq_true hr2; simp only [dk_, p1, p2, if_true, if_false, decide_true, decide_false, Bool.and_true, Bool.and_false, Bool.true_and, Bool.false_and, Bool.or_true, Bool.or_false, Bool.true_or, Bool.false_or, Bool.not_true, Bool.not_false, ne_eq, not_true_eq_false, not_false_eq_true, true_and, and_true, false_and, and_false, true_or, or_true, false_or, or_false, ite_true, ite_false, Bool.false_eq_true])) D_ (fun _ _ _ => trivial)
 ·
  replace hr1 := eq_of_beq hr1
  refine v_ rfl (J_ (b_ rfl (v_ rfl (g_ (c_ (a_ (e_ rfl) rfl (d_ (b_ rfl (y_ ?_)))))))))
  exact U_ do_ () (ar_ rfl (by have p1 := eq_true hr1; simp only [dk_, p1, if_true, if_false, decide_true, decide_false, Bool.and_true, Bool.and_false, Bool.true_and, Bool.false_and, Bool.or_true, Bool.or_false, Bool.true_or, Bool.false_or, Bool.not_true, Bool.not_false, ne_eq, not_true_eq_false, not_false_eq_true, true_and, and_true, false_and, and_false, true_or, or_true, false_or, or_false, ite_true, ite_false, Bool.false_eq_true])) D_ (fun _ _ _ => trivial)
theorem nW_ (k : Int) : Fn0 Tryz.prog 81 #[.int .i64 k] (.int .i64 (ci_ k)) := by
 refine V_ Tryz.func81 rfl rfl Tryz.ntmps81 rfl fun v0 => ?_
 refine g_ (c_ (a_ (e_ rfl) rfl (d_ (b_ rfl (g_ (g_ (c_ (a_ (f_ rfl) rfl (d_ ?_)))))))))
 refine b_ rfl (ae_ (g_ (c_ (C_ (ab_ rfl rfl) rfl fun r1 hr1 => ?_))))
 refine a_ (e_ rfl) rfl (d_ (b_ rfl ?_))
 cases r1
 ·
  replace hr1 := ne_of_beq_false hr1
  refine B_ rfl (g_ (c_ (C_ (ab_ rfl rfl) rfl fun r2 hr2 => ?_)))
  refine a_ (e_ rfl) rfl (d_ (b_ rfl ?_))
  cases r2
  ·
   replace hr2 := ne_of_beq_false hr2
   refine B_ rfl (g_ (c_ (C_ (ab_ rfl rfl) rfl fun r3 hr3 => ?_)))
   refine a_ (e_ rfl) rfl (d_ (b_ rfl ?_))
   cases r3
   ·
    replace hr3 := ne_of_beq_false hr3
    refine B_ rfl (g_ (c_ (C_ (ab_ rfl rfl) rfl fun r4 hr4 => ?_)))
    refine a_ (e_ rfl) rfl (d_ (b_ rfl ?_))
    cases r4
    ·
     replace hr4 := ne_of_beq_false hr4
     refine B_ rfl (g_ (c_ (C_ (ab_ rfl rfl) rfl fun r5 hr5 => ?_)))
     refine a_ (e_ rfl) rfl (d_ (b_ rfl ?_))
     cases r5
     ·
      replace hr5 := ne_of_beq_false hr5
      refine B_ rfl (g_ (c_ (C_ (ab_ rfl rfl) rfl fun r6 hr6 => ?_)))
      refine a_ (e_ rfl) rfl (d_ (b_ rfl ?_))
      cases r6
      ·
       replace hr6 := ne_of_beq_false hr6
       refine B_ rfl (g_ (c_ (C_ (ab_ rfl rfl) rfl fun r7 hr7 => ?_)))
       refine a_ (e_ rfl) rfl (d_ (b_ rfl ?_))
       cases r7
       ·
        replace hr7 := ne_of_beq_false hr7
        refine B_ rfl (g_ (c_ (C_ (ab_ rfl rfl) rfl fun r8 hr8 => ?_)))
        refine a_ (e_ rfl) rfl (d_ (b_ rfl ?_))
        cases r8
        ·
         replace hr8 := ne_of_beq_false hr8
         refine B_ rfl (g_ (c_ (C_ (ab_ rfl rfl) rfl fun r9 hr9 => ?_)))
         refine a_ (e_ rfl) rfl (d_ (b_ rfl ?_))
         cases r9
         ·
          replace hr9 := ne_of_beq_false hr9
          refine B_ rfl (J_ (b_ rfl (g_ (c_ (a_ (e_ rfl) rfl (d_ (b_ rfl (y_ ?_))))))))
          exact U_ dn_ () (ar_ rfl (by have p1 := eq_false hr1; have p2 := eq_false hr2; have p3 := eq_false hr3; have p4 := eq_false hr4; have p5 := eq_false hr5; have p6 := eq_false hr6; have p7 := eq_false hr7; have p8 := eq_false hr8; have p9 := eq_false hr9; simp only [ci_, p1, p2, p3, p4, p5, p6, p7, p8, p9, if_true, if_false, decide_true, decide_false, Bool.and_true, Bool.and_false, Bool.true_and, Bool.false_and, Bool.or_true, Bool.or_false, Bool.true_or, Bool.false_or, Bool.not_true, Bool.not_false, ne_eq, not_true_eq_false, not_false_eq_true, true_and, and_true, false_and, and_false, true_or, or_true, false_or, or_false, ite_true, ite_false, Bool.false_eq_true])) D_ (fun _ _ _ => trivial)
         ·
          replace hr9 := eq_of_beq hr9
          refine v_ rfl (g_ (c_ (a_ (e_ rfl) rfl (d_ (b_ rfl (y_ ?_))))))
          exact U_ dn_ () (ar_ rfl (by have p1 := eq_false hr1; have p2 := eq_false hr2; have p3 := eq_false hr3; have p4 := eq_false hr4; have p5 := eq_false hr5; have p6 := eq_false hr6; have p7 := eq_false hr7; have p8 := eq_false hr8; have p9 := eq_true hr9; simp only [ci_, p1, p2, p3, p4, p5, p6, p7, p8, p9, if_true, if_false, decide_true, decide_false, Bool.and_true, Bool.and_false, Bool.true_and, Bool.false_and, Bool.or_true, Bool.or_false, Bool.true_or, Bool.false_or, Bool.not_true, Bool.not_false, ne_eq, not_true_eq_false, not_false_eq_true, true_and, and_true, false_and, and_false, true_or, or_true, false_or, or_false, ite_true, ite_false, Bool.false_eq_true])) D_ (fun _ _ _ => trivial)
        ·
         replace hr8 := eq_of_beq hr8
         refine v_ rfl (g_ (c_ (a_ (e_ rfl) rfl (d_ (b_ rfl (y_ ?_))))))
         exact U_ dn_ () (ar_ rfl (by have p1 := eq_false hr1; have p2 := eq_false hr2; have p3 := eq_false hr3; have p4 := eq_false hr4; have p5 := eq_false hr5; have p6 := eq_false hr6; have p7 := eq_false hr7; have p8 := eq_true hr8; simp only [ci_, p1, p2, p3, p4, p5, p6, p7, p8, if_true, if_false, decide_true, decide_false, Bool.and_true, Bool.and_false, Bool.true_and, Bool.false_and, Bool.or_true, Bool.or_false, Bool.true_or, Bool.false_or, Bool.not_true, Bool.not_false, ne_eq, not_true_eq_false, not_false_eq_true, true_and, and_true, false_and, and_false, true_or, or_true, false_or, or_false, ite_true, ite_false, Bool.false_eq_true])) D_ (fun _ _ _ => trivial)
       ·
        replace hr7 := eq_of_beq hr7
        refine v_ rfl (g_ (c_ (a_ (e_ rfl) rfl (d_ (b_ rfl (y_ ?_))))))
        exact U_ dn_ () (ar_ rfl (by have p1 := eq_false hr1; have p2 := eq_false hr2; have p3 := eq_false hr3; have p4 := eq_false hr4; have p5 := eq_false hr5; have p6 := eq_false hr6; have p7 := eq_true hr7; simp only [ci_, p1, p2, p3, p4, p5, p6, p7, if_true, if_false, decide_true, decide_false, Bool.and_true, Bool.and_false, Bool.true_and, Bool.false_and, Bool.or_true, Bool.or_false, Bool.true_or, Bool.false_or, Bool.not_true, Bool.not_false, ne_eq, not_true_eq_false, not_false_eq_true, true_and, and_true, false_and, and_false, true_or, or_true, false_or, or_false, ite_true, ite_false, Bool.false_eq_true])) D_ (fun _ _ _ => trivial)
      ·
       replace hr6 := eq_of_beq hr6
       refine v_ rfl (g_ (c_ (a_ (e_ rfl) rfl (d_ (b_ rfl (y_ ?_))))))
       exact U_ dn_ () (ar_ rfl (by have p1 := eq_false hr1; have p2 := eq_false hr2; have p3 := eq_false hr3; have p4 := eq_false hr4; have p5 := eq_false hr5; have p6 := eq_true hr6; simp only [ci_, p1, p2, p3, p4, p5, p6, if_true, if_false, decide_true, decide_false, Bool.and_true, Bool.and_false, Bool.true_and, Bool.false_and, Bool.or_true, Bool.or_false, Bool.true_or, Bool.false_or, Bool.not_true, Bool.not_false, ne_eq, not_true_eq_false, not_false_eq_true, true_and, and_true, false_and, and_false, true_or, or_true, false_or, or_false, ite_true, ite_false, Bool.false_eq_true])) D_ (fun _ _ _ => trivial)
     ·
      replace hr5 := eq_of_beq hr5
      refine v_ rfl (g_ (c_ (a_ (e_ rfl) rfl (d_ (b_ rfl (y_ ?_))))))
      exact U_ dn_ () (ar_ rfl (by have p1 := eq_false hr1; have p2 := eq_false hr2; have p3 := eq_false hr3; have p4 := eq_false hr4; have p5 := eq_true hr5; simp only [ci_, p1, p2, p3, p4, p5, if_true, if_false, decide_true, decide_false, Bool.and_true, Bool.and_false, Bool.true_and, Bool.false_and, Bool.or_true, Bool.or_false, Bool.true_or, Bool.false_or, Bool.not_true, Bool.not_false, ne_eq, not_true_eq_false, not_false_eq_true, true_and, and_true, false_and, and_false, true_or, or_true, false_or, or_false, ite_true, ite_false, Bool.false_eq_true])) D_ (fun _ _ _ => trivial)
    ·
     replace hr4 := eq_of_beq hr4
     refine v_ rfl (g_ (c_ (a_ (e_ rfl) rfl (d_ (b_ rfl (y_ ?_))))))
     exact U_ dn_ () (ar_ rfl (by have p1 := eq_false hr1; have p2 := eq_false hr2; have p3 := eq_false hr3; have p4 := eq_true hr4; simp only [ci_, p1, p2, p3, p4, if_true, if_false, decide_true, decide_false, Bool.and_true, Bool.and_false, Bool.true_and, Bool.false_and, Bool.or_true, Bool.or_false, Bool.true_or, Bool.false_or, Bool.not_true, Bool.not_false, ne_eq, not_true_eq_false, not_false_eq_true, true_and, and_true, false_and, and_false, true_or, or_true, false_or, or_false, ite_true, ite_false, Bool.false_eq_true])) D_ (fun _ _ _ => trivial)
   ·
    replace hr3 := eq_of_beq hr3
    refine v_ rfl (g_ (c_ (a_ (e_ rfl) rfl (d_ (b_ rfl (y_ ?_))))))
    exact U_ dn_ () (ar_ rfl (by have p1 := eq_false hr1; have p2 := eq_false hr2; have p3 := eq_true hr3; simp only [ci_, p1, p2, p3, if_true, if_false, decide_true, decide_false, Bool.and_true, Bool.and_false, Bool.true_and, Bool.false_and, Bool.or_true, Bool.or_false, Bool.true_or, Bool.false_or, Bool.not_true, Bool.not_false, ne_eq, not_true_eq_false, not_false_eq_true, true_and, and_true, false_and, and_false, true_or, or_true, false_or, or_false, ite_true, ite_false, Bool.false_eq_true])) D_ (fun _ _ _ => trivial)
  ·
   replace hr2 := eq_of_beq hr2
   refine v_ rfl (g_ (c_ (a_ (e_ rfl) rfl (d_ (b_ rfl (y_ ?_))))))
   exact U_ dn_ () (ar_ rfl (by have p1 := eq_false hr1; have p2 := eq_true hr2; simp only [ci_, p1, p2, if_true, if_false, decide_true, decide_false, Bool.and_true, Bool.and_false, Bool.true_and, Bool.false_and, Bool.or_true, Bool.or_false, Bool.true_or, Bool.false_or, Bool.not_true, Bool.not_false, ne_eq, not_true_eq_false, not_false_eq_true, true_and, and_true, false_and, and_false, true_or, or_true, false_or, or_false, ite_true, ite_false, Bool.false_eq_true])) D_ (fun _ _ _ => trivial)
 ·
  replace hr1 := eq_of_beq hr1
  refine v_ rfl (g_ (c_ (a_ (e_ rfl) rfl (d_ (b_ rfl (y_ ?_))))))
  exact U_ dn_ () (ar_ rfl (by have p1 := eq_true hr1; simp only [ci_, p1, if_true, if_false, decide_true, decide_false, Bool.and_true, Bool.and_false, Bool.true_and, Bool.false_and, Bool.or_true, Bool.or_false, Bool.true_or, Bool.false_or, Bool.not_true, Bool.not_false, ne_eq, not_true_eq_false, not_false_eq_true, true_and, and_true, false_and, and_false, true_or, or_true, false_or, or_false, ite_true, ite_false, Bool.false_eq_true])) D_ (fun _ _ _ => trivial)
theorem hX_ (p : List Pc) (pad : Option Addr) (pcap : Nat) (t : Str) (hpl : p.length ≤ 10000000) : Tri Tryz.prog 153 #[.slice pad (List.length p) pcap, str t] [] [aW_ pad (List.flatMap Pc.cells p)] (fun _ : Unit => .bool (aq_ p t)) (fun _ => []) (fun _ => []) := by
 refine V_ Tryz.func153 rfl rfl Tryz.ntmps153 rfl fun v0 => ?_
 refine g_ (c_ (a_ (e_ rfl) rfl (d_ (b_ rfl (g_ (g_ (c_ (a_ (f_ rfl) rfl (C_ (az_ rfl rfl) rfl fun r1 hr1 => ?_)))))))))
 refine a_ (f_ rfl) rfl ?_
 cases r1
 ·
  replace hr1 := ne_of_beq_false hr1
  refine i_ rfl rfl (a_ (f_ rfl) rfl (i_ rfl rfl (C_ (az_ rfl rfl) rfl fun r2 hr2 => ?_)))
  refine a_ (p_ rfl rfl) rfl (d_ (b_ rfl ?_))
  cases r2
  ·
   replace hr2 := ne_of_beq_false hr2
   refine B_ rfl (J_ (b_ rfl (g_ (g_ (c_ (a_ (e_ rfl) rfl (d_ (b_ rfl (ae_ ?_)))))))))
   refine bF_ (ι := {y : Nat // y ≤ List.length p ∧ ((List.take y p).any (fun x => decide (t ≠ []) && (decide (x.a = t) || (decide (x.b = t) || decide (x.c = t)))) = false)}) (fun y => [(0, .slice pad (List.length p) pcap), (1, str t), (4, .bool false), (5, .int .i64 (y.1 : Int))]) (fun y => ([])) (fun y => [aW_ pad (List.flatMap Pc.cells p)]) (fun y => List.length p - y.1) ⟨(0 : Nat), by simp, by simp⟩ ⟨rfl, rfl, rfl, rfl, trivial⟩ D_ (fun _ _ h => h) ?_
   rintro ⟨i, hi_i, hA⟩
   dsimp only at hi_i hA ⊢
   refine g_ (g_ (c_ (a_ (f_ rfl) rfl (a_ (f_ rfl) rfl (a_ (aC_ aG_ rfl) rfl (C_ (as_ rfl rfl) rfl fun r3 hr3 => ?_))))))
   refine d_ (b_ rfl ?_)
   cases r3
   ·
    replace hr3 := of_decide_eq_false hr3
    refine B_ rfl (bd_ rfl (b_ rfl (g_ (c_ (a_ (e_ rfl) rfl (d_ (b_ rfl (y_ ?_))))))))
    exact U_ hc_ () (q_ rfl (by unfold aq_; rw [show (p.any fun x => decide (t ≠ []) && (decide (x.a = t) || (decide (x.b = t) || decide (x.c = t)))) = false from by have z := hA; rw [List.take_of_length_le (by omega)] at z; exact z]; simp [*])) D_ (fun _ _ _ => trivial)
   ·
    replace hr3 := of_decide_eq_true hr3
    have hlx1 : i < List.length p := by omega
    obtain ⟨x1, hx1⟩ : ∃ e0, p[i]? = some e0 := ⟨_, List.getElem?_eq_getElem hlx1⟩
    have hmx1 : x1 ∈ p := List.mem_of_getElem? hx1
    refine v_ rfl (J_ (b_ rfl (g_ (ae_ (g_ (c_ (a_ (f_ rfl) rfl (C_ (fD_ rfl rfl) rfl fun r4 hr4 => ?_))))))))
    refine a_ (f_ rfl) rfl ?_
    cases r4
    ·
     replace hr4 := bt_ hr4
     refine j_ rfl rfl rfl rfl (j_ rfl rfl rfl rfl (j_ rfl rfl rfl rfl (j_ rfl rfl rfl rfl (j_ rfl rfl rfl rfl (j_ rfl rfl rfl rfl (j_ rfl rfl rfl rfl (j_ rfl rfl rfl rfl (j_ rfl rfl rfl rfl (j_ rfl rfl rfl rfl ?_)))))))))
     refine j_ rfl rfl rfl rfl (j_ rfl rfl rfl rfl (j_ rfl rfl rfl rfl (j_ rfl rfl rfl rfl (j_ rfl rfl rfl rfl (j_ rfl rfl rfl rfl (j_ rfl rfl rfl rfl (j_ rfl rfl rfl rfl (j_ rfl rfl rfl rfl (j_ rfl rfl rfl rfl ?_)))))))))
     refine j_ rfl rfl rfl rfl (j_ rfl rfl rfl rfl (j_ rfl rfl rfl rfl (j_ rfl rfl rfl rfl (j_ rfl rfl rfl rfl (a_ (p_ rfl rfl) rfl (d_ (b_ rfl (B_ rfl (J_ ?_)))))))))
     refine b_ rfl (c_ (a_ (f_ rfl) rfl (a_ (ac_ rfl rfl rfl (aE_ (by omega) (by omega))) rfl (a_ (e_ rfl) rfl (d_ (z_ rfl ?_))))))
     exact aP_ ⟨i + 1, hlx1, by rw [List.take_add_one, hx1]; simp only [Option.toList_some, List.any_append, hA]; simp [*]⟩ (by dsimp only; omega) ⟨rfl, rfl, rfl, rfl, trivial⟩ D_ (fun _ _ h => h)
    ·
     replace hr4 := bs_ hr4
     refine i_ rfl rfl (a_ (f_ rfl) rfl (i_ rfl rfl (a_ (f_ rfl) rfl (i_ rfl rfl (a_ (ag_ aG_ Y_ rfl rfl (fun v _ h => aH_ (n := 10) Pc.cells_len (by decide) (by exact h.1) hx1) (by omega) (by first | omega | (simp; done))) rfl (i_ rfl rfl (a_ (bR_ r_ rfl rfl rfl o_) rfl (i_ rfl rfl (a_ (bb_ (ad := pad) x_ rfl (fun v _ h => by exact h.1) (ak_ Pc.cells_len hx1 1 _ rfl)) rfl ?_)))))))))
     refine i_ rfl rfl (a_ (f_ rfl) rfl (i_ rfl rfl (C_ (az_ rfl rfl) rfl fun r5 hr5 => ?_)))
     refine i_ rfl rfl (a_ (f_ rfl) rfl ?_)
     cases r5
     ·
      replace hr5 := ne_of_beq_false hr5
      refine i_ rfl rfl (a_ (f_ rfl) rfl (i_ rfl rfl (a_ (f_ rfl) rfl (i_ rfl rfl (a_ (ag_ aG_ Y_ rfl rfl (fun v _ h => aH_ (n := 10) Pc.cells_len (by decide) (by exact h.1) hx1) (by omega) (by first | omega | (simp; done))) rfl (i_ rfl rfl (a_ (bR_ r_ rfl rfl rfl o_) rfl (i_ rfl rfl (a_ (bb_ (ad := pad) x_ rfl (fun v _ h => by exact h.1) (ak_ Pc.cells_len hx1 2 _ rfl)) rfl ?_)))))))))
      refine i_ rfl rfl (a_ (f_ rfl) rfl (i_ rfl rfl (C_ (az_ rfl rfl) rfl fun r6 hr6 => ?_)))
      refine i_ rfl rfl (a_ (p_ rfl rfl) rfl (i_ rfl rfl (a_ (f_ rfl) rfl ?_)))
      cases r6
      ·
       replace hr6 := ne_of_beq_false hr6
       refine i_ rfl rfl (a_ (f_ rfl) rfl (i_ rfl rfl (a_ (f_ rfl) rfl (i_ rfl rfl (a_ (ag_ aG_ Y_ rfl rfl (fun v _ h => aH_ (n := 10) Pc.cells_len (by decide) (by exact h.1) hx1) (by omega) (by first | omega | (simp; done))) rfl (i_ rfl rfl (a_ (bR_ r_ rfl rfl rfl o_) rfl (i_ rfl rfl (a_ (bb_ (ad := pad) x_ rfl (fun v _ h => by exact h.1) (ak_ Pc.cells_len hx1 3 _ rfl)) rfl ?_)))))))))
       refine i_ rfl rfl (a_ (f_ rfl) rfl (i_ rfl rfl (C_ (az_ rfl rfl) rfl fun r7 hr7 => ?_)))
       refine i_ rfl rfl (a_ (p_ rfl rfl) rfl (a_ (A_ rfl rfl) rfl (d_ (b_ rfl ?_))))
       cases r7
       ·
        replace hr7 := ne_of_beq_false hr7
        refine B_ rfl (J_ (b_ rfl (c_ (a_ (f_ rfl) rfl (a_ (ac_ rfl rfl rfl (aE_ (by omega) (by omega))) rfl (a_ (e_ rfl) rfl (d_ (z_ rfl ?_))))))))
        exact aP_ ⟨i + 1, hlx1, by rw [List.take_add_one, hx1]; simp only [Option.toList_some, List.any_append, hA]; simp [*]⟩ (by dsimp only; omega) ⟨rfl, rfl, rfl, rfl, trivial⟩ D_ (fun _ _ h => h)
       ·
        replace hr7 := eq_of_beq hr7
        refine v_ rfl (g_ (c_ (a_ (e_ rfl) rfl (d_ (b_ rfl (y_ ?_))))))
        exact U_ hc_ () (q_ rfl (by unfold aq_; rw [show (p.any fun x => decide (t ≠ []) && (decide (x.a = t) || (decide (x.b = t) || decide (x.c = t)))) = true from List.any_eq_true.2 ⟨x1, hmx1, by simp [*]⟩]; simp)) D_ (fun _ _ _ => trivial)
      ·
       replace hr6 := eq_of_beq hr6
       refine j_ rfl rfl rfl rfl (j_ rfl rfl rfl rfl (j_ rfl rfl rfl rfl (j_ rfl rfl rfl rfl (j_ rfl rfl rfl rfl (j_ rfl rfl rfl rfl (j_ rfl rfl rfl rfl (i_ rfl rfl (a_ (A_ rfl rfl) rfl (a_ (A_ rfl rfl) rfl ?_)))))))))
       refine d_ (b_ rfl (v_ rfl (g_ (c_ (a_ (e_ rfl) rfl (d_ (b_ rfl (y_ ?_))))))))
       exact U_ hc_ () (q_ rfl (by unfold aq_; rw [show (p.any fun x => decide (t ≠ []) && (decide (x.a = t) || (decide (x.b = t) || decide (x.c = t)))) = true from List.any_eq_true.2 ⟨x1, hmx1, by simp [*]⟩]; simp)) D_ (fun _ _ _ => trivial)
     ·
      replace hr5 := eq_of_beq hr5
      refine j_ rfl rfl rfl rfl (j_ rfl rfl rfl rfl (j_ rfl rfl rfl rfl (j_ rfl rfl rfl rfl (j_ rfl rfl rfl rfl (j_ rfl rfl rfl rfl (j_ rfl rfl rfl rfl (i_ rfl rfl (a_ (A_ rfl rfl) rfl (i_ rfl rfl ?_)))))))))
      refine a_ (f_ rfl) rfl (j_ rfl rfl rfl rfl (j_ rfl rfl rfl rfl (j_ rfl rfl rfl rfl (j_ rfl rfl rfl rfl (j_ rfl rfl rfl rfl (j_ rfl rfl rfl rfl (j_ rfl rfl rfl rfl (i_ rfl rfl (a_ (A_ rfl rfl) rfl ?_)))))))))
      refine a_ (A_ rfl rfl) rfl (d_ (b_ rfl (v_ rfl (g_ (c_ (a_ (e_ rfl) rfl (d_ (b_ rfl (y_ ?_)))))))))
      exact U_ hc_ () (q_ rfl (by unfold aq_; rw [show (p.any fun x => decide (t ≠ []) && (decide (x.a = t) || (decide (x.b = t) || decide (x.c = t)))) = true from List.any_eq_true.2 ⟨x1, hmx1, by simp [*]⟩]; simp)) D_ (fun _ _ _ => trivial)
  ·
   replace hr2 := eq_of_beq hr2
   refine v_ rfl (g_ (c_ (a_ (e_ rfl) rfl (d_ (b_ rfl (y_ ?_))))))
   exact U_ hc_ () (q_ rfl (by unfold aq_; simp [*])) D_ (fun _ _ _ => trivial)
 ·
  replace hr1 := eq_of_beq hr1
  refine j_ rfl rfl rfl rfl (j_ rfl rfl rfl rfl (a_ (A_ rfl rfl) rfl (d_ (b_ rfl (v_ rfl (g_ (c_ (a_ (e_ rfl) rfl (d_ ?_)))))))))
  refine b_ rfl (y_ ?_)
  exact U_ hc_ () (q_ rfl (by unfold aq_; simp [*])) D_ (fun _ _ _ => trivial)
set_option maxHeartbeats 1000000 in
theorem mk_ (p : List Pc) (pad : Option Addr) (pcap : Nat) (k : Int) (x : Pc) (f g h : Fc) (hpl : p.length ≤ 10000000) : Tri Tryz.prog 82 #[.slice pad (List.length p) pcap, .int .i64 k, Pc.val x, Fc.val f, Fc.val g, Fc.val h] [] [aW_ pad (List.flatMap Pc.cells p)] (fun _ : Unit => .bool (bB_ (aq_ p) k x f g h)) (fun _ => []) (fun _ => []) := by
 refine V_ Tryz.func82 rfl rfl Tryz.ntmps82 rfl fun v0 => ?_
 refine g_ (c_ (aO_ rfl rfl fun b1 => ?_))
 refine aO_ rfl rfl fun b2 => ?_
 refine aO_ rfl rfl fun b3 => ?_
 refine aO_ rfl rfl fun b4 => ?_
 refine a_ (e_ rfl) rfl (d_ (b_ rfl (g_ (g_ (c_ (a_ (f_ rfl) rfl (d_ (b_ rfl (ae_ ?_)))))))))
 refine g_ (c_ (C_ (ab_ rfl rfl) rfl fun r1 hr1 => ?_))
 refine a_ (e_ rfl) rfl (d_ (b_ rfl ?_))
 cases r1
 ·
  replace hr1 := ne_of_beq_false hr1
  refine B_ rfl (g_ (c_ (C_ (ab_ rfl rfl) rfl fun r2 hr2 => ?_)))
  refine a_ (e_ rfl) rfl (d_ (b_ rfl ?_))
  cases r2
  ·
   replace hr2 := ne_of_beq_false hr2
   refine B_ rfl (g_ (c_ (C_ (ab_ rfl rfl) rfl fun r3 hr3 => ?_)))
   refine a_ (e_ rfl) rfl (d_ (b_ rfl ?_))
   cases r3
   ·
    replace hr3 := ne_of_beq_false hr3
    refine B_ rfl (g_ (c_ (C_ (ab_ rfl rfl) rfl fun r4 hr4 => ?_)))
    refine a_ (e_ rfl) rfl (d_ (b_ rfl ?_))
    cases r4
    ·
     replace hr4 := ne_of_beq_false hr4
     refine B_ rfl (g_ (c_ (C_ (ab_ rfl rfl) rfl fun r5 hr5 => ?_)))
     refine a_ (e_ rfl) rfl (d_ (b_ rfl ?_))
     cases r5
     ·
      replace hr5 := ne_of_beq_false hr5
      refine B_ rfl (g_ (c_ (C_ (ab_ rfl rfl) rfl fun r6 hr6 => ?_)))
      refine a_ (e_ rfl) rfl (d_ (b_ rfl ?_))
      cases r6
      ·
       replace hr6 := ne_of_beq_false hr6
       refine B_ rfl (g_ (c_ (C_ (ab_ rfl rfl) rfl fun r7 hr7 => ?_)))
       refine a_ (e_ rfl) rfl (d_ (b_ rfl ?_))
       cases r7
       ·
        replace hr7 := ne_of_beq_false hr7
        refine B_ rfl (g_ (c_ (C_ (ab_ rfl rfl) rfl fun r8 hr8 => ?_)))
        refine a_ (e_ rfl) rfl (d_ (b_ rfl ?_))
        cases r8
        ·
         replace hr8 := ne_of_beq_false hr8
         refine B_ rfl (g_ (c_ (C_ (ab_ rfl rfl) rfl fun r9 hr9 => ?_)))
         refine a_ (e_ rfl) rfl (d_ (b_ rfl ?_))
         cases r9
         ·
          replace hr9 := ne_of_beq_false hr9
          refine B_ rfl (g_ (c_ (C_ (ab_ rfl rfl) rfl fun r10 hr10 => ?_)))
          refine a_ (e_ rfl) rfl (d_ (b_ rfl ?_))
          cases r10
          ·
           replace hr10 := ne_of_beq_false hr10
           refine B_ rfl (g_ (c_ (C_ (ab_ rfl rfl) rfl fun r11 hr11 => ?_)))
           refine a_ (e_ rfl) rfl (d_ (b_ rfl ?_))
           cases r11
           ·
            replace hr11 := ne_of_beq_false hr11
            refine B_ rfl (g_ (c_ (C_ (ab_ rfl rfl) rfl fun r12 hr12 => ?_)))
            refine a_ (e_ rfl) rfl (d_ (b_ rfl ?_))
            cases r12
            ·
             replace hr12 := ne_of_beq_false hr12
             refine B_ rfl (g_ (c_ (C_ (ab_ rfl rfl) rfl fun r13 hr13 => ?_)))
             refine a_ (e_ rfl) rfl (d_ (b_ rfl ?_))
             cases r13
             ·
              replace hr13 := ne_of_beq_false hr13
              refine B_ rfl (g_ (c_ (C_ (ab_ rfl rfl) rfl fun r14 hr14 => ?_)))
              refine a_ (e_ rfl) rfl (d_ (b_ rfl ?_))
              cases r14
              ·
               replace hr14 := ne_of_beq_false hr14
               refine B_ rfl (g_ (c_ (C_ (ab_ rfl rfl) rfl fun r15 hr15 => ?_)))
               refine a_ (e_ rfl) rfl (d_ (b_ rfl ?_))
               cases r15
               ·
                replace hr15 := ne_of_beq_false hr15
                refine B_ rfl (J_ (b_ rfl (g_ (c_ (a_ (h_ k_ rfl rfl rfl w_) rfl (a_ (m_ 1 E_ rfl rfl rfl) rfl (C_ (ab_ rfl rfl) rfl fun r16 hr16 => ?_)))))))
                refine a_ (f_ rfl) rfl ?_
                cases r16
                ·
                 replace hr16 := ne_of_beq_false hr16
                 refine j_ rfl rfl rfl rfl (j_ rfl rfl rfl rfl (j_ rfl rfl rfl rfl (j_ rfl rfl rfl rfl (j_ rfl rfl rfl rfl (j_ rfl rfl rfl rfl (j_ rfl rfl rfl rfl (j_ rfl rfl rfl rfl (j_ rfl rfl rfl rfl (j_ rfl rfl rfl rfl ?_)))))))))
                 refine j_ rfl rfl rfl rfl (a_ (p_ rfl rfl) rfl (a_ (f_ rfl) rfl (j_ rfl rfl rfl rfl (j_ rfl rfl rfl rfl (j_ rfl rfl rfl rfl (j_ rfl rfl rfl rfl (j_ rfl rfl rfl rfl (a_ (p_ rfl rfl) rfl (a_ (f_ rfl) rfl ?_)))))))))
                 refine j_ rfl rfl rfl rfl (j_ rfl rfl rfl rfl (j_ rfl rfl rfl rfl (j_ rfl rfl rfl rfl (j_ rfl rfl rfl rfl (a_ (p_ rfl rfl) rfl (a_ (e_ rfl) rfl (d_ (b_ rfl (y_ ?_)))))))))
                 exact U_ al_ () (q_ rfl (by rw [show bB_ (aq_ p) k x f g h = ff_ (aq_ p) x f g h from by unfold bB_; rw [if_neg hr1, if_neg hr2, if_neg hr3, if_neg hr4, if_neg hr5, if_neg hr6, if_neg hr7, if_neg hr8, if_neg hr9, if_neg hr10, if_neg hr11, if_neg hr12, if_neg hr13, if_neg hr14, if_neg hr15]]; have p1 := eq_false hr16; simp only [ff_, ap_, p1, if_true, if_false, decide_true, decide_false, Bool.and_true, Bool.and_false, Bool.true_and, Bool.false_and, Bool.or_true, Bool.or_false, Bool.true_or, Bool.false_or, Bool.not_true, Bool.not_false, ne_eq, not_true_eq_false, not_false_eq_true, true_and, and_true, false_and, and_false, true_or, or_true, false_or, or_false, ite_true, ite_false, Bool.false_eq_true])) D_ (fun _ _ _ => trivial)
                ·
                 replace hr16 := eq_of_beq hr16
                 refine i_ rfl rfl (a_ (M_ 2 N_ n_ rfl rfl rfl) rfl (i_ rfl rfl (a_ (h_ k_ rfl rfl rfl o_) rfl (i_ rfl rfl (a_ (m_ 1 x_ rfl rfl rfl) rfl (i_ rfl rfl (a_ (h_ k_ rfl rfl rfl o_) rfl (i_ rfl rfl (a_ (m_ 1 x_ rfl rfl rfl) rfl ?_)))))))))
                 refine i_ rfl rfl (a_ (h_ k_ rfl rfl rfl w_) rfl (i_ rfl rfl (a_ (m_ 2 E_ rfl rfl rfl) rfl (i_ rfl rfl (a_ (h_ k_ rfl rfl rfl w_) rfl (i_ rfl rfl (a_ (m_ 2 E_ rfl rfl rfl) rfl (i_ rfl rfl (a_ (ax_ dK_ rfl rfl) rfl ?_)))))))))
                 refine i_ rfl rfl (C_ (af_ (p := f) (q := (Fc.mk 3 (Fc.a g) [] (Fc.r g) (Fc.lo f) (Fc.hi f))) rfl rfl) rfl fun r17 hr17 => ?_)
                 refine a_ (A_ rfl rfl) rfl (a_ (f_ rfl) rfl ?_)
                 cases r17
                 ·
                  replace hr17 := of_decide_eq_false hr17
                  refine j_ rfl rfl rfl rfl (j_ rfl rfl rfl rfl (j_ rfl rfl rfl rfl (j_ rfl rfl rfl rfl (j_ rfl rfl rfl rfl (a_ (p_ rfl rfl) rfl (a_ (f_ rfl) rfl (j_ rfl rfl rfl rfl (j_ rfl rfl rfl rfl (j_ rfl rfl rfl rfl ?_)))))))))
                  refine j_ rfl rfl rfl rfl (j_ rfl rfl rfl rfl (a_ (p_ rfl rfl) rfl (a_ (e_ rfl) rfl (d_ (b_ rfl (y_ ?_))))))
                  exact U_ al_ () (q_ rfl (by rw [show bB_ (aq_ p) k x f g h = ff_ (aq_ p) x f g h from by unfold bB_; rw [if_neg hr1, if_neg hr2, if_neg hr3, if_neg hr4, if_neg hr5, if_neg hr6, if_neg hr7, if_neg hr8, if_neg hr9, if_neg hr10, if_neg hr11, if_neg hr12, if_neg hr13, if_neg hr14, if_neg hr15]]; have p1 := eq_true hr16; have p2 := eq_false hr17; simp only [ff_, ap_, p1, p2, if_true, if_false, decide_true, decide_false, Bool.and_true, Bool.and_false, Bool.true_and, Bool.false_and, Bool.or_true, Bool.or_false, Bool.true_or, Bool.false_or, Bool.not_true, Bool.not_false, ne_eq, not_true_eq_false, not_false_eq_true, true_and, and_true, false_and, and_false, true_or, or_true, false_or, or_false, ite_true, ite_false, Bool.false_eq_true])) D_ (fun _ _ _ => trivial)
                 ·
                  replace hr17 := of_decide_eq_true hr17
                  refine i_ rfl rfl (a_ (h_ k_ rfl rfl rfl w_) rfl (i_ rfl rfl (a_ (m_ 2 E_ rfl rfl rfl) rfl (i_ rfl rfl (a_ (h_ k_ rfl rfl rfl w_) rfl (i_ rfl rfl (a_ (m_ 1 E_ rfl rfl rfl) rfl (i_ rfl rfl (C_ (bC_ rfl rfl) rfl fun r18 hr18 => ?_)))))))))
                  refine a_ (A_ rfl rfl) rfl (a_ (f_ rfl) rfl ?_)
                  cases r18
                  ·
                   replace hr18 := of_decide_eq_false hr18
                   refine j_ rfl rfl rfl rfl (j_ rfl rfl rfl rfl (j_ rfl rfl rfl rfl (j_ rfl rfl rfl rfl (j_ rfl rfl rfl rfl (a_ (p_ rfl rfl) rfl (a_ (e_ rfl) rfl (d_ (b_ rfl (y_ ?_)))))))))
                   exact U_ al_ () (q_ rfl (by rw [show bB_ (aq_ p) k x f g h = ff_ (aq_ p) x f g h from by unfold bB_; rw [if_neg hr1, if_neg hr2, if_neg hr3, if_neg hr4, if_neg hr5, if_neg hr6, if_neg hr7, if_neg hr8, if_neg hr9, if_neg hr10, if_neg hr11, if_neg hr12, if_neg hr13, if_neg hr14, if_neg hr15]]; have p1 := eq_true hr16; have p2 := eq_true hr17; have p3 := eq_false hr18; simp only [ff_, ap_, p1, p2, p3, if_true, if_false, decide_true, decide_false, Bool.and_true, Bool.and_false, Bool.true_and, Bool.false_and, Bool.or_true, Bool.or_false, Bool.true_or, Bool.false_or, Bool.not_true, Bool.not_false, ne_eq, not_true_eq_false, not_false_eq_true, true_and, and_true, false_and, and_false, true_or, or_true, false_or, or_false, ite_true, ite_false, Bool.false_eq_true])) D_ (fun _ _ _ => trivial)
                  ·
                   replace hr18 := of_decide_eq_true hr18
                   refine i_ rfl rfl (a_ (h_ k_ rfl rfl rfl w_) rfl (i_ rfl rfl (a_ (m_ 1 E_ rfl rfl rfl) rfl (i_ rfl rfl (a_ (h_ k_ rfl rfl rfl w_) rfl (i_ rfl rfl (a_ (m_ 2 E_ rfl rfl rfl) rfl (i_ rfl rfl (C_ (bC_ rfl rfl) rfl fun r19 hr19 => ?_)))))))))
                   refine a_ (A_ rfl rfl) rfl (a_ (e_ rfl) rfl (d_ (b_ rfl (y_ ?_))))
                   exact U_ al_ () (q_ rfl (by rw [show bB_ (aq_ p) k x f g h = ff_ (aq_ p) x f g h from by unfold bB_; rw [if_neg hr1, if_neg hr2, if_neg hr3, if_neg hr4, if_neg hr5, if_neg hr6, if_neg hr7, if_neg hr8, if_neg hr9, if_neg hr10, if_neg hr11, if_neg hr12, if_neg hr13, if_neg hr14, if_neg hr15]]; have p1 := eq_true hr16; have p2 := eq_true hr17; have p3 := eq_true hr18; rw [← hr19]; simp only [ff_, ap_, p1, p2, p3, if_true, if_false, decide_true, decide_false, Bool.and_true, Bool.and_false, Bool.true_and, Bool.false_and, Bool.or_true, Bool.or_false, Bool.true_or, Bool.false_or, Bool.not_true, Bool.not_false, ne_eq, not_true_eq_false, not_false_eq_true, true_and, and_true, false_and, and_false, true_or, or_true, false_or, or_false, ite_true, ite_false, Bool.false_eq_true])) D_ (fun _ _ _ => trivial)
               ·
                replace hr15 := eq_of_beq hr15
                refine v_ rfl (g_ ?_)
                refine aw_ (by kernel_rfl) ?_
                refine I_ 3 [0, 1, 2] (by kernel_rfl) (fun _ a b => ⟨a, b⟩) (l_ rfl (M_ 1 N_ n_ rfl rfl rfl) rfl (l_ rfl (h_ k_ rfl rfl rfl o_) rfl (l_ rfl (m_ 2 x_ rfl rfl rfl) rfl (H_ (P_ 3 rfl (by kernel_rfl) (S_ (ec_ (Fc.a f) [33]) rfl D_ (fun _ _ _ => by exact trivial) rfl fun _ => ?_))))))
                refine d_ (z_ rfl (F_ (fun _ a b => ⟨a, b⟩) (I_ 0 [4, 5] (by kernel_rfl) (fun _ a b => ⟨a, b⟩) ?_)))
                refine bf_ rfl (af_ (p := g) (q := (aJ_ (Fc.a f) [33])) rfl rfl) rfl fun r20 hr20 => ?_
                refine l_ rfl (e_ rfl) rfl (H_ (R_ (by kernel_rfl) (b_ rfl (y_ ?_))))
                exact U_ al_ () (q_ rfl (by rw [show bB_ (aq_ p) k x f g h = kX_ (aq_ p) x f g h from by have e := hr15; subst e; rfl]; rw [← hr20]; simp only [kX_, if_true, if_false, decide_true, decide_false, Bool.and_true, Bool.and_false, Bool.true_and, Bool.false_and, Bool.or_true, Bool.or_false, Bool.true_or, Bool.false_or, Bool.not_true, Bool.not_false, ne_eq, not_true_eq_false, not_false_eq_true, true_and, and_true, false_and, and_false, true_or, or_true, false_or, or_false, ite_true, ite_false, Bool.false_eq_true])) D_ (fun _ _ _ => trivial)
              ·
               replace hr14 := eq_of_beq hr14
               refine v_ rfl (g_ ?_)
               refine aw_ (by kernel_rfl) ?_
               refine I_ 37 [0, 1, 2, 3] (by kernel_rfl) (fun _ a b => ⟨a, b⟩) (l_ rfl (h_ k_ rfl rfl rfl w_) rfl (l_ rfl (m_ 1 E_ rfl rfl rfl) rfl ?_))
               refine bf_ rfl (ab_ rfl rfl) rfl fun r21 hr21 => ?_
               refine l_ rfl (f_ rfl) rfl (H_ ?_)
               cases r21
               ·
                replace hr21 := ne_of_beq_false hr21
                refine I_ 0 [4, 5, 6, 7, 8, 9, 10, 11, 12, 13, 14, 15, 16, 17, 18, 19, 20, 21, 22, 23, 24, 25, 26, 27, 28, 29, 30, 31, 32, 33, 34, 35, 36, 37, 38, 39, 40] (by kernel_rfl) (fun _ a b => ⟨a, b⟩) (t_ rfl rfl rfl rfl rfl (t_ rfl rfl rfl rfl rfl (t_ rfl rfl rfl rfl rfl (t_ rfl rfl rfl rfl rfl (t_ rfl rfl rfl rfl rfl (l_ rfl (p_ rfl rfl) rfl (l_ rfl (f_ rfl) rfl (t_ rfl rfl rfl rfl rfl (t_ rfl rfl rfl rfl rfl ?_)))))))))
                refine t_ rfl rfl rfl rfl rfl (t_ rfl rfl rfl rfl rfl (t_ rfl rfl rfl rfl rfl (l_ rfl (p_ rfl rfl) rfl (l_ rfl (f_ rfl) rfl (t_ rfl rfl rfl rfl rfl (t_ rfl rfl rfl rfl rfl (t_ rfl rfl rfl rfl rfl (t_ rfl rfl rfl rfl rfl (t_ rfl rfl rfl rfl rfl ?_)))))))))
                refine l_ rfl (p_ rfl rfl) rfl (l_ rfl (f_ rfl) rfl (t_ rfl rfl rfl rfl rfl (t_ rfl rfl rfl rfl rfl (t_ rfl rfl rfl rfl rfl (t_ rfl rfl rfl rfl rfl (t_ rfl rfl rfl rfl rfl (l_ rfl (p_ rfl rfl) rfl (l_ rfl (f_ rfl) rfl (t_ rfl rfl rfl rfl rfl ?_)))))))))
                refine t_ rfl rfl rfl rfl rfl (t_ rfl rfl rfl rfl rfl (t_ rfl rfl rfl rfl rfl (t_ rfl rfl rfl rfl rfl (t_ rfl rfl rfl rfl rfl (t_ rfl rfl rfl rfl rfl (l_ rfl (p_ rfl rfl) rfl (l_ rfl (e_ rfl) rfl (H_ (R_ (by kernel_rfl) ?_)))))))))
                refine b_ rfl (y_ ?_)
                exact U_ al_ () (q_ rfl (by rw [show bB_ (aq_ p) k x f g h = eg_ (aq_ p) x f g h from by have e := hr14; subst e; rfl]; have p1 := eq_false hr21; simp only [eg_, p1, if_true, if_false, decide_true, decide_false, Bool.and_true, Bool.and_false, Bool.true_and, Bool.false_and, Bool.or_true, Bool.or_false, Bool.true_or, Bool.false_or, Bool.not_true, Bool.not_false, ne_eq, not_true_eq_false, not_false_eq_true, true_and, and_true, false_and, and_false, true_or, or_true, false_or, or_false, ite_true, ite_false, Bool.false_eq_true])) D_ (fun _ _ _ => trivial)
               ·
                replace hr21 := eq_of_beq hr21
                refine I_ 30 [4, 5, 6, 7, 8, 9, 10] (by kernel_rfl) (fun _ a b => ⟨a, b⟩) (u_ rfl rfl rfl (h_ k_ rfl rfl rfl o_) rfl (u_ rfl rfl rfl (m_ 1 x_ rfl rfl rfl) rfl (u_ rfl rfl rfl (h_ k_ rfl rfl rfl o_) rfl (u_ rfl rfl rfl (m_ 2 x_ rfl rfl rfl) rfl ?_))))
                refine ai_ rfl rfl rfl (az_ rfl rfl) rfl fun r22 hr22 => ?_
                refine l_ rfl (A_ rfl rfl) rfl (l_ rfl (f_ rfl) rfl (H_ ?_))
                cases r22
                ·
                 replace hr22 := ne_of_beq_false hr22
                 refine I_ 0 [11, 12, 13, 14, 15, 16, 17, 18, 19, 20, 21, 22, 23, 24, 25, 26, 27, 28, 29, 30, 31, 32, 33, 34, 35, 36, 37, 38, 39, 40] (by kernel_rfl) (fun _ a b => ⟨a, b⟩) (t_ rfl rfl rfl rfl rfl (t_ rfl rfl rfl rfl rfl (t_ rfl rfl rfl rfl rfl (t_ rfl rfl rfl rfl rfl (t_ rfl rfl rfl rfl rfl (l_ rfl (p_ rfl rfl) rfl (l_ rfl (f_ rfl) rfl (t_ rfl rfl rfl rfl rfl (t_ rfl rfl rfl rfl rfl ?_)))))))))
                 refine t_ rfl rfl rfl rfl rfl (t_ rfl rfl rfl rfl rfl (t_ rfl rfl rfl rfl rfl (l_ rfl (p_ rfl rfl) rfl (l_ rfl (f_ rfl) rfl (t_ rfl rfl rfl rfl rfl (t_ rfl rfl rfl rfl rfl (t_ rfl rfl rfl rfl rfl (t_ rfl rfl rfl rfl rfl (t_ rfl rfl rfl rfl rfl ?_)))))))))
                 refine l_ rfl (p_ rfl rfl) rfl (l_ rfl (f_ rfl) rfl (t_ rfl rfl rfl rfl rfl (t_ rfl rfl rfl rfl rfl (t_ rfl rfl rfl rfl rfl (t_ rfl rfl rfl rfl rfl (t_ rfl rfl rfl rfl rfl (t_ rfl rfl rfl rfl rfl (t_ rfl rfl rfl rfl rfl (l_ rfl (p_ rfl rfl) rfl ?_)))))))))
                 refine l_ rfl (e_ rfl) rfl (H_ (R_ (by kernel_rfl) (b_ rfl (y_ ?_))))
                 exact U_ al_ () (q_ rfl (by rw [show bB_ (aq_ p) k x f g h = eg_ (aq_ p) x f g h from by have e := hr14; subst e; rfl]; have p1 := eq_true hr21; have p2 := eq_false hr22; simp only [eg_, p1, p2, if_true, if_false, decide_true, decide_false, Bool.and_true, Bool.and_false, Bool.true_and, Bool.false_and, Bool.or_true, Bool.or_false, Bool.true_or, Bool.false_or, Bool.not_true, Bool.not_false, ne_eq, not_true_eq_false, not_false_eq_true, true_and, and_true, false_and, and_false, true_or, or_true, false_or, or_false, ite_true, ite_false, Bool.false_eq_true])) D_ (fun _ _ _ => trivial)
                ·
                 replace hr22 := eq_of_beq hr22
                 refine I_ 23 [11, 12, 13, 14, 15, 16, 17] (by kernel_rfl) (fun _ a b => ⟨a, b⟩) (u_ rfl rfl rfl (h_ k_ rfl rfl rfl o_) rfl (u_ rfl rfl rfl (m_ 1 x_ rfl rfl rfl) rfl (u_ rfl rfl rfl (h_ r_ rfl rfl rfl o_) rfl (u_ rfl rfl rfl (m_ 3 x_ rfl rfl rfl) rfl ?_))))
                 refine ai_ rfl rfl rfl (az_ rfl rfl) rfl fun r23 hr23 => ?_
                 refine l_ rfl (A_ rfl rfl) rfl (l_ rfl (f_ rfl) rfl (H_ ?_))
                 cases r23
                 ·
                  replace hr23 := ne_of_beq_false hr23
                  refine I_ 0 [18, 19, 20, 21, 22, 23, 24, 25, 26, 27, 28, 29, 30, 31, 32, 33, 34, 35, 36, 37, 38, 39, 40] (by kernel_rfl) (fun _ a b => ⟨a, b⟩) (t_ rfl rfl rfl rfl rfl (t_ rfl rfl rfl rfl rfl (t_ rfl rfl rfl rfl rfl (t_ rfl rfl rfl rfl rfl (t_ rfl rfl rfl rfl rfl (l_ rfl (p_ rfl rfl) rfl (l_ rfl (f_ rfl) rfl (t_ rfl rfl rfl rfl rfl (t_ rfl rfl rfl rfl rfl ?_)))))))))
                  refine t_ rfl rfl rfl rfl rfl (t_ rfl rfl rfl rfl rfl (t_ rfl rfl rfl rfl rfl (l_ rfl (p_ rfl rfl) rfl (l_ rfl (f_ rfl) rfl (t_ rfl rfl rfl rfl rfl (t_ rfl rfl rfl rfl rfl (t_ rfl rfl rfl rfl rfl (t_ rfl rfl rfl rfl rfl (t_ rfl rfl rfl rfl rfl ?_)))))))))
                  refine t_ rfl rfl rfl rfl rfl (t_ rfl rfl rfl rfl rfl (l_ rfl (p_ rfl rfl) rfl (l_ rfl (e_ rfl) rfl (H_ (R_ (by kernel_rfl) (b_ rfl (y_ ?_)))))))
                  exact U_ al_ () (q_ rfl (by rw [show bB_ (aq_ p) k x f g h = eg_ (aq_ p) x f g h from by have e := hr14; subst e; rfl]; have p1 := eq_true hr21; have p2 := eq_true hr22; have p3 := eq_false hr23; simp only [eg_, p1, p2, p3, if_true, if_false, decide_true, decide_false, Bool.and_true, Bool.and_false, Bool.true_and, Bool.false_and, Bool.or_true, Bool.or_false, Bool.true_or, Bool.false_or, Bool.not_true, Bool.not_false, ne_eq, not_true_eq_false, not_false_eq_true, true_and, and_true, false_and, and_false, true_or, or_true, false_or, or_false, ite_true, ite_false, Bool.false_eq_true])) D_ (fun _ _ _ => trivial)
                 ·
                  replace hr23 := eq_of_beq hr23
                  refine I_ 16 [18, 19, 20, 21, 22, 23, 24] (by kernel_rfl) (fun _ a b => ⟨a, b⟩) (u_ rfl rfl rfl (h_ r_ rfl rfl rfl w_) rfl (u_ rfl rfl rfl (m_ 3 E_ rfl rfl rfl) rfl (u_ rfl rfl rfl (h_ k_ rfl rfl rfl w_) rfl (u_ rfl rfl rfl (m_ 1 E_ rfl rfl rfl) rfl ?_))))
                  refine ai_ rfl rfl rfl (bC_ rfl rfl) rfl fun r24 hr24 => ?_
                  refine l_ rfl (A_ rfl rfl) rfl (l_ rfl (f_ rfl) rfl (H_ ?_))
                  cases r24
                  ·
                   replace hr24 := of_decide_eq_false hr24
                   refine I_ 0 [25, 26, 27, 28, 29, 30, 31, 32, 33, 34, 35, 36, 37, 38, 39, 40] (by kernel_rfl) (fun _ a b => ⟨a, b⟩) (t_ rfl rfl rfl rfl rfl (t_ rfl rfl rfl rfl rfl (t_ rfl rfl rfl rfl rfl (t_ rfl rfl rfl rfl rfl (t_ rfl rfl rfl rfl rfl (l_ rfl (p_ rfl rfl) rfl (l_ rfl (f_ rfl) rfl (t_ rfl rfl rfl rfl rfl (t_ rfl rfl rfl rfl rfl ?_)))))))))
                   refine t_ rfl rfl rfl rfl rfl (t_ rfl rfl rfl rfl rfl (t_ rfl rfl rfl rfl rfl (t_ rfl rfl rfl rfl rfl (t_ rfl rfl rfl rfl rfl (l_ rfl (p_ rfl rfl) rfl (l_ rfl (e_ rfl) rfl (H_ (R_ (by kernel_rfl) (b_ rfl ?_)))))))))
                   refine y_ ?_
                   exact U_ al_ () (q_ rfl (by rw [show bB_ (aq_ p) k x f g h = eg_ (aq_ p) x f g h from by have e := hr14; subst e; rfl]; have p1 := eq_true hr21; have p2 := eq_true hr22; have p3 := eq_true hr23; have p4 := eq_false hr24; simp only [eg_, p1, p2, p3, p4, if_true, if_false, decide_true, decide_false, Bool.and_true, Bool.and_false, Bool.true_and, Bool.false_and, Bool.or_true, Bool.or_false, Bool.true_or, Bool.false_or, Bool.not_true, Bool.not_false, ne_eq, not_true_eq_false, not_false_eq_true, true_and, and_true, false_and, and_false, true_or, or_true, false_or, or_false, ite_true, ite_false, Bool.false_eq_true])) D_ (fun _ _ _ => trivial)
                  ·
                   replace hr24 := of_decide_eq_true hr24
                   refine I_ 9 [25, 26, 27, 28, 29, 30, 31] (by kernel_rfl) (fun _ a b => ⟨a, b⟩) (u_ rfl rfl rfl (h_ k_ rfl rfl rfl w_) rfl (u_ rfl rfl rfl (m_ 1 E_ rfl rfl rfl) rfl (u_ rfl rfl rfl (h_ r_ rfl rfl rfl w_) rfl (u_ rfl rfl rfl (m_ 3 E_ rfl rfl rfl) rfl ?_))))
                   refine ai_ rfl rfl rfl (bC_ rfl rfl) rfl fun r25 hr25 => ?_
                   refine l_ rfl (A_ rfl rfl) rfl (l_ rfl (f_ rfl) rfl (H_ ?_))
                   cases r25
                   ·
                    replace hr25 := of_decide_eq_false hr25
                    refine I_ 0 [32, 33, 34, 35, 36, 37, 38, 39, 40] (by kernel_rfl) (fun _ a b => ⟨a, b⟩) (t_ rfl rfl rfl rfl rfl (t_ rfl rfl rfl rfl rfl (t_ rfl rfl rfl rfl rfl (t_ rfl rfl rfl rfl rfl (t_ rfl rfl rfl rfl rfl (t_ rfl rfl rfl rfl rfl (t_ rfl rfl rfl rfl rfl (l_ rfl (p_ rfl rfl) rfl (l_ rfl (e_ rfl) rfl ?_)))))))))
                    refine H_ (R_ (by kernel_rfl) (b_ rfl (y_ ?_)))
                    exact U_ al_ () (q_ rfl (by rw [show bB_ (aq_ p) k x f g h = eg_ (aq_ p) x f g h from by have e := hr14; subst e; rfl]; have p1 := eq_true hr21; have p2 := eq_true hr22; have p3 := eq_true hr23; have p4 := eq_true hr24; have p5 := eq_false hr25; simp only [eg_, p1, p2, p3, p4, p5, if_true, if_false, decide_true, decide_false, Bool.and_true, Bool.and_false, Bool.true_and, Bool.false_and, Bool.or_true, Bool.or_false, Bool.true_or, Bool.false_or, Bool.not_true, Bool.not_false, ne_eq, not_true_eq_false, not_false_eq_true, true_and, and_true, false_and, and_false, true_or, or_true, false_or, or_false, ite_true, ite_false, Bool.false_eq_true])) D_ (fun _ _ _ => trivial)
                   ·
                    replace hr25 := of_decide_eq_true hr25
                    refine I_ 4 [32, 33, 34, 35, 36] (by kernel_rfl) (fun _ a b => ⟨a, b⟩) (u_ rfl rfl rfl (M_ 2 N_ n_ rfl rfl rfl) rfl (u_ rfl rfl rfl (h_ k_ rfl rfl rfl o_) rfl (u_ rfl rfl rfl (m_ 2 x_ rfl rfl rfl) rfl (u_ rfl rfl rfl (h_ r_ rfl rfl rfl o_) rfl (u_ rfl rfl rfl (m_ 3 x_ rfl rfl rfl) rfl (H_ (P_ 37 rfl (by kernel_rfl) (i_ rfl rfl (S_ (ec_ (Fc.a f) (Pc.c x)) rfl D_ (fun _ _ _ => by exact trivial) rfl fun _ => ?_)))))))))
                    refine d_ (z_ rfl (F_ (fun _ a b => ⟨a, b⟩) (I_ 0 [38, 39, 40] (by kernel_rfl) (fun _ a b => ⟨a, b⟩) ?_)))
                    refine ai_ rfl rfl rfl (af_ (p := f) (q := (aJ_ (Fc.a f) (Pc.c x))) rfl rfl) rfl fun r26 hr26 => ?_
                    refine l_ rfl (A_ rfl rfl) rfl (l_ rfl (e_ rfl) rfl (H_ (R_ (by kernel_rfl) (b_ rfl (y_ ?_)))))
                    exact U_ al_ () (q_ rfl (by rw [show bB_ (aq_ p) k x f g h = eg_ (aq_ p) x f g h from by have e := hr14; subst e; rfl]; have p1 := eq_true hr21; have p2 := eq_true hr22; have p3 := eq_true hr23; have p4 := eq_true hr24; have p5 := eq_true hr25; rw [← hr26]; simp only [eg_, p1, p2, p3, p4, p5, if_true, if_false, decide_true, decide_false, Bool.and_true, Bool.and_false, Bool.true_and, Bool.false_and, Bool.or_true, Bool.or_false, Bool.true_or, Bool.false_or, Bool.not_true, Bool.not_false, ne_eq, not_true_eq_false, not_false_eq_true, true_and, and_true, false_and, and_false, true_or, or_true, false_or, or_false, ite_true, ite_false, Bool.false_eq_true])) D_ (fun _ _ _ => trivial)
             ·
              replace hr13 := eq_of_beq hr13
              refine v_ rfl (g_ ?_)
              refine aw_ (by kernel_rfl) ?_
              refine I_ 47 [0, 1, 2, 3] (by kernel_rfl) (fun _ a b => ⟨a, b⟩) (l_ rfl (h_ k_ rfl rfl rfl w_) rfl (l_ rfl (m_ 1 E_ rfl rfl rfl) rfl ?_))
              refine bf_ rfl (ab_ rfl rfl) rfl fun r27 hr27 => ?_
              refine l_ rfl (f_ rfl) rfl (H_ ?_)
              cases r27
              ·
               replace hr27 := ne_of_beq_false hr27
               refine I_ 0 [4, 5, 6, 7, 8, 9, 10, 11, 12, 13, 14, 15, 16, 17, 18, 19, 20, 21, 22, 23, 24, 25, 26, 27, 28, 29, 30, 31, 32, 33, 34, 35, 36, 37, 38, 39, 40, 41, 42, 43, 44, 45, 46, 47, 48, 49, 50] (by kernel_rfl) (fun _ a b => ⟨a, b⟩) (t_ rfl rfl rfl rfl rfl (t_ rfl rfl rfl rfl rfl (t_ rfl rfl rfl rfl rfl (l_ rfl (p_ rfl rfl) rfl (l_ rfl (f_ rfl) rfl (t_ rfl rfl rfl rfl rfl (t_ rfl rfl rfl rfl rfl (t_ rfl rfl rfl rfl rfl (t_ rfl rfl rfl rfl rfl ?_)))))))))
               refine t_ rfl rfl rfl rfl rfl (l_ rfl (p_ rfl rfl) rfl (l_ rfl (f_ rfl) rfl (t_ rfl rfl rfl rfl rfl (t_ rfl rfl rfl rfl rfl (t_ rfl rfl rfl rfl rfl (t_ rfl rfl rfl rfl rfl (t_ rfl rfl rfl rfl rfl (l_ rfl (p_ rfl rfl) rfl (l_ rfl (f_ rfl) rfl ?_)))))))))
               refine t_ rfl rfl rfl rfl rfl (t_ rfl rfl rfl rfl rfl (t_ rfl rfl rfl rfl rfl (t_ rfl rfl rfl rfl rfl (t_ rfl rfl rfl rfl rfl (l_ rfl (p_ rfl rfl) rfl (l_ rfl (f_ rfl) rfl (t_ rfl rfl rfl rfl rfl (t_ rfl rfl rfl rfl rfl (t_ rfl rfl rfl rfl rfl ?_)))))))))
               refine t_ rfl rfl rfl rfl rfl (t_ rfl rfl rfl rfl rfl (t_ rfl rfl rfl rfl rfl (t_ rfl rfl rfl rfl rfl (t_ rfl rfl rfl rfl rfl (t_ rfl rfl rfl rfl rfl (t_ rfl rfl rfl rfl rfl (t_ rfl rfl rfl rfl rfl (t_ rfl rfl rfl rfl rfl (l_ rfl (p_ rfl rfl) rfl ?_)))))))))
               refine l_ rfl (f_ rfl) rfl (t_ rfl rfl rfl rfl rfl (t_ rfl rfl rfl rfl rfl (t_ rfl rfl rfl rfl rfl (t_ rfl rfl rfl rfl rfl (t_ rfl rfl rfl rfl rfl (l_ rfl (p_ rfl rfl) rfl (l_ rfl (e_ rfl) rfl (H_ (R_ (by kernel_rfl) ?_)))))))))
               refine b_ rfl (y_ ?_)
               exact U_ al_ () (q_ rfl (by rw [show bB_ (aq_ p) k x f g h = dA_ (aq_ p) x f g h from by have e := hr13; subst e; rfl]; have p1 := eq_false hr27; simp only [dA_, p1, if_true, if_false, decide_true, decide_false, Bool.and_true, Bool.and_false, Bool.true_and, Bool.false_and, Bool.or_true, Bool.or_false, Bool.true_or, Bool.false_or, Bool.not_true, Bool.not_false, ne_eq, not_true_eq_false, not_false_eq_true, true_and, and_true, false_and, and_false, true_or, or_true, false_or, or_false, ite_true, ite_false, Bool.false_eq_true])) D_ (fun _ _ _ => trivial)
              ·
               replace hr27 := eq_of_beq hr27
               refine I_ 42 [4, 5, 6, 7, 8] (by kernel_rfl) (fun _ a b => ⟨a, b⟩) (u_ rfl rfl rfl (h_ k_ rfl rfl rfl w_) rfl (u_ rfl rfl rfl (m_ 0 E_ rfl rfl rfl) rfl ?_))
               refine ai_ rfl rfl rfl (ab_ rfl rfl) rfl fun r28 hr28 => ?_
               refine l_ rfl (A_ rfl rfl) rfl (l_ rfl (f_ rfl) rfl (H_ ?_))
               cases r28
               ·
                replace hr28 := ne_of_beq_false hr28
                refine I_ 0 [9, 10, 11, 12, 13, 14, 15, 16, 17, 18, 19, 20, 21, 22, 23, 24, 25, 26, 27, 28, 29, 30, 31, 32, 33, 34, 35, 36, 37, 38, 39, 40, 41, 42, 43, 44, 45, 46, 47, 48, 49, 50] (by kernel_rfl) (fun _ a b => ⟨a, b⟩) (t_ rfl rfl rfl rfl rfl (t_ rfl rfl rfl rfl rfl (t_ rfl rfl rfl rfl rfl (t_ rfl rfl rfl rfl rfl (t_ rfl rfl rfl rfl rfl (l_ rfl (p_ rfl rfl) rfl (l_ rfl (f_ rfl) rfl (t_ rfl rfl rfl rfl rfl (t_ rfl rfl rfl rfl rfl ?_)))))))))
                refine t_ rfl rfl rfl rfl rfl (t_ rfl rfl rfl rfl rfl (t_ rfl rfl rfl rfl rfl (l_ rfl (p_ rfl rfl) rfl (l_ rfl (f_ rfl) rfl (t_ rfl rfl rfl rfl rfl (t_ rfl rfl rfl rfl rfl (t_ rfl rfl rfl rfl rfl (t_ rfl rfl rfl rfl rfl (t_ rfl rfl rfl rfl rfl ?_)))))))))
                refine l_ rfl (p_ rfl rfl) rfl (l_ rfl (f_ rfl) rfl (t_ rfl rfl rfl rfl rfl (t_ rfl rfl rfl rfl rfl (t_ rfl rfl rfl rfl rfl (t_ rfl rfl rfl rfl rfl (t_ rfl rfl rfl rfl rfl (t_ rfl rfl rfl rfl rfl (t_ rfl rfl rfl rfl rfl (t_ rfl rfl rfl rfl rfl ?_)))))))))
                refine t_ rfl rfl rfl rfl rfl (t_ rfl rfl rfl rfl rfl (t_ rfl rfl rfl rfl rfl (t_ rfl rfl rfl rfl rfl (l_ rfl (p_ rfl rfl) rfl (l_ rfl (f_ rfl) rfl (t_ rfl rfl rfl rfl rfl (t_ rfl rfl rfl rfl rfl (t_ rfl rfl rfl rfl rfl (t_ rfl rfl rfl rfl rfl ?_)))))))))
                refine t_ rfl rfl rfl rfl rfl (l_ rfl (p_ rfl rfl) rfl (l_ rfl (e_ rfl) rfl (H_ (R_ (by kernel_rfl) (b_ rfl (y_ ?_))))))
                exact U_ al_ () (q_ rfl (by rw [show bB_ (aq_ p) k x f g h = dA_ (aq_ p) x f g h from by have e := hr13; subst e; rfl]; have p1 := eq_true hr27; have p2 := eq_false hr28; simp only [dA_, p1, p2, if_true, if_false, decide_true, decide_false, Bool.and_true, Bool.and_false, Bool.true_and, Bool.false_and, Bool.or_true, Bool.or_false, Bool.true_or, Bool.false_or, Bool.not_true, Bool.not_false, ne_eq, not_true_eq_false, not_false_eq_true, true_and, and_true, false_and, and_false, true_or, or_true, false_or, or_false, ite_true, ite_false, Bool.false_eq_true])) D_ (fun _ _ _ => trivial)
               ·
                replace hr28 := eq_of_beq hr28
                refine I_ 35 [9, 10, 11, 12, 13, 14, 15] (by kernel_rfl) (fun _ a b => ⟨a, b⟩) (u_ rfl rfl rfl (h_ k_ rfl rfl rfl o_) rfl (u_ rfl rfl rfl (m_ 1 x_ rfl rfl rfl) rfl (u_ rfl rfl rfl (h_ k_ rfl rfl rfl o_) rfl (u_ rfl rfl rfl (m_ 2 x_ rfl rfl rfl) rfl ?_))))
                refine ai_ rfl rfl rfl (az_ rfl rfl) rfl fun r29 hr29 => ?_
                refine l_ rfl (A_ rfl rfl) rfl (l_ rfl (f_ rfl) rfl (H_ ?_))
                cases r29
                ·
                 replace hr29 := ne_of_beq_false hr29
                 refine I_ 0 [16, 17, 18, 19, 20, 21, 22, 23, 24, 25, 26, 27, 28, 29, 30, 31, 32, 33, 34, 35, 36, 37, 38, 39, 40, 41, 42, 43, 44, 45, 46, 47, 48, 49, 50] (by kernel_rfl) (fun _ a b => ⟨a, b⟩) (t_ rfl rfl rfl rfl rfl (t_ rfl rfl rfl rfl rfl (t_ rfl rfl rfl rfl rfl (t_ rfl rfl rfl rfl rfl (t_ rfl rfl rfl rfl rfl (l_ rfl (p_ rfl rfl) rfl (l_ rfl (f_ rfl) rfl (t_ rfl rfl rfl rfl rfl (t_ rfl rfl rfl rfl rfl ?_)))))))))
                 refine t_ rfl rfl rfl rfl rfl (t_ rfl rfl rfl rfl rfl (t_ rfl rfl rfl rfl rfl (l_ rfl (p_ rfl rfl) rfl (l_ rfl (f_ rfl) rfl (t_ rfl rfl rfl rfl rfl (t_ rfl rfl rfl rfl rfl (t_ rfl rfl rfl rfl rfl (t_ rfl rfl rfl rfl rfl (t_ rfl rfl rfl rfl rfl ?_)))))))))
                 refine t_ rfl rfl rfl rfl rfl (t_ rfl rfl rfl rfl rfl (t_ rfl rfl rfl rfl rfl (t_ rfl rfl rfl rfl rfl (t_ rfl rfl rfl rfl rfl (t_ rfl rfl rfl rfl rfl (t_ rfl rfl rfl rfl rfl (l_ rfl (p_ rfl rfl) rfl (l_ rfl (f_ rfl) rfl (t_ rfl rfl rfl rfl rfl ?_)))))))))
                 refine t_ rfl rfl rfl rfl rfl (t_ rfl rfl rfl rfl rfl (t_ rfl rfl rfl rfl rfl (t_ rfl rfl rfl rfl rfl (l_ rfl (p_ rfl rfl) rfl (l_ rfl (e_ rfl) rfl (H_ (R_ (by kernel_rfl) (b_ rfl (y_ ?_)))))))))
                 exact U_ al_ () (q_ rfl (by rw [show bB_ (aq_ p) k x f g h = dA_ (aq_ p) x f g h from by have e := hr13; subst e; rfl]; have p1 := eq_true hr27; have p2 := eq_true hr28; have p3 := eq_false hr29; simp only [dA_, p1, p2, p3, if_true, if_false, decide_true, decide_false, Bool.and_true, Bool.and_false, Bool.true_and, Bool.false_and, Bool.or_true, Bool.or_false, Bool.true_or, Bool.false_or, Bool.not_true, Bool.not_false, ne_eq, not_true_eq_false, not_false_eq_true, true_and, and_true, false_and, and_false, true_or, or_true, false_or, or_false, ite_true, ite_false, Bool.false_eq_true])) D_ (fun _ _ _ => trivial)
                ·
                 replace hr29 := eq_of_beq hr29
                 refine I_ 28 [16, 17, 18, 19, 20, 21, 22] (by kernel_rfl) (fun _ a b => ⟨a, b⟩) (u_ rfl rfl rfl (h_ k_ rfl rfl rfl o_) rfl (u_ rfl rfl rfl (m_ 0 x_ rfl rfl rfl) rfl (u_ rfl rfl rfl (h_ k_ rfl rfl rfl o_) rfl (u_ rfl rfl rfl (m_ 2 x_ rfl rfl rfl) rfl ?_))))
                 refine ai_ rfl rfl rfl (az_ rfl rfl) rfl fun r30 hr30 => ?_
                 refine l_ rfl (A_ rfl rfl) rfl (l_ rfl (f_ rfl) rfl (H_ ?_))
                 cases r30
                 ·
                  replace hr30 := ne_of_beq_false hr30
                  refine I_ 0 [23, 24, 25, 26, 27, 28, 29, 30, 31, 32, 33, 34, 35, 36, 37, 38, 39, 40, 41, 42, 43, 44, 45, 46, 47, 48, 49, 50] (by kernel_rfl) (fun _ a b => ⟨a, b⟩) (t_ rfl rfl rfl rfl rfl (t_ rfl rfl rfl rfl rfl (t_ rfl rfl rfl rfl rfl (t_ rfl rfl rfl rfl rfl (t_ rfl rfl rfl rfl rfl (l_ rfl (p_ rfl rfl) rfl (l_ rfl (f_ rfl) rfl (t_ rfl rfl rfl rfl rfl (t_ rfl rfl rfl rfl rfl ?_)))))))))
                  refine t_ rfl rfl rfl rfl rfl (t_ rfl rfl rfl rfl rfl (t_ rfl rfl rfl rfl rfl (t_ rfl rfl rfl rfl rfl (t_ rfl rfl rfl rfl rfl (t_ rfl rfl rfl rfl rfl (t_ rfl rfl rfl rfl rfl (t_ rfl rfl rfl rfl rfl (t_ rfl rfl rfl rfl rfl (t_ rfl rfl rfl rfl rfl ?_)))))))))
                  refine l_ rfl (p_ rfl rfl) rfl (l_ rfl (f_ rfl) rfl (t_ rfl rfl rfl rfl rfl (t_ rfl rfl rfl rfl rfl (t_ rfl rfl rfl rfl rfl (t_ rfl rfl rfl rfl rfl (t_ rfl rfl rfl rfl rfl (l_ rfl (p_ rfl rfl) rfl (l_ rfl (e_ rfl) rfl (H_ ?_)))))))))
                  refine R_ (by kernel_rfl) (b_ rfl (y_ ?_))
                  exact U_ al_ () (q_ rfl (by rw [show bB_ (aq_ p) k x f g h = dA_ (aq_ p) x f g h from by have e := hr13; subst e; rfl]; have p1 := eq_true hr27; have p2 := eq_true hr28; have p3 := eq_true hr29; have p4 := eq_false hr30; simp only [dA_, p1, p2, p3, p4, if_true, if_false, decide_true, decide_false, Bool.and_true, Bool.and_false, Bool.true_and, Bool.false_and, Bool.or_true, Bool.or_false, Bool.true_or, Bool.false_or, Bool.not_true, Bool.not_false, ne_eq, not_true_eq_false, not_false_eq_true, true_and, and_true, false_and, and_false, true_or, or_true, false_or, or_false, ite_true, ite_false, Bool.false_eq_true])) D_ (fun _ _ _ => trivial)
                 ·
                  replace hr30 := eq_of_beq hr30
                  refine I_ 21 [23, 24, 25, 26, 27, 28, 29] (by kernel_rfl) (fun _ a b => ⟨a, b⟩) (u_ rfl rfl rfl (h_ k_ rfl rfl rfl o_) rfl (u_ rfl rfl rfl (m_ 1 x_ rfl rfl rfl) rfl (u_ rfl rfl rfl (h_ k_ rfl rfl rfl o_) rfl (u_ rfl rfl rfl (m_ 0 x_ rfl rfl rfl) rfl ?_))))
                  refine ai_ rfl rfl rfl (az_ rfl rfl) rfl fun r31 hr31 => ?_
                  refine l_ rfl (A_ rfl rfl) rfl (l_ rfl (f_ rfl) rfl (H_ ?_))
                  cases r31
                  ·
                   replace hr31 := ne_of_beq_false hr31
                   refine I_ 0 [30, 31, 32, 33, 34, 35, 36, 37, 38, 39, 40, 41, 42, 43, 44, 45, 46, 47, 48, 49, 50] (by kernel_rfl) (fun _ a b => ⟨a, b⟩) (t_ rfl rfl rfl rfl rfl (t_ rfl rfl rfl rfl rfl (t_ rfl rfl rfl rfl rfl (t_ rfl rfl rfl rfl rfl (t_ rfl rfl rfl rfl rfl (t_ rfl rfl rfl rfl rfl (t_ rfl rfl rfl rfl rfl (t_ rfl rfl rfl rfl rfl (t_ rfl rfl rfl rfl rfl ?_)))))))))
                   refine t_ rfl rfl rfl rfl rfl (t_ rfl rfl rfl rfl rfl (t_ rfl rfl rfl rfl rfl (l_ rfl (p_ rfl rfl) rfl (l_ rfl (f_ rfl) rfl (t_ rfl rfl rfl rfl rfl (t_ rfl rfl rfl rfl rfl (t_ rfl rfl rfl rfl rfl (t_ rfl rfl rfl rfl rfl (t_ rfl rfl rfl rfl rfl ?_)))))))))
                   refine l_ rfl (p_ rfl rfl) rfl (l_ rfl (e_ rfl) rfl (H_ (R_ (by kernel_rfl) (b_ rfl (y_ ?_)))))
                   exact U_ al_ () (q_ rfl (by rw [show bB_ (aq_ p) k x f g h = dA_ (aq_ p) x f g h from by have e := hr13; subst e; rfl]; have p1 := eq_true hr27; have p2 := eq_true hr28; have p3 := eq_true hr29; have p4 := eq_true hr30; have p5 := eq_false hr31; simp only [dA_, p1, p2, p3, p4, p5, if_true, if_false, decide_true, decide_false, Bool.and_true, Bool.and_false, Bool.true_and, Bool.false_and, Bool.or_true, Bool.or_false, Bool.true_or, Bool.false_or, Bool.not_true, Bool.not_false, ne_eq, not_true_eq_false, not_false_eq_true, true_and, and_true, false_and, and_false, true_or, or_true, false_or, or_false, ite_true, ite_false, Bool.false_eq_true])) D_ (fun _ _ _ => trivial)
                  ·
                   replace hr31 := eq_of_beq hr31
                   refine I_ 15 [30, 31, 32, 33, 34, 35] (by kernel_rfl) (fun _ a b => ⟨a, b⟩) (u_ rfl rfl rfl (h_ k_ rfl rfl rfl w_) rfl (u_ rfl rfl rfl (m_ 1 E_ rfl rfl rfl) rfl (u_ rfl rfl rfl (h_ k_ rfl rfl rfl w_) rfl (u_ rfl rfl rfl (m_ 0 E_ rfl rfl rfl) rfl ?_))))
                   refine ai_ rfl rfl rfl (as_ rfl rfl) rfl fun r32 hr32 => ?_
                   refine u_ rfl rfl rfl (f_ rfl) rfl (H_ ?_)
                   cases r32
                   ·
                    replace hr32 := of_decide_eq_false hr32
                    refine I_ 7 [36, 37, 38, 39, 40, 41, 42, 43] (by kernel_rfl) (fun _ a b => ⟨a, b⟩) (u_ rfl rfl rfl (h_ k_ rfl rfl rfl w_) rfl (u_ rfl rfl rfl (m_ 0 E_ rfl rfl rfl) rfl (u_ rfl rfl rfl (h_ k_ rfl rfl rfl w_) rfl (u_ rfl rfl rfl (m_ 1 E_ rfl rfl rfl) rfl ?_))))
                    refine ai_ rfl rfl rfl (as_ rfl rfl) rfl fun r33 hr33 => ?_
                    refine u_ rfl rfl rfl (p_ rfl rfl) rfl (l_ rfl (A_ rfl rfl) rfl (l_ rfl (f_ rfl) rfl (H_ ?_)))
                    cases r33
                    ·
                     replace hr33 := of_decide_eq_false hr33
                     refine I_ 0 [44, 45, 46, 47, 48, 49, 50] (by kernel_rfl) (fun _ a b => ⟨a, b⟩) (t_ rfl rfl rfl rfl rfl (t_ rfl rfl rfl rfl rfl (t_ rfl rfl rfl rfl rfl (t_ rfl rfl rfl rfl rfl (t_ rfl rfl rfl rfl rfl (l_ rfl (p_ rfl rfl) rfl (l_ rfl (e_ rfl) rfl (H_ (R_ (by kernel_rfl) ?_)))))))))
                     refine b_ rfl (y_ ?_)
                     exact U_ al_ () (q_ rfl (by rw [show bB_ (aq_ p) k x f g h = dA_ (aq_ p) x f g h from by have e := hr13; subst e; rfl]; have p1 := eq_true hr27; have p2 := eq_true hr28; have p3 := eq_true hr29; have p4 := eq_true hr30; have p5 := eq_true hr31; have p6 := eq_false hr32; have p7 := eq_false hr33; simp only [dA_, p1, p2, p3, p4, p5, p6, p7, if_true, if_false, decide_true, decide_false, Bool.and_true, Bool.and_false, Bool.true_and, Bool.false_and, Bool.or_true, Bool.or_false, Bool.true_or, Bool.false_or, Bool.not_true, Bool.not_false, ne_eq, not_true_eq_false, not_false_eq_true, true_and, and_true, false_and, and_false, true_or, or_true, false_or, or_false, ite_true, ite_false, Bool.false_eq_true])) D_ (fun _ _ _ => trivial)
                    ·
                     replace hr33 := of_decide_eq_true hr33
                     refine I_ 4 [44, 45, 46] (by kernel_rfl) (fun _ a b => ⟨a, b⟩) (u_ rfl rfl rfl (M_ 2 N_ n_ rfl rfl rfl) rfl (u_ rfl rfl rfl (h_ k_ rfl rfl rfl o_) rfl (u_ rfl rfl rfl (m_ 2 x_ rfl rfl rfl) rfl (H_ (P_ 47 rfl (by kernel_rfl) (i_ rfl rfl (S_ (ec_ (Fc.a f) [33]) rfl D_ (fun _ _ _ => by exact trivial) rfl fun _ => ?_)))))))
                     refine d_ (z_ rfl (F_ (fun _ a b => ⟨a, b⟩) (I_ 0 [48, 49, 50] (by kernel_rfl) (fun _ a b => ⟨a, b⟩) ?_)))
                     refine ai_ rfl rfl rfl (af_ (p := f) (q := (aJ_ (Fc.a f) [33])) rfl rfl) rfl fun r34 hr34 => ?_
                     refine l_ rfl (A_ rfl rfl) rfl (l_ rfl (e_ rfl) rfl (H_ (R_ (by kernel_rfl) (b_ rfl (y_ ?_)))))
                     exact U_ al_ () (q_ rfl (by rw [show bB_ (aq_ p) k x f g h = dA_ (aq_ p) x f g h from by have e := hr13; subst e; rfl]; have p1 := eq_true hr27; have p2 := eq_true hr28; have p3 := eq_true hr29; have p4 := eq_true hr30; have p5 := eq_true hr31; have p6 := eq_false hr32; have p7 := eq_true hr33; rw [← hr34]; simp only [dA_, p1, p2, p3, p4, p5, p6, p7, if_true, if_false, decide_true, decide_false, Bool.and_true, Bool.and_false, Bool.true_and, Bool.false_and, Bool.or_true, Bool.or_false, Bool.true_or, Bool.false_or, Bool.not_true, Bool.not_false, ne_eq, not_true_eq_false, not_false_eq_true, true_and, and_true, false_and, and_false, true_or, or_true, false_or, or_false, ite_true, ite_false, Bool.false_eq_true])) D_ (fun _ _ _ => trivial)
                   ·
                    replace hr32 := of_decide_eq_true hr32
                    refine I_ 4 [36, 37, 38, 39, 40, 41, 42, 43, 44, 45, 46] (by kernel_rfl) (fun _ a b => ⟨a, b⟩) (t_ rfl rfl rfl rfl rfl (t_ rfl rfl rfl rfl rfl (t_ rfl rfl rfl rfl rfl (t_ rfl rfl rfl rfl rfl (t_ rfl rfl rfl rfl rfl (u_ rfl rfl rfl (A_ rfl rfl) rfl (l_ rfl (A_ rfl rfl) rfl (l_ rfl (f_ rfl) rfl (u_ rfl rfl rfl (M_ 2 N_ n_ rfl rfl rfl) rfl ?_)))))))))
                    refine u_ rfl rfl rfl (h_ k_ rfl rfl rfl o_) rfl (u_ rfl rfl rfl (m_ 2 x_ rfl rfl rfl) rfl (H_ (P_ 47 rfl (by kernel_rfl) (i_ rfl rfl (S_ (ec_ (Fc.a f) [33]) rfl D_ (fun _ _ _ => by exact trivial) rfl fun _ => ?_)))))
                    refine d_ (z_ rfl (F_ (fun _ a b => ⟨a, b⟩) (I_ 0 [48, 49, 50] (by kernel_rfl) (fun _ a b => ⟨a, b⟩) ?_)))
                    refine ai_ rfl rfl rfl (af_ (p := f) (q := (aJ_ (Fc.a f) [33])) rfl rfl) rfl fun r35 hr35 => ?_
                    refine l_ rfl (A_ rfl rfl) rfl (l_ rfl (e_ rfl) rfl (H_ (R_ (by kernel_rfl) (b_ rfl (y_ ?_)))))
                    exact U_ al_ () (q_ rfl (by rw [show bB_ (aq_ p) k x f g h = dA_ (aq_ p) x f g h from by have e := hr13; subst e; rfl]; have p1 := eq_true hr27; have p2 := eq_true hr28; have p3 := eq_true hr29; have p4 := eq_true hr30; have p5 := eq_true hr31; have p6 := eq_true hr32; rw [← hr35]; simp only [dA_, p1, p2, p3, p4, p5, p6, if_true, if_false, decide_true, decide_false, Bool.and_true, Bool.and_false, Bool.true_and, Bool.false_and, Bool.or_true, Bool.or_false, Bool.true_or, Bool.false_or, Bool.not_true, Bool.not_false, ne_eq, not_true_eq_false, not_false_eq_true, true_and, and_true, false_and, and_false, true_or, or_true, false_or, or_false, ite_true, ite_false, Bool.false_eq_true])) D_ (fun _ _ _ => trivial)
            ·
             replace hr12 := eq_of_beq hr12
             refine v_ rfl (g_ (c_ (a_ (h_ k_ rfl rfl rfl w_) rfl (a_ (m_ 1 E_ rfl rfl rfl) rfl (C_ (ab_ rfl rfl) rfl fun r36 hr36 => ?_)))))
             refine a_ (f_ rfl) rfl ?_
             cases r36
             ·
              replace hr36 := ne_of_beq_false hr36
              refine j_ rfl rfl rfl rfl (j_ rfl rfl rfl rfl (j_ rfl rfl rfl rfl (a_ (p_ rfl rfl) rfl (a_ (f_ rfl) rfl (j_ rfl rfl rfl rfl (j_ rfl rfl rfl rfl (j_ rfl rfl rfl rfl (j_ rfl rfl rfl rfl (j_ rfl rfl rfl rfl ?_)))))))))
              refine a_ (p_ rfl rfl) rfl (a_ (f_ rfl) rfl (j_ rfl rfl rfl rfl (j_ rfl rfl rfl rfl (j_ rfl rfl rfl rfl (j_ rfl rfl rfl rfl (j_ rfl rfl rfl rfl (a_ (p_ rfl rfl) rfl (a_ (f_ rfl) rfl (j_ rfl rfl rfl rfl ?_)))))))))
              refine j_ rfl rfl rfl rfl (j_ rfl rfl rfl rfl (j_ rfl rfl rfl rfl (j_ rfl rfl rfl rfl (a_ (p_ rfl rfl) rfl (a_ (f_ rfl) rfl (j_ rfl rfl rfl rfl (j_ rfl rfl rfl rfl (j_ rfl rfl rfl rfl (j_ rfl rfl rfl rfl ?_)))))))))
              refine j_ rfl rfl rfl rfl (j_ rfl rfl rfl rfl (j_ rfl rfl rfl rfl (j_ rfl rfl rfl rfl (j_ rfl rfl rfl rfl (j_ rfl rfl rfl rfl (j_ rfl rfl rfl rfl (j_ rfl rfl rfl rfl (j_ rfl rfl rfl rfl (j_ rfl rfl rfl rfl ?_)))))))))
              refine j_ rfl rfl rfl rfl (j_ rfl rfl rfl rfl (j_ rfl rfl rfl rfl (a_ (p_ rfl rfl) rfl (a_ (e_ rfl) rfl (d_ (b_ rfl (y_ ?_)))))))
              exact U_ al_ () (q_ rfl (by rw [show bB_ (aq_ p) k x f g h = eh_ (aq_ p) x f g h from by have e := hr12; subst e; rfl]; have p1 := eq_false hr36; simp only [eh_, ap_, p1, if_true, if_false, decide_true, decide_false, Bool.and_true, Bool.and_false, Bool.true_and, Bool.false_and, Bool.or_true, Bool.or_false, Bool.true_or, Bool.false_or, Bool.not_true, Bool.not_false, ne_eq, not_true_eq_false, not_false_eq_true, true_and, and_true, false_and, and_false, true_or, or_true, false_or, or_false, ite_true, ite_false, Bool.false_eq_true])) D_ (fun _ _ _ => trivial)
             ·
              replace hr36 := eq_of_beq hr36
              refine i_ rfl rfl (a_ (h_ k_ rfl rfl rfl w_) rfl (i_ rfl rfl (a_ (m_ 0 E_ rfl rfl rfl) rfl (i_ rfl rfl (C_ (ab_ rfl rfl) rfl fun r37 hr37 => ?_)))))
              refine a_ (A_ rfl rfl) rfl (a_ (f_ rfl) rfl ?_)
              cases r37
              ·
               replace hr37 := ne_of_beq_false hr37
               refine j_ rfl rfl rfl rfl (j_ rfl rfl rfl rfl (j_ rfl rfl rfl rfl (j_ rfl rfl rfl rfl (j_ rfl rfl rfl rfl (a_ (p_ rfl rfl) rfl (a_ (f_ rfl) rfl (j_ rfl rfl rfl rfl (j_ rfl rfl rfl rfl (j_ rfl rfl rfl rfl ?_)))))))))
               refine j_ rfl rfl rfl rfl (j_ rfl rfl rfl rfl (a_ (p_ rfl rfl) rfl (a_ (f_ rfl) rfl (j_ rfl rfl rfl rfl (j_ rfl rfl rfl rfl (j_ rfl rfl rfl rfl (j_ rfl rfl rfl rfl (j_ rfl rfl rfl rfl (a_ (p_ rfl rfl) rfl ?_)))))))))
               refine a_ (f_ rfl) rfl (j_ rfl rfl rfl rfl (j_ rfl rfl rfl rfl (j_ rfl rfl rfl rfl (j_ rfl rfl rfl rfl (j_ rfl rfl rfl rfl (j_ rfl rfl rfl rfl (j_ rfl rfl rfl rfl (j_ rfl rfl rfl rfl (j_ rfl rfl rfl rfl ?_)))))))))
               refine j_ rfl rfl rfl rfl (j_ rfl rfl rfl rfl (j_ rfl rfl rfl rfl (j_ rfl rfl rfl rfl (j_ rfl rfl rfl rfl (j_ rfl rfl rfl rfl (j_ rfl rfl rfl rfl (j_ rfl rfl rfl rfl (a_ (p_ rfl rfl) rfl (a_ (e_ rfl) rfl ?_)))))))))
               refine d_ (b_ rfl (y_ ?_))
               exact U_ al_ () (q_ rfl (by rw [show bB_ (aq_ p) k x f g h = eh_ (aq_ p) x f g h from by have e := hr12; subst e; rfl]; have p1 := eq_true hr36; have p2 := eq_false hr37; simp only [eh_, ap_, p1, p2, if_true, if_false, decide_true, decide_false, Bool.and_true, Bool.and_false, Bool.true_and, Bool.false_and, Bool.or_true, Bool.or_false, Bool.true_or, Bool.false_or, Bool.not_true, Bool.not_false, ne_eq, not_true_eq_false, not_false_eq_true, true_and, and_true, false_and, and_false, true_or, or_true, false_or, or_false, ite_true, ite_false, Bool.false_eq_true])) D_ (fun _ _ _ => trivial)
              ·
               replace hr37 := eq_of_beq hr37
               refine i_ rfl rfl (a_ (h_ k_ rfl rfl rfl o_) rfl (i_ rfl rfl (a_ (m_ 1 x_ rfl rfl rfl) rfl (i_ rfl rfl (a_ (h_ k_ rfl rfl rfl o_) rfl (i_ rfl rfl (a_ (m_ 2 x_ rfl rfl rfl) rfl (i_ rfl rfl (C_ (az_ rfl rfl) rfl fun r38 hr38 => ?_)))))))))
               refine a_ (A_ rfl rfl) rfl (a_ (f_ rfl) rfl ?_)
               cases r38
               ·
                replace hr38 := ne_of_beq_false hr38
                refine j_ rfl rfl rfl rfl (j_ rfl rfl rfl rfl (j_ rfl rfl rfl rfl (j_ rfl rfl rfl rfl (j_ rfl rfl rfl rfl (a_ (p_ rfl rfl) rfl (a_ (f_ rfl) rfl (j_ rfl rfl rfl rfl (j_ rfl rfl rfl rfl (j_ rfl rfl rfl rfl ?_)))))))))
                refine j_ rfl rfl rfl rfl (j_ rfl rfl rfl rfl (a_ (p_ rfl rfl) rfl (a_ (f_ rfl) rfl (j_ rfl rfl rfl rfl (j_ rfl rfl rfl rfl (j_ rfl rfl rfl rfl (j_ rfl rfl rfl rfl (j_ rfl rfl rfl rfl (j_ rfl rfl rfl rfl ?_)))))))))
                refine j_ rfl rfl rfl rfl (j_ rfl rfl rfl rfl (j_ rfl rfl rfl rfl (j_ rfl rfl rfl rfl (j_ rfl rfl rfl rfl (j_ rfl rfl rfl rfl (j_ rfl rfl rfl rfl (j_ rfl rfl rfl rfl (j_ rfl rfl rfl rfl (j_ rfl rfl rfl rfl ?_)))))))))
                refine j_ rfl rfl rfl rfl (a_ (p_ rfl rfl) rfl (a_ (e_ rfl) rfl (d_ (b_ rfl (y_ ?_)))))
                exact U_ al_ () (q_ rfl (by rw [show bB_ (aq_ p) k x f g h = eh_ (aq_ p) x f g h from by have e := hr12; subst e; rfl]; have p1 := eq_true hr36; have p2 := eq_true hr37; have p3 := eq_false hr38; simp only [eh_, ap_, p1, p2, p3, if_true, if_false, decide_true, decide_false, Bool.and_true, Bool.and_false, Bool.true_and, Bool.false_and, Bool.or_true, Bool.or_false, Bool.true_or, Bool.false_or, Bool.not_true, Bool.not_false, ne_eq, not_true_eq_false, not_false_eq_true, true_and, and_true, false_and, and_false, true_or, or_true, false_or, or_false, ite_true, ite_false, Bool.false_eq_true])) D_ (fun _ _ _ => trivial)
               ·
                replace hr38 := eq_of_beq hr38
                refine i_ rfl rfl (a_ (h_ k_ rfl rfl rfl o_) rfl (i_ rfl rfl (a_ (m_ 0 x_ rfl rfl rfl) rfl (i_ rfl rfl (a_ (h_ k_ rfl rfl rfl o_) rfl (i_ rfl rfl (a_ (m_ 2 x_ rfl rfl rfl) rfl (i_ rfl rfl (C_ (az_ rfl rfl) rfl fun r39 hr39 => ?_)))))))))
                refine a_ (A_ rfl rfl) rfl (a_ (f_ rfl) rfl ?_)
                cases r39
                ·
                 replace hr39 := ne_of_beq_false hr39
                 refine j_ rfl rfl rfl rfl (j_ rfl rfl rfl rfl (j_ rfl rfl rfl rfl (j_ rfl rfl rfl rfl (j_ rfl rfl rfl rfl (a_ (p_ rfl rfl) rfl (a_ (f_ rfl) rfl (j_ rfl rfl rfl rfl (j_ rfl rfl rfl rfl (j_ rfl rfl rfl rfl ?_)))))))))
                 refine j_ rfl rfl rfl rfl (j_ rfl rfl rfl rfl (j_ rfl rfl rfl rfl (j_ rfl rfl rfl rfl (j_ rfl rfl rfl rfl (j_ rfl rfl rfl rfl (j_ rfl rfl rfl rfl (j_ rfl rfl rfl rfl (j_ rfl rfl rfl rfl (j_ rfl rfl rfl rfl ?_)))))))))
                 refine j_ rfl rfl rfl rfl (j_ rfl rfl rfl rfl (j_ rfl rfl rfl rfl (j_ rfl rfl rfl rfl (a_ (p_ rfl rfl) rfl (a_ (e_ rfl) rfl (d_ (b_ rfl (y_ ?_))))))))
                 exact U_ al_ () (q_ rfl (by rw [show bB_ (aq_ p) k x f g h = eh_ (aq_ p) x f g h from by have e := hr12; subst e; rfl]; have p1 := eq_true hr36; have p2 := eq_true hr37; have p3 := eq_true hr38; have p4 := eq_false hr39; simp only [eh_, ap_, p1, p2, p3, p4, if_true, if_false, decide_true, decide_false, Bool.and_true, Bool.and_false, Bool.true_and, Bool.false_and, Bool.or_true, Bool.or_false, Bool.true_or, Bool.false_or, Bool.not_true, Bool.not_false, ne_eq, not_true_eq_false, not_false_eq_true, true_and, and_true, false_and, and_false, true_or, or_true, false_or, or_false, ite_true, ite_false, Bool.false_eq_true])) D_ (fun _ _ _ => trivial)
                ·
                 replace hr39 := eq_of_beq hr39
                 refine i_ rfl rfl (a_ (h_ k_ rfl rfl rfl o_) rfl (i_ rfl rfl (a_ (m_ 1 x_ rfl rfl rfl) rfl (i_ rfl rfl (a_ (h_ k_ rfl rfl rfl o_) rfl (i_ rfl rfl (a_ (m_ 0 x_ rfl rfl rfl) rfl (i_ rfl rfl (C_ (az_ rfl rfl) rfl fun r40 hr40 => ?_)))))))))
                 refine a_ (A_ rfl rfl) rfl (a_ (f_ rfl) rfl ?_)
                 cases r40
                 ·
                  replace hr40 := ne_of_beq_false hr40
                  refine j_ rfl rfl rfl rfl (j_ rfl rfl rfl rfl (j_ rfl rfl rfl rfl (j_ rfl rfl rfl rfl (j_ rfl rfl rfl rfl (j_ rfl rfl rfl rfl (j_ rfl rfl rfl rfl (j_ rfl rfl rfl rfl (j_ rfl rfl rfl rfl (j_ rfl rfl rfl rfl ?_)))))))))
                  refine j_ rfl rfl rfl rfl (j_ rfl rfl rfl rfl (j_ rfl rfl rfl rfl (j_ rfl rfl rfl rfl (j_ rfl rfl rfl rfl (j_ rfl rfl rfl rfl (j_ rfl rfl rfl rfl (a_ (p_ rfl rfl) rfl (a_ (e_ rfl) rfl (d_ ?_)))))))))
                  refine b_ rfl (y_ ?_)
                  exact U_ al_ () (q_ rfl (by rw [show bB_ (aq_ p) k x f g h = eh_ (aq_ p) x f g h from by have e := hr12; subst e; rfl]; have p1 := eq_true hr36; have p2 := eq_true hr37; have p3 := eq_true hr38; have p4 := eq_true hr39; have p5 := eq_false hr40; simp only [eh_, ap_, p1, p2, p3, p4, p5, if_true, if_false, decide_true, decide_false, Bool.and_true, Bool.and_false, Bool.true_and, Bool.false_and, Bool.or_true, Bool.or_false, Bool.true_or, Bool.false_or, Bool.not_true, Bool.not_false, ne_eq, not_true_eq_false, not_false_eq_true, true_and, and_true, false_and, and_false, true_or, or_true, false_or, or_false, ite_true, ite_false, Bool.false_eq_true])) D_ (fun _ _ _ => trivial)
                 ·
                  replace hr40 := eq_of_beq hr40
                  refine i_ rfl rfl (a_ (M_ 2 N_ n_ rfl rfl rfl) rfl (i_ rfl rfl (a_ (h_ k_ rfl rfl rfl o_) rfl (i_ rfl rfl (a_ (m_ 2 x_ rfl rfl rfl) rfl (i_ rfl rfl (a_ (h_ k_ rfl rfl rfl o_) rfl (i_ rfl rfl (a_ (m_ 1 x_ rfl rfl rfl) rfl ?_)))))))))
                  refine i_ rfl rfl (a_ (h_ k_ rfl rfl rfl w_) rfl (i_ rfl rfl (a_ (m_ 1 E_ rfl rfl rfl) rfl (i_ rfl rfl (a_ (h_ k_ rfl rfl rfl w_) rfl (i_ rfl rfl (a_ (m_ 0 E_ rfl rfl rfl) rfl (i_ rfl rfl (a_ (ki_ rfl rfl) rfl ?_)))))))))
                  refine i_ rfl rfl (a_ (h_ k_ rfl rfl rfl w_) rfl (i_ rfl rfl (a_ (m_ 1 E_ rfl rfl rfl) rfl (i_ rfl rfl (a_ (h_ k_ rfl rfl rfl w_) rfl (i_ rfl rfl (a_ (m_ 0 E_ rfl rfl rfl) rfl (i_ rfl rfl (a_ (kh_ rfl rfl) rfl ?_)))))))))
                  refine i_ rfl rfl (a_ (ax_ dK_ rfl rfl) rfl (i_ rfl rfl (C_ (af_ (p := f) (q := (Fc.mk 3 (Fc.a f) [] (Fc.r g) (max (Fc.lo g) (Fc.lo h)) (min (Fc.hi g) (Fc.hi h)))) rfl rfl) rfl fun r41 hr41 => ?_)))
                  refine a_ (A_ rfl rfl) rfl (a_ (e_ rfl) rfl (d_ (b_ rfl (y_ ?_))))
                  exact U_ al_ () (q_ rfl (by rw [show bB_ (aq_ p) k x f g h = eh_ (aq_ p) x f g h from by have e := hr12; subst e; rfl]; have p1 := eq_true hr36; have p2 := eq_true hr37; have p3 := eq_true hr38; have p4 := eq_true hr39; have p5 := eq_true hr40; rw [← hr41]; simp only [eh_, ap_, p1, p2, p3, p4, p5, if_true, if_false, decide_true, decide_false, Bool.and_true, Bool.and_false, Bool.true_and, Bool.false_and, Bool.or_true, Bool.or_false, Bool.true_or, Bool.false_or, Bool.not_true, Bool.not_false, ne_eq, not_true_eq_false, not_false_eq_true, true_and, and_true, false_and, and_false, true_or, or_true, false_or, or_false, ite_true, ite_false, Bool.false_eq_true] <;> exact decide_eq_decide.2 Iff.rfl)) D_ (fun _ _ _ => trivial)
           ·
            replace hr11 := eq_of_beq hr11
            refine v_ rfl (g_ ?_)
            refine aw_ (by kernel_rfl) ?_
            refine I_ 16 [0, 1, 2, 3, 4] (by kernel_rfl) (fun _ a b => ⟨a, b⟩) (l_ rfl (M_ 1 N_ n_ rfl rfl rfl) rfl (l_ rfl (h_ k_ rfl rfl rfl o_) rfl (l_ rfl (m_ 2 x_ rfl rfl rfl) rfl (l_ rfl (h_ r_ rfl rfl rfl o_) rfl (l_ rfl (m_ 3 x_ rfl rfl rfl) rfl (H_ (P_ 5 rfl (by kernel_rfl) (S_ (ec_ (Fc.a f) (Pc.a x)) rfl D_ (fun _ _ _ => by exact trivial) rfl fun _ => ?_))))))))
            refine d_ (z_ rfl (F_ (fun _ a b => ⟨a, b⟩) (I_ 13 [6, 7] (by kernel_rfl) (fun _ a b => ⟨a, b⟩) ?_)))
            refine bf_ rfl (af_ (p := g) (q := (aJ_ (Fc.a f) (Pc.a x))) rfl rfl) rfl fun r42 hr42 => ?_
            refine l_ rfl (f_ rfl) rfl (H_ ?_)
            cases r42
            ·
             replace hr42 := of_decide_eq_false hr42
             refine I_ 0 [8, 9, 10, 11, 12, 13, 14, 15, 16, 17, 18, 19, 20] (by kernel_rfl) (fun _ a b => ⟨a, b⟩) (t_ rfl rfl rfl rfl rfl (t_ rfl rfl rfl rfl rfl (t_ rfl rfl rfl rfl rfl (t_ rfl rfl rfl rfl rfl (t_ rfl rfl rfl rfl rfl (t_ rfl rfl rfl rfl rfl (t_ rfl rfl rfl rfl rfl (t_ rfl rfl rfl rfl rfl (t_ rfl rfl rfl rfl rfl ?_)))))))))
             refine t_ rfl rfl rfl rfl rfl (t_ rfl rfl rfl rfl rfl (l_ rfl (p_ rfl rfl) rfl (l_ rfl (e_ rfl) rfl (H_ (R_ (by kernel_rfl) (b_ rfl (y_ ?_)))))))
             exact U_ al_ () (q_ rfl (by rw [show bB_ (aq_ p) k x f g h = hu_ (aq_ p) x f g h from by have e := hr11; subst e; rfl]; have p1 := eq_false hr42; simp only [hu_, ap_, p1, if_true, if_false, decide_true, decide_false, Bool.and_true, Bool.and_false, Bool.true_and, Bool.false_and, Bool.or_true, Bool.or_false, Bool.true_or, Bool.false_or, Bool.not_true, Bool.not_false, ne_eq, not_true_eq_false, not_false_eq_true, true_and, and_true, false_and, and_false, true_or, or_true, false_or, or_false, ite_true, ite_false, Bool.false_eq_true])) D_ (fun _ _ _ => trivial)
            ·
             replace hr42 := of_decide_eq_true hr42
             refine I_ 0 [8, 9, 10, 11, 12, 13, 14, 15, 16, 17, 18, 19, 20] (by kernel_rfl) (fun _ a b => ⟨a, b⟩) (u_ rfl rfl rfl (M_ 2 N_ n_ rfl rfl rfl) rfl (u_ rfl rfl rfl (h_ k_ rfl rfl rfl o_) rfl (u_ rfl rfl rfl (m_ 2 x_ rfl rfl rfl) rfl (u_ rfl rfl rfl (h_ r_ rfl rfl rfl o_) rfl (u_ rfl rfl rfl (m_ 3 x_ rfl rfl rfl) rfl (u_ rfl rfl rfl (h_ r_ rfl rfl rfl w_) rfl (u_ rfl rfl rfl (m_ 3 E_ rfl rfl rfl) rfl (u_ rfl rfl rfl (h_ r_ rfl rfl rfl w_) rfl (u_ rfl rfl rfl (m_ 3 E_ rfl rfl rfl) rfl ?_)))))))))
             refine u_ rfl rfl rfl (ax_ dK_ rfl rfl) rfl ?_
             refine ai_ rfl rfl rfl (af_ (p := f) (q := (Fc.mk 3 (Fc.a f) [] (Pc.r x) (Pc.lo x) (Pc.hi x))) rfl rfl) rfl fun r43 hr43 => ?_
             refine l_ rfl (A_ rfl rfl) rfl (l_ rfl (e_ rfl) rfl (H_ (R_ (by kernel_rfl) (b_ rfl (y_ ?_)))))
             exact U_ al_ () (q_ rfl (by rw [show bB_ (aq_ p) k x f g h = hu_ (aq_ p) x f g h from by have e := hr11; subst e; rfl]; have p1 := eq_true hr42; rw [← hr43]; simp only [hu_, ap_, p1, if_true, if_false, decide_true, decide_false, Bool.and_true, Bool.and_false, Bool.true_and, Bool.false_and, Bool.or_true, Bool.or_false, Bool.true_or, Bool.false_or, Bool.not_true, Bool.not_false, ne_eq, not_true_eq_false, not_false_eq_true, true_and, and_true, false_and, and_false, true_or, or_true, false_or, or_false, ite_true, ite_false, Bool.false_eq_true] <;> exact decide_eq_decide.2 Iff.rfl)) D_ (fun _ _ _ => trivial)
          ·
           replace hr10 := eq_of_beq hr10
           refine v_ rfl (g_ ?_)
           refine aw_ (by kernel_rfl) ?_
           refine I_ 13 [0, 1, 2] (by kernel_rfl) (fun _ a b => ⟨a, b⟩) (l_ rfl (f_ rfl) rfl (l_ rfl (h_ k_ rfl rfl rfl o_) rfl (l_ rfl (m_ 2 x_ rfl rfl rfl) rfl (H_ (P_ 3 rfl (by kernel_rfl) (X_ (hX_ p pad pcap (Fc.a f) hpl) rfl D_ (fun v _ h => by exact ⟨h.1, trivial⟩) rfl fun r44 hr44 => ?_))))))
           refine d_ (z_ rfl (F_ (fun _ a b => ⟨a, b⟩) (I_ 11 [4] (by kernel_rfl) (fun _ a b => ⟨a, b⟩) (l_ rfl (f_ rfl) rfl (H_ ?_)))))
           cases r44
           ·
            refine I_ 0 [5, 6, 7, 8, 9, 10, 11, 12, 13, 14, 15] (by kernel_rfl) (fun _ a b => ⟨a, b⟩) (t_ rfl rfl rfl rfl rfl (t_ rfl rfl rfl rfl rfl (t_ rfl rfl rfl rfl rfl (t_ rfl rfl rfl rfl rfl (t_ rfl rfl rfl rfl rfl (t_ rfl rfl rfl rfl rfl (t_ rfl rfl rfl rfl rfl (t_ rfl rfl rfl rfl rfl (t_ rfl rfl rfl rfl rfl ?_)))))))))
            refine l_ rfl (p_ rfl rfl) rfl (l_ rfl (e_ rfl) rfl (H_ (R_ (by kernel_rfl) (b_ rfl (y_ ?_)))))
            exact U_ al_ () (q_ rfl (by rw [show bB_ (aq_ p) k x f g h = hv_ (aq_ p) x f g h from by have e := hr10; subst e; rfl]; simp only [hv_, hr44, if_true, if_false, decide_true, decide_false, Bool.and_true, Bool.and_false, Bool.true_and, Bool.false_and, Bool.or_true, Bool.or_false, Bool.true_or, Bool.false_or, Bool.not_true, Bool.not_false, ne_eq, not_true_eq_false, not_false_eq_true, true_and, and_true, false_and, and_false, true_or, or_true, false_or, or_false, ite_true, ite_false, Bool.false_eq_true])) D_ (fun _ _ _ => trivial)
           ·
            refine I_ 4 [5, 6, 7, 8, 9, 10, 11] (by kernel_rfl) (fun _ a b => ⟨a, b⟩) (u_ rfl rfl rfl (M_ 2 N_ n_ rfl rfl rfl) rfl (u_ rfl rfl rfl (h_ k_ rfl rfl rfl o_) rfl (u_ rfl rfl rfl (m_ 2 x_ rfl rfl rfl) rfl (u_ rfl rfl rfl (h_ r_ rfl rfl rfl o_) rfl (u_ rfl rfl rfl (m_ 3 x_ rfl rfl rfl) rfl (u_ rfl rfl rfl (h_ k_ rfl rfl rfl o_) rfl (u_ rfl rfl rfl (m_ 2 x_ rfl rfl rfl) rfl (H_ (P_ 12 rfl (by kernel_rfl) ?_)))))))))
            refine i_ rfl rfl (S_ (dt_ (Fc.a f) (Pc.r x) (Fc.a f)) rfl D_ (fun _ _ _ => by exact trivial) rfl fun _ => ?_)
            refine d_ (z_ rfl (F_ (fun _ a b => ⟨a, b⟩) (I_ 0 [13, 14, 15] (by kernel_rfl) (fun _ a b => ⟨a, b⟩) ?_)))
            refine ai_ rfl rfl rfl (af_ (p := f) (q := (bw_ (Fc.a f) (Pc.r x) (Fc.a f))) rfl rfl) rfl fun r45 hr45 => ?_
            refine l_ rfl (A_ rfl rfl) rfl (l_ rfl (e_ rfl) rfl (H_ (R_ (by kernel_rfl) (b_ rfl (y_ ?_)))))
            exact U_ al_ () (q_ rfl (by rw [show bB_ (aq_ p) k x f g h = hv_ (aq_ p) x f g h from by have e := hr10; subst e; rfl]; rw [← hr45]; simp only [hv_, hr44, if_true, if_false, decide_true, decide_false, Bool.and_true, Bool.and_false, Bool.true_and, Bool.false_and, Bool.or_true, Bool.or_false, Bool.true_or, Bool.false_or, Bool.not_true, Bool.not_false, ne_eq, not_true_eq_false, not_false_eq_true, true_and, and_true, false_and, and_false, true_or, or_true, false_or, or_false, ite_true, ite_false, Bool.false_eq_true])) D_ (fun _ _ _ => trivial)
         ·
          replace hr9 := eq_of_beq hr9
          refine v_ rfl (g_ ?_)
          refine aw_ (by kernel_rfl) ?_
          refine I_ 17 [0, 1, 2, 3, 4, 5, 6] (by kernel_rfl) (fun _ a b => ⟨a, b⟩) (l_ rfl (M_ 1 N_ n_ rfl rfl rfl) rfl (l_ rfl (h_ k_ rfl rfl rfl o_) rfl (l_ rfl (m_ 2 x_ rfl rfl rfl) rfl (l_ rfl (h_ k_ rfl rfl rfl o_) rfl (l_ rfl (m_ 1 x_ rfl rfl rfl) rfl (l_ rfl (h_ k_ rfl rfl rfl o_) rfl (l_ rfl (m_ 1 x_ rfl rfl rfl) rfl (H_ (P_ 7 rfl (by kernel_rfl) ?_)))))))))
          refine S_ (dt_ (Fc.a f) (Fc.r g) (Fc.b g)) rfl D_ (fun _ _ _ => by exact trivial) rfl fun _ => ?_
          refine d_ (z_ rfl (F_ (fun _ a b => ⟨a, b⟩) (I_ 14 [8, 9] (by kernel_rfl) (fun _ a b => ⟨a, b⟩) ?_)))
          refine bf_ rfl (af_ (p := g) (q := (bw_ (Fc.a f) (Fc.r g) (Fc.b g))) rfl rfl) rfl fun r46 hr46 => ?_
          refine l_ rfl (f_ rfl) rfl (H_ ?_)
          cases r46
          ·
           replace hr46 := of_decide_eq_false hr46
           refine I_ 0 [10, 11, 12, 13, 14, 15, 16, 17, 18, 19, 20, 21, 22, 23] (by kernel_rfl) (fun _ a b => ⟨a, b⟩) (t_ rfl rfl rfl rfl rfl (t_ rfl rfl rfl rfl rfl (t_ rfl rfl rfl rfl rfl (t_ rfl rfl rfl rfl rfl (t_ rfl rfl rfl rfl rfl (l_ rfl (p_ rfl rfl) rfl (l_ rfl (f_ rfl) rfl (t_ rfl rfl rfl rfl rfl (t_ rfl rfl rfl rfl rfl ?_)))))))))
           refine t_ rfl rfl rfl rfl rfl (t_ rfl rfl rfl rfl rfl (t_ rfl rfl rfl rfl rfl (l_ rfl (p_ rfl rfl) rfl (l_ rfl (e_ rfl) rfl (H_ (R_ (by kernel_rfl) (b_ rfl (y_ ?_))))))))
           exact U_ al_ () (q_ rfl (by rw [show bB_ (aq_ p) k x f g h = ir_ (aq_ p) x f g h from by have e := hr9; subst e; rfl]; have p1 := eq_false hr46; simp only [ir_, p1, if_true, if_false, decide_true, decide_false, Bool.and_true, Bool.and_false, Bool.true_and, Bool.false_and, Bool.or_true, Bool.or_false, Bool.true_or, Bool.false_or, Bool.not_true, Bool.not_false, ne_eq, not_true_eq_false, not_false_eq_true, true_and, and_true, false_and, and_false, true_or, or_true, false_or, or_false, ite_true, ite_false, Bool.false_eq_true])) D_ (fun _ _ _ => trivial)
          ·
           replace hr46 := of_decide_eq_true hr46
           refine I_ 11 [10, 11, 12] (by kernel_rfl) (fun _ a b => ⟨a, b⟩) (u_ rfl rfl rfl (M_ 0 N_ n_ rfl rfl rfl) rfl (u_ rfl rfl rfl (h_ k_ rfl rfl rfl o_) rfl (u_ rfl rfl rfl (m_ 1 x_ rfl rfl rfl) rfl (H_ (P_ 13 rfl (by kernel_rfl) (i_ rfl rfl (S_ (ec_ (Fc.b g) [33]) rfl D_ (fun _ _ _ => by exact trivial) rfl fun _ => ?_)))))))
           refine d_ (z_ rfl (F_ (fun _ a b => ⟨a, b⟩) (I_ 7 [14, 15, 16] (by kernel_rfl) (fun _ a b => ⟨a, b⟩) ?_)))
           refine ai_ rfl rfl rfl (af_ (p := h) (q := (aJ_ (Fc.b g) [33])) rfl rfl) rfl fun r47 hr47 => ?_
           refine l_ rfl (A_ rfl rfl) rfl (l_ rfl (f_ rfl) rfl (H_ ?_))
           cases r47
           ·
            replace hr47 := of_decide_eq_false hr47
            refine I_ 0 [17, 18, 19, 20, 21, 22, 23] (by kernel_rfl) (fun _ a b => ⟨a, b⟩) (t_ rfl rfl rfl rfl rfl (t_ rfl rfl rfl rfl rfl (t_ rfl rfl rfl rfl rfl (t_ rfl rfl rfl rfl rfl (t_ rfl rfl rfl rfl rfl (l_ rfl (p_ rfl rfl) rfl (l_ rfl (e_ rfl) rfl (H_ (R_ (by kernel_rfl) ?_)))))))))
            refine b_ rfl (y_ ?_)
            exact U_ al_ () (q_ rfl (by rw [show bB_ (aq_ p) k x f g h = ir_ (aq_ p) x f g h from by have e := hr9; subst e; rfl]; have p1 := eq_true hr46; have p2 := eq_false hr47; simp only [ir_, p1, p2, if_true, if_false, decide_true, decide_false, Bool.and_true, Bool.and_false, Bool.true_and, Bool.false_and, Bool.or_true, Bool.or_false, Bool.true_or, Bool.false_or, Bool.not_true, Bool.not_false, ne_eq, not_true_eq_false, not_false_eq_true, true_and, and_true, false_and, and_false, true_or, or_true, false_or, or_false, ite_true, ite_false, Bool.false_eq_true])) D_ (fun _ _ _ => trivial)
           ·
            replace hr47 := of_decide_eq_true hr47
            refine I_ 4 [17, 18, 19] (by kernel_rfl) (fun _ a b => ⟨a, b⟩) (u_ rfl rfl rfl (M_ 2 N_ n_ rfl rfl rfl) rfl (u_ rfl rfl rfl (h_ k_ rfl rfl rfl o_) rfl (u_ rfl rfl rfl (m_ 2 x_ rfl rfl rfl) rfl (H_ (P_ 20 rfl (by kernel_rfl) (i_ rfl rfl (S_ (ec_ (Fc.a f) [33]) rfl D_ (fun _ _ _ => by exact trivial) rfl fun _ => ?_)))))))
            refine d_ (z_ rfl (F_ (fun _ a b => ⟨a, b⟩) (I_ 0 [21, 22, 23] (by kernel_rfl) (fun _ a b => ⟨a, b⟩) ?_)))
            refine ai_ rfl rfl rfl (af_ (p := f) (q := (aJ_ (Fc.a f) [33])) rfl rfl) rfl fun r48 hr48 => ?_
            refine l_ rfl (A_ rfl rfl) rfl (l_ rfl (e_ rfl) rfl (H_ (R_ (by kernel_rfl) (b_ rfl (y_ ?_)))))
            exact U_ al_ () (q_ rfl (by rw [show bB_ (aq_ p) k x f g h = ir_ (aq_ p) x f g h from by have e := hr9; subst e; rfl]; have p1 := eq_true hr46; have p2 := eq_true hr47; rw [← hr48]; simp only [ir_, p1, p2, if_true, if_false, decide_true, decide_false, Bool.and_true, Bool.and_false, Bool.true_and, Bool.false_and, Bool.or_true, Bool.or_false, Bool.true_or, Bool.false_or, Bool.not_true, Bool.not_false, ne_eq, not_true_eq_false, not_false_eq_true, true_and, and_true, false_and, and_false, true_or, or_true, false_or, or_false, ite_true, ite_false, Bool.false_eq_true])) D_ (fun _ _ _ => trivial)
        ·
         replace hr8 := eq_of_beq hr8
         refine v_ rfl (g_ ?_)
         refine aw_ (by kernel_rfl) ?_
         refine I_ 21 [0, 1, 2, 3, 4, 5, 6] (by kernel_rfl) (fun _ a b => ⟨a, b⟩) (l_ rfl (M_ 1 N_ n_ rfl rfl rfl) rfl (l_ rfl (h_ k_ rfl rfl rfl o_) rfl (l_ rfl (m_ 2 x_ rfl rfl rfl) rfl (l_ rfl (h_ r_ rfl rfl rfl o_) rfl (l_ rfl (m_ 3 x_ rfl rfl rfl) rfl (l_ rfl (h_ k_ rfl rfl rfl o_) rfl (l_ rfl (m_ 1 x_ rfl rfl rfl) rfl (H_ (P_ 7 rfl (by kernel_rfl) ?_)))))))))
         refine S_ (dt_ (Fc.a f) (Pc.r x) (Fc.b g)) rfl D_ (fun _ _ _ => by exact trivial) rfl fun _ => ?_
         refine d_ (z_ rfl (F_ (fun _ a b => ⟨a, b⟩) (I_ 18 [8, 9] (by kernel_rfl) (fun _ a b => ⟨a, b⟩) ?_)))
         refine bf_ rfl (af_ (p := g) (q := (bw_ (Fc.a f) (Pc.r x) (Fc.b g))) rfl rfl) rfl fun r49 hr49 => ?_
         refine l_ rfl (f_ rfl) rfl (H_ ?_)
         cases r49
         ·
          replace hr49 := of_decide_eq_false hr49
          refine I_ 0 [10, 11, 12, 13, 14, 15, 16, 17, 18, 19, 20, 21, 22, 23, 24, 25, 26, 27] (by kernel_rfl) (fun _ a b => ⟨a, b⟩) (t_ rfl rfl rfl rfl rfl (t_ rfl rfl rfl rfl rfl (t_ rfl rfl rfl rfl rfl (t_ rfl rfl rfl rfl rfl (t_ rfl rfl rfl rfl rfl (t_ rfl rfl rfl rfl rfl (t_ rfl rfl rfl rfl rfl (l_ rfl (p_ rfl rfl) rfl (l_ rfl (f_ rfl) rfl ?_)))))))))
          refine t_ rfl rfl rfl rfl rfl (t_ rfl rfl rfl rfl rfl (t_ rfl rfl rfl rfl rfl (t_ rfl rfl rfl rfl rfl (t_ rfl rfl rfl rfl rfl (t_ rfl rfl rfl rfl rfl (t_ rfl rfl rfl rfl rfl (l_ rfl (p_ rfl rfl) rfl (l_ rfl (e_ rfl) rfl (H_ ?_)))))))))
          refine R_ (by kernel_rfl) (b_ rfl (y_ ?_))
          exact U_ al_ () (q_ rfl (by rw [show bB_ (aq_ p) k x f g h = is_ (aq_ p) x f g h from by have e := hr8; subst e; rfl]; have p1 := eq_false hr49; simp only [is_, p1, if_true, if_false, decide_true, decide_false, Bool.and_true, Bool.and_false, Bool.true_and, Bool.false_and, Bool.or_true, Bool.or_false, Bool.true_or, Bool.false_or, Bool.not_true, Bool.not_false, ne_eq, not_true_eq_false, not_false_eq_true, true_and, and_true, false_and, and_false, true_or, or_true, false_or, or_false, ite_true, ite_false, Bool.false_eq_true])) D_ (fun _ _ _ => trivial)
         ·
          replace hr49 := of_decide_eq_true hr49
          refine I_ 13 [10, 11, 12, 13, 14] (by kernel_rfl) (fun _ a b => ⟨a, b⟩) (u_ rfl rfl rfl (M_ 0 N_ n_ rfl rfl rfl) rfl (u_ rfl rfl rfl (h_ k_ rfl rfl rfl o_) rfl (u_ rfl rfl rfl (m_ 1 x_ rfl rfl rfl) rfl (u_ rfl rfl rfl (h_ r_ rfl rfl rfl o_) rfl (u_ rfl rfl rfl (m_ 3 x_ rfl rfl rfl) rfl (H_ (P_ 15 rfl (by kernel_rfl) (i_ rfl rfl (S_ (ec_ (Fc.b g) (Pc.a x)) rfl D_ (fun _ _ _ => by exact trivial) rfl fun _ => ?_)))))))))
          refine d_ (z_ rfl (F_ (fun _ a b => ⟨a, b⟩) (I_ 9 [16, 17, 18] (by kernel_rfl) (fun _ a b => ⟨a, b⟩) ?_)))
          refine ai_ rfl rfl rfl (af_ (p := h) (q := (aJ_ (Fc.b g) (Pc.a x))) rfl rfl) rfl fun r50 hr50 => ?_
          refine l_ rfl (A_ rfl rfl) rfl (l_ rfl (f_ rfl) rfl (H_ ?_))
          cases r50
          ·
           replace hr50 := of_decide_eq_false hr50
           refine I_ 0 [19, 20, 21, 22, 23, 24, 25, 26, 27] (by kernel_rfl) (fun _ a b => ⟨a, b⟩) (t_ rfl rfl rfl rfl rfl (t_ rfl rfl rfl rfl rfl (t_ rfl rfl rfl rfl rfl (t_ rfl rfl rfl rfl rfl (t_ rfl rfl rfl rfl rfl (t_ rfl rfl rfl rfl rfl (t_ rfl rfl rfl rfl rfl (l_ rfl (p_ rfl rfl) rfl (l_ rfl (e_ rfl) rfl ?_)))))))))
           refine H_ (R_ (by kernel_rfl) (b_ rfl (y_ ?_)))
           exact U_ al_ () (q_ rfl (by rw [show bB_ (aq_ p) k x f g h = is_ (aq_ p) x f g h from by have e := hr8; subst e; rfl]; have p1 := eq_true hr49; have p2 := eq_false hr50; simp only [is_, p1, p2, if_true, if_false, decide_true, decide_false, Bool.and_true, Bool.and_false, Bool.true_and, Bool.false_and, Bool.or_true, Bool.or_false, Bool.true_or, Bool.false_or, Bool.not_true, Bool.not_false, ne_eq, not_true_eq_false, not_false_eq_true, true_and, and_true, false_and, and_false, true_or, or_true, false_or, or_false, ite_true, ite_false, Bool.false_eq_true])) D_ (fun _ _ _ => trivial)
          ·
           replace hr50 := of_decide_eq_true hr50
           refine I_ 4 [19, 20, 21, 22, 23] (by kernel_rfl) (fun _ a b => ⟨a, b⟩) (u_ rfl rfl rfl (M_ 2 N_ n_ rfl rfl rfl) rfl (u_ rfl rfl rfl (h_ k_ rfl rfl rfl o_) rfl (u_ rfl rfl rfl (m_ 2 x_ rfl rfl rfl) rfl (u_ rfl rfl rfl (h_ r_ rfl rfl rfl o_) rfl (u_ rfl rfl rfl (m_ 3 x_ rfl rfl rfl) rfl (H_ (P_ 24 rfl (by kernel_rfl) (i_ rfl rfl (S_ (ec_ (Fc.a f) (Pc.c x)) rfl D_ (fun _ _ _ => by exact trivial) rfl fun _ => ?_)))))))))
           refine d_ (z_ rfl (F_ (fun _ a b => ⟨a, b⟩) (I_ 0 [25, 26, 27] (by kernel_rfl) (fun _ a b => ⟨a, b⟩) ?_)))
           refine ai_ rfl rfl rfl (af_ (p := f) (q := (aJ_ (Fc.a f) (Pc.c x))) rfl rfl) rfl fun r51 hr51 => ?_
           refine l_ rfl (A_ rfl rfl) rfl (l_ rfl (e_ rfl) rfl (H_ (R_ (by kernel_rfl) (b_ rfl (y_ ?_)))))
           exact U_ al_ () (q_ rfl (by rw [show bB_ (aq_ p) k x f g h = is_ (aq_ p) x f g h from by have e := hr8; subst e; rfl]; have p1 := eq_true hr49; have p2 := eq_true hr50; rw [← hr51]; simp only [is_, p1, p2, if_true, if_false, decide_true, decide_false, Bool.and_true, Bool.and_false, Bool.true_and, Bool.false_and, Bool.or_true, Bool.or_false, Bool.true_or, Bool.false_or, Bool.not_true, Bool.not_false, ne_eq, not_true_eq_false, not_false_eq_true, true_and, and_true, false_and, and_false, true_or, or_true, false_or, or_false, ite_true, ite_false, Bool.false_eq_true])) D_ (fun _ _ _ => trivial)
       ·
        replace hr7 := eq_of_beq hr7
        refine v_ rfl (g_ ?_)
        refine aw_ (by kernel_rfl) ?_
        refine I_ 25 [0, 1, 2, 3, 4, 5, 6] (by kernel_rfl) (fun _ a b => ⟨a, b⟩) (l_ rfl (M_ 1 N_ n_ rfl rfl rfl) rfl (l_ rfl (h_ k_ rfl rfl rfl o_) rfl (l_ rfl (m_ 2 x_ rfl rfl rfl) rfl (l_ rfl (h_ r_ rfl rfl rfl o_) rfl (l_ rfl (m_ 3 x_ rfl rfl rfl) rfl (l_ rfl (h_ k_ rfl rfl rfl o_) rfl (l_ rfl (m_ 1 x_ rfl rfl rfl) rfl (H_ (P_ 7 rfl (by kernel_rfl) ?_)))))))))
        refine S_ (dt_ (Fc.a f) (Pc.r x) (Fc.b g)) rfl D_ (fun _ _ _ => by exact trivial) rfl fun _ => ?_
        refine d_ (z_ rfl (F_ (fun _ a b => ⟨a, b⟩) (I_ 22 [8, 9] (by kernel_rfl) (fun _ a b => ⟨a, b⟩) ?_)))
        refine bf_ rfl (af_ (p := g) (q := (bw_ (Fc.a f) (Pc.r x) (Fc.b g))) rfl rfl) rfl fun r52 hr52 => ?_
        refine l_ rfl (f_ rfl) rfl (H_ ?_)
        cases r52
        ·
         replace hr52 := of_decide_eq_false hr52
         refine I_ 0 [10, 11, 12, 13, 14, 15, 16, 17, 18, 19, 20, 21, 22, 23, 24, 25, 26, 27, 28, 29, 30, 31] (by kernel_rfl) (fun _ a b => ⟨a, b⟩) (t_ rfl rfl rfl rfl rfl (t_ rfl rfl rfl rfl rfl (t_ rfl rfl rfl rfl rfl (t_ rfl rfl rfl rfl rfl (t_ rfl rfl rfl rfl rfl (t_ rfl rfl rfl rfl rfl (t_ rfl rfl rfl rfl rfl (t_ rfl rfl rfl rfl rfl (t_ rfl rfl rfl rfl rfl ?_)))))))))
         refine l_ rfl (p_ rfl rfl) rfl (l_ rfl (f_ rfl) rfl (t_ rfl rfl rfl rfl rfl (t_ rfl rfl rfl rfl rfl (t_ rfl rfl rfl rfl rfl (t_ rfl rfl rfl rfl rfl (t_ rfl rfl rfl rfl rfl (t_ rfl rfl rfl rfl rfl (t_ rfl rfl rfl rfl rfl (t_ rfl rfl rfl rfl rfl ?_)))))))))
         refine t_ rfl rfl rfl rfl rfl (l_ rfl (p_ rfl rfl) rfl (l_ rfl (e_ rfl) rfl (H_ (R_ (by kernel_rfl) (b_ rfl (y_ ?_))))))
         exact U_ al_ () (q_ rfl (by rw [show bB_ (aq_ p) k x f g h = it_ (aq_ p) x f g h from by have e := hr7; subst e; rfl]; have p1 := eq_false hr52; simp only [it_, p1, if_true, if_false, decide_true, decide_false, Bool.and_true, Bool.and_false, Bool.true_and, Bool.false_and, Bool.or_true, Bool.or_false, Bool.true_or, Bool.false_or, Bool.not_true, Bool.not_false, ne_eq, not_true_eq_false, not_false_eq_true, true_and, and_true, false_and, and_false, true_or, or_true, false_or, or_false, ite_true, ite_false, Bool.false_eq_true])) D_ (fun _ _ _ => trivial)
        ·
         replace hr52 := of_decide_eq_true hr52
         refine I_ 15 [10, 11, 12, 13, 14, 15, 16] (by kernel_rfl) (fun _ a b => ⟨a, b⟩) (u_ rfl rfl rfl (M_ 0 N_ n_ rfl rfl rfl) rfl (u_ rfl rfl rfl (h_ k_ rfl rfl rfl o_) rfl (u_ rfl rfl rfl (m_ 1 x_ rfl rfl rfl) rfl (u_ rfl rfl rfl (h_ r_ rfl rfl rfl o_) rfl (u_ rfl rfl rfl (m_ 3 x_ rfl rfl rfl) rfl (u_ rfl rfl rfl (h_ k_ rfl rfl rfl o_) rfl (u_ rfl rfl rfl (m_ 2 x_ rfl rfl rfl) rfl (H_ (P_ 17 rfl (by kernel_rfl) ?_)))))))))
         refine i_ rfl rfl (S_ (dt_ (Fc.b g) (Pc.s x) (Fc.b f)) rfl D_ (fun _ _ _ => by exact trivial) rfl fun _ => ?_)
         refine d_ (z_ rfl (F_ (fun _ a b => ⟨a, b⟩) (I_ 11 [18, 19, 20] (by kernel_rfl) (fun _ a b => ⟨a, b⟩) ?_)))
         refine ai_ rfl rfl rfl (af_ (p := h) (q := (bw_ (Fc.b g) (Pc.s x) (Fc.b f))) rfl rfl) rfl fun r53 hr53 => ?_
         refine l_ rfl (A_ rfl rfl) rfl (l_ rfl (f_ rfl) rfl (H_ ?_))
         cases r53
         ·
          replace hr53 := of_decide_eq_false hr53
          refine I_ 0 [21, 22, 23, 24, 25, 26, 27, 28, 29, 30, 31] (by kernel_rfl) (fun _ a b => ⟨a, b⟩) (t_ rfl rfl rfl rfl rfl (t_ rfl rfl rfl rfl rfl (t_ rfl rfl rfl rfl rfl (t_ rfl rfl rfl rfl rfl (t_ rfl rfl rfl rfl rfl (t_ rfl rfl rfl rfl rfl (t_ rfl rfl rfl rfl rfl (t_ rfl rfl rfl rfl rfl (t_ rfl rfl rfl rfl rfl ?_)))))))))
          refine l_ rfl (p_ rfl rfl) rfl (l_ rfl (e_ rfl) rfl (H_ (R_ (by kernel_rfl) (b_ rfl (y_ ?_)))))
          exact U_ al_ () (q_ rfl (by rw [show bB_ (aq_ p) k x f g h = it_ (aq_ p) x f g h from by have e := hr7; subst e; rfl]; have p1 := eq_true hr52; have p2 := eq_false hr53; simp only [it_, p1, p2, if_true, if_false, decide_true, decide_false, Bool.and_true, Bool.and_false, Bool.true_and, Bool.false_and, Bool.or_true, Bool.or_false, Bool.true_or, Bool.false_or, Bool.not_true, Bool.not_false, ne_eq, not_true_eq_false, not_false_eq_true, true_and, and_true, false_and, and_false, true_or, or_true, false_or, or_false, ite_true, ite_false, Bool.false_eq_true])) D_ (fun _ _ _ => trivial)
         ·
          replace hr53 := of_decide_eq_true hr53
          refine I_ 4 [21, 22, 23, 24, 25, 26, 27] (by kernel_rfl) (fun _ a b => ⟨a, b⟩) (u_ rfl rfl rfl (M_ 2 N_ n_ rfl rfl rfl) rfl (u_ rfl rfl rfl (h_ k_ rfl rfl rfl o_) rfl (u_ rfl rfl rfl (m_ 2 x_ rfl rfl rfl) rfl (u_ rfl rfl rfl (h_ r_ rfl rfl rfl o_) rfl (u_ rfl rfl rfl (m_ 3 x_ rfl rfl rfl) rfl (u_ rfl rfl rfl (h_ k_ rfl rfl rfl o_) rfl (u_ rfl rfl rfl (m_ 2 x_ rfl rfl rfl) rfl (H_ (P_ 28 rfl (by kernel_rfl) ?_)))))))))
          refine i_ rfl rfl (S_ (dt_ (Fc.a f) (Pc.t x) (Fc.b f)) rfl D_ (fun _ _ _ => by exact trivial) rfl fun _ => ?_)
          refine d_ (z_ rfl (F_ (fun _ a b => ⟨a, b⟩) (I_ 0 [29, 30, 31] (by kernel_rfl) (fun _ a b => ⟨a, b⟩) ?_)))
          refine ai_ rfl rfl rfl (af_ (p := f) (q := (bw_ (Fc.a f) (Pc.t x) (Fc.b f))) rfl rfl) rfl fun r54 hr54 => ?_
          refine l_ rfl (A_ rfl rfl) rfl (l_ rfl (e_ rfl) rfl (H_ (R_ (by kernel_rfl) (b_ rfl (y_ ?_)))))
          exact U_ al_ () (q_ rfl (by rw [show bB_ (aq_ p) k x f g h = it_ (aq_ p) x f g h from by have e := hr7; subst e; rfl]; have p1 := eq_true hr52; have p2 := eq_true hr53; rw [← hr54]; simp only [it_, p1, p2, if_true, if_false, decide_true, decide_false, Bool.and_true, Bool.and_false, Bool.true_and, Bool.false_and, Bool.or_true, Bool.or_false, Bool.true_or, Bool.false_or, Bool.not_true, Bool.not_false, ne_eq, not_true_eq_false, not_false_eq_true, true_and, and_true, false_and, and_false, true_or, or_true, false_or, or_false, ite_true, ite_false, Bool.false_eq_true])) D_ (fun _ _ _ => trivial)
      ·
       replace hr6 := eq_of_beq hr6
       refine v_ rfl (g_ ?_)
       refine aw_ (by kernel_rfl) ?_
       refine I_ 14 [0, 1, 2, 3, 4, 5, 6] (by kernel_rfl) (fun _ a b => ⟨a, b⟩) (l_ rfl (M_ 1 N_ n_ rfl rfl rfl) rfl (l_ rfl (h_ k_ rfl rfl rfl o_) rfl (l_ rfl (m_ 2 x_ rfl rfl rfl) rfl (l_ rfl (h_ r_ rfl rfl rfl o_) rfl (l_ rfl (m_ 3 x_ rfl rfl rfl) rfl (l_ rfl (h_ k_ rfl rfl rfl o_) rfl (l_ rfl (m_ 2 x_ rfl rfl rfl) rfl (H_ (P_ 7 rfl (by kernel_rfl) ?_)))))))))
       refine S_ (dt_ (Fc.a f) (Pc.r x) (Fc.b f)) rfl D_ (fun _ _ _ => by exact trivial) rfl fun _ => ?_
       refine d_ (z_ rfl (F_ (fun _ a b => ⟨a, b⟩) (I_ 11 [8, 9] (by kernel_rfl) (fun _ a b => ⟨a, b⟩) ?_)))
       refine bf_ rfl (af_ (p := g) (q := (bw_ (Fc.a f) (Pc.r x) (Fc.b f))) rfl rfl) rfl fun r55 hr55 => ?_
       refine l_ rfl (f_ rfl) rfl (H_ ?_)
       cases r55
       ·
        replace hr55 := of_decide_eq_false hr55
        refine I_ 0 [10, 11, 12, 13, 14, 15, 16, 17, 18, 19, 20] (by kernel_rfl) (fun _ a b => ⟨a, b⟩) (t_ rfl rfl rfl rfl rfl (t_ rfl rfl rfl rfl rfl (t_ rfl rfl rfl rfl rfl (t_ rfl rfl rfl rfl rfl (t_ rfl rfl rfl rfl rfl (t_ rfl rfl rfl rfl rfl (t_ rfl rfl rfl rfl rfl (t_ rfl rfl rfl rfl rfl (t_ rfl rfl rfl rfl rfl ?_)))))))))
        refine l_ rfl (p_ rfl rfl) rfl (l_ rfl (e_ rfl) rfl (H_ (R_ (by kernel_rfl) (b_ rfl (y_ ?_)))))
        exact U_ al_ () (q_ rfl (by rw [show bB_ (aq_ p) k x f g h = kT_ (aq_ p) x f g h from by have e := hr6; subst e; rfl]; have p1 := eq_false hr55; simp only [kT_, p1, if_true, if_false, decide_true, decide_false, Bool.and_true, Bool.and_false, Bool.true_and, Bool.false_and, Bool.or_true, Bool.or_false, Bool.true_or, Bool.false_or, Bool.not_true, Bool.not_false, ne_eq, not_true_eq_false, not_false_eq_true, true_and, and_true, false_and, and_false, true_or, or_true, false_or, or_false, ite_true, ite_false, Bool.false_eq_true])) D_ (fun _ _ _ => trivial)
       ·
        replace hr55 := of_decide_eq_true hr55
        refine I_ 4 [10, 11, 12, 13, 14, 15, 16] (by kernel_rfl) (fun _ a b => ⟨a, b⟩) (u_ rfl rfl rfl (M_ 2 N_ n_ rfl rfl rfl) rfl (u_ rfl rfl rfl (h_ k_ rfl rfl rfl o_) rfl (u_ rfl rfl rfl (m_ 2 x_ rfl rfl rfl) rfl (u_ rfl rfl rfl (h_ r_ rfl rfl rfl o_) rfl (u_ rfl rfl rfl (m_ 3 x_ rfl rfl rfl) rfl (u_ rfl rfl rfl (h_ k_ rfl rfl rfl o_) rfl (u_ rfl rfl rfl (m_ 2 x_ rfl rfl rfl) rfl (H_ (P_ 17 rfl (by kernel_rfl) ?_)))))))))
        refine i_ rfl rfl (S_ (dt_ (Fc.a f) (Pc.t x) (Fc.b f)) rfl D_ (fun _ _ _ => by exact trivial) rfl fun _ => ?_)
        refine d_ (z_ rfl (F_ (fun _ a b => ⟨a, b⟩) (I_ 0 [18, 19, 20] (by kernel_rfl) (fun _ a b => ⟨a, b⟩) ?_)))
        refine ai_ rfl rfl rfl (af_ (p := f) (q := (bw_ (Fc.a f) (Pc.t x) (Fc.b f))) rfl rfl) rfl fun r56 hr56 => ?_
        refine l_ rfl (A_ rfl rfl) rfl (l_ rfl (e_ rfl) rfl (H_ (R_ (by kernel_rfl) (b_ rfl (y_ ?_)))))
        exact U_ al_ () (q_ rfl (by rw [show bB_ (aq_ p) k x f g h = kT_ (aq_ p) x f g h from by have e := hr6; subst e; rfl]; have p1 := eq_true hr55; rw [← hr56]; simp only [kT_, p1, if_true, if_false, decide_true, decide_false, Bool.and_true, Bool.and_false, Bool.true_and, Bool.false_and, Bool.or_true, Bool.or_false, Bool.true_or, Bool.false_or, Bool.not_true, Bool.not_false, ne_eq, not_true_eq_false, not_false_eq_true, true_and, and_true, false_and, and_false, true_or, or_true, false_or, or_false, ite_true, ite_false, Bool.false_eq_true])) D_ (fun _ _ _ => trivial)
     ·
      replace hr5 := eq_of_beq hr5
      refine v_ rfl (g_ ?_)
      refine aw_ (by kernel_rfl) ?_
      refine I_ 14 [0, 1, 2, 3, 4] (by kernel_rfl) (fun _ a b => ⟨a, b⟩) (l_ rfl (M_ 1 N_ n_ rfl rfl rfl) rfl (l_ rfl (h_ k_ rfl rfl rfl o_) rfl (l_ rfl (m_ 2 x_ rfl rfl rfl) rfl (l_ rfl (h_ r_ rfl rfl rfl o_) rfl (l_ rfl (m_ 3 x_ rfl rfl rfl) rfl (H_ (P_ 5 rfl (by kernel_rfl) (S_ (ec_ (Fc.a f) (Pc.a x)) rfl D_ (fun _ _ _ => by exact trivial) rfl fun _ => ?_))))))))
      refine d_ (z_ rfl (F_ (fun _ a b => ⟨a, b⟩) (I_ 11 [6, 7] (by kernel_rfl) (fun _ a b => ⟨a, b⟩) ?_)))
      refine bf_ rfl (af_ (p := g) (q := (aJ_ (Fc.a f) (Pc.a x))) rfl rfl) rfl fun r57 hr57 => ?_
      refine l_ rfl (f_ rfl) rfl (H_ ?_)
      cases r57
      ·
       replace hr57 := of_decide_eq_false hr57
       refine I_ 0 [8, 9, 10, 11, 12, 13, 14, 15, 16, 17, 18] (by kernel_rfl) (fun _ a b => ⟨a, b⟩) (t_ rfl rfl rfl rfl rfl (t_ rfl rfl rfl rfl rfl (t_ rfl rfl rfl rfl rfl (t_ rfl rfl rfl rfl rfl (t_ rfl rfl rfl rfl rfl (t_ rfl rfl rfl rfl rfl (t_ rfl rfl rfl rfl rfl (t_ rfl rfl rfl rfl rfl (t_ rfl rfl rfl rfl rfl ?_)))))))))
       refine l_ rfl (p_ rfl rfl) rfl (l_ rfl (e_ rfl) rfl (H_ (R_ (by kernel_rfl) (b_ rfl (y_ ?_)))))
       exact U_ al_ () (q_ rfl (by rw [show bB_ (aq_ p) k x f g h = kU_ (aq_ p) x f g h from by have e := hr5; subst e; rfl]; have p1 := eq_false hr57; simp only [kU_, p1, if_true, if_false, decide_true, decide_false, Bool.and_true, Bool.and_false, Bool.true_and, Bool.false_and, Bool.or_true, Bool.or_false, Bool.true_or, Bool.false_or, Bool.not_true, Bool.not_false, ne_eq, not_true_eq_false, not_false_eq_true, true_and, and_true, false_and, and_false, true_or, or_true, false_or, or_false, ite_true, ite_false, Bool.false_eq_true])) D_ (fun _ _ _ => trivial)
      ·
       replace hr57 := of_decide_eq_true hr57
       refine I_ 4 [8, 9, 10, 11, 12, 13, 14] (by kernel_rfl) (fun _ a b => ⟨a, b⟩) (u_ rfl rfl rfl (M_ 2 N_ n_ rfl rfl rfl) rfl (u_ rfl rfl rfl (h_ k_ rfl rfl rfl o_) rfl (u_ rfl rfl rfl (m_ 2 x_ rfl rfl rfl) rfl (u_ rfl rfl rfl (h_ r_ rfl rfl rfl o_) rfl (u_ rfl rfl rfl (m_ 3 x_ rfl rfl rfl) rfl (u_ rfl rfl rfl (h_ r_ rfl rfl rfl o_) rfl (u_ rfl rfl rfl (m_ 3 x_ rfl rfl rfl) rfl (H_ (P_ 15 rfl (by kernel_rfl) ?_)))))))))
       refine i_ rfl rfl (S_ (dt_ (Fc.a f) (Pc.r x) (Pc.c x)) rfl D_ (fun _ _ _ => by exact trivial) rfl fun _ => ?_)
       refine d_ (z_ rfl (F_ (fun _ a b => ⟨a, b⟩) (I_ 0 [16, 17, 18] (by kernel_rfl) (fun _ a b => ⟨a, b⟩) ?_)))
       refine ai_ rfl rfl rfl (af_ (p := f) (q := (bw_ (Fc.a f) (Pc.r x) (Pc.c x))) rfl rfl) rfl fun r58 hr58 => ?_
       refine l_ rfl (A_ rfl rfl) rfl (l_ rfl (e_ rfl) rfl (H_ (R_ (by kernel_rfl) (b_ rfl (y_ ?_)))))
       exact U_ al_ () (q_ rfl (by rw [show bB_ (aq_ p) k x f g h = kU_ (aq_ p) x f g h from by have e := hr5; subst e; rfl]; have p1 := eq_true hr57; rw [← hr58]; simp only [kU_, p1, if_true, if_false, decide_true, decide_false, Bool.and_true, Bool.and_false, Bool.true_and, Bool.false_and, Bool.or_true, Bool.or_false, Bool.true_or, Bool.false_or, Bool.not_true, Bool.not_false, ne_eq, not_true_eq_false, not_false_eq_true, true_and, and_true, false_and, and_false, true_or, or_true, false_or, or_false, ite_true, ite_false, Bool.false_eq_true])) D_ (fun _ _ _ => trivial)
    ·
     replace hr4 := eq_of_beq hr4
     refine v_ rfl (g_ ?_)
     refine aw_ (by kernel_rfl) ?_
     refine I_ 21 [0, 1, 2, 3, 4] (by kernel_rfl) (fun _ a b => ⟨a, b⟩) (l_ rfl (M_ 1 N_ n_ rfl rfl rfl) rfl (l_ rfl (h_ k_ rfl rfl rfl o_) rfl (l_ rfl (m_ 2 x_ rfl rfl rfl) rfl (l_ rfl (h_ r_ rfl rfl rfl o_) rfl (l_ rfl (m_ 3 x_ rfl rfl rfl) rfl (H_ (P_ 5 rfl (by kernel_rfl) (S_ (ec_ (Fc.a f) (Pc.a x)) rfl D_ (fun _ _ _ => by exact trivial) rfl fun _ => ?_))))))))
     refine d_ (z_ rfl (F_ (fun _ a b => ⟨a, b⟩) (I_ 18 [6, 7] (by kernel_rfl) (fun _ a b => ⟨a, b⟩) ?_)))
     refine bf_ rfl (af_ (p := g) (q := (aJ_ (Fc.a f) (Pc.a x))) rfl rfl) rfl fun r59 hr59 => ?_
     refine l_ rfl (f_ rfl) rfl (H_ ?_)
     cases r59
     ·
      replace hr59 := of_decide_eq_false hr59
      refine I_ 0 [8, 9, 10, 11, 12, 13, 14, 15, 16, 17, 18, 19, 20, 21, 22, 23, 24, 25] (by kernel_rfl) (fun _ a b => ⟨a, b⟩) (t_ rfl rfl rfl rfl rfl (t_ rfl rfl rfl rfl rfl (t_ rfl rfl rfl rfl rfl (t_ rfl rfl rfl rfl rfl (t_ rfl rfl rfl rfl rfl (t_ rfl rfl rfl rfl rfl (t_ rfl rfl rfl rfl rfl (l_ rfl (p_ rfl rfl) rfl (l_ rfl (f_ rfl) rfl ?_)))))))))
      refine t_ rfl rfl rfl rfl rfl (t_ rfl rfl rfl rfl rfl (t_ rfl rfl rfl rfl rfl (t_ rfl rfl rfl rfl rfl (t_ rfl rfl rfl rfl rfl (t_ rfl rfl rfl rfl rfl (t_ rfl rfl rfl rfl rfl (l_ rfl (p_ rfl rfl) rfl (l_ rfl (e_ rfl) rfl (H_ ?_)))))))))
      refine R_ (by kernel_rfl) (b_ rfl (y_ ?_))
      exact U_ al_ () (q_ rfl (by rw [show bB_ (aq_ p) k x f g h = iu_ (aq_ p) x f g h from by have e := hr4; subst e; rfl]; have p1 := eq_false hr59; simp only [iu_, p1, if_true, if_false, decide_true, decide_false, Bool.and_true, Bool.and_false, Bool.true_and, Bool.false_and, Bool.or_true, Bool.or_false, Bool.true_or, Bool.false_or, Bool.not_true, Bool.not_false, ne_eq, not_true_eq_false, not_false_eq_true, true_and, and_true, false_and, and_false, true_or, or_true, false_or, or_false, ite_true, ite_false, Bool.false_eq_true])) D_ (fun _ _ _ => trivial)
     ·
      replace hr59 := of_decide_eq_true hr59
      refine I_ 13 [8, 9, 10, 11, 12] (by kernel_rfl) (fun _ a b => ⟨a, b⟩) (u_ rfl rfl rfl (M_ 0 N_ n_ rfl rfl rfl) rfl (u_ rfl rfl rfl (h_ k_ rfl rfl rfl o_) rfl (u_ rfl rfl rfl (m_ 2 x_ rfl rfl rfl) rfl (u_ rfl rfl rfl (h_ r_ rfl rfl rfl o_) rfl (u_ rfl rfl rfl (m_ 3 x_ rfl rfl rfl) rfl (H_ (P_ 13 rfl (by kernel_rfl) (i_ rfl rfl (S_ (ec_ (Fc.a f) (Pc.b x)) rfl D_ (fun _ _ _ => by exact trivial) rfl fun _ => ?_)))))))))
      refine d_ (z_ rfl (F_ (fun _ a b => ⟨a, b⟩) (I_ 9 [14, 15, 16] (by kernel_rfl) (fun _ a b => ⟨a, b⟩) ?_)))
      refine ai_ rfl rfl rfl (af_ (p := h) (q := (aJ_ (Fc.a f) (Pc.b x))) rfl rfl) rfl fun r60 hr60 => ?_
      refine l_ rfl (A_ rfl rfl) rfl (l_ rfl (f_ rfl) rfl (H_ ?_))
      cases r60
      ·
       replace hr60 := of_decide_eq_false hr60
       refine I_ 0 [17, 18, 19, 20, 21, 22, 23, 24, 25] (by kernel_rfl) (fun _ a b => ⟨a, b⟩) (t_ rfl rfl rfl rfl rfl (t_ rfl rfl rfl rfl rfl (t_ rfl rfl rfl rfl rfl (t_ rfl rfl rfl rfl rfl (t_ rfl rfl rfl rfl rfl (t_ rfl rfl rfl rfl rfl (t_ rfl rfl rfl rfl rfl (l_ rfl (p_ rfl rfl) rfl (l_ rfl (e_ rfl) rfl ?_)))))))))
       refine H_ (R_ (by kernel_rfl) (b_ rfl (y_ ?_)))
       exact U_ al_ () (q_ rfl (by rw [show bB_ (aq_ p) k x f g h = iu_ (aq_ p) x f g h from by have e := hr4; subst e; rfl]; have p1 := eq_true hr59; have p2 := eq_false hr60; simp only [iu_, p1, p2, if_true, if_false, decide_true, decide_false, Bool.and_true, Bool.and_false, Bool.true_and, Bool.false_and, Bool.or_true, Bool.or_false, Bool.true_or, Bool.false_or, Bool.not_true, Bool.not_false, ne_eq, not_true_eq_false, not_false_eq_true, true_and, and_true, false_and, and_false, true_or, or_true, false_or, or_false, ite_true, ite_false, Bool.false_eq_true])) D_ (fun _ _ _ => trivial)
      ·
       replace hr60 := of_decide_eq_true hr60
       refine I_ 4 [17, 18, 19, 20, 21] (by kernel_rfl) (fun _ a b => ⟨a, b⟩) (u_ rfl rfl rfl (M_ 2 N_ n_ rfl rfl rfl) rfl (u_ rfl rfl rfl (h_ k_ rfl rfl rfl o_) rfl (u_ rfl rfl rfl (m_ 2 x_ rfl rfl rfl) rfl (u_ rfl rfl rfl (h_ r_ rfl rfl rfl o_) rfl (u_ rfl rfl rfl (m_ 3 x_ rfl rfl rfl) rfl (H_ (P_ 22 rfl (by kernel_rfl) (i_ rfl rfl (S_ (ec_ (Fc.a f) (Pc.c x)) rfl D_ (fun _ _ _ => by exact trivial) rfl fun _ => ?_)))))))))
       refine d_ (z_ rfl (F_ (fun _ a b => ⟨a, b⟩) (I_ 0 [23, 24, 25] (by kernel_rfl) (fun _ a b => ⟨a, b⟩) ?_)))
       refine ai_ rfl rfl rfl (af_ (p := f) (q := (aJ_ (Fc.a f) (Pc.c x))) rfl rfl) rfl fun r61 hr61 => ?_
       refine l_ rfl (A_ rfl rfl) rfl (l_ rfl (e_ rfl) rfl (H_ (R_ (by kernel_rfl) (b_ rfl (y_ ?_)))))
       exact U_ al_ () (q_ rfl (by rw [show bB_ (aq_ p) k x f g h = iu_ (aq_ p) x f g h from by have e := hr4; subst e; rfl]; have p1 := eq_true hr59; have p2 := eq_true hr60; rw [← hr61]; simp only [iu_, p1, p2, if_true, if_false, decide_true, decide_false, Bool.and_true, Bool.and_false, Bool.true_and, Bool.false_and, Bool.or_true, Bool.or_false, Bool.true_or, Bool.false_or, Bool.not_true, Bool.not_false, ne_eq, not_true_eq_false, not_false_eq_true, true_and, and_true, false_and, and_false, true_or, or_true, false_or, or_false, ite_true, ite_false, Bool.false_eq_true])) D_ (fun _ _ _ => trivial)
   ·
    replace hr3 := eq_of_beq hr3
    refine v_ rfl (g_ ?_)
    refine aw_ (by kernel_rfl) ?_
    refine I_ 12 [0, 1, 2, 3, 4] (by kernel_rfl) (fun _ a b => ⟨a, b⟩) (l_ rfl (M_ 1 N_ n_ rfl rfl rfl) rfl (l_ rfl (h_ k_ rfl rfl rfl o_) rfl (l_ rfl (m_ 2 x_ rfl rfl rfl) rfl (l_ rfl (h_ r_ rfl rfl rfl o_) rfl (l_ rfl (m_ 3 x_ rfl rfl rfl) rfl (H_ (P_ 5 rfl (by kernel_rfl) (S_ (ec_ (Fc.a f) (Pc.a x)) rfl D_ (fun _ _ _ => by exact trivial) rfl fun _ => ?_))))))))
    refine d_ (z_ rfl (F_ (fun _ a b => ⟨a, b⟩) (I_ 9 [6, 7] (by kernel_rfl) (fun _ a b => ⟨a, b⟩) ?_)))
    refine bf_ rfl (af_ (p := g) (q := (aJ_ (Fc.a f) (Pc.a x))) rfl rfl) rfl fun r62 hr62 => ?_
    refine l_ rfl (f_ rfl) rfl (H_ ?_)
    cases r62
    ·
     replace hr62 := of_decide_eq_false hr62
     refine I_ 0 [8, 9, 10, 11, 12, 13, 14, 15, 16] (by kernel_rfl) (fun _ a b => ⟨a, b⟩) (t_ rfl rfl rfl rfl rfl (t_ rfl rfl rfl rfl rfl (t_ rfl rfl rfl rfl rfl (t_ rfl rfl rfl rfl rfl (t_ rfl rfl rfl rfl rfl (t_ rfl rfl rfl rfl rfl (t_ rfl rfl rfl rfl rfl (l_ rfl (p_ rfl rfl) rfl (l_ rfl (e_ rfl) rfl ?_)))))))))
     refine H_ (R_ (by kernel_rfl) (b_ rfl (y_ ?_)))
     exact U_ al_ () (q_ rfl (by rw [show bB_ (aq_ p) k x f g h = kV_ (aq_ p) x f g h from by have e := hr3; subst e; rfl]; have p1 := eq_false hr62; simp only [kV_, p1, if_true, if_false, decide_true, decide_false, Bool.and_true, Bool.and_false, Bool.true_and, Bool.false_and, Bool.or_true, Bool.or_false, Bool.true_or, Bool.false_or, Bool.not_true, Bool.not_false, ne_eq, not_true_eq_false, not_false_eq_true, true_and, and_true, false_and, and_false, true_or, or_true, false_or, or_false, ite_true, ite_false, Bool.false_eq_true])) D_ (fun _ _ _ => trivial)
    ·
     replace hr62 := of_decide_eq_true hr62
     refine I_ 4 [8, 9, 10, 11, 12] (by kernel_rfl) (fun _ a b => ⟨a, b⟩) (u_ rfl rfl rfl (M_ 2 N_ n_ rfl rfl rfl) rfl (u_ rfl rfl rfl (h_ k_ rfl rfl rfl o_) rfl (u_ rfl rfl rfl (m_ 2 x_ rfl rfl rfl) rfl (u_ rfl rfl rfl (h_ r_ rfl rfl rfl o_) rfl (u_ rfl rfl rfl (m_ 3 x_ rfl rfl rfl) rfl (H_ (P_ 13 rfl (by kernel_rfl) (i_ rfl rfl (S_ (ec_ (Fc.a f) (Pc.c x)) rfl D_ (fun _ _ _ => by exact trivial) rfl fun _ => ?_)))))))))
     refine d_ (z_ rfl (F_ (fun _ a b => ⟨a, b⟩) (I_ 0 [14, 15, 16] (by kernel_rfl) (fun _ a b => ⟨a, b⟩) ?_)))
     refine ai_ rfl rfl rfl (af_ (p := f) (q := (aJ_ (Fc.a f) (Pc.c x))) rfl rfl) rfl fun r63 hr63 => ?_
     refine l_ rfl (A_ rfl rfl) rfl (l_ rfl (e_ rfl) rfl (H_ (R_ (by kernel_rfl) (b_ rfl (y_ ?_)))))
     exact U_ al_ () (q_ rfl (by rw [show bB_ (aq_ p) k x f g h = kV_ (aq_ p) x f g h from by have e := hr3; subst e; rfl]; have p1 := eq_true hr62; rw [← hr63]; simp only [kV_, p1, if_true, if_false, decide_true, decide_false, Bool.and_true, Bool.and_false, Bool.true_and, Bool.false_and, Bool.or_true, Bool.or_false, Bool.true_or, Bool.false_or, Bool.not_true, Bool.not_false, ne_eq, not_true_eq_false, not_false_eq_true, true_and, and_true, false_and, and_false, true_or, or_true, false_or, or_false, ite_true, ite_false, Bool.false_eq_true])) D_ (fun _ _ _ => trivial)
  ·
   replace hr2 := eq_of_beq hr2
   refine v_ rfl (g_ ?_)
   refine aw_ (by kernel_rfl) ?_
   refine I_ 9 [0, 1, 2] (by kernel_rfl) (fun _ a b => ⟨a, b⟩) (l_ rfl (f_ rfl) rfl (l_ rfl (h_ k_ rfl rfl rfl o_) rfl (l_ rfl (m_ 2 x_ rfl rfl rfl) rfl (H_ (P_ 3 rfl (by kernel_rfl) (X_ (hX_ p pad pcap (Fc.a f) hpl) rfl D_ (fun v _ h => by exact ⟨h.1, trivial⟩) rfl fun r64 hr64 => ?_))))))
   refine d_ (z_ rfl (F_ (fun _ a b => ⟨a, b⟩) (I_ 7 [4] (by kernel_rfl) (fun _ a b => ⟨a, b⟩) (l_ rfl (f_ rfl) rfl (H_ ?_)))))
   cases r64
   ·
    refine I_ 0 [5, 6, 7, 8, 9, 10, 11] (by kernel_rfl) (fun _ a b => ⟨a, b⟩) (t_ rfl rfl rfl rfl rfl (t_ rfl rfl rfl rfl rfl (t_ rfl rfl rfl rfl rfl (t_ rfl rfl rfl rfl rfl (t_ rfl rfl rfl rfl rfl (l_ rfl (p_ rfl rfl) rfl (l_ rfl (e_ rfl) rfl (H_ (R_ (by kernel_rfl) ?_)))))))))
    refine b_ rfl (y_ ?_)
    exact U_ al_ () (q_ rfl (by rw [show bB_ (aq_ p) k x f g h = kW_ (aq_ p) x f g h from by have e := hr2; subst e; rfl]; simp only [kW_, hr64, if_true, if_false, decide_true, decide_false, Bool.and_true, Bool.and_false, Bool.true_and, Bool.false_and, Bool.or_true, Bool.or_false, Bool.true_or, Bool.false_or, Bool.not_true, Bool.not_false, ne_eq, not_true_eq_false, not_false_eq_true, true_and, and_true, false_and, and_false, true_or, or_true, false_or, or_false, ite_true, ite_false, Bool.false_eq_true])) D_ (fun _ _ _ => trivial)
   ·
    refine I_ 4 [5, 6, 7] (by kernel_rfl) (fun _ a b => ⟨a, b⟩) (u_ rfl rfl rfl (M_ 2 N_ n_ rfl rfl rfl) rfl (u_ rfl rfl rfl (h_ k_ rfl rfl rfl o_) rfl (u_ rfl rfl rfl (m_ 2 x_ rfl rfl rfl) rfl (H_ (P_ 8 rfl (by kernel_rfl) (i_ rfl rfl (S_ (ec_ (Fc.a f) [42]) rfl D_ (fun _ _ _ => by exact trivial) rfl fun _ => ?_)))))))
    refine d_ (z_ rfl (F_ (fun _ a b => ⟨a, b⟩) (I_ 0 [9, 10, 11] (by kernel_rfl) (fun _ a b => ⟨a, b⟩) ?_)))
    refine ai_ rfl rfl rfl (af_ (p := f) (q := (aJ_ (Fc.a f) [42])) rfl rfl) rfl fun r65 hr65 => ?_
    refine l_ rfl (A_ rfl rfl) rfl (l_ rfl (e_ rfl) rfl (H_ (R_ (by kernel_rfl) (b_ rfl (y_ ?_)))))
    exact U_ al_ () (q_ rfl (by rw [show bB_ (aq_ p) k x f g h = kW_ (aq_ p) x f g h from by have e := hr2; subst e; rfl]; rw [← hr65]; simp only [kW_, hr64, if_true, if_false, decide_true, decide_false, Bool.and_true, Bool.and_false, Bool.true_and, Bool.false_and, Bool.or_true, Bool.or_false, Bool.true_or, Bool.false_or, Bool.not_true, Bool.not_false, ne_eq, not_true_eq_false, not_false_eq_true, true_and, and_true, false_and, and_false, true_or, or_true, false_or, or_false, ite_true, ite_false, Bool.false_eq_true])) D_ (fun _ _ _ => trivial)
 ·
  replace hr1 := eq_of_beq hr1
  refine v_ rfl (g_ ?_)
  refine aw_ (by kernel_rfl) ?_
  refine I_ 11 [0, 1, 2] (by kernel_rfl) (fun _ a b => ⟨a, b⟩) (l_ rfl (f_ rfl) rfl (l_ rfl (h_ k_ rfl rfl rfl o_) rfl (l_ rfl (m_ 2 x_ rfl rfl rfl) rfl (H_ (P_ 3 rfl (by kernel_rfl) (X_ (hX_ p pad pcap (Fc.a f) hpl) rfl D_ (fun v _ h => by exact ⟨h.1, trivial⟩) rfl fun r66 hr66 => ?_))))))
  refine d_ (z_ rfl (F_ (fun _ a b => ⟨a, b⟩) (I_ 9 [4] (by kernel_rfl) (fun _ a b => ⟨a, b⟩) (l_ rfl (f_ rfl) rfl (H_ ?_)))))
  cases r66
  ·
   refine I_ 0 [5, 6, 7, 8, 9, 10, 11, 12, 13] (by kernel_rfl) (fun _ a b => ⟨a, b⟩) (t_ rfl rfl rfl rfl rfl (t_ rfl rfl rfl rfl rfl (t_ rfl rfl rfl rfl rfl (t_ rfl rfl rfl rfl rfl (t_ rfl rfl rfl rfl rfl (t_ rfl rfl rfl rfl rfl (t_ rfl rfl rfl rfl rfl (l_ rfl (p_ rfl rfl) rfl (l_ rfl (e_ rfl) rfl ?_)))))))))
   refine H_ (R_ (by kernel_rfl) (b_ rfl (y_ ?_)))
   exact U_ al_ () (q_ rfl (by rw [show bB_ (aq_ p) k x f g h = kY_ (aq_ p) x f g h from by have e := hr1; subst e; rfl]; simp only [kY_, hr66, if_true, if_false, decide_true, decide_false, Bool.and_true, Bool.and_false, Bool.true_and, Bool.false_and, Bool.or_true, Bool.or_false, Bool.true_or, Bool.false_or, Bool.not_true, Bool.not_false, ne_eq, not_true_eq_false, not_false_eq_true, true_and, and_true, false_and, and_false, true_or, or_true, false_or, or_false, ite_true, ite_false, Bool.false_eq_true])) D_ (fun _ _ _ => trivial)
  ·
   refine I_ 4 [5, 6, 7, 8, 9] (by kernel_rfl) (fun _ a b => ⟨a, b⟩) (u_ rfl rfl rfl (M_ 2 N_ n_ rfl rfl rfl) rfl (u_ rfl rfl rfl (h_ k_ rfl rfl rfl o_) rfl (u_ rfl rfl rfl (m_ 2 x_ rfl rfl rfl) rfl (u_ rfl rfl rfl (h_ k_ rfl rfl rfl o_) rfl (u_ rfl rfl rfl (m_ 2 x_ rfl rfl rfl) rfl (H_ (P_ 10 rfl (by kernel_rfl) (i_ rfl rfl (S_ (ec_ (Fc.a f) (Fc.a f)) rfl D_ (fun _ _ _ => by exact trivial) rfl fun _ => ?_)))))))))
   refine d_ (z_ rfl (F_ (fun _ a b => ⟨a, b⟩) (I_ 0 [11, 12, 13] (by kernel_rfl) (fun _ a b => ⟨a, b⟩) ?_)))
   refine ai_ rfl rfl rfl (af_ (p := f) (q := (aJ_ (Fc.a f) (Fc.a f))) rfl rfl) rfl fun r67 hr67 => ?_
   refine l_ rfl (A_ rfl rfl) rfl (l_ rfl (e_ rfl) rfl (H_ (R_ (by kernel_rfl) (b_ rfl (y_ ?_)))))
   exact U_ al_ () (q_ rfl (by rw [show bB_ (aq_ p) k x f g h = kY_ (aq_ p) x f g h from by have e := hr1; subst e; rfl]; rw [← hr67]; simp only [kY_, hr66, if_true, if_false, decide_true, decide_false, Bool.and_true, Bool.and_false, Bool.true_and, Bool.false_and, Bool.or_true, Bool.or_false, Bool.true_or, Bool.false_or, Bool.not_true, Bool.not_false, ne_eq, not_true_eq_false, not_false_eq_true, true_and, and_true, false_and, and_false, true_or, or_true, false_or, or_false, ite_true, ite_false, Bool.false_eq_true])) D_ (fun _ _ _ => trivial)
end Go.Proofs.YtaffcjgphlhppaaGreatDoor
