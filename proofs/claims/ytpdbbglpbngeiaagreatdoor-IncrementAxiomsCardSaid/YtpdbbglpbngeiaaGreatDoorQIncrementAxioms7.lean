/-
  Part of the proof of the law IncrementAxioms over this seat: the small logic, the data, the contracts of functions (no condition).
-/
import Derived.Test.YtpdbbglpbngeiaaGreatDoorQIncrementAxioms6
import Derived.Test.YtpdbbglpbngeiaaGreatDoorQIncrementAxioms5
import Derived.Shelf.SlSortCmp.NoneTotal
import Derived.Test.YtpdbbglpbngeiaaGreatDoorProg
import Derived.Test.YtpdbbglpbngeiaaGreatDoorQIncrementAxioms2
import Derived.Test.YtpdbbglpbngeiaaGreatDoorQIncrementAxioms4
set_option linter.unusedVariables false
set_option linter.unusedSimpArgs false
set_option linter.unusedSectionVars false
namespace Go.Proofs.YtpdbbglpbngeiaaGreatDoor
open Go Go.Sx Go.Proofs
attribute [local irreducible] Code.wp wpList wpAnyH
open Go.Vs
theorem gK_ (x : Pc) (ro at' : Str) (pm : List (Ky × Pc)) (bx bg : Nat) (g pb kb ab ub ob ib rb sb fb : Nat) (ev : Value) (lv : Value) (Hm : Hp) (hm : dH_ Ky.val Pc.cells 47 10 pm pb Hm) (hpl : pm.length ≤ 1000000000) : Tri Tryz.prog 142 #[str ro, str at', zp_ bx 0, zp_ bg 0] ((bx, .cells (Pc.cells x).toArray 47 (0, 0)) :: (bg, .cells #[zp_ g 0] 85 (0, 0)) :: (g, .cells #[.map (some pb), lv, .map (some kb), ev, .map (some ab), .map (some ub), .map (some ob), .map (some ib), .map (some rb), .map (some sb), .map (some fb)] 94 (0, 0)) :: Hm) [] (fun _ : {H : Hp // dH_ Ky.val Pc.cells 47 10 (pm ++ [((Ky.mk (Pc.kind x) ro at'), x)]) pb H} => .tuple #[]) (fun y => (bx, .cells (Pc.cells x).toArray 47 (0, 0)) :: (bg, .cells #[zp_ g 0] 85 (0, 0)) :: (g, .cells #[.map (some pb), lv, .map (some kb), ev, .map (some ab), .map (some ub), .map (some ob), .map (some ib), .map (some rb), .map (some sb), .map (some fb)] 94 (0, 0)) :: y.1) (fun _ => []) := by
  refine M_ Tryz.func142 rfl rfl Tryz.ntmps142 rfl fun v0 => ?_
  refine f_ (c_ (a_ (j_ F_ rfl rfl rfl H_) rfl (a_ (q_ 0 J_ rfl rfl rfl) rfl (a_ (h_ rfl) rfl (a_ (h_ rfl) rfl (a_ (ag_ ep_ rfl rfl) rfl (al_ Tryz.zeroValue171 rfl fun b1 => ?_)))))))
  refine Z_ 0 Tryz.sizeOf171 rfl rfl rfl rfl rfl rfl (d_ (b_ rfl ?_))
  refine aC_ ((b1, .cells #[.int .i64 (Pc.kind x), str ro, str at'] 171 (0, 0)) :: ((bx, .cells (Pc.cells x).toArray 47 (0, 0)) :: ((bg, .cells #[zp_ g 0] 85 (0, 0)) :: ((g, .cells #[.map (some pb), lv, .map (some kb), ev, .map (some ab), .map (some ub), .map (some ob), .map (some ib), .map (some rb), .map (some sb), .map (some fb)] 94 (0, 0)) :: [])))) (by kernel_rfl) ?_
  refine ad_ 6 [0, 1, 2, 3, 4, 5] (by kernel_rfl) (fun _ a b => ⟨Vw.sat.sub (a.perm (l_ i_ (l_ i_ (l_ i_ i_)))), b⟩) (k_ rfl (q_ 2 cl_ rfl rfl rfl) rfl (k_ rfl (af_ rfl) rfl (k_ rfl (j_ D_ rfl rfl rfl dq_) rfl (k_ rfl (q_ 3 ee_ rfl rfl rfl) rfl (k_ rfl (L_ 0 Tryz.isAgg171 Tryz.sizeOf171 rfl rfl rfl) rfl (k_ rfl (L_ 1 bh_ U_ rfl rfl rfl) rfl (ac_ (O_ 6 rfl (by kernel_rfl) (aK_ G_ U_ ap_ rfl rfl rfl rfl rfl rfl fun b2 => ?_)))))))))
  refine d_ (r_ rfl (C_ (fun _ a b => ⟨Vw.sat.sub (a.perm (l_ (e_ i_) (l_ (e_ i_) (l_ (e_ i_) (e_ i_))))), b⟩) (O_ 7 rfl (by kernel_rfl) ?_)))
  have hbb1 := Nat.le_trans (fv_ pm (Ky.mk (Pc.kind x) ro at')) hpl
  refine dy_ (k := (Ky.mk (Pc.kind x) ro at')) gy_ hm cd_ cx_ rfl rfl (e_ (e_ (e_ (e_ ai_)))) rfl fun es1 ce1 ie1 se1 ve1 Hk1 Hx1 ho1 hw1 => ?_
  refine d_ (r_ rfl (C_ (fun _ a b => ⟨Vw.sat.sub (a.perm (l_ (e_ (m_ (m_ (e_ i_)))) (l_ (e_ (m_ (m_ (e_ i_)))) (l_ (e_ (m_ (m_ (e_ i_)))) (e_ (m_ (m_ (e_ i_)))))))), b⟩) (ad_ 2 [8, 10] (by kernel_rfl) (fun _ a b => ⟨Vw.sat.sub (a.perm (l_ (e_ (m_ (m_ (e_ i_)))) (l_ (e_ (m_ (m_ (e_ i_)))) (l_ (e_ (m_ (m_ (e_ i_)))) (e_ (m_ (m_ (e_ i_)))))))), b⟩) (k_ rfl (ae_ rfl rfl) rfl (k_ rfl (ae_ rfl rfl) rfl (ac_ (O_ 9 rfl (by kernel_rfl) (bd_ (news := List.flatMap Pc.cells [x]) kh_ hw1 rfl rfl (e_ z_) rfl (dx_ (e_ (m_ (m_ i_)))) (fun u hu => bV_ Pc.cells_one hu) (by simp only [maxLen]; omega) (by omega) rfl fun sv1 Hr1 hr1 => ?_))))))))
  have hq1 : bk_ 47 10 sv1 (List.length ((lat pm (Ky.mk (Pc.kind x) ro at')) ++ [x])) (List.flatMap Pc.cells ((lat pm (Ky.mk (Pc.kind x) ro at')) ++ [x])) Hr1 := by rw [List.length_append, List.flatMap_append]; exact hr1
  refine d_ (r_ rfl (C_ (fun _ a b => ⟨Vw.sat.sub (a.perm (l_ (m_ (e_ (m_ (e_ i_)))) (l_ (m_ (e_ (m_ (e_ i_)))) (l_ (m_ (e_ (m_ (e_ i_)))) (m_ (e_ (m_ (e_ i_)))))))), b⟩) (O_ 11 rfl (by kernel_rfl) (bZ_ (k := (Ky.mk (Pc.kind x) ro at')) (dd := x) ho1 (by rw [cZ_]; exact hq1) rfl rfl rfl (cY_ (l_ (m_ i_) (I_ z_ z_))) fun H2 hM2 => ?_))))
  refine d_ (r_ rfl (C_ (fun _ a b => ⟨Vw.sat.sub (a.perm (l_ (m_ (e_ i_)) (l_ (m_ (e_ i_)) (l_ (m_ (e_ i_)) (m_ (e_ i_)))))), b⟩) (ab_ (by kernel_rfl) (aO_ rfl ?_))))
  exact cn_ Tryz.results142 ⟨H2, hM2⟩ rfl (l_ (m_ (e_ (e_ i_))) (l_ (m_ (e_ (e_ i_))) (l_ (m_ (e_ (e_ i_))) z_))) (fun _ _ _ => trivial)
theorem pN_ (x : Pc) (pm : List (Ky × Pc)) (lps : List Str) (g pb kb ab ub ob ib rb sb fb : Nat) (ev : Value) (lv : Value) (Hm Hl : Hp) (hm : dH_ Ky.val Pc.cells 47 10 pm pb Hm) (hl : bk_ 9 1 lv (List.length lps) (List.flatMap bg_ lps) Hl) (hpl : pm.length ≤ 900000000) (hll : lps.length ≤ 900000000) : Tri Tryz.prog 96 #[zp_ g 0, Pc.val x] ((g, .cells #[.map (some pb), lv, .map (some kb), ev, .map (some ab), .map (some ub), .map (some ob), .map (some ib), .map (some rb), .map (some sb), .map (some fb)] 94 (0, 0)) :: (Hm ++ Hl)) [] (fun _ : {y : Value × Hp × Hp // dH_ Ky.val Pc.cells 47 10 (pm ++ cD_ x) pb y.2.1 ∧ bk_ 9 1 y.1 (List.length (lps ++ aB_ [x])) (List.flatMap bg_ (lps ++ aB_ [x])) y.2.2} => .tuple #[]) (fun y => (g, .cells #[.map (some pb), y.1.1, .map (some kb), ev, .map (some ab), .map (some ub), .map (some ob), .map (some ib), .map (some rb), .map (some sb), .map (some fb)] 94 (0, 0)) :: (y.1.2.1 ++ y.1.2.2)) (fun _ => []) := by
 refine M_ Tryz.func96 rfl rfl Tryz.ntmps96 rfl fun v0 => ?_
 refine f_ (c_ (aF_ rfl rfl fun b1 => ?_))
 refine aF_ rfl rfl fun b2 => ?_
 refine d_ (b_ rfl (f_ (c_ (a_ (cp_ rfl rfl) rfl (a_ (g_ rfl) rfl (d_ (b_ rfl (f_ (c_ ?_)))))))))
 refine a_ (j_ F_ rfl rfl rfl H_) rfl (a_ (q_ 0 J_ rfl rfl rfl) rfl (d_ (b_ rfl (S_ (f_ (f_ (c_ (x_ (aA_ rfl rfl) rfl fun r1 hr1 => ?_))))))))
 refine a_ (g_ rfl) rfl (d_ (b_ rfl ?_))
 cases r1
 ·
  replace hr1 := ne_of_beq_false hr1
  refine p_ rfl (f_ (c_ (x_ (aA_ rfl rfl) rfl fun r2 hr2 => ?_)))
  refine a_ (g_ rfl) rfl (d_ (b_ rfl ?_))
  cases r2
  ·
   replace hr2 := ne_of_beq_false hr2
   refine p_ rfl (c_ (x_ (aA_ rfl rfl) rfl fun r3 hr3 => ?_))
   refine a_ (g_ rfl) rfl (d_ (b_ rfl ?_))
   cases r3
   ·
    replace hr3 := ne_of_beq_false hr3
    refine p_ rfl (f_ (c_ (x_ (aA_ rfl rfl) rfl fun r4 hr4 => ?_)))
    refine a_ (g_ rfl) rfl (d_ (b_ rfl ?_))
    cases r4
    ·
     replace hr4 := ne_of_beq_false hr4
     refine p_ rfl (f_ (c_ (x_ (aA_ rfl rfl) rfl fun r5 hr5 => ?_)))
     refine a_ (g_ rfl) rfl (d_ (b_ rfl ?_))
     cases r5
     ·
      replace hr5 := ne_of_beq_false hr5
      refine p_ rfl (f_ (f_ (c_ (x_ (aA_ rfl rfl) rfl fun r6 hr6 => ?_))))
      refine a_ (g_ rfl) rfl (d_ (b_ rfl ?_))
      cases r6
      ·
       replace hr6 := ne_of_beq_false hr6
       refine p_ rfl (c_ (x_ (aA_ rfl rfl) rfl fun r7 hr7 => ?_))
       refine a_ (g_ rfl) rfl (d_ (b_ rfl ?_))
       cases r7
       ·
        replace hr7 := ne_of_beq_false hr7
        refine p_ rfl (f_ (c_ (x_ (aA_ rfl rfl) rfl fun r8 hr8 => ?_)))
        refine a_ (g_ rfl) rfl (d_ (b_ rfl ?_))
        cases r8
        ·
         replace hr8 := ne_of_beq_false hr8
         refine p_ rfl (f_ (c_ (x_ (aA_ rfl rfl) rfl fun r9 hr9 => ?_)))
         refine a_ (g_ rfl) rfl (d_ (b_ rfl ?_))
         cases r9
         ·
          replace hr9 := ne_of_beq_false hr9
          refine p_ rfl (A_ (aO_ rfl ?_))
          have e1 : pm = pm ++ cD_ x := by simp [cD_, *]
          have e2 : lps = lps ++ aB_ [x] := by simp [aB_, *]
          exact cn_ cW_ ⟨(lv, Hm, Hl), e1 ▸ hm, e2 ▸ hl⟩ rfl (l_ (e_ (e_ i_)) (I_ (e_ (e_ z_)) (e_ ai_))) (fun _ _ _ => trivial)
         ·
          replace hr9 := eq_of_beq hr9
          refine n_ rfl ?_
          refine aC_ ((b2, .cells (Pc.cells x).toArray 47 (0, 0)) :: ((b1, .cells #[zp_ g 0] 85 (0, 0)) :: [])) (by kernel_rfl) ?_
          refine ad_ 6 [0, 1, 2, 3, 5, 6] (by kernel_rfl) (fun _ a b => ⟨Vw.sat.sub (a.perm (l_ i_ i_)), b⟩) (k_ rfl (q_ 1 cl_ rfl rfl rfl) rfl (k_ rfl (q_ 1 cl_ rfl rfl rfl) rfl (k_ rfl (af_ rfl) rfl (k_ rfl (j_ D_ rfl rfl rfl bJ_) rfl (k_ rfl (j_ F_ rfl rfl rfl s_) rfl (k_ rfl (q_ 0 w_ rfl rfl rfl) rfl (ac_ ?_)))))))
          refine eZ_ 4 7 rfl rfl (by kernel_rfl) ?_ ?_
          ·
           refine a_ (q_ 2 cI_ rfl rfl rfl) rfl (d_ (r_ rfl (C_ (fun _ a b => ⟨Vw.sat.sub (a.perm (l_ i_ i_)), b⟩) (O_ 7 rfl (by kernel_rfl) (aK_ P_ s_ bq_ rfl rfl rfl rfl rfl rfl fun b3 => ?_)))))
           refine d_ (r_ rfl (C_ (fun _ a b => ⟨Vw.sat.sub (a.perm (l_ (e_ i_) (e_ i_))), b⟩) (O_ 8 rfl (by kernel_rfl) (bd_ (news := List.flatMap bg_ [(Pc.r x)]) dt_ hl rfl rfl (e_ (e_ (e_ (e_ be_)))) rfl (cQ_ 0 rfl) (fun u hu => bV_ cO_ hu) (by simp only [maxLen]; first | omega | (simp; omega)) (by first | omega | (simp; omega)) rfl fun sv1 Hr1 hr1 => ?_))))
           have hq1 : bk_ 9 1 sv1 (List.length (lps ++ [(Pc.r x)])) (List.flatMap bg_ (lps ++ [(Pc.r x)])) Hr1 := by rw [List.length_append, List.flatMap_append]; exact hr1
           refine d_ (r_ rfl (C_ (fun _ a b => ⟨Vw.sat.sub (a.perm (l_ (m_ (e_ i_)) (m_ (e_ i_)))), b⟩) (ad_ 1 [9, 10] (by kernel_rfl) (fun _ a b => ⟨Vw.sat.sub (a.perm (l_ (m_ (e_ i_)) (m_ (e_ i_)))), b⟩) (k_ rfl (af_ rfl) rfl (k_ rfl (j_ D_ rfl rfl rfl bJ_) rfl (ac_ (O_ 11 rfl (by kernel_rfl) (at_ (bj_ (m_ i_) (bj_ (m_ i_) (bj_ (m_ i_) (dw_ (m_ i_))))) (gh_ 3 hq1 bJ_ rfl rfl rfl rfl ?_)))))))))
           refine d_ (r_ rfl (C_ (fun _ a b => ⟨Vw.sat.sub (a.perm (l_ (e_ i_) (e_ i_))), b⟩) (ab_ (by kernel_rfl) (aO_ rfl ?_))))
           have e1 : pm = pm ++ cD_ x := by simp [cD_, *]
           have e2 : (lps ++ [(Pc.r x)]) = lps ++ aB_ [x] := by simp [aB_, *]
           exact cn_ cW_ ⟨(sv1, Hm, Hr1), e1 ▸ hm, e2 ▸ hq1⟩ rfl (l_ (e_ (e_ (e_ i_))) (I_ (e_ (e_ (e_ be_))) (e_ (e_ ai_)))) (fun _ _ _ => trivial)
          ·
           refine aK_ P_ s_ bq_ rfl rfl rfl rfl rfl rfl fun b4 => ?_
           refine d_ (r_ rfl (C_ (fun _ a b => ⟨Vw.sat.sub (a.perm (l_ (e_ i_) (e_ i_))), b⟩) (O_ 4 rfl (by kernel_rfl) (a_ (q_ 3 cI_ rfl rfl rfl) rfl (d_ (r_ rfl (C_ (fun _ a b => ⟨Vw.sat.sub (a.perm (l_ (e_ i_) (e_ i_))), b⟩) (O_ 8 rfl (by kernel_rfl) (bd_ (news := List.flatMap bg_ [(Pc.r x)]) dt_ hl rfl rfl (e_ (e_ (e_ (e_ be_)))) rfl (cQ_ 0 rfl) (fun u hu => bV_ cO_ hu) (by simp only [maxLen]; first | omega | (simp; omega)) (by first | omega | (simp; omega)) rfl fun sv2 Hr2 hr2 => ?_)))))))))
           have hq2 : bk_ 9 1 sv2 (List.length (lps ++ [(Pc.r x)])) (List.flatMap bg_ (lps ++ [(Pc.r x)])) Hr2 := by rw [List.length_append, List.flatMap_append]; exact hr2
           refine d_ (r_ rfl (C_ (fun _ a b => ⟨Vw.sat.sub (a.perm (l_ (m_ (e_ i_)) (m_ (e_ i_)))), b⟩) (ad_ 1 [9, 10] (by kernel_rfl) (fun _ a b => ⟨Vw.sat.sub (a.perm (l_ (m_ (e_ i_)) (m_ (e_ i_)))), b⟩) (k_ rfl (af_ rfl) rfl (k_ rfl (j_ D_ rfl rfl rfl bJ_) rfl (ac_ (O_ 11 rfl (by kernel_rfl) (at_ (bj_ (m_ i_) (bj_ (m_ i_) (bj_ (m_ i_) (dw_ (m_ i_))))) (gh_ 3 hq2 bJ_ rfl rfl rfl rfl ?_)))))))))
           refine d_ (r_ rfl (C_ (fun _ a b => ⟨Vw.sat.sub (a.perm (l_ (e_ i_) (e_ i_))), b⟩) (ab_ (by kernel_rfl) (aO_ rfl ?_))))
           have e1 : pm = pm ++ cD_ x := by simp [cD_, *]
           have e2 : (lps ++ [(Pc.r x)]) = lps ++ aB_ [x] := by simp [aB_, *]
           exact cn_ cW_ ⟨(sv2, Hm, Hr2), e1 ▸ hm, e2 ▸ hq2⟩ rfl (l_ (e_ (e_ (e_ i_))) (I_ (e_ (e_ (e_ be_))) (e_ (e_ ai_)))) (fun _ _ _ => trivial)
        ·
         replace hr8 := eq_of_beq hr8
         refine n_ rfl (f_ (c_ (a_ (h_ rfl) rfl (a_ (j_ F_ rfl rfl rfl s_) rfl (a_ (q_ 0 w_ rfl rfl rfl) rfl (aH_ (gK_ x (Pc.r x) [] pm b2 b1 g pb kb ab ub ob ib rb sb fb ev lv Hm hm (by first | omega | (simp; omega))) rfl rfl (l_ i_ (l_ i_ (l_ i_ z_))) (fun _ _ _ => by exact trivial) rfl fun ⟨HP1, hP1⟩ => ?_))))))
         dsimp only
         simp only [List.cons_append]
         refine d_ (b_ rfl (c_ (a_ (h_ rfl) rfl (a_ (j_ F_ rfl rfl rfl s_) rfl (a_ (q_ 0 w_ rfl rfl rfl) rfl (aH_ (gK_ x [] (Pc.s x) (pm ++ [((Ky.mk (Pc.kind x) (Pc.r x) []), x)]) b2 b1 g pb kb ab ub ob ib rb sb fb ev lv HP1 hP1 (by first | omega | (simp; omega))) rfl rfl (l_ i_ (l_ i_ (l_ i_ z_))) (fun _ _ _ => by exact trivial) rfl fun ⟨HP2, hP2⟩ => ?_))))))
         dsimp only
         simp only [List.cons_append]
         refine d_ (aO_ rfl ?_)
         have e1 : ((pm ++ [((Ky.mk (Pc.kind x) (Pc.r x) []), x)]) ++ [((Ky.mk (Pc.kind x) [] (Pc.s x)), x)]) = pm ++ cD_ x := by simp [cD_, *]
         have e2 : lps = lps ++ aB_ [x] := by simp [aB_, *]
         exact cn_ cW_ ⟨(lv, HP2, Hl), e1 ▸ hP2, e2 ▸ hl⟩ rfl (l_ (e_ (e_ i_)) (I_ (e_ (e_ z_)) (e_ ai_))) (fun _ _ _ => trivial)
       ·
        replace hr7 := eq_of_beq hr7
        refine n_ rfl (c_ (a_ (h_ rfl) rfl (a_ (j_ F_ rfl rfl rfl s_) rfl (a_ (q_ 0 w_ rfl rfl rfl) rfl (aH_ (gK_ x (Pc.r x) [] pm b2 b1 g pb kb ab ub ob ib rb sb fb ev lv Hm hm (by first | omega | (simp; omega))) rfl rfl (l_ i_ (l_ i_ (l_ i_ z_))) (fun _ _ _ => by exact trivial) rfl fun ⟨HP3, hP3⟩ => ?_)))))
        dsimp only
        simp only [List.cons_append]
        refine d_ (aO_ rfl ?_)
        have e1 : (pm ++ [((Ky.mk (Pc.kind x) (Pc.r x) []), x)]) = pm ++ cD_ x := by simp [cD_, *]
        have e2 : lps = lps ++ aB_ [x] := by simp [aB_, *]
        exact cn_ cW_ ⟨(lv, HP3, Hl), e1 ▸ hP3, e2 ▸ hl⟩ rfl (l_ (e_ (e_ i_)) (I_ (e_ (e_ z_)) (e_ ai_))) (fun _ _ _ => trivial)
      ·
       replace hr6 := eq_of_beq hr6
       refine n_ rfl (A_ (b_ rfl (n_ rfl (c_ (a_ (h_ rfl) rfl (a_ (j_ F_ rfl rfl rfl s_) rfl (a_ (q_ 0 w_ rfl rfl rfl) rfl (aH_ (gK_ x (Pc.r x) [] pm b2 b1 g pb kb ab ub ob ib rb sb fb ev lv Hm hm (by first | omega | (simp; omega))) rfl rfl (l_ i_ (l_ i_ (l_ i_ z_))) (fun _ _ _ => by exact trivial) rfl fun ⟨HP4, hP4⟩ => ?_))))))))
       dsimp only
       simp only [List.cons_append]
       refine d_ (aO_ rfl ?_)
       have e1 : (pm ++ [((Ky.mk (Pc.kind x) (Pc.r x) []), x)]) = pm ++ cD_ x := by simp [cD_, *]
       have e2 : lps = lps ++ aB_ [x] := by simp [aB_, *]
       exact cn_ cW_ ⟨(lv, HP4, Hl), e1 ▸ hP4, e2 ▸ hl⟩ rfl (l_ (e_ (e_ i_)) (I_ (e_ (e_ z_)) (e_ ai_))) (fun _ _ _ => trivial)
     ·
      replace hr5 := eq_of_beq hr5
      refine n_ rfl (f_ (c_ (a_ (h_ rfl) rfl (a_ (j_ F_ rfl rfl rfl s_) rfl (a_ (q_ 0 w_ rfl rfl rfl) rfl (aH_ (gK_ x [] (Pc.a x) pm b2 b1 g pb kb ab ub ob ib rb sb fb ev lv Hm hm (by first | omega | (simp; omega))) rfl rfl (l_ i_ (l_ i_ (l_ i_ z_))) (fun _ _ _ => by exact trivial) rfl fun ⟨HP5, hP5⟩ => ?_))))))
      dsimp only
      simp only [List.cons_append]
      refine d_ (b_ rfl (c_ (a_ (h_ rfl) rfl (a_ (j_ F_ rfl rfl rfl s_) rfl (a_ (q_ 0 w_ rfl rfl rfl) rfl (a_ (j_ F_ rfl rfl rfl s_) rfl (a_ (q_ 0 w_ rfl rfl rfl) rfl (aH_ (gK_ x (Pc.r x) (Pc.a x) (pm ++ [((Ky.mk (Pc.kind x) [] (Pc.a x)), x)]) b2 b1 g pb kb ab ub ob ib rb sb fb ev lv HP5 hP5 (by first | omega | (simp; omega))) rfl rfl (l_ i_ (l_ i_ (l_ i_ z_))) (fun _ _ _ => by exact trivial) rfl fun ⟨HP6, hP6⟩ => ?_))))))))
      dsimp only
      simp only [List.cons_append]
      refine d_ (aO_ rfl ?_)
      have e1 : ((pm ++ [((Ky.mk (Pc.kind x) [] (Pc.a x)), x)]) ++ [((Ky.mk (Pc.kind x) (Pc.r x) (Pc.a x)), x)]) = pm ++ cD_ x := by simp [cD_, *]
      have e2 : lps = lps ++ aB_ [x] := by simp [aB_, *]
      exact cn_ cW_ ⟨(lv, HP6, Hl), e1 ▸ hP6, e2 ▸ hl⟩ rfl (l_ (e_ (e_ i_)) (I_ (e_ (e_ z_)) (e_ ai_))) (fun _ _ _ => trivial)
    ·
     replace hr4 := eq_of_beq hr4
     refine n_ rfl (f_ (c_ (a_ (h_ rfl) rfl (a_ (j_ F_ rfl rfl rfl s_) rfl (a_ (q_ 0 w_ rfl rfl rfl) rfl (aH_ (gK_ x [] (Pc.a x) pm b2 b1 g pb kb ab ub ob ib rb sb fb ev lv Hm hm (by first | omega | (simp; omega))) rfl rfl (l_ i_ (l_ i_ (l_ i_ z_))) (fun _ _ _ => by exact trivial) rfl fun ⟨HP7, hP7⟩ => ?_))))))
     dsimp only
     simp only [List.cons_append]
     refine d_ (b_ rfl (f_ (c_ (a_ (j_ F_ rfl rfl rfl s_) rfl (a_ (q_ 0 w_ rfl rfl rfl) rfl (a_ (j_ F_ rfl rfl rfl s_) rfl (a_ (q_ 0 w_ rfl rfl rfl) rfl (x_ (eI_ rfl rfl) rfl fun r10 hr10 => ?_))))))))
     refine d_ (b_ rfl ?_)
     cases r10
     ·
      replace hr10 := bc_ hr10
      refine p_ rfl (A_ (aO_ rfl ?_))
      have e1 : (pm ++ [((Ky.mk (Pc.kind x) [] (Pc.a x)), x)]) = pm ++ cD_ x := by simp [cD_, *]
      have e2 : lps = lps ++ aB_ [x] := by simp [aB_, *]
      exact cn_ cW_ ⟨(lv, HP7, Hl), e1 ▸ hP7, e2 ▸ hl⟩ rfl (l_ (e_ (e_ i_)) (I_ (e_ (e_ z_)) (e_ ai_))) (fun _ _ _ => trivial)
     ·
      replace hr10 := bb_ hr10
      refine n_ rfl (c_ (a_ (h_ rfl) rfl (a_ (j_ F_ rfl rfl rfl s_) rfl (a_ (q_ 0 w_ rfl rfl rfl) rfl (aH_ (gK_ x [] (Pc.b x) (pm ++ [((Ky.mk (Pc.kind x) [] (Pc.a x)), x)]) b2 b1 g pb kb ab ub ob ib rb sb fb ev lv HP7 hP7 (by first | omega | (simp; omega))) rfl rfl (l_ i_ (l_ i_ (l_ i_ z_))) (fun _ _ _ => by exact trivial) rfl fun ⟨HP8, hP8⟩ => ?_)))))
      dsimp only
      simp only [List.cons_append]
      refine d_ (aO_ rfl ?_)
      have e1 : ((pm ++ [((Ky.mk (Pc.kind x) [] (Pc.a x)), x)]) ++ [((Ky.mk (Pc.kind x) [] (Pc.b x)), x)]) = pm ++ cD_ x := by simp [cD_, *]
      have e2 : lps = lps ++ aB_ [x] := by simp [aB_, *]
      exact cn_ cW_ ⟨(lv, HP8, Hl), e1 ▸ hP8, e2 ▸ hl⟩ rfl (l_ (e_ (e_ i_)) (I_ (e_ (e_ z_)) (e_ ai_))) (fun _ _ _ => trivial)
   ·
    replace hr3 := eq_of_beq hr3
    refine n_ rfl (c_ (a_ (h_ rfl) rfl (a_ (j_ F_ rfl rfl rfl s_) rfl (a_ (q_ 0 w_ rfl rfl rfl) rfl (aH_ (gK_ x [] (Pc.a x) pm b2 b1 g pb kb ab ub ob ib rb sb fb ev lv Hm hm (by first | omega | (simp; omega))) rfl rfl (l_ i_ (l_ i_ (l_ i_ z_))) (fun _ _ _ => by exact trivial) rfl fun ⟨HP9, hP9⟩ => ?_)))))
    dsimp only
    simp only [List.cons_append]
    refine d_ (aO_ rfl ?_)
    have e1 : (pm ++ [((Ky.mk (Pc.kind x) [] (Pc.a x)), x)]) = pm ++ cD_ x := by simp [cD_, *]
    have e2 : lps = lps ++ aB_ [x] := by simp [aB_, *]
    exact cn_ cW_ ⟨(lv, HP9, Hl), e1 ▸ hP9, e2 ▸ hl⟩ rfl (l_ (e_ (e_ i_)) (I_ (e_ (e_ z_)) (e_ ai_))) (fun _ _ _ => trivial)
  ·
   replace hr2 := eq_of_beq hr2
   refine n_ rfl (A_ (b_ rfl (n_ rfl (c_ (a_ (h_ rfl) rfl (a_ (j_ F_ rfl rfl rfl s_) rfl (a_ (q_ 0 w_ rfl rfl rfl) rfl (aH_ (gK_ x [] (Pc.a x) pm b2 b1 g pb kb ab ub ob ib rb sb fb ev lv Hm hm (by first | omega | (simp; omega))) rfl rfl (l_ i_ (l_ i_ (l_ i_ z_))) (fun _ _ _ => by exact trivial) rfl fun ⟨HP10, hP10⟩ => ?_))))))))
   dsimp only
   simp only [List.cons_append]
   refine d_ (aO_ rfl ?_)
   have e1 : (pm ++ [((Ky.mk (Pc.kind x) [] (Pc.a x)), x)]) = pm ++ cD_ x := by simp [cD_, *]
   have e2 : lps = lps ++ aB_ [x] := by simp [aB_, *]
   exact cn_ cW_ ⟨(lv, HP10, Hl), e1 ▸ hP10, e2 ▸ hl⟩ rfl (l_ (e_ (e_ i_)) (I_ (e_ (e_ z_)) (e_ ai_))) (fun _ _ _ => trivial)
 ·
  replace hr1 := eq_of_beq hr1
  refine n_ rfl (A_ (b_ rfl (n_ rfl (c_ (a_ (h_ rfl) rfl (a_ (j_ F_ rfl rfl rfl s_) rfl (a_ (q_ 0 w_ rfl rfl rfl) rfl (aH_ (gK_ x [] (Pc.a x) pm b2 b1 g pb kb ab ub ob ib rb sb fb ev lv Hm hm (by first | omega | (simp; omega))) rfl rfl (l_ i_ (l_ i_ (l_ i_ z_))) (fun _ _ _ => by exact trivial) rfl fun ⟨HP11, hP11⟩ => ?_))))))))
  dsimp only
  simp only [List.cons_append]
  refine d_ (aO_ rfl ?_)
  have e1 : (pm ++ [((Ky.mk (Pc.kind x) [] (Pc.a x)), x)]) = pm ++ cD_ x := by simp [cD_, *]
  have e2 : lps = lps ++ aB_ [x] := by simp [aB_, *]
  exact cn_ cW_ ⟨(lv, HP11, Hl), e1 ▸ hP11, e2 ▸ hl⟩ rfl (l_ (e_ (e_ i_)) (I_ (e_ (e_ z_)) (e_ ai_))) (fun _ _ _ => trivial)
structure NewE where
  g : Nat
  pb : Nat
  kb : Nat
  ab : Nat
  ub : Nat
  ob : Nat
  ib : Nat
  rb : Nat
  sb : Nat
  fb : Nat
  lv : Value
  hm : Hp
  hl : Hp
def NewE.ok (ps : List Pc) (y : NewE) : Prop := dH_ Ky.val Pc.cells 47 10 (aW_ ps) y.pb y.hm ∧ bk_ 9 1 y.lv (List.length (aB_ ps)) (List.flatMap bg_ (aB_ ps)) y.hl
def NewE.own (y : NewE) : Hp := (y.g, .cells #[.map (some y.pb), y.lv, .map (some y.kb), .nilFunc, .map (some y.ab), .map (some y.ub), .map (some y.ob), .map (some y.ib), .map (some y.rb), .map (some y.sb), .map (some y.fb)] 94 (0, 0)) :: (y.kb, .map #[] 0) :: (y.ab, .map #[] 0) :: (y.ub, .map #[] 0) :: (y.ob, .map #[] 0) :: (y.ib, .map #[] 0) :: (y.rb, .map #[] 0) :: (y.sb, .map #[] 0) :: (y.fb, .map #[] 0) :: (y.hm ++ y.hl)
theorem fb_ {p : List Pc} {i : Nat} {x : Pc} (h : p[i]? = some x) : uniq [] (List.take (i + 1) p) = if x.zf ∈ uniq [] (List.take i p) then uniq [] (List.take i p) else uniq [] (List.take i p) ++ [x.zf] := by
  have key : ∀ (l : List Pc) (r : List Pc), uniq l (r ++ [x]) = if x.zf ∈ uniq l r then uniq l r else uniq l r ++ [x.zf] := by
    intro l r
    induction r generalizing l with
    | nil => rfl
    | cons y r ih => exact ih _
  rw [List.take_add_one, h, Option.toList_some]
  exact key _ _
theorem pk_ (l : List Pc) (x : Pc) : aW_ (l ++ [x]) = aW_ l ++ cD_ x := by simp [aW_]
theorem lq_ (l : List Pc) (x : Pc) : aB_ (l ++ [x]) = aB_ l ++ aB_ [x] := by simp [aB_]
theorem qt_ (x : Pc) : (cD_ x).length ≤ 2 := by unfold cD_; (repeat' split) <;> simp
theorem jz_ : ∀ l : List Pc, (aW_ l).length ≤ 2 * l.length
  | [] => by simp [aW_]
  | x :: l => by
    have := jz_ l
    have h2 := qt_ x
    simp only [aW_, List.flatMap_cons, List.length_append, List.length_cons] at this ⊢
    omega
theorem iI_ (l : List Pc) : (aB_ l).length ≤ l.length := by
  simp only [aB_, List.length_map]; exact List.length_filter_le _ _
theorem mO_ (p : List Pc) (pad : Option Addr) (pcap : Nat) (hp : p.length ≤ 100000000) : Tri Tryz.prog 54 #[.slice pad (List.length p) pcap] [] [aS_ pad (List.flatMap Pc.cells p)] (fun y : {y : NewE // y.ok (uniq [] p)} => zp_ y.1.g 0) (fun y => y.1.own) (fun _ => []) := by
 refine M_ Tryz.func54 rfl rfl Tryz.ntmps54 rfl fun v0 => ?_
 refine f_ (c_ (a_ (g_ rfl) rfl (d_ (b_ rfl (f_ (c_ (cL_ rfl fun b1 => ?_)))))))
 refine cL_ rfl fun b2 => ?_
 refine cL_ rfl fun b3 => ?_
 refine cL_ rfl fun b4 => ?_
 refine cL_ rfl fun b5 => ?_
 refine cL_ rfl fun b6 => ?_
 refine cL_ rfl fun b7 => ?_
 refine cL_ rfl fun b8 => ?_
 refine cL_ rfl fun b9 => ?_
 refine a_ (ag_ strt94 rfl rfl) rfl (aF_ rfl rfl fun b10 => ?_)
 refine a_ (g_ rfl) rfl (d_ (b_ rfl (f_ (c_ (cL_ rfl fun b11 => ?_)))))
 refine a_ (g_ rfl) rfl (d_ (b_ rfl (f_ (f_ (c_ (a_ (h_ rfl) rfl (a_ (ah_ G_ rfl) rfl (a_ (h_ rfl) rfl (d_ ?_)))))))))
 refine b_ rfl (S_ ?_)
 refine aV_ (ι := {y : Nat × Array MapEntry × Nat × Hp × Value × Hp // y.1 ≤ List.length p ∧ SetE Pc.val y.2.1 (uniq [] (List.take y.1 p)) ∧ dH_ Ky.val Pc.cells 47 10 (aW_ (uniq [] (List.take y.1 p))) b1 y.2.2.2.1 ∧ bk_ 9 1 y.2.2.2.2.1 (List.length (aB_ (uniq [] (List.take y.1 p)))) (List.flatMap bg_ (aB_ (uniq [] (List.take y.1 p)))) y.2.2.2.2.2}) (fun y => [(3, zp_ b10 0), (4, .map (some b11)), (19, .slice pad (List.length p) pcap), (20, .int .i64 (List.length p : Int)), (21, .int .i64 (y.1.1 : Int))]) (fun y => ((b10, .cells #[.map (some b1), y.1.2.2.2.2.1, .map (some b2), .nilFunc, .map (some b3), .map (some b4), .map (some b5), .map (some b6), .map (some b7), .map (some b8), .map (some b9)] 94 (0, 0)) :: ((b11, .map y.1.2.1 y.1.2.2.1) :: ((b2, .map #[] 0) :: ((b3, .map #[] 0) :: ((b4, .map #[] 0) :: ((b5, .map #[] 0) :: ((b6, .map #[] 0) :: ((b7, .map #[] 0) :: ((b8, .map #[] 0) :: ((b9, .map #[] 0) :: (y.1.2.2.2.1 ++ y.1.2.2.2.2.2)))))))))))) (fun y => [aS_ pad (List.flatMap Pc.cells p)]) (fun y => List.length p - y.1.1) ⟨((0 : Nat), #[], 0, [(b1, .map #[] 0)], (.slice none 0 0), []), by simp, by exact SetE.nil, by exact dH_.nil _ _, (bk_.nil 9 1)⟩ ⟨rfl, rfl, rfl, rfl, rfl, trivial⟩ (l_ (e_ i_) (l_ i_ (l_ (e_ (e_ (e_ (e_ (e_ (e_ (e_ i_))))))) (l_ (e_ (e_ (e_ (e_ (e_ (e_ i_)))))) (l_ (e_ (e_ (e_ (e_ (e_ i_))))) (l_ (e_ (e_ (e_ (e_ i_)))) (l_ (e_ (e_ (e_ i_))) (l_ (e_ (e_ i_)) (l_ (e_ i_) (l_ i_ i_)))))))))) (fun _ _ h => h) ?_
 rintro ⟨⟨i, es, cs, Hm, sv_L, H_L⟩, hi, hE, hm, hr_L⟩
 dsimp only at hi hE hm hr_L ⊢
 have hbu := hK_ (List.take i p) []
 have hbt := List.length_take_le i p
 simp only [List.length_nil] at hbu
 have hbp : (aW_ (uniq [] (List.take i p))).length ≤ 900000000 := by have := jz_ (uniq [] (List.take i p)); omega
 have hbl : (aB_ (uniq [] (List.take i p))).length ≤ 900000000 := by have := iI_ (uniq [] (List.take i p)); omega
 refine f_ (c_ (x_ (az_ rfl rfl) rfl fun r1 hr1 => ?_))
 refine d_ (b_ rfl (f_ ?_))
 cases r1
 ·
  replace hr1 := of_decide_eq_false hr1
  refine p_ rfl (aD_ rfl (b_ rfl (f_ (c_ (a_ (h_ rfl) rfl (a_ (g_ rfl) rfl (d_ (b_ rfl (B_ ?_)))))))))
  have e9 : List.take i p = p := List.take_of_length_le (by omega)
  rw [e9] at hm hr_L
  exact as_ Tryz.results54 ⟨NewE.mk b10 b1 b2 b3 b4 b5 b6 b7 b8 b9 sv_L Hm H_L, hm, hr_L⟩ rfl (l_ i_ (l_ (e_ i_) (l_ (e_ i_) (l_ (e_ i_) (l_ (e_ i_) (l_ (e_ i_) (l_ (e_ i_) (l_ (e_ i_) (l_ (e_ i_) (I_ (e_ z_) ai_)))))))))) (fun _ _ _ => trivial)
 ·
  replace hr1 := of_decide_eq_true hr1
  have hlx1 : i < List.length p := by omega
  obtain ⟨x1, hx1⟩ : ∃ e0, p[i]? = some e0 := ⟨_, List.getElem?_eq_getElem hlx1⟩
  have hmx1 : x1 ∈ p := List.mem_of_getElem? hx1
  refine n_ rfl (A_ (b_ rfl (f_ (S_ (f_ (c_ (a_ (ak_ G_ U_ rfl rfl (fun v _ h => aL_ (n := 10) Pc.cells_len (by decide) (by exact h.1) hx1) (by omega) (by first | omega | (simp; done))) rfl (a_ (aE_ (ad := pad) (us := Pc.cells x1) bh_ U_ rfl (fun v _ h => by exact h.1) (Pc.cells_len _) (an_ Pc.cells_len hx1)) rfl (al_ ap_ rfl fun b12 => ?_)))))))))
  refine Z_ 0 U_ rfl rfl rfl rfl rfl rfl (d_ (b_ rfl (f_ (c_ (a_ (j_ F_ rfl rfl rfl H_) rfl (Z_ 0 H_ rfl rfl rfl rfl rfl rfl (d_ (b_ rfl (f_ ?_)))))))))
  refine c_ (a_ (h_ rfl) rfl (a_ (L_ 0 bh_ U_ rfl rfl rfl) rfl (x_ (ej_ (k := Pc.zf x1) (q := (uniq [] (List.take i p))) qN_ ho_ db_ rfl rfl hE (fun v h _ => (h.own _ (List.mem_of_getElem? (i := 2) rfl)).1)) rfl fun r2 hr2 => ?_)))
  refine a_ (bG_ rfl) rfl (d_ (b_ rfl ?_))
  cases r2
  ·
   replace hr2 := of_decide_eq_false hr2
   refine n_ rfl (f_ (c_ (a_ (h_ rfl) rfl (a_ (L_ 0 bh_ U_ rfl rfl rfl) rfl (fK_ (k := Pc.zf x1) (q := (uniq [] (List.take i p))) 2 qN_ (.inr rfl) ho_ rfl rfl rfl rfl hE fun es1 c1 hE1 => ?_)))))
   refine d_ (b_ rfl (c_ (a_ (h_ rfl) rfl (a_ (L_ 0 bh_ U_ rfl rfl rfl) rfl (Q_ (pN_ (Pc.zf x1) (aW_ (uniq [] (List.take i p))) (aB_ (uniq [] (List.take i p))) b10 b1 b2 b3 b4 b5 b6 b7 b8 b9 .nilFunc sv_L Hm H_L hm hr_L  hbp hbl) rfl (l_ (e_ i_) (I_ (e_ (e_ (e_ (e_ (e_ (e_ (e_ (e_ (e_ (e_ z_)))))))))) (e_ (e_ (e_ (e_ (e_ (e_ (e_ (e_ (e_ ai_))))))))))) (fun _ _ _ => by exact trivial) rfl fun ⟨⟨lv1, HA1, HA2⟩, hA1, hA2⟩ => ?_)))))
   dsimp only
   simp only [List.cons_append, List.append_assoc]
   refine d_ (b_ rfl (at_ (bj_ i_ (bj_ (m_ (m_ i_)) (bj_ (m_ (m_ i_)) (bj_ (m_ (m_ i_)) (bj_ (m_ (m_ i_)) (bj_ (m_ (m_ i_)) (bj_ (m_ (m_ i_)) (bj_ (m_ (m_ i_)) (bj_ (m_ (m_ i_)) (bj_ (m_ (m_ i_)) (dw_ (m_ be_)))))))))))) (c_ (a_ (V_ rfl rfl rfl (aq_ (by omega) (by omega))) rfl (a_ (h_ rfl) rfl (d_ (r_ rfl ?_)))))))
   exact ao_ ⟨(i + 1, es1, c1, HA1, lv1, HA2), hlx1, by rw [fb_ hx1]; exact hE1, by rw [fb_ hx1, if_neg (by assumption), pk_]; exact hA1, (by rw [fb_ hx1, if_neg (by assumption), lq_]; exact hA2)⟩ (by dsimp only; omega) ⟨rfl, rfl, rfl, rfl, rfl, trivial⟩ (l_ i_ (l_ (e_ i_) (l_ (e_ i_) (l_ (e_ i_) (l_ (e_ i_) (l_ (e_ i_) (l_ (e_ i_) (l_ (e_ i_) (l_ (e_ i_) (l_ (e_ i_) (I_ (e_ z_) ai_))))))))))) (fun _ _ h => h)
  ·
   replace hr2 := of_decide_eq_true hr2
   refine p_ rfl (A_ (b_ rfl (c_ (a_ (V_ rfl rfl rfl (aq_ (by omega) (by omega))) rfl (a_ (h_ rfl) rfl (d_ (r_ rfl ?_)))))))
   exact ao_ ⟨(i + 1, es, cs, Hm, sv_L, H_L), hlx1, by rw [fb_ hx1, if_pos (by assumption)]; exact hE, by rw [fb_ hx1, if_pos (by assumption)]; exact hm, (by rw [fb_ hx1, if_pos (by assumption)]; exact hr_L)⟩ (by dsimp only; omega) ⟨rfl, rfl, rfl, rfl, rfl, trivial⟩ (l_ (e_ i_) (l_ (e_ i_) (l_ (e_ i_) (l_ (e_ i_) (l_ (e_ i_) (l_ (e_ i_) (l_ (e_ i_) (l_ (e_ i_) (l_ (e_ i_) (l_ (e_ i_) (I_ (e_ z_) ai_))))))))))) (fun _ _ h => h)
end Go.Proofs.YtpdbbglpbngeiaaGreatDoor
namespace Go.Proofs.YtpdbbglpbngeiaaGreatDoor
open Go Go.Sx Go.Proofs
attribute [local irreducible] Code.wp wpList wpAnyH
open Go.Vs
theorem ji_ {P : Program} {N : Nat} {fr : Fr} {H : Hp} {Γ : List Fct} {ty : TypeId} {K : Type} [DecidableEq K] {kv : K → Value} {t kt et : TypeId} {x : Operand} {mb c : Nat} {es : Array MapEntry} {q : List K} (hE : SetE kv es q) (hu : ∀ w, (underlying t).run P w = .ok (.map kt et) w) (hx : Fr.ev fr x = some (.map (some mb))) (hm : ∀ v, v.sat H → aI_ Γ v → v.w.heap[mb]? = some (.map es c)) :
    Yld P N fr H Γ (.call ⟨.builtin .len, #[x], #[t]⟩) ty (.int .i64 (q.length : Int)) := by
  rw [← hE.size]; exact pT_ hu hx hm
def andF (a b : Fct) : Fct where
  p v := a.p v ∧ b.p v
  mono := fun v v' h ⟨h1, h2⟩ => ⟨a.mono v v' h h1, b.mono v v' h h2⟩
def StA (b9 kb fb : Nat) (nw fm : List Fc) (H : Hp) : Prop := ∃ sv es c es' c' q Hq, H = (b9, .cells #[sv] 26 (0, 0)) :: (kb, .map es c) :: ([(fb, .map es' c')] ++ Hq) ∧ bk_ 41 6 sv nw.length (nw.flatMap Fc.cells) Hq ∧ SetE Fc.val es nw ∧ SetE Fc.val es' q ∧ ∀ f, f ∈ q ↔ f ∈ fm
theorem sj_ (f : Fc) (nw fm : List Fc) (m : Nat) (hm : m ≤ 65536) (g b7 b8 b9 kb fb : Nat) (c0 c1 c3 c4 c5 c6 c7 c8 c9 c10 sv : Value) (es es2 : Array MapEntry) (c c2 : Nat) (q : List Fc) (Hq : Hp) (hr : bk_ 41 6 sv nw.length (nw.flatMap Fc.cells) Hq) (hE : SetE Fc.val es nw) (hF : SetE Fc.val es2 q) (hq : ∀ f, f ∈ q ↔ f ∈ fm) : Tri Tryz.prog 55 #[Fc.val f, zp_ b7 0, zp_ b8 0, zp_ b9 0] ((b9, .cells #[sv] 26 (0, 0)) :: (kb, .map es c) :: ([(fb, .map es2 c2)] ++ Hq)) [dZ_ b7 (.cells #[zp_ g 0] 85 (0, 0)), dZ_ b8 (.cells #[.int .i64 (m : Int)] 3 (0, 0)), dZ_ g (.cells #[c0, c1, .map (some kb), c3, c4, c5, c6, c7, c8, c9, c10] 94 (0, 0))] (fun _ : {H : Hp // StA b9 kb fb (bx_ m f nw) fm H} => .tuple #[]) (fun y => y.1) (fun _ => []) := by
  refine M_ Tryz.func55 rfl rfl Tryz.ntmps55 rfl fun v0 => ?_
  refine f_ (c_ (aF_ rfl rfl fun b1 => ?_))
  refine d_ (b_ rfl (f_ ?_))
  refine aN_ (by kernel_rfl) ?_
  refine ad_ 8 [0, 1, 2, 3, 4, 5, 6, 7] (by kernel_rfl) (fun _ a b => ⟨a, b⟩) (k_ rfl (aa_ cl_ rfl (fun v _ h => by exact h.1) rfl) rfl (k_ rfl (af_ rfl) rfl (k_ rfl (j_ D_ rfl rfl rfl bT_) rfl (k_ rfl (aa_ ck_ rfl (fun v _ h => by exact h.2.2.1) rfl) rfl (k_ rfl (ji_ hE aZ_ rfl (fun v h _ => (h.own _ (List.mem_of_getElem? (i := 2) rfl)).1)) rfl (k_ rfl (aa_ J_ rfl (fun v _ h => by exact h.2.1) rfl) rfl ?_))))))
  refine ds_ rfl (cJ_ rfl rfl) rfl fun r1 hr1 => ?_
  refine k_ rfl (h_ rfl) rfl (ac_ ?_)
  cases r1
  · skip
    replace hr1 := of_decide_eq_false hr1
    refine ad_ 0 [8, 9, 10, 11, 12, 13, 14, 15] (by kernel_rfl) (fun _ a b => ⟨a, b⟩) (dN_ rfl rfl rfl rfl rfl (dN_ rfl rfl rfl rfl rfl (dN_ rfl rfl rfl rfl rfl (dN_ rfl rfl rfl rfl rfl (dN_ rfl rfl rfl rfl rfl (dN_ rfl rfl rfl rfl rfl (dN_ rfl rfl rfl rfl rfl (k_ rfl (N_ rfl rfl) rfl (ac_ ?_)))))))))
    refine ab_ (by kernel_rfl) (b_ rfl (p_ rfl (A_ (aO_ rfl ?_))))
    have e0 : bx_ m f nw = nw := by unfold bx_; rw [if_neg (by rintro ⟨q1, q2⟩; first | omega | exact absurd (by assumption) q2)]
    exact cn_ Tryz.results55 ⟨_, sv, es, c, es2, c2, q, Hq, rfl, by rw [e0]; exact hr, by rw [e0]; exact hE, hF, hq⟩ rfl (l_ (e_ i_) (l_ (e_ i_) (I_ (e_ z_) ai_))) (fun _ _ _ => trivial)
  · skip
    replace hr1 := of_decide_eq_true hr1
    refine ad_ 0 [8, 9, 10, 11, 12, 13, 14, 15] (by kernel_rfl) (fun _ a b => ⟨a, b⟩) (cK_ rfl rfl rfl (aa_ cl_ rfl (fun v _ h => by exact h.1) rfl) rfl (cK_ rfl rfl rfl (af_ rfl) rfl (cK_ rfl rfl rfl (j_ D_ rfl rfl rfl bT_) rfl (cK_ rfl rfl rfl (aa_ ck_ rfl (fun v _ h => by exact h.2.2.1) rfl) rfl (cK_ rfl rfl rfl (L_ 0 au_ X_ rfl rfl rfl) rfl ?_)))))
    refine jp_ rfl rfl rfl (ej_ (k := f) gO_ aZ_ db_ rfl rfl hE (fun v h _ => (h.own _ (List.mem_of_getElem? (i := 2) rfl)).1)) rfl fun r2 hr2 => ?_
    refine cK_ rfl rfl rfl (bG_ rfl) rfl (k_ rfl (R_ rfl rfl) rfl (ac_ (ab_ (by kernel_rfl) (b_ rfl ?_))))
    cases r2
    · skip
      replace hr2 := of_decide_eq_false hr2
      refine n_ rfl (f_ ?_)
      refine aC_ ((b1, .cells (Fc.cells f).toArray 41 (0, 0)) :: ((b9, .cells #[sv] 26 (0, 0)) :: [])) (by kernel_rfl) ?_
      refine ad_ 1 [0, 1, 2, 3, 4] (by kernel_rfl) (fun _ a b => ⟨Vw.sat.sub (a.perm (l_ i_ i_)), b⟩) (k_ rfl (aa_ cl_ rfl (fun v _ h => by exact h.1) rfl) rfl (k_ rfl (af_ rfl) rfl (k_ rfl (j_ D_ rfl rfl rfl bT_) rfl (k_ rfl (aa_ ck_ rfl (fun v _ h => by exact h.2.2.1) rfl) rfl (k_ rfl (L_ 0 au_ X_ rfl rfl rfl) rfl (ac_ (O_ 5 rfl (by kernel_rfl) (fK_ (k := f) 2 gO_ (.inr rfl) aZ_ rfl rfl rfl rfl hE fun ej1 cj1 hj1 => ?_))))))))
      refine d_ (r_ rfl (C_ (fun _ a b => ⟨Vw.sat.sub (a.perm (l_ i_ i_)), b⟩) (ab_ (by kernel_rfl) (b_ rfl (c_ (a_ (q_ 1 bX_ rfl rfl rfl) rfl (a_ (L_ 0 au_ X_ rfl rfl rfl) rfl (aK_ aj_ X_ bt_ rfl rfl rfl rfl rfl rfl fun b2 => ?_))))))))
      refine bd_ (news := List.flatMap Fc.cells [f]) lI_ hr rfl rfl (e_ (e_ (e_ (e_ be_)))) rfl (cQ_ 0 rfl) (fun u hu => bV_ Fc.cells_one hu) (by simp only [maxLen]; omega) (by omega) rfl fun sv1 Hr1 hr1 => ?_
      have hq1 : bk_ 41 6 sv1 (List.length (nw ++ [f])) (List.flatMap Fc.cells (nw ++ [f])) Hr1 := by rw [List.length_append, List.flatMap_append]; exact hr1
      refine at_ (bj_ (m_ i_) (bj_ (m_ i_) (bj_ (m_ i_) (dw_ (m_ i_))))) (gh_ 2 hq1 cu_ rfl rfl rfl rfl (d_ (aO_ rfl ?_)))
      have e0 : bx_ m f nw = nw ++ [f] := by unfold bx_; rw [if_pos ⟨by omega, by assumption⟩]
      exact cn_ Tryz.results55 ⟨_, sv1, ej1, cj1, es2, c2, q, Hr1, rfl, by rw [e0]; exact hq1, by rw [e0]; rw [if_neg (by assumption)] at hj1; exact hj1, hF, hq⟩ rfl (l_ (e_ (e_ i_)) (l_ (e_ (e_ i_)) (I_ (e_ (e_ be_)) (e_ ai_)))) (fun _ _ _ => trivial)
    · skip
      replace hr2 := of_decide_eq_true hr2
      refine p_ rfl (A_ (aO_ rfl ?_))
      have e0 : bx_ m f nw = nw := by unfold bx_; rw [if_neg (by rintro ⟨q1, q2⟩; first | omega | exact absurd (by assumption) q2)]
      exact cn_ Tryz.results55 ⟨_, sv, es, c, es2, c2, q, Hq, rfl, by rw [e0]; exact hr, by rw [e0]; exact hE, hF, hq⟩ rfl (l_ (e_ i_) (l_ (e_ i_) (I_ (e_ z_) ai_))) (fun _ _ _ => trivial)
end Go.Proofs.YtpdbbglpbngeiaaGreatDoor
namespace Go.Proofs.YtpdbbglpbngeiaaGreatDoor
open Go Go.Sx Go.Proofs
attribute [local irreducible] Code.wp wpList wpAnyH
open Go.Vs
def EA (m : Nat) (hm : m ≤ 65536) (B : EngB) (b7 b8 b9 kb fb : Nat) : Emt Tryz.prog 41 where
  stp := bx_ m
  kof := idk
  St := StA b9 kb fb
  fn := 55
  caps := [zp_ b7 0, zp_ b8 0, zp_ b9 0]
  ef := andF (dZ_ b7 (.cells #[zp_ B.g 0] 85 (0, 0))) (andF (dZ_ b8 (.cells #[.int .i64 (m : Int)] 3 (0, 0))) (dZ_ B.g (.cells #[.map (some B.pb), .slice B.lad B.lps.length B.lcap, .map (some kb), .func (.func 55) #[] #[zp_ b7 0, zp_ b8 0, zp_ b9 0], .map (some B.ab), .map (some B.ub), .map (some B.ob), .map (some B.ib), .map (some B.rb), .map (some B.sb), .map (some fb)] 94 (0, 0))))
  kb := kb
  fb := fb
  grows := eR_ m
  emit := fun f nw fm H hS => by
    obtain ⟨sv, es, c, es2, c2, q, Hq, rfl, h1, h2, h3, h4⟩ := hS
    exact mg_ [] (sj_ f nw fm m hm B.g b7 b8 b9 kb fb _ _ _ _ _ _ _ _ _ _ sv es es2 c c2 q Hq h1 h2 h3 h4) (fun v _ h => ⟨h.1.1, h.1.2.1, h.1.2.2, trivial⟩)
  known := fun hS => by
    obtain ⟨sv, es, c, es2, c2, q, Hq, rfl, h1, h2, h3, h4⟩ := hS
    exact ⟨es, c, by simp, h2⟩
  firm := fun hS => by
    obtain ⟨sv, es, c, es2, c2, q, Hq, rfl, h1, h2, h3, h4⟩ := hS
    exact ⟨es2, c2, q, by simp, h3, h4⟩
  setf := fun {nw fm H} f hS => by
    obtain ⟨sv, es, c, es2, c2, q, Hq, rfl, h1, h2, h3, h4⟩ := hS
    refine ⟨es2, c2, q, (b9, .cells #[sv] 26 (0, 0)) :: (kb, .map es c) :: Hq, dw_ (e_ (e_ i_)), h3, h4, fun es' c' h5 => ⟨(b9, .cells #[sv] 26 (0, 0)) :: (kb, .map es c) :: ([(fb, .map es' c')] ++ Hq), ⟨sv, es, c, es', c', _, Hq, rfl, h1, h2, h5, ?_⟩, dw_ (e_ (e_ i_))⟩⟩
    intro z
    split
    · rename_i hz; rw [h4, List.mem_cons]; constructor
      · exact .inr
      · rintro (rfl | h)
        · exact (h4 _).1 hz
        · exact h
    · rw [List.mem_append, List.mem_singleton, h4, List.mem_cons, or_comm]
end Go.Proofs.YtpdbbglpbngeiaaGreatDoor
namespace Go.Proofs.YtpdbbglpbngeiaaGreatDoor
open Go Go.Sx Go.Proofs
attribute [local irreducible] Code.wp wpList wpAnyH
open Go.Vs
def fvC (v : Value) : List Value := [v]
theorem hh_ (v : Value) : (fvC v).length = 1 := rfl
theorem oS_ {P : Program} {N : Nat} {fr : Fr} {H : Hp} {Γ : List Fct} {ty : TypeId} {t e : TypeId} {n sz : Nat} {parts : List (Nat × Operand)} {vs : List (Nat × Value)} {z cs : List Value} (hz : ∀ w, (zeroValue t).run P w = .ok (.agg z.toArray) w) (hu : ∀ w, (underlying t).run P w = .ok (.array n e) w) (hs : ∀ w, (sizeOf e).run P w = .ok sz w) (hx : Fr.evp fr parts = some vs) (hf : kf_ (fun i => some (i * sz, sz)) z vs = some cs) :
    Yld P N fr H Γ (.build t parts.toArray) ty (.agg cs.toArray) :=
  kz_ (fun a h1 w => by
    have := h1.evp hx
    rw [List.map_toArray, this]
    have hf' := ih_ _ _ _ _ hf
    simp only [Instr.build, Sem.run_bind, hz, Result.andThen_ok, hu, hs, Value.cells, hf', Sem.run_pure])
def rlV (g : Nat) (k : Nat) : List Value := if k = 1 then [(Value.func (.func 100) #[zp_ g 0] #[]), (Value.func (.func 101) #[zp_ g 0] #[]), (Value.func (.func 102) #[zp_ g 0] #[]), (Value.func (.func 103) #[zp_ g 0] #[]), (Value.func (.func 104) #[zp_ g 0] #[]), (Value.func (.func 105) #[zp_ g 0] #[])] else if k = 2 then [(Value.func (.func 106) #[zp_ g 0] #[]), (Value.func (.func 107) #[zp_ g 0] #[]), (Value.func (.func 108) #[zp_ g 0] #[]), (Value.func (.func 109) #[zp_ g 0] #[])] else [(Value.func (.func 110) #[zp_ g 0] #[]), (Value.func (.func 111) #[zp_ g 0] #[])]
theorem rH_ (g : Nat) : Tri Tryz.prog 58 #[zp_ g 0] [] [] (fun y : Nat × Nat × Nat => .agg #[.slice none 0 0, .slice (some ⟨y.1, 0, none⟩) 6 6, .slice (some ⟨y.2.1, 0, none⟩) 4 4, .slice (some ⟨y.2.2, 0, none⟩) 2 2]) (fun _ => []) (fun y => [aS_ (some ⟨y.1, 0, none⟩) (List.flatMap fvC (rlV g 1)), aS_ (some ⟨y.2.1, 0, none⟩) (List.flatMap fvC (rlV g 2)), aS_ (some ⟨y.2.2, 0, none⟩) (List.flatMap fvC (rlV g 3))]) := by
  refine M_ Tryz.func58 rfl rfl Tryz.ntmps58 rfl fun v0 => ?_
  refine f_ (c_ (al_ Tryz.zeroValue98 rfl fun b1 => ?_))
  refine d_ (b_ rfl (f_ (c_ (a_ (h_ rfl) rfl (a_ (cp_ (us := [zp_ g 0]) (vs := []) rfl rfl) rfl (a_ (h_ rfl) rfl (a_ (cp_ (us := [zp_ g 0]) (vs := []) rfl rfl) rfl (a_ (h_ rfl) rfl (a_ (cp_ (us := [zp_ g 0]) (vs := []) rfl rfl) rfl ?_)))))))))
  refine a_ (h_ rfl) rfl (a_ (cp_ (us := [zp_ g 0]) (vs := []) rfl rfl) rfl (a_ (h_ rfl) rfl (a_ (cp_ (us := [zp_ g 0]) (vs := []) rfl rfl) rfl (a_ (h_ rfl) rfl (a_ (cp_ (us := [zp_ g 0]) (vs := []) rfl rfl) rfl (aK_ cP_ aU_ Tryz.zeroValue89 rfl rfl rfl rfl rfl rfl fun b2 => ?_))))))
  refine dT_ (List.flatMap fvC [(Value.func (.func 100) #[zp_ g 0] #[]), (Value.func (.func 101) #[zp_ g 0] #[]), (Value.func (.func 102) #[zp_ g 0] #[]), (Value.func (.func 103) #[zp_ g 0] #[]), (Value.func (.func 104) #[zp_ g 0] #[]), (Value.func (.func 105) #[zp_ g 0] #[])]) i_ rfl ?_
  refine a_ (h_ rfl) rfl (a_ (cp_ (us := [zp_ g 0]) (vs := []) rfl rfl) rfl (a_ (h_ rfl) rfl (a_ (cp_ (us := [zp_ g 0]) (vs := []) rfl rfl) rfl (a_ (h_ rfl) rfl (a_ (cp_ (us := [zp_ g 0]) (vs := []) rfl rfl) rfl (a_ (h_ rfl) rfl (a_ (cp_ (us := [zp_ g 0]) (vs := []) rfl rfl) rfl (aK_ cP_ aU_ Tryz.zeroValue89 rfl rfl rfl rfl rfl rfl fun b3 => ?_))))))))
  refine dT_ (List.flatMap fvC [(Value.func (.func 106) #[zp_ g 0] #[]), (Value.func (.func 107) #[zp_ g 0] #[]), (Value.func (.func 108) #[zp_ g 0] #[]), (Value.func (.func 109) #[zp_ g 0] #[])]) i_ rfl ?_
  refine a_ (h_ rfl) rfl (a_ (cp_ (us := [zp_ g 0]) (vs := []) rfl rfl) rfl (a_ (h_ rfl) rfl (a_ (cp_ (us := [zp_ g 0]) (vs := []) rfl rfl) rfl (aK_ cP_ aU_ Tryz.zeroValue89 rfl rfl rfl rfl rfl rfl fun b4 => ?_))))
  refine dT_ (List.flatMap fvC [(Value.func (.func 110) #[zp_ g 0] #[]), (Value.func (.func 111) #[zp_ g 0] #[])]) i_ rfl ?_
  refine a_ (oS_ Tryz.zeroValue98 qm_ Tryz.sizeOf97 rfl rfl) rfl (Z_ 0 Tryz.sizeOf98 rfl rfl rfl rfl rfl rfl (d_ (b_ rfl (B_ ?_))))
  exact dY_ (b2, b3, b4) (fun aa v h1 h2 => fJ_ (us := [.slice none 0 0, .slice (some ⟨b2, 0, none⟩) (List.length [(Value.func (.func 100) #[zp_ g 0] #[]), (Value.func (.func 101) #[zp_ g 0] #[]), (Value.func (.func 102) #[zp_ g 0] #[]), (Value.func (.func 103) #[zp_ g 0] #[]), (Value.func (.func 104) #[zp_ g 0] #[]), (Value.func (.func 105) #[zp_ g 0] #[])]) 6, .slice (some ⟨b3, 0, none⟩) (List.length [(Value.func (.func 106) #[zp_ g 0] #[]), (Value.func (.func 107) #[zp_ g 0] #[]), (Value.func (.func 108) #[zp_ g 0] #[]), (Value.func (.func 109) #[zp_ g 0] #[])]) 4, .slice (some ⟨b4, 0, none⟩) (List.length [(Value.func (.func 110) #[zp_ g 0] #[]), (Value.func (.func 111) #[zp_ g 0] #[])]) 2]) 0 Tryz.results58 Tryz.isAgg98 Tryz.sizeOf98 rfl rfl rfl aa v h1 h2) W_ (fun v _ h => by exact ⟨h.2.2.1, h.2.1, h.1, trivial⟩)
end Go.Proofs.YtpdbbglpbngeiaaGreatDoor
namespace Go.Proofs.YtpdbbglpbngeiaaGreatDoor
open Go Go.Sx Go.Proofs
attribute [local irreducible] Code.wp wpList wpAnyH
open Go.Vs
theorem eP_ (B : EngB) (E : Emt Tryz.prog 41) (A0 : EngA) (pm : List (Ky × Pc)) (x : Ix) (f : Fc) (nw fm : List Fc) (Hs : Hp) (hS : E.St nw fm Hs) (Ha Hu Ho Hi Hr Hm : Hp) (hI : IxO 9 41 B x ⟨Ha, Hu, Ho, Hi, Hr, Hm⟩) {n : FuncId} {args : Array Value} {ret : Hp → Prop} (hT : ∀ A : EngA, A.p = A0.p → Tri Tryz.prog n args Hs [gF B E, pF B pm A, aF B x A, uF B x A, oF B x A, iF B x A, rF B x A, sF B x A, E.ef] (fun _ : {H' : Hp // ret H'} => .tuple #[]) (fun y => y.1) (fun _ => [])) :
    Tri Tryz.prog n args ((Ha ++ (Hu ++ (Ho ++ (Hi ++ (Hr ++ Hm))))) ++ Hs) [gF B E, pF B pm A0, E.ef] (fun _ : {H' : Hp // ret H'} => .tuple #[]) (fun y => (Ha ++ (Hu ++ (Ho ++ (Hi ++ (Hr ++ Hm))))) ++ y.1) (fun _ => []) := by
  obtain ⟨ha, hu, ho, hi, hr, hm⟩ := hI
  dsimp only at ha hu ho hi hr hm
  obtain ⟨a1, k1⟩ := ha.lent (P := Tryz.prog) hX_
  obtain ⟨a2, k2⟩ := hu.lent (P := Tryz.prog) hX_
  obtain ⟨a3, k3⟩ := ho.lent (P := Tryz.prog) cR_
  obtain ⟨a4, k4⟩ := hi.lent (P := Tryz.prog) cR_
  obtain ⟨a5, k5⟩ := hr.lent (P := Tryz.prog) cR_
  obtain ⟨a6, k6⟩ := hm.lent (P := Tryz.prog) cR_
  refine mg_ _ (hT ⟨A0.p, a1, a2, a3, a4, a5, a6⟩ rfl) fun v hB h => ⟨h.1, h.2.1, k1 v fun p hp => hB p (by simp [hp]), k2 v fun p hp => hB p (by simp [hp]), k3 v fun p hp => hB p (by simp [hp]), k4 v fun p hp => hB p (by simp [hp]), k5 v fun p hp => hB p (by simp [hp]), k6 v fun p hp => hB p (by simp [hp]), h.2.2.1, trivial⟩
theorem rl10_c (B : EngB) (E : Emt Tryz.prog 41) (A0 : EngA) (pm : List (Ky × Pc)) (x : Ix) (f : Fc) (nw fm : List Fc) (Hs : Hp) (hS : E.St nw fm Hs) (Ha Hu Ho Hi Hr Hm : Hp) (hI : IxO 9 41 B x ⟨Ha, Hu, Ho, Hi, Hr, Hm⟩) (hpl : ∀ k, (lat pm k).length ≤ 1000000000) (hxl : ∀ k, (lat x.above k).length ≤ 1000000000 ∧ (lat x.under k).length ≤ 1000000000) (hyl : ∀ k, (lat x.frm k).length ≤ 1000000000 ∧ (lat x.into k).length ≤ 1000000000 ∧ (lat x.ranges k).length ≤ 1000000000 ∧ (lat x.firms k).length ≤ 1000000000) (hf : f.kind = 3 → -1099511627776 ≤ f.lo ∧ f.lo ≤ f.hi ∧ f.hi ≤ 1099511627776) (hq : f.kind = 3 → ∀ y ∈ lat pm (Ky.mk 9 (Fc.r f) []), -1099511627776 ≤ y.lo ∧ y.lo ≤ y.hi ∧ y.hi ≤ 1099511627776) (hk : f.kind = 1) : Tri Tryz.prog 100 #[zp_ B.g 0, f.val] ((Ha ++ (Hu ++ (Ho ++ (Hi ++ (Hr ++ Hm))))) ++ Hs) [gF B E, pF B pm A0, E.ef] (fun _ : {H' : Hp // E.St (rl E.stp E.kof pm x f 0 (nw, fm)).1 (rl E.stp E.kof pm x f 0 (nw, fm)).2 H'} => .tuple #[]) (fun y => (Ha ++ (Hu ++ (Ho ++ (Hi ++ (Hr ++ Hm))))) ++ y.1) (fun _ => []) := by
  refine eP_ B E A0 pm x f nw fm Hs hS Ha Hu Ho Hi Hr Hm hI fun A hA => ?_
  have h := pK_ B E A pm x f nw fm Hs hS hpl hxl hyl
  have e : rl E.stp E.kof pm x f 0 (nw, fm) = _ := if_pos hk
  rw [e]
  exact h
theorem rl11_c (B : EngB) (E : Emt Tryz.prog 41) (A0 : EngA) (pm : List (Ky × Pc)) (x : Ix) (f : Fc) (nw fm : List Fc) (Hs : Hp) (hS : E.St nw fm Hs) (Ha Hu Ho Hi Hr Hm : Hp) (hI : IxO 9 41 B x ⟨Ha, Hu, Ho, Hi, Hr, Hm⟩) (hpl : ∀ k, (lat pm k).length ≤ 1000000000) (hxl : ∀ k, (lat x.above k).length ≤ 1000000000 ∧ (lat x.under k).length ≤ 1000000000) (hyl : ∀ k, (lat x.frm k).length ≤ 1000000000 ∧ (lat x.into k).length ≤ 1000000000 ∧ (lat x.ranges k).length ≤ 1000000000 ∧ (lat x.firms k).length ≤ 1000000000) (hf : f.kind = 3 → -1099511627776 ≤ f.lo ∧ f.lo ≤ f.hi ∧ f.hi ≤ 1099511627776) (hq : f.kind = 3 → ∀ y ∈ lat pm (Ky.mk 9 (Fc.r f) []), -1099511627776 ≤ y.lo ∧ y.lo ≤ y.hi ∧ y.hi ≤ 1099511627776) (hk : f.kind = 1) : Tri Tryz.prog 101 #[zp_ B.g 0, f.val] ((Ha ++ (Hu ++ (Ho ++ (Hi ++ (Hr ++ Hm))))) ++ Hs) [gF B E, pF B pm A0, E.ef] (fun _ : {H' : Hp // E.St (rl E.stp E.kof pm x f 1 (nw, fm)).1 (rl E.stp E.kof pm x f 1 (nw, fm)).2 H'} => .tuple #[]) (fun y => (Ha ++ (Hu ++ (Ho ++ (Hi ++ (Hr ++ Hm))))) ++ y.1) (fun _ => []) := by
  refine eP_ B E A0 pm x f nw fm Hs hS Ha Hu Ho Hi Hr Hm hI fun A hA => ?_
  have h := both_c B E A pm x f nw fm Hs hS hpl hxl hyl
  have e : rl E.stp E.kof pm x f 1 (nw, fm) = _ := if_pos hk
  rw [e]
  exact h
theorem rl12_c (B : EngB) (E : Emt Tryz.prog 41) (A0 : EngA) (pm : List (Ky × Pc)) (x : Ix) (f : Fc) (nw fm : List Fc) (Hs : Hp) (hS : E.St nw fm Hs) (Ha Hu Ho Hi Hr Hm : Hp) (hI : IxO 9 41 B x ⟨Ha, Hu, Ho, Hi, Hr, Hm⟩) (hpl : ∀ k, (lat pm k).length ≤ 1000000000) (hxl : ∀ k, (lat x.above k).length ≤ 1000000000 ∧ (lat x.under k).length ≤ 1000000000) (hyl : ∀ k, (lat x.frm k).length ≤ 1000000000 ∧ (lat x.into k).length ≤ 1000000000 ∧ (lat x.ranges k).length ≤ 1000000000 ∧ (lat x.firms k).length ≤ 1000000000) (hf : f.kind = 3 → -1099511627776 ≤ f.lo ∧ f.lo ≤ f.hi ∧ f.hi ≤ 1099511627776) (hq : f.kind = 3 → ∀ y ∈ lat pm (Ky.mk 9 (Fc.r f) []), -1099511627776 ≤ y.lo ∧ y.lo ≤ y.hi ∧ y.hi ≤ 1099511627776) (hk : f.kind = 1) : Tri Tryz.prog 102 #[zp_ B.g 0, f.val] ((Ha ++ (Hu ++ (Ho ++ (Hi ++ (Hr ++ Hm))))) ++ Hs) [gF B E, pF B pm A0, E.ef] (fun _ : {H' : Hp // E.St (rl E.stp E.kof pm x f 2 (nw, fm)).1 (rl E.stp E.kof pm x f 2 (nw, fm)).2 H'} => .tuple #[]) (fun y => (Ha ++ (Hu ++ (Ho ++ (Hi ++ (Hr ++ Hm))))) ++ y.1) (fun _ => []) := by
  refine eP_ B E A0 pm x f nw fm Hs hS Ha Hu Ho Hi Hr Hm hI fun A hA => ?_
  have h := some_c B E A pm x f nw fm Hs hS hpl hxl hyl
  have e : rl E.stp E.kof pm x f 2 (nw, fm) = _ := if_pos hk
  rw [e]
  exact h
theorem rl13_c (B : EngB) (E : Emt Tryz.prog 41) (A0 : EngA) (pm : List (Ky × Pc)) (x : Ix) (f : Fc) (nw fm : List Fc) (Hs : Hp) (hS : E.St nw fm Hs) (Ha Hu Ho Hi Hr Hm : Hp) (hI : IxO 9 41 B x ⟨Ha, Hu, Ho, Hi, Hr, Hm⟩) (hpl : ∀ k, (lat pm k).length ≤ 1000000000) (hxl : ∀ k, (lat x.above k).length ≤ 1000000000 ∧ (lat x.under k).length ≤ 1000000000) (hyl : ∀ k, (lat x.frm k).length ≤ 1000000000 ∧ (lat x.into k).length ≤ 1000000000 ∧ (lat x.ranges k).length ≤ 1000000000 ∧ (lat x.firms k).length ≤ 1000000000) (hf : f.kind = 3 → -1099511627776 ≤ f.lo ∧ f.lo ≤ f.hi ∧ f.hi ≤ 1099511627776) (hq : f.kind = 3 → ∀ y ∈ lat pm (Ky.mk 9 (Fc.r f) []), -1099511627776 ≤ y.lo ∧ y.lo ≤ y.hi ∧ y.hi ≤ 1099511627776) (hk : f.kind = 1) : Tri Tryz.prog 103 #[zp_ B.g 0, f.val] ((Ha ++ (Hu ++ (Ho ++ (Hi ++ (Hr ++ Hm))))) ++ Hs) [gF B E, pF B pm A0, E.ef] (fun _ : {H' : Hp // E.St (rl E.stp E.kof pm x f 3 (nw, fm)).1 (rl E.stp E.kof pm x f 3 (nw, fm)).2 H'} => .tuple #[]) (fun y => (Ha ++ (Hu ++ (Ho ++ (Hi ++ (Hr ++ Hm))))) ++ y.1) (fun _ => []) := by
  refine eP_ B E A0 pm x f nw fm Hs hS Ha Hu Ho Hi Hr Hm hI fun A hA => ?_
  have h := nY_ B E A pm x f nw fm Hs hS hpl hxl hyl
  have e : rl E.stp E.kof pm x f 3 (nw, fm) = _ := if_pos hk
  rw [e]
  exact h
theorem rl14_c (B : EngB) (E : Emt Tryz.prog 41) (A0 : EngA) (pm : List (Ky × Pc)) (x : Ix) (f : Fc) (nw fm : List Fc) (Hs : Hp) (hS : E.St nw fm Hs) (Ha Hu Ho Hi Hr Hm : Hp) (hI : IxO 9 41 B x ⟨Ha, Hu, Ho, Hi, Hr, Hm⟩) (hpl : ∀ k, (lat pm k).length ≤ 1000000000) (hxl : ∀ k, (lat x.above k).length ≤ 1000000000 ∧ (lat x.under k).length ≤ 1000000000) (hyl : ∀ k, (lat x.frm k).length ≤ 1000000000 ∧ (lat x.into k).length ≤ 1000000000 ∧ (lat x.ranges k).length ≤ 1000000000 ∧ (lat x.firms k).length ≤ 1000000000) (hf : f.kind = 3 → -1099511627776 ≤ f.lo ∧ f.lo ≤ f.hi ∧ f.hi ≤ 1099511627776) (hq : f.kind = 3 → ∀ y ∈ lat pm (Ky.mk 9 (Fc.r f) []), -1099511627776 ≤ y.lo ∧ y.lo ≤ y.hi ∧ y.hi ≤ 1099511627776) (hk : f.kind = 1) : Tri Tryz.prog 104 #[zp_ B.g 0, f.val] ((Ha ++ (Hu ++ (Ho ++ (Hi ++ (Hr ++ Hm))))) ++ Hs) [gF B E, pF B pm A0, E.ef] (fun _ : {H' : Hp // E.St (rl E.stp E.kof pm x f 4 (nw, fm)).1 (rl E.stp E.kof pm x f 4 (nw, fm)).2 H'} => .tuple #[]) (fun y => (Ha ++ (Hu ++ (Ho ++ (Hi ++ (Hr ++ Hm))))) ++ y.1) (fun _ => []) := by
  refine eP_ B E A0 pm x f nw fm Hs hS Ha Hu Ho Hi Hr Hm hI fun A hA => ?_
  have h := nj_ B E A pm x f nw fm Hs hS hpl hxl hyl
  have e : rl E.stp E.kof pm x f 4 (nw, fm) = _ := if_pos hk
  rw [e]
  exact h
theorem rl15_c (B : EngB) (E : Emt Tryz.prog 41) (A0 : EngA) (pm : List (Ky × Pc)) (x : Ix) (f : Fc) (nw fm : List Fc) (Hs : Hp) (hS : E.St nw fm Hs) (Ha Hu Ho Hi Hr Hm : Hp) (hI : IxO 9 41 B x ⟨Ha, Hu, Ho, Hi, Hr, Hm⟩) (hpl : ∀ k, (lat pm k).length ≤ 1000000000) (hxl : ∀ k, (lat x.above k).length ≤ 1000000000 ∧ (lat x.under k).length ≤ 1000000000) (hyl : ∀ k, (lat x.frm k).length ≤ 1000000000 ∧ (lat x.into k).length ≤ 1000000000 ∧ (lat x.ranges k).length ≤ 1000000000 ∧ (lat x.firms k).length ≤ 1000000000) (hf : f.kind = 3 → -1099511627776 ≤ f.lo ∧ f.lo ≤ f.hi ∧ f.hi ≤ 1099511627776) (hq : f.kind = 3 → ∀ y ∈ lat pm (Ky.mk 9 (Fc.r f) []), -1099511627776 ≤ y.lo ∧ y.lo ≤ y.hi ∧ y.hi ≤ 1099511627776) (hk : f.kind = 1) : Tri Tryz.prog 105 #[zp_ B.g 0, f.val] ((Ha ++ (Hu ++ (Ho ++ (Hi ++ (Hr ++ Hm))))) ++ Hs) [gF B E, pF B pm A0, E.ef] (fun _ : {H' : Hp // E.St (rl E.stp E.kof pm x f 5 (nw, fm)).1 (rl E.stp E.kof pm x f 5 (nw, fm)).2 H'} => .tuple #[]) (fun y => (Ha ++ (Hu ++ (Ho ++ (Hi ++ (Hr ++ Hm))))) ++ y.1) (fun _ => []) := by
  refine eP_ B E A0 pm x f nw fm Hs hS Ha Hu Ho Hi Hr Hm hI fun A hA => ?_
  have h := rw_ B E A pm x f nw fm Hs hS hpl hxl hyl
  have e : rl E.stp E.kof pm x f 5 (nw, fm) = _ := if_pos hk
  rw [e]
  exact h
theorem rl20_c (B : EngB) (E : Emt Tryz.prog 41) (A0 : EngA) (pm : List (Ky × Pc)) (x : Ix) (f : Fc) (nw fm : List Fc) (Hs : Hp) (hS : E.St nw fm Hs) (Ha Hu Ho Hi Hr Hm : Hp) (hI : IxO 9 41 B x ⟨Ha, Hu, Ho, Hi, Hr, Hm⟩) (hpl : ∀ k, (lat pm k).length ≤ 1000000000) (hxl : ∀ k, (lat x.above k).length ≤ 1000000000 ∧ (lat x.under k).length ≤ 1000000000) (hyl : ∀ k, (lat x.frm k).length ≤ 1000000000 ∧ (lat x.into k).length ≤ 1000000000 ∧ (lat x.ranges k).length ≤ 1000000000 ∧ (lat x.firms k).length ≤ 1000000000) (hf : f.kind = 3 → -1099511627776 ≤ f.lo ∧ f.lo ≤ f.hi ∧ f.hi ≤ 1099511627776) (hq : f.kind = 3 → ∀ y ∈ lat pm (Ky.mk 9 (Fc.r f) []), -1099511627776 ≤ y.lo ∧ y.lo ≤ y.hi ∧ y.hi ≤ 1099511627776) (hk : f.kind = 2) : Tri Tryz.prog 106 #[zp_ B.g 0, f.val] ((Ha ++ (Hu ++ (Ho ++ (Hi ++ (Hr ++ Hm))))) ++ Hs) [gF B E, pF B pm A0, E.ef] (fun _ : {H' : Hp // E.St (rl E.stp E.kof pm x f 0 (nw, fm)).1 (rl E.stp E.kof pm x f 0 (nw, fm)).2 H'} => .tuple #[]) (fun y => (Ha ++ (Hu ++ (Ho ++ (Hi ++ (Hr ++ Hm))))) ++ y.1) (fun _ => []) := by
  refine eP_ B E A0 pm x f nw fm Hs hS Ha Hu Ho Hi Hr Hm hI fun A hA => ?_
  have h := pF_ B E A pm x f nw fm Hs hS hpl hxl hyl
  have e : rl E.stp E.kof pm x f 0 (nw, fm) = _ := (if_neg (by rw [hk]; decide)).trans (if_pos hk)
  rw [e]
  exact h
theorem rl21_c (B : EngB) (E : Emt Tryz.prog 41) (A0 : EngA) (pm : List (Ky × Pc)) (x : Ix) (f : Fc) (nw fm : List Fc) (Hs : Hp) (hS : E.St nw fm Hs) (Ha Hu Ho Hi Hr Hm : Hp) (hI : IxO 9 41 B x ⟨Ha, Hu, Ho, Hi, Hr, Hm⟩) (hpl : ∀ k, (lat pm k).length ≤ 1000000000) (hxl : ∀ k, (lat x.above k).length ≤ 1000000000 ∧ (lat x.under k).length ≤ 1000000000) (hyl : ∀ k, (lat x.frm k).length ≤ 1000000000 ∧ (lat x.into k).length ≤ 1000000000 ∧ (lat x.ranges k).length ≤ 1000000000 ∧ (lat x.firms k).length ≤ 1000000000) (hf : f.kind = 3 → -1099511627776 ≤ f.lo ∧ f.lo ≤ f.hi ∧ f.hi ≤ 1099511627776) (hq : f.kind = 3 → ∀ y ∈ lat pm (Ky.mk 9 (Fc.r f) []), -1099511627776 ≤ y.lo ∧ y.lo ≤ y.hi ∧ y.hi ≤ 1099511627776) (hk : f.kind = 2) : Tri Tryz.prog 107 #[zp_ B.g 0, f.val] ((Ha ++ (Hu ++ (Ho ++ (Hi ++ (Hr ++ Hm))))) ++ Hs) [gF B E, pF B pm A0, E.ef] (fun _ : {H' : Hp // E.St (rl E.stp E.kof pm x f 1 (nw, fm)).1 (rl E.stp E.kof pm x f 1 (nw, fm)).2 H'} => .tuple #[]) (fun y => (Ha ++ (Hu ++ (Ho ++ (Hi ++ (Hr ++ Hm))))) ++ y.1) (fun _ => []) := by
  refine eP_ B E A0 pm x f nw fm Hs hS Ha Hu Ho Hi Hr Hm hI fun A hA => ?_
  have h := so_ B E A pm x f nw fm Hs hS hpl hxl hyl
  have e : rl E.stp E.kof pm x f 1 (nw, fm) = _ := (if_neg (by rw [hk]; decide)).trans (if_pos hk)
  rw [e]
  exact h
theorem rl22_c (B : EngB) (E : Emt Tryz.prog 41) (A0 : EngA) (pm : List (Ky × Pc)) (x : Ix) (f : Fc) (nw fm : List Fc) (Hs : Hp) (hS : E.St nw fm Hs) (Ha Hu Ho Hi Hr Hm : Hp) (hI : IxO 9 41 B x ⟨Ha, Hu, Ho, Hi, Hr, Hm⟩) (hpl : ∀ k, (lat pm k).length ≤ 1000000000) (hxl : ∀ k, (lat x.above k).length ≤ 1000000000 ∧ (lat x.under k).length ≤ 1000000000) (hyl : ∀ k, (lat x.frm k).length ≤ 1000000000 ∧ (lat x.into k).length ≤ 1000000000 ∧ (lat x.ranges k).length ≤ 1000000000 ∧ (lat x.firms k).length ≤ 1000000000) (hf : f.kind = 3 → -1099511627776 ≤ f.lo ∧ f.lo ≤ f.hi ∧ f.hi ≤ 1099511627776) (hq : f.kind = 3 → ∀ y ∈ lat pm (Ky.mk 9 (Fc.r f) []), -1099511627776 ≤ y.lo ∧ y.lo ≤ y.hi ∧ y.hi ≤ 1099511627776) (hk : f.kind = 2) : Tri Tryz.prog 108 #[zp_ B.g 0, f.val] ((Ha ++ (Hu ++ (Ho ++ (Hi ++ (Hr ++ Hm))))) ++ Hs) [gF B E, pF B pm A0, E.ef] (fun _ : {H' : Hp // E.St (rl E.stp E.kof pm x f 2 (nw, fm)).1 (rl E.stp E.kof pm x f 2 (nw, fm)).2 H'} => .tuple #[]) (fun y => (Ha ++ (Hu ++ (Ho ++ (Hi ++ (Hr ++ Hm))))) ++ y.1) (fun _ => []) := by
  refine eP_ B E A0 pm x f nw fm Hs hS Ha Hu Ho Hi Hr Hm hI fun A hA => ?_
  have h := nX_ B E A pm x f nw fm Hs hS hpl hxl hyl
  have e : rl E.stp E.kof pm x f 2 (nw, fm) = _ := (if_neg (by rw [hk]; decide)).trans (if_pos hk)
  rw [e]
  exact h
theorem rl23_c (B : EngB) (E : Emt Tryz.prog 41) (A0 : EngA) (pm : List (Ky × Pc)) (x : Ix) (f : Fc) (nw fm : List Fc) (Hs : Hp) (hS : E.St nw fm Hs) (Ha Hu Ho Hi Hr Hm : Hp) (hI : IxO 9 41 B x ⟨Ha, Hu, Ho, Hi, Hr, Hm⟩) (hpl : ∀ k, (lat pm k).length ≤ 1000000000) (hxl : ∀ k, (lat x.above k).length ≤ 1000000000 ∧ (lat x.under k).length ≤ 1000000000) (hyl : ∀ k, (lat x.frm k).length ≤ 1000000000 ∧ (lat x.into k).length ≤ 1000000000 ∧ (lat x.ranges k).length ≤ 1000000000 ∧ (lat x.firms k).length ≤ 1000000000) (hf : f.kind = 3 → -1099511627776 ≤ f.lo ∧ f.lo ≤ f.hi ∧ f.hi ≤ 1099511627776) (hq : f.kind = 3 → ∀ y ∈ lat pm (Ky.mk 9 (Fc.r f) []), -1099511627776 ≤ y.lo ∧ y.lo ≤ y.hi ∧ y.hi ≤ 1099511627776) (hk : f.kind = 2) : Tri Tryz.prog 109 #[zp_ B.g 0, f.val] ((Ha ++ (Hu ++ (Ho ++ (Hi ++ (Hr ++ Hm))))) ++ Hs) [gF B E, pF B pm A0, E.ef] (fun _ : {H' : Hp // E.St (rl E.stp E.kof pm x f 3 (nw, fm)).1 (rl E.stp E.kof pm x f 3 (nw, fm)).2 H'} => .tuple #[]) (fun y => (Ha ++ (Hu ++ (Ho ++ (Hi ++ (Hr ++ Hm))))) ++ y.1) (fun _ => []) := by
  refine eP_ B E A0 pm x f nw fm Hs hS Ha Hu Ho Hi Hr Hm hI fun A hA => ?_
  have h := ni_ B E A pm x f nw fm Hs hS hpl hxl hyl
  have e : rl E.stp E.kof pm x f 3 (nw, fm) = _ := (if_neg (by rw [hk]; decide)).trans (if_pos hk)
  rw [e]
  exact h
theorem rl30_c (B : EngB) (E : Emt Tryz.prog 41) (A0 : EngA) (pm : List (Ky × Pc)) (x : Ix) (f : Fc) (nw fm : List Fc) (Hs : Hp) (hS : E.St nw fm Hs) (Ha Hu Ho Hi Hr Hm : Hp) (hI : IxO 9 41 B x ⟨Ha, Hu, Ho, Hi, Hr, Hm⟩) (hpl : ∀ k, (lat pm k).length ≤ 1000000000) (hxl : ∀ k, (lat x.above k).length ≤ 1000000000 ∧ (lat x.under k).length ≤ 1000000000) (hyl : ∀ k, (lat x.frm k).length ≤ 1000000000 ∧ (lat x.into k).length ≤ 1000000000 ∧ (lat x.ranges k).length ≤ 1000000000 ∧ (lat x.firms k).length ≤ 1000000000) (hf : f.kind = 3 → -1099511627776 ≤ f.lo ∧ f.lo ≤ f.hi ∧ f.hi ≤ 1099511627776) (hq : f.kind = 3 → ∀ y ∈ lat pm (Ky.mk 9 (Fc.r f) []), -1099511627776 ≤ y.lo ∧ y.lo ≤ y.hi ∧ y.hi ≤ 1099511627776) (hk : f.kind = 3) : Tri Tryz.prog 110 #[zp_ B.g 0, f.val] ((Ha ++ (Hu ++ (Ho ++ (Hi ++ (Hr ++ Hm))))) ++ Hs) [gF B E, pF B pm A0, E.ef] (fun _ : {H' : Hp // E.St (rl E.stp E.kof pm x f 0 (nw, fm)).1 (rl E.stp E.kof pm x f 0 (nw, fm)).2 H'} => .tuple #[]) (fun y => (Ha ++ (Hu ++ (Ho ++ (Hi ++ (Hr ++ Hm))))) ++ y.1) (fun _ => []) := by
  refine eP_ B E A0 pm x f nw fm Hs hS Ha Hu Ho Hi Hr Hm hI fun A hA => ?_
  have h := meet_c B E A pm x f nw fm Hs hS hpl hxl hyl
  have e : rl E.stp E.kof pm x f 0 (nw, fm) = _ := (if_neg (by rw [hk]; decide)).trans (if_neg (by rw [hk]; decide))
  rw [e]
  exact h
theorem rl31_c (B : EngB) (E : Emt Tryz.prog 41) (A0 : EngA) (pm : List (Ky × Pc)) (x : Ix) (f : Fc) (nw fm : List Fc) (Hs : Hp) (hS : E.St nw fm Hs) (Ha Hu Ho Hi Hr Hm : Hp) (hI : IxO 9 41 B x ⟨Ha, Hu, Ho, Hi, Hr, Hm⟩) (hpl : ∀ k, (lat pm k).length ≤ 1000000000) (hxl : ∀ k, (lat x.above k).length ≤ 1000000000 ∧ (lat x.under k).length ≤ 1000000000) (hyl : ∀ k, (lat x.frm k).length ≤ 1000000000 ∧ (lat x.into k).length ≤ 1000000000 ∧ (lat x.ranges k).length ≤ 1000000000 ∧ (lat x.firms k).length ≤ 1000000000) (hf : f.kind = 3 → -1099511627776 ≤ f.lo ∧ f.lo ≤ f.hi ∧ f.hi ≤ 1099511627776) (hq : f.kind = 3 → ∀ y ∈ lat pm (Ky.mk 9 (Fc.r f) []), -1099511627776 ≤ y.lo ∧ y.lo ≤ y.hi ∧ y.hi ≤ 1099511627776) (hk : f.kind = 3) : Tri Tryz.prog 111 #[zp_ B.g 0, f.val] ((Ha ++ (Hu ++ (Ho ++ (Hi ++ (Hr ++ Hm))))) ++ Hs) [gF B E, pF B pm A0, E.ef] (fun _ : {H' : Hp // E.St (rl E.stp E.kof pm x f 1 (nw, fm)).1 (rl E.stp E.kof pm x f 1 (nw, fm)).2 H'} => .tuple #[]) (fun y => (Ha ++ (Hu ++ (Ho ++ (Hi ++ (Hr ++ Hm))))) ++ y.1) (fun _ => []) := by
  refine eP_ B E A0 pm x f nw fm Hs hS Ha Hu Ho Hi Hr Hm hI fun A hA => ?_
  have h := out_c B E A pm x f nw fm Hs hS hpl hxl hyl (hf hk) (hq hk)
  have e : rl E.stp E.kof pm x f 1 (nw, fm) = _ := (if_neg (by rw [hk]; decide)).trans (if_neg (by rw [hk]; decide))
  rw [e]
  exact h
end Go.Proofs.YtpdbbglpbngeiaaGreatDoor
namespace Go.Proofs.YtpdbbglpbngeiaaGreatDoor
open Go Go.Sx Go.Proofs
attribute [local irreducible] Code.wp wpList wpAnyH
open Go.Vs
section
variable {N : Nat} {v0 : Vw} {H0 : Hp} {fr : Fr}
theorem mJ_ {k : Act → World → Prop} {F : Hp} : ∀ (B : Hp) {H : Hp} {Γ : List Fct}, H.Perm (B ++ F) → Ok N v0 H0 k fr F (B.reverse.map (fun p => dZ_ p.1 p.2) ++ Γ) → Ok N v0 H0 k fr H Γ
  | [], H, Γ, hH, h => at_ hH h
  | (b, o) :: B, H, Γ, hH, h => by
    refine gl_ (dZ_ b o) (F := B ++ F) hH (fun _ h1 h2 _ => ⟨h1, h2⟩) ?_
    refine mJ_ B (.refl _) ?_
    simpa using h
end
end Go.Proofs.YtpdbbglpbngeiaaGreatDoor
namespace Go.Proofs.YtpdbbglpbngeiaaGreatDoor
open Go Go.Sx Go.Proofs
attribute [local irreducible] Code.wp wpList wpAnyH
open Go.Vs
theorem pH_ {P : Program} (w : World) (d : Nat) (t e : TypeId) (a : Option Addr) (l c : Nat) (h : P.underlying t = some (.slice e)) : (Op.equalIn (d + 1) t (.slice a l c) (.slice none 0 0)).run P w = .ok a.isNone w := by
  cases a <;> simp [Op.equalIn, run_underlying h]
theorem si_ {P : Program} (w : World) (t e : TypeId) (a : Option Addr) (l c : Nat) (h : P.underlying t = some (.slice e)) : (Op.equal t (.slice a l c) (.slice none 0 0)).run P w = .ok a.isNone w := pH_ w 9999 t e a l c h
theorem lZ_ {P : Program} {N : Nat} {fr : Fr} {H : Hp} {Γ : List Fct} {ty t t' e : TypeId} {x y : Operand} {ad : Option Addr} {m c : Nat} (hu : P.underlying t = some (.slice e)) (hx : Fr.ev fr x = some (.slice ad m c)) (hy : Fr.ev fr y = some (.slice none 0 0)) : Yld P N fr H Γ (.binOp .eql t x y t') ty (.bool (decide (ad = none))) :=
  fun a v h1 _ _ _ _ _ => by
    have he : decide (ad = none) = ad.isNone := by cases ad <;> simp
    simp [execOp, h1.ev hx, h1.ev hy, eqGuard, binOp, si_ v.w t e ad m c hu, he]
theorem mt_ {v : Vw} {cs : List Value} (h : ca_ v none cs) : cs = [] := by
  rcases h with h | ⟨b, off, arr, T, fz, h1, _⟩
  · exact h
  · cases h1
theorem mk_ (b : Nat) (e : TypeId) (sz : Nat) : bk_ e sz (.slice (some ⟨b, 0, none⟩) 0 0) 0 [] [(b, .cells #[] e (0, 0))] := ⟨by simp, .inr ⟨b, 0, #[], rfl, rfl, Nat.le_refl _, by simp [maxLen], by simp, by simp⟩⟩
theorem rg_ (l : List Str) (ad : Option Addr) (cap : Nat) (hc : l.length ≤ cap) (hl : l.length ≤ 1000000000) : Tri Tryz.prog 97 #[.slice ad (List.length l) cap] [] [aS_ ad (List.flatMap bg_ l)] (fun y : {y : Value × Hp // bk_ 9 1 y.1 (List.length l) (List.flatMap bg_ l) y.2} => y.1.1) (fun y => y.1.2) (fun _ => []) := by
  refine M_ Tryz.func97 rfl rfl Tryz.ntmps97 rfl fun v0 => ?_
  refine f_ (c_ (a_ (g_ rfl) rfl (d_ (b_ rfl (f_ (f_ (c_ (a_ (h_ rfl) rfl (x_ (lZ_ gE_ rfl rfl) rfl fun r1 hr1 => ?_)))))))))
  refine d_ (b_ rfl ?_)
  cases r1
  · skip
    replace hr1 := of_decide_eq_false hr1
    refine p_ rfl (A_ (b_ rfl (f_ (c_ (kL_ P_ s_ rfl fun b1 => ?_)))))
    refine at_ i_ (a_ (h_ rfl) rfl (gN_ (news := List.flatMap bg_ l) dt_ (mk_ b1 9 1) rfl rfl (fun q => absurd q hr1) hc ba_ (by rw [ea_ bg_ 1 aX_]) (fun v _ h => by exact h.1) (fun u hu => bV_ cO_ hu) (by simp only [maxLen]; omega) (by omega) rfl fun sv1 Hr1 hr1 => ?_))
    refine at_ List.perm_append_comm ?_
    have hq1 : bk_ 9 1 sv1 (List.length (([] : List Str) ++ l)) (List.flatMap bg_ (([] : List Str) ++ l)) Hr1 := by rw [List.length_append, List.flatMap_append]; exact hr1
    refine a_ (g_ rfl) rfl (d_ (b_ rfl (B_ ?_)))
    exact as_ Tryz.results97 ⟨(sv1, Hr1), by simpa using hq1⟩ rfl ba_ (fun _ _ _ => trivial)
  · skip
    replace hr1 := of_decide_eq_true hr1
    refine n_ rfl (f_ (c_ (a_ (g_ rfl) rfl (d_ (b_ rfl (B_ (qD_ (p := List.flatMap bg_ l = []) (fun v _ h => by have q := h.1; subst hr1; exact mt_ q) fun hz => ?_)))))))
    have hz2 : l = [] := List.eq_nil_of_length_eq_zero (by have := congrArg List.length hz; rwa [ea_ bg_ 1 aX_, Nat.mul_one] at this)
    exact as_ Tryz.results97 ⟨(.slice none 0 0, []), by subst hz2; exact bk_.nil _ _⟩ rfl W_ (fun _ _ _ => trivial)
def atS (p : List Pc) : List Str := Lib.compact ((dW_ p ++ [[42], [33]]).mergeSort fun x y => decide (x ≤ y))
theorem oK_ (p : List Pc) : (atS p).length ≤ 3 * p.length + 2 := by
  have := gT_ ((dW_ p ++ [[42], [33]]).mergeSort fun x y => decide (x ≤ y))
  have h2 := eG_ p
  rw [List.length_mergeSort, List.length_append] at this
  simp only [List.length_cons, List.length_nil] at this
  unfold atS; omega
theorem lR_ (p : List Pc) : (atS p).Pairwise fun x y => x < y := oa_ (qh_ _)
theorem lQ_ (p : List Pc) (x : Str) : x ∈ atS p ↔ x ∈ dW_ p ∨ x = [42] ∨ x = [33] := by
  unfold atS
  rw [iO_, List.mem_mergeSort, List.mem_append]
  simp
theorem atS_c (p : List Pc) (pad : Option Addr) (pcap : Nat) (hp : p.length ≤ 100000000) : Tri Tryz.prog 56 #[.slice pad (List.length p) pcap] [] [aS_ pad (List.flatMap Pc.cells p)] (fun y : {y : Option Addr × Nat // (atS p).length ≤ y.2 ∧ y.2 ≤ maxLen ∧ (y.1 = none → y.2 = 0)} => .slice y.1.1 (atS p).length y.1.2) (fun _ => []) (fun y => [aS_ y.1.1 ((atS p).flatMap bg_)]) := by
  refine M_ Tryz.func56 rfl rfl Tryz.ntmps56 rfl fun v0 => ?_
  refine f_ (c_ (a_ (g_ rfl) rfl (d_ (b_ rfl (f_ (c_ (a_ (h_ rfl) rfl (Q_ (su_ p pad pcap (by omega)) rfl W_ (fun v _ h => by exact ⟨h.1, trivial⟩) rfl fun ⟨⟨aad, acap⟩, hac, ham⟩ => ?_))))))))
  dsimp only
  refine Q_ (rg_ (dW_ p) aad acap hac (by have := eG_ p; omega)) rfl W_ (fun v _ h => by exact ⟨h.1, trivial⟩) rfl fun ⟨⟨svc, Hcl⟩, hcl⟩ => ?_
  dsimp only
  refine at_ hd_ (aK_ P_ s_ bq_ rfl rfl rfl rfl rfl rfl fun b1 => ?_)
  refine bd_ (news := List.flatMap bg_ [[42], [33]]) dt_ hcl rfl rfl ai_ rfl (cQ_ 0 rfl) (fun u hu => bV_ cO_ hu) (by simp only [maxLen]; (have := eG_ p; (try simp only [List.length_append, List.length_cons, List.length_nil]); omega)) (by (have := eG_ p; (try simp only [List.length_append, List.length_cons, List.length_nil]); omega)) rfl fun sv1 Hr1 hr1 => ?_
  refine at_ List.perm_append_comm ?_
  have hq1 : bk_ 9 1 sv1 (List.length ((dW_ p) ++ [[42], [33]])) (List.flatMap bg_ ((dW_ p) ++ [[42], [33]])) Hr1 := by rw [List.length_append, List.flatMap_append]; exact hr1
  refine a_ (g_ rfl) rfl (d_ (b_ rfl (f_ (c_ (a_ (h_ rfl) rfl (Q_ (or_ hq1 (by (have := eG_ p; (try simp only [List.length_append, List.length_cons, List.length_nil]); omega))) rfl ai_ (fun _ _ _ => by exact trivial) rfl fun ⟨Hso1, hs1⟩ => ?_))))))
  dsimp only
  have hso1 : bk_ 9 1 sv1 (List.length ((((dW_ p) ++ [[42], [33]])).mergeSort fun x y => decide (x ≤ y))) (List.flatMap bg_ ((((dW_ p) ++ [[42], [33]])).mergeSort fun x y => decide (x ≤ y))) Hso1 := by rw [List.length_mergeSort]; exact hs1
  refine d_ (b_ rfl (at_ (dw_ be_) (f_ (c_ (a_ (h_ rfl) rfl (Q_ (kj_ hso1 (by rw [List.length_mergeSort]; (have := eG_ p; (try simp only [List.length_append, List.length_cons, List.length_nil]); omega))) rfl ai_ (fun _ _ _ => by exact trivial) rfl fun ⟨⟨svk2, Hk2⟩, hk2⟩ => ?_))))))
  dsimp only
  refine a_ (g_ rfl) rfl (d_ (b_ rfl (B_ (dS_ hk2 z_ fun ad2 cp2 had2 hcad2 hmad2 hzad2 => ?_))))
  exact as_ Tryz.results56 ⟨(ad2, cp2), hcad2, hmad2, hzad2⟩ (gn_ rfl had2) W_ (fun v _ h => ⟨h.1, trivial⟩)
end Go.Proofs.YtpdbbglpbngeiaaGreatDoor
namespace Go.Proofs
open Go.Shelf
def Tryz.sortFc_ren : Go.Shelf.Ren := ⟨fun | 6 => 60 | 15 => 113 | 14 => 112 | 28 => 152 | 29 => 153 | 20 => 144 | 21 => 145 | 22 => 146 | 23 => 147 | 24 => 148 | 25 => 149 | 26 => 150 | 27 => 151 | 46 => 185 | 47 => 186 | 48 => 187 | 49 => 188 | 50 => 189 | 57 => 207 | n => n, fun | 22 => 26 | 24 => 41 | 25 => 101 | 3 => 3 | 39 => 45 | 0 => 0 | 53 => 65 | 55 => 186 | 4 => 4 | 46 => 178 | 45 => 177 | 50 => 182 | 5 => 5 | 9 => 9 | 66 => 205 | 70 => 199 | 76 => 227 | 77 => 228 | n => n, fun | n => n⟩
theorem Tryz.sortFc : Go.Proofs.SlLaysF0.n6 Tryz.prog Tryz.sortFc_ren := {
 mixed := by kernel_rfl
 f6 := ⟨Tryz.f60.name, by decide, Tryz.func60.trans (congrArg some (by kernel_rfl))⟩
 f14 := ⟨Tryz.f112.name, by decide, Tryz.func112.trans (congrArg some (by kernel_rfl))⟩
 f15 := Tryz.func113.trans (congrArg some (by kernel_rfl))
 f20 := ⟨Tryz.f144.name, by decide, Tryz.func144.trans (congrArg some (by kernel_rfl))⟩
 f21 := ⟨Tryz.f145.name, by decide, Tryz.func145.trans (congrArg some (by kernel_rfl))⟩
 f22 := ⟨Tryz.f146.name, by decide, Tryz.func146.trans (congrArg some (by kernel_rfl))⟩
 f23 := ⟨Tryz.f147.name, by decide, Tryz.func147.trans (congrArg some (by kernel_rfl))⟩
 f24 := ⟨Tryz.f148.name, by decide, Tryz.func148.trans (congrArg some (by kernel_rfl))⟩
 f25 := ⟨Tryz.f149.name, by decide, Tryz.func149.trans (congrArg some (by kernel_rfl))⟩
 f26 := ⟨Tryz.f150.name, by decide, Tryz.func150.trans (congrArg some (by kernel_rfl))⟩
 f27 := ⟨Tryz.f151.name, by decide, Tryz.func151.trans (congrArg some (by kernel_rfl))⟩
 f28 := Tryz.func152.trans (congrArg some (by kernel_rfl))
 f29 := Tryz.func153.trans (congrArg some (by kernel_rfl))
 f46 := ⟨Tryz.f185.name, by decide, Tryz.func185.trans (congrArg some (by kernel_rfl))⟩
 f47 := Tryz.func186.trans (congrArg some (by kernel_rfl))
 f48 := Tryz.func187.trans (congrArg some (by kernel_rfl))
 f49 := ⟨Tryz.f188.name, by decide, Tryz.func188.trans (congrArg some (by kernel_rfl))⟩
 f50 := ⟨Tryz.f189.name, by decide, Tryz.func189.trans (congrArg some (by kernel_rfl))⟩
 f57 := ⟨Tryz.f207.name, by decide, Tryz.func207.trans (congrArg some (by kernel_rfl))⟩
 t0 := Tryz.underlying0
 a0 := Tryz.isAgg0
 z0 := Tryz.sizeOf0
 v0 := Tryz.zeroValue0
 t3 := Tryz.underlying3
 a3 := Tryz.isAgg3
 z3 := Tryz.sizeOf3
 v3 := Tryz.zeroValue3
 t4 := Tryz.underlying4
 a4 := Tryz.isAgg4
 z4 := Tryz.sizeOf4
 v4 := Tryz.zeroValue4
 t5 := Tryz.underlying5
 a5 := Tryz.isAgg5
 z5 := Tryz.sizeOf5
 v5 := Tryz.zeroValue5
 t9 := Tryz.underlying9
 a9 := Tryz.isAgg9
 z9 := Tryz.sizeOf9
 v9 := Tryz.zeroValue9
 t22 := Tryz.underlying26
 a22 := Tryz.isAgg26
 z22 := Tryz.sizeOf26
 v22 := Tryz.zeroValue26
 t25 := Tryz.underlying101
 a25 := Tryz.isAgg101
 z25 := Tryz.sizeOf101
 v25 := Tryz.zeroValue101
 t39 := Tryz.underlying45
 a39 := Tryz.isAgg45
 z39 := Tryz.sizeOf45
 v39 := Tryz.zeroValue45
 t45 := Tryz.underlying177
 a45 := Tryz.isAgg177
 z45 := Tryz.sizeOf177
 v45 := Tryz.zeroValue177
 t46 := Tryz.underlying178
 a46 := Tryz.isAgg178
 z46 := Tryz.sizeOf178
 v46 := Tryz.zeroValue178
 t50 := Tryz.underlying182
 a50 := Tryz.isAgg182
 z50 := Tryz.sizeOf182
 v50 := Tryz.zeroValue182
 t53 := Tryz.underlying65
 a53 := Tryz.isAgg65
 z53 := Tryz.sizeOf65
 v53 := Tryz.zeroValue65
 t55 := Tryz.underlying186
 a55 := Tryz.isAgg186
 z55 := Tryz.sizeOf186
 v55 := Tryz.zeroValue186
 t66 := Tryz.underlying205
 a66 := Tryz.isAgg205
 z66 := Tryz.sizeOf205
 v66 := Tryz.zeroValue205
 t70 := Tryz.underlying199
 a70 := Tryz.isAgg199
 z70 := Tryz.sizeOf199
 v70 := Tryz.zeroValue199
 t76 := Tryz.underlying227
 a76 := Tryz.isAgg227
 z76 := Tryz.sizeOf227
 v76 := Tryz.zeroValue227
 t77 := Tryz.underlying228
 a77 := Tryz.isAgg228
 z77 := Tryz.sizeOf228
 v77 := Tryz.zeroValue228 }
end Go.Proofs
namespace Go.Proofs.YtpdbbglpbngeiaaGreatDoor
open Go Go.Sx Go.Proofs
attribute [local irreducible] Code.wp wpList wpAnyH
open Go.Vs
instance : Inhabited Fc := ⟨⟨0, [], [], [], 0, 0⟩⟩
theorem km_ (x y : Int) : Fn0 Tryz.prog 115 #[.int .i64 x, .int .i64 y] (.int .i64 (Lib.compareInt x y)) :=
  dA_ (callable Tryz.func115 rfl rfl) fun v _ _ => (Tryz.cmp_Compare_int x y v.w).mono (by rintro e w' ⟨rfl, rfl⟩; exact ⟨rfl, ⟨rfl, rfl, rfl, Nat.le_refl _, fun _ _ => rfl⟩, .inr (Nat.le_refl _)⟩)
theorem kl_ (x y : Str) : Fn0 Tryz.prog 71 #[str x, str y] (.int .i64 (Lib.compareBytes x y)) :=
  dA_ (callable Tryz.func71 rfl rfl) fun v _ _ => (Tryz.strings_Compare ⟨x.toArray⟩ ⟨y.toArray⟩ v.w).mono (by rintro e w' ⟨rfl, rfl⟩; exact ⟨rfl, ⟨rfl, rfl, rfl, Nat.le_refl _, fun _ _ => rfl⟩, .inr (Nat.le_refl _)⟩)
def orF : List Int → Int
  | [] => 0
  | x :: l => if x = 0 then orF l else x
theorem qA_ : ∀ {l : List Int} {i : Nat} {x : Int}, (∀ y ∈ l.take i, y = 0) → l[i]? = some x → x ≠ 0 → orF l = x
  | [], _, _, _, h, _ => by simp at h
  | y :: l, 0, x, _, h, hx => by simp at h; subst h; simp [orF, hx]
  | y :: l, i + 1, x, h0, h, hx => by
    have hy : y = 0 := h0 y (by simp)
    rw [orF, if_pos hy]
    exact qA_ (i := i) (fun z hz => h0 z (by rw [List.take_succ_cons]; exact List.mem_cons_of_mem _ hz)) (by simpa using h) hx
theorem mG_ : ∀ {l : List Int}, (∀ y ∈ l, y = 0) → orF l = 0
  | [], _ => rfl
  | y :: l, h => by rw [orF, if_pos (h y (by simp))]; exact mG_ fun z hz => h z (by simp [hz])
theorem cI_neg (x y : Int) : Lib.compareInt x y < 0 ↔ x < y := by unfold Lib.compareInt; (repeat' split) <;> omega
theorem sp_ (x y : Int) : Lib.compareInt x y = 0 ↔ x = y := by unfold Lib.compareInt; (repeat' split) <;> omega
theorem rj_ : ∀ (x y : Str), Lib.compareBytes x y < 0 ↔ x < y
  | [], [] => by simp [Lib.compareBytes]
  | [], b :: y => by simp [Lib.compareBytes]
  | a :: x, [] => by simp [Lib.compareBytes]
  | a :: x, b :: y => by
    rw [Lib.compareBytes, List.cons_lt_cons_iff]
    by_cases h1 : a < b
    · rw [if_pos h1]; simp [h1]
    · by_cases h2 : b < a
      · rw [if_neg h1, if_pos h2]
        have : a ≠ b := fun e => by subst e; exact h1 h2
        simp [h1, this]
      · have e : a = b := UInt8.le_antisymm (UInt8.not_lt.1 h2) (UInt8.not_lt.1 h1)
        rw [if_neg h1, if_neg h2, rj_ x y]; simp [e]
theorem oJ_ : ∀ (x y : Str), Lib.compareBytes x y = 0 ↔ x = y
  | [], [] => by simp [Lib.compareBytes]
  | [], b :: y => by simp [Lib.compareBytes]
  | a :: x, [] => by simp [Lib.compareBytes]
  | a :: x, b :: y => by
    rw [Lib.compareBytes]
    by_cases h1 : a < b
    · rw [if_pos h1]
      have : a ≠ b := fun e => by subst e; exact absurd h1 (UInt8.lt_irrefl a)
      simp [this]
    · by_cases h2 : b < a
      · rw [if_neg h1, if_pos h2]
        have : a ≠ b := fun e => by subst e; exact h1 h2
        simp [this]
      · have e : a = b := UInt8.le_antisymm (UInt8.not_lt.1 h2) (UInt8.not_lt.1 h1)
        rw [if_neg h1, if_neg h2, oJ_ x y]; simp [e]
def iX_ (x y : Fc) : Int := orF [Lib.compareInt x.kind y.kind, Lib.compareBytes x.a y.a, Lib.compareBytes x.b y.b, Lib.compareBytes x.r y.r, Lib.compareInt x.lo y.lo, Lib.compareInt x.hi y.hi]
theorem he_ (x : Int) (l : List Int) : orF (x :: l) < 0 ↔ x < 0 ∨ x = 0 ∧ orF l < 0 := by
  rw [orF]; split <;> omega
theorem rf_ (x y : Fc) : iX_ x y < 0 ↔ x.lt y := by
  unfold iX_ Fc.lt
  rw [he_, he_, he_, he_, he_, he_]
  simp only [cI_neg, sp_, rj_, oJ_, orF, Int.lt_irrefl, and_false, or_false]
theorem orF_c (l : List Int) (ad : Option Addr) (cap : Nat) (hl : l.length ≤ 1000) : Tri Tryz.prog 114 #[.slice ad (List.length l) cap] [] [aS_ ad (List.flatMap iz_ l)] (fun _ : Unit => .int .i64 (orF l)) (fun _ => []) (fun _ => []) := by
  refine M_ Tryz.func114 rfl rfl Tryz.ntmps114 rfl fun v0 => ?_
  refine f_ (c_ (a_ (g_ rfl) rfl (d_ (b_ rfl (f_ (c_ (a_ (g_ rfl) rfl (d_ (b_ rfl ?_)))))))))
  refine f_ (f_ (c_ (a_ (h_ rfl) rfl (a_ (ah_ ct_ rfl) rfl (a_ (h_ rfl) rfl (d_ (b_ rfl (S_ ?_))))))))
  refine aV_ (ι := {y : Nat // y ≤ l.length ∧ ∀ z ∈ l.take y, z = 0}) (fun y => [(3, .int .i64 0), (6, .slice ad (List.length l) cap), (7, .int .i64 (List.length l : Int)), (8, .int .i64 (y.1 : Int))]) (fun y => ([])) (fun y => [aS_ ad (List.flatMap iz_ l)]) (fun y => l.length - y.1) ⟨(0 : Nat), by simp, by simp⟩ ⟨rfl, rfl, rfl, rfl, trivial⟩ W_ (fun _ _ h => h) ?_
  rintro ⟨i, hi, h0⟩
  dsimp only at hi h0 ⊢
  refine f_ (c_ (x_ (az_ rfl rfl) rfl fun r1 hr1 => ?_))
  refine d_ (b_ rfl (f_ ?_))
  cases r1
  · skip
    replace hr1 := of_decide_eq_false hr1
    refine p_ rfl (aD_ rfl (b_ rfl (f_ (c_ (a_ (h_ rfl) rfl (a_ (g_ rfl) rfl (d_ (b_ rfl (B_ ?_)))))))))
    exact as_ Tryz.results114 () (aJ_ rfl (mG_ fun y hy => h0 y (by rw [List.take_of_length_le (by omega)]; exact hy)).symm) W_ (fun _ _ _ => trivial)
  · skip
    replace hr1 := of_decide_eq_true hr1
    have hlx1 : i < List.length l := by omega
    obtain ⟨x1, hx1⟩ : ∃ e0, l[i]? = some e0 := ⟨_, List.getElem?_eq_getElem hlx1⟩
    have hmx1 : x1 ∈ l := List.mem_of_getElem? hx1
    refine n_ rfl (A_ (b_ rfl (f_ (S_ (f_ (c_ (a_ (ak_ ct_ H_ rfl rfl (fun v _ h => aL_ (n := 1) fQ_ (by decide) (by exact h.1) hx1) (by omega) (by first | omega | (simp; done))) rfl (a_ (bH_ (ad := ad) J_ rfl (fun v _ h => by exact h.1) (an_ fQ_ hx1 0 _ rfl)) rfl (a_ (g_ rfl) rfl ?_)))))))))
    refine d_ (b_ rfl (f_ (c_ (a_ (h_ rfl) rfl (a_ (h_ rfl) rfl (x_ (bR_ rfl rfl) rfl fun r2 hr2 => ?_))))))
    refine d_ (b_ rfl ?_)
    cases r2
    · skip
      replace hr2 := bc_ hr2
      refine p_ rfl (A_ (b_ rfl (c_ (a_ (V_ rfl rfl rfl (aq_ (by omega) (by omega))) rfl (a_ (h_ rfl) rfl (d_ (r_ rfl ?_)))))))
      exact ao_ ⟨i + 1, hlx1, fun y hy => by rw [List.take_add_one, hx1] at hy; simp only [Option.toList_some, List.mem_append, List.mem_singleton] at hy; rcases hy with hy | rfl; exact h0 y hy; omega⟩ (by dsimp only; omega) ⟨rfl, rfl, rfl, rfl, trivial⟩ W_ (fun _ _ h => h)
    · skip
      replace hr2 := bb_ hr2
      refine n_ rfl (f_ (c_ (a_ (h_ rfl) rfl (a_ (g_ rfl) rfl (d_ (b_ rfl (B_ ?_)))))))
      exact as_ Tryz.results114 () (aJ_ rfl (qA_ h0 hx1 (by assumption)).symm) W_ (fun _ _ _ => trivial)
theorem cmpF_c (x y : Fc) : Fn0 Tryz.prog 61 #[Fc.val x, Fc.val y] (.int .i64 (iX_ x y)) := by
  refine M_ Tryz.func61 rfl rfl Tryz.ntmps61 rfl fun v0 => ?_
  refine f_ (c_ (aF_ rfl rfl fun b1 => ?_))
  refine aF_ rfl rfl fun b2 => ?_
  refine a_ (g_ rfl) rfl (d_ (b_ rfl (f_ ?_)))
  refine aN_ (by kernel_rfl) ?_
  refine ad_ 9 [0, 1, 2, 3, 5, 6, 7, 8, 10, 11, 12, 13, 15, 16, 17, 18, 20, 21, 22, 23, 25, 26, 27, 28] (by kernel_rfl) (fun _ a b => ⟨a, b⟩) (k_ rfl (j_ u_ rfl rfl rfl H_) rfl (k_ rfl (q_ 1 J_ rfl rfl rfl) rfl (k_ rfl (j_ u_ rfl rfl rfl H_) rfl (k_ rfl (q_ 0 J_ rfl rfl rfl) rfl (k_ rfl (j_ u_ rfl rfl rfl s_) rfl (k_ rfl (q_ 1 w_ rfl rfl rfl) rfl (k_ rfl (j_ u_ rfl rfl rfl s_) rfl (k_ rfl (q_ 0 w_ rfl rfl rfl) rfl (k_ rfl (j_ u_ rfl rfl rfl s_) rfl ?_)))))))))
  refine k_ rfl (q_ 1 w_ rfl rfl rfl) rfl (k_ rfl (j_ u_ rfl rfl rfl s_) rfl (k_ rfl (q_ 0 w_ rfl rfl rfl) rfl (k_ rfl (j_ u_ rfl rfl rfl s_) rfl (k_ rfl (q_ 1 w_ rfl rfl rfl) rfl (k_ rfl (j_ u_ rfl rfl rfl s_) rfl (k_ rfl (q_ 0 w_ rfl rfl rfl) rfl (k_ rfl (j_ u_ rfl rfl rfl H_) rfl (k_ rfl (q_ 1 J_ rfl rfl rfl) rfl (k_ rfl (j_ u_ rfl rfl rfl H_) rfl ?_)))))))))
  refine k_ rfl (q_ 0 J_ rfl rfl rfl) rfl (k_ rfl (j_ u_ rfl rfl rfl H_) rfl (k_ rfl (q_ 1 J_ rfl rfl rfl) rfl (k_ rfl (j_ u_ rfl rfl rfl H_) rfl (k_ rfl (q_ 0 J_ rfl rfl rfl) rfl (ac_ (O_ 4 rfl (by kernel_rfl) (Q_ (km_ (Fc.kind x) (Fc.kind y)) rfl W_ (fun _ _ _ => by exact trivial) rfl fun _ => ?_)))))))
  refine d_ (r_ rfl (C_ (fun _ a b => ⟨a, b⟩) (O_ 9 rfl (by kernel_rfl) (Q_ (kl_ (Fc.a x) (Fc.a y)) rfl W_ (fun _ _ _ => by exact trivial) rfl fun _ => ?_))))
  refine d_ (r_ rfl (C_ (fun _ a b => ⟨a, b⟩) (O_ 14 rfl (by kernel_rfl) (Q_ (kl_ (Fc.b x) (Fc.b y)) rfl W_ (fun _ _ _ => by exact trivial) rfl fun _ => ?_))))
  refine d_ (r_ rfl (C_ (fun _ a b => ⟨a, b⟩) (O_ 19 rfl (by kernel_rfl) (Q_ (kl_ (Fc.r x) (Fc.r y)) rfl W_ (fun _ _ _ => by exact trivial) rfl fun _ => ?_))))
  refine d_ (r_ rfl (C_ (fun _ a b => ⟨a, b⟩) (O_ 24 rfl (by kernel_rfl) (Q_ (km_ (Fc.lo x) (Fc.lo y)) rfl W_ (fun _ _ _ => by exact trivial) rfl fun _ => ?_))))
  refine d_ (r_ rfl (C_ (fun _ a b => ⟨a, b⟩) (O_ 29 rfl (by kernel_rfl) (Q_ (km_ (Fc.hi x) (Fc.hi y)) rfl W_ (fun _ _ _ => by exact trivial) rfl fun _ => ?_))))
  refine d_ (r_ rfl (C_ (fun _ a b => ⟨a, b⟩) (O_ 30 rfl (by kernel_rfl) (aK_ ct_ H_ io_ rfl rfl rfl rfl rfl rfl fun b3 => ?_))))
  refine dT_ (List.flatMap iz_ [(Lib.compareInt (Fc.kind x) (Fc.kind y)), (Lib.compareBytes (Fc.a x) (Fc.a y)), (Lib.compareBytes (Fc.b x) (Fc.b y)), (Lib.compareBytes (Fc.r x) (Fc.r y)), (Lib.compareInt (Fc.lo x) (Fc.lo y)), (Lib.compareInt (Fc.hi x) (Fc.hi y))]) i_ rfl ?_
  refine d_ (r_ rfl (C_ (fun _ a b => ⟨a, b.2⟩) (O_ 31 rfl (by kernel_rfl) (Q_ (orF_c [(Lib.compareInt (Fc.kind x) (Fc.kind y)), (Lib.compareBytes (Fc.a x) (Fc.a y)), (Lib.compareBytes (Fc.b x) (Fc.b y)), (Lib.compareBytes (Fc.r x) (Fc.r y)), (Lib.compareInt (Fc.lo x) (Fc.lo y)), (Lib.compareInt (Fc.hi x) (Fc.hi y))] (some ⟨b3, 0, none⟩) 6 (by simp)) rfl W_ (fun v _ h => by exact ⟨h.1, trivial⟩) rfl fun _ => ?_))))
  refine d_ (r_ rfl (C_ (fun _ a b => ⟨a, b.2⟩) (ad_ 0 [32] (by kernel_rfl) (fun _ a b => ⟨a, b.2⟩) (k_ rfl (g_ rfl) rfl (ac_ (ab_ (by kernel_rfl) (b_ rfl (B_ ?_))))))))
  exact as_ Tryz.results61 () (aJ_ rfl (by rfl)) W_ (fun _ _ _ => trivial)
end Go.Proofs.YtpdbbglpbngeiaaGreatDoor
namespace Go.Proofs.YtpdbbglpbngeiaaGreatDoor
open Go Go.Sx Go.Proofs
attribute [local irreducible] Code.wp wpList wpAnyH
open Go.Vs
theorem dT {p : Prop} {i : Decidable p} (h : @decide p i = true) : p := of_decide_eq_true h
theorem dF {p : Prop} {i : Decidable p} (h : @decide p i = false) : ¬ p := of_decide_eq_false h
structure Cl where
  atoms : List Str
  aad : Option Addr
  acap : Nat
  facts : List Fc
  fad : Option Addr
  fcap : Nat
def Cl.cells (c : Cl) : List Value := [.slice c.aad c.atoms.length c.acap, .slice c.fad c.facts.length c.fcap]
theorem Cl.cells_len (c : Cl) : c.cells.length = 2 := rfl
def Cl.val (c : Cl) : Value := .agg c.cells.toArray
def Cl.row (c : Cl) : List Fct := [aS_ c.aad (List.flatMap bg_ c.atoms), aS_ c.fad (List.flatMap Fc.cells c.facts)]
def Cl.no : Cl := Cl.mk [] none 0 [] none 0
structure Cl.ok (c : Cl) : Prop where
  al : c.atoms.length ≤ c.acap
  am : c.acap ≤ maxLen
  az : c.aad = none → c.acap = 0
  fl : c.facts.length ≤ c.fcap
  fm : c.fcap ≤ maxLen
  fz : c.fad = none → c.fcap = 0
theorem Cl.no_ok : Cl.no.ok := ⟨Nat.le_refl _, by simp [Cl.no], fun _ => rfl, Nat.le_refl _, by simp [Cl.no], fun _ => rfl⟩
theorem rL_ {s : Str} (h : cw_ s = true) : s ≠ [] := fun e => by subst e; revert h; decide
theorem pp_ {s : Str} (h : bi_ s = true) : s ≠ [] := fun e => by subst e; revert h; decide
theorem oU_ {p : Pc} (h : p.valid = true) : p.vok := by
  unfold Pc.valid at h
  split at h
  · simp at h
  rename_i h1
  split at h
  · simp at h
  rename_i h2
  split at h
  · simp at h
  have hk : p.kind = 1 ∨ p.kind = 2 ∨ p.kind = 3 ∨ p.kind = 4 ∨ p.kind = 5 ∨ p.kind = 6 ∨ p.kind = 7 ∨ p.kind = 8 ∨ p.kind = 9 := by omega
  have hn : ∀ {b : Bool} {s : Str}, ch_ b s cw_ = true → b = true → s ≠ [] := fun h1 h2 => by
    subst h2; simp [ch_] at h1; exact rL_ h1
  have hn' : ∀ {b : Bool} {s : Str}, ch_ b s bi_ = true → b = true → s ≠ [] := fun h1 h2 => by
    subst h2; simp [ch_] at h1; exact pp_ h1
  simp only [Bool.and_eq_true] at h
  obtain ⟨⟨⟨⟨⟨_, _⟩, _⟩, hr⟩, hs⟩, ht⟩ := h
  unfold Pc.rok at *
  refine ⟨⟨fun q => ?_, fun q => ?_, fun q => ?_⟩, fun q => ?_⟩
  · rcases q with q | q | q | q | q | q | q <;> rw [q] at hr
    · exact hn hr (by decide)
    · exact hn hr (by decide)
    · exact hn hr (by decide)
    · exact hn' hr (by decide)
    · exact hn hr (by decide)
    · exact hn hr (by decide)
    · exact hn' hr (by decide)
  · rw [q] at hs ht; exact ⟨hn hs (by decide), hn ht (by decide)⟩
  · rw [q] at ht; exact hn ht (by decide)
  · rcases q with q | q <;> rw [q] at h2 <;> have : (nus 8).numbers = true ∧ (nus 9).numbers = true := by decide
    all_goals simp only [this.1, this.2, true_and] at h2; omega
theorem nl_ {p : List Pc} (h : bD_ p = 0) : p.length ≤ 16384 ∧ p.all Pc.valid = true := by
  unfold bD_ at h
  split at h
  · simp at h
  · split at h
    · exact ⟨by omega, by assumption⟩
    · simp at h
theorem hm_ {p : List Pc} (h : bD_ p = 0) : ∀ x ∈ p, x.vok := fun x hx => oU_ (List.all_eq_true.1 (nl_ h).2 x hx)
section
variable {P : Program} {N : Nat} {v0 : Vw} {H0 : Hp} {fr : Fr} {H F Ha Hu Ho Hi Hr Hm Hs : Hp} {Γ : List Fct}
theorem ev_ {fn : Func} {t s b n : Nat} {ty T : TypeId} {us : List Value} {u : Value} (i : Nat) (hr : fn.results = #[.cell t ty, .tmp s]) (ha : ∀ w, (isAgg ty).run P w = .ok true w) (hs : ∀ w, (sizeOf ty).run P w = .ok n w) (hn : us.length = n) (hx : Fr.get fr t = some (zp_ b 0)) (hu : Fr.get fr s = some u)
    (hi : H[i]? = some (b, .cells us.toArray T (0, 0))) (a : Act) (v : Vw) (h1 : Fr.sat N fr a) (h2 : v.sat H) : (results fn a.tmps).run P v.w = .ok (.tuple #[.agg us.toArray, u]) v.w := by
  have e := h1.val t _ hx
  have e2 := h1.val s _ hu
  have hl := de_ (t := ty) (w := v.w) (b := b) (off := 0) ha hs hn (fun j y hj => by rw [Nat.zero_add, eK_ h2 hi]; simpa using hj)
  simp [results, hr, e, e2, asAddr, hl]
theorem nJ_ (h : H.Perm ((Ha ++ (Hu ++ (Ho ++ (Hi ++ (Hr ++ (Hm ++ Hs)))))) ++ F)) : H.Perm (((Ha ++ (Hu ++ (Ho ++ (Hi ++ (Hr ++ Hm))))) ++ Hs) ++ F) := by simpa [List.append_assoc] using h
theorem lk_ : (((Ha ++ (Hu ++ (Ho ++ (Hi ++ (Hr ++ Hm))))) ++ Hs) ++ F).Perm (Ha ++ (Hu ++ (Ho ++ (Hi ++ (Hr ++ (Hm ++ (Hs ++ F))))))) := by simp [List.append_assoc]
theorem rT_ {a b c : Nat × Obj} {Hq : Hp} : ((Ha ++ (Hu ++ (Ho ++ (Hi ++ (Hr ++ (Hm ++ (a :: b :: ([c] ++ Hq)))))))) ++ F).Perm (Ha ++ (Hu ++ (Ho ++ (Hi ++ (Hr ++ (Hm ++ (a :: b :: ([c] ++ (Hq ++ F))))))))) := by simp [List.append_assoc]
end
theorem eO_ : iY_ Tryz.prog 28 [(0, 1), (1, 1)] [.slice none 0 0, .slice none 0 0] := ⟨_, Tryz.zeroValue28, bf_, fun w => by simp [bJ_, cu_]⟩
end Go.Proofs.YtpdbbglpbngeiaaGreatDoor
namespace Go.Proofs.YtpdbbglpbngeiaaGreatDoor
open Go Go.Sx Go.Proofs
attribute [local irreducible] Code.wp wpList wpAnyH
open Go.Vs Go.Shelf Go.RowKit
theorem mc_ {v v' : Vw} (h : v.to [] v' []) (hs : ¬ v.sl) : ∃ q os, v'.w = Sort.grow (v.w.drewN q) os := by
  have hd : v.w.drawn ≤ v'.w.drawn := h.dr.resolve_left hs
  refine ⟨v'.w.drawn - v.w.drawn, v'.w.heap.extract v.w.heap.size v'.w.heap.size, ?_⟩
  have hh : v'.w.heap = v.w.heap ++ v'.w.heap.extract v.w.heap.size v'.w.heap.size := by
    apply Array.ext_getElem?
    intro i
    have hsz := h.size
    rw [Array.getElem?_append]
    split
    · rename_i hi; exact h.block i hi (by simp)
    · rename_i hi
      rw [Array.getElem?_extract]
      split
      · congr 1; omega
      · rw [Array.getElem?_eq_none (by omega)]
  have e1 := h.os; have e2 := h.tape; have e3 := h.output
  obtain ⟨im', ⟨hp, tp, dn, os', ou⟩, sl'⟩ := v'
  simp only at e1 e2 e3 hh hd
  simp only [Sort.grow, World.drewN, World.mk.injEq]
  exact ⟨hh, e2, by omega, e1, e3⟩
theorem sl_ (blk off size : Nat) (w : World) : CmpLays Tryz.prog 61 #[] Fc.cells 6 iX_ blk off size w := fun m os dk _ x y => by
  have h := (cmpF_c x y).run ⟨fun _ => False, sortWorldK Fc.cells 6 w blk off m dk os, False⟩ ⟨by simp, by simp, fun _ h => h.elim⟩ trivial
  refine h.mono ?_
  rintro e w' ⟨_, v', rfl, rfl, _, _, ht⟩
  obtain ⟨q, os', hw⟩ := mc_ ht (fun h => h)
  exact ⟨rfl, q, os', hw⟩
theorem ltF (x y : Fc) : ltOf iX_ x y = decide (x.lt y) := by unfold ltOf; rw [decide_eq_decide]; exact rf_ x y
theorem swoF : Sort.SWO (ltOf iX_) where
  irrefl x := by rw [ltF]; exact decide_eq_false (Fc.lt_irr x)
  trans x y z h1 h2 := by rw [ltF, decide_eq_true_eq] at *; exact Fc.lt_trans h1 h2
  ntrans x y z h1 h2 := by
    rw [ltF, decide_eq_false_iff_not] at *
    intro h
    rcases Fc.lt_tri x y with g | g | g
    · exact h1 g
    · subst g; exact h2 h
    · exact h2 (Fc.lt_trans g h)
theorem totF (x y : Fc) (h1 : ltOf iX_ x y = false) (h2 : ltOf iX_ y x = false) : x = y := by
  rw [ltF, decide_eq_false_iff_not] at h1 h2
  rcases Fc.lt_tri x y with g | g | g
  · exact absurd g h1
  · exact g
  · exact absurd g h2
theorem kd_ (xs : List Fc) : Sort.flatK Fc.cells 6 xs.toArray = (xs.flatMap Fc.cells).toArray := by
  apply Array.ext_getElem?
  intro t
  have e0 : (xs.flatMap Fc.cells).toArray[t]? = (xs.flatMap Fc.cells)[t]? := by simp
  rw [e0]
  by_cases ht : t < xs.length * 6
  · have hd : t / 6 < xs.length := by omega
    have := iB_ Fc.cells 6 Fc.cells_len xs (t / 6) (t % 6) xs[t / 6] (List.getElem?_eq_getElem hd) (Nat.mod_lt _ (by decide))
    rw [show t / 6 * 6 + t % 6 = t by omega] at this
    rw [this]
    simp only [Sort.flatK, Array.getElem?_map, List.size_toArray]
    rw [Array.getElem?_eq_getElem (by simpa using ht)]
    simp only [Array.getElem_range, Option.map_some]
    rw [getElem!_pos xs.toArray (t / 6) (by simpa using hd)]
    have hl : t % 6 < (Fc.cells xs[t / 6]).length := by rw [Fc.cells_len]; omega
    rw [List.getElem?_eq_getElem hl]
    simp only [List.getElem_toArray]
    rw [getElem!_pos (Fc.cells xs[t / 6]) (t % 6) hl]
  · rw [List.getElem?_eq_none (by rw [ea_ Fc.cells 6 Fc.cells_len]; omega), Array.getElem?_eq_none (by simp [Sort.flatK]; omega)]
theorem mf_ {P : Program} {Γ : List Fct} {f : FuncId} {args : Array Value} {r : Value} {g : Nat} {cur : Array Value} {T : TypeId} {d : Array Value} (hc : fZ_ P f)
    (h : ∀ v : Vw, v.sat [(g, .cells cur T (0, 0))] → Calls P f args v.w fun e w' => e = .returned r ∧ ∃ n os, w' = Sort.grow (Sort.putRow id (Sort.ahead v.w n) g 0 d) os) :
    Tri P f args [(g, .cells cur T (0, 0))] Γ (fun _ : Unit => r) (fun _ => [(g, .cells (Sort.putCells id 0 d cur) T (0, 0))]) (fun _ => []) :=
  ⟨hc, fun v h1 _ => (h v h1).mono fun e w' ⟨he, n, os, hw⟩ => by
    have hg := (h1.own _ List.mem_cons_self)
    have hlt : g < v.w.heap.size := (Array.getElem?_eq_some_iff.1 hg.1).1
    have hb : ∀ b, b < v.w.heap.size → w'.heap[b]? = if b = g then some (.cells (Sort.putCells id 0 d cur) T (0, 0)) else v.w.heap[b]? := fun b hb => by
      rw [hw]
      simp only [Sort.grow, Sort.putRow, Sort.mapBlock, Sort.ahead]
      rw [Array.getElem?_append_left (by simpa using hb), Array.getElem?_modify]
      by_cases e : b = g
      · subst e
        simp only [if_true, hg.1, Option.map_some, Sort.onCells]
      · rw [if_neg (fun q => e q.symm), if_neg e]
    have hsz : v.w.heap.size ≤ w'.heap.size := by rw [hw]; simp [Sort.grow, Sort.putRow, Sort.mapBlock, Sort.ahead]
    refine ⟨(), ⟨v.im, w', v.sl⟩, he, rfl, ⟨fun p hp => ?_, by simp, fun b hbb => Nat.lt_of_lt_of_le (h1.lt b hbb) hsz⟩, trivial, ⟨by rw [hw]; rfl, by rw [hw]; rfl, by rw [hw]; rfl, hsz, fun b hbb hn => ?_, fun _ h => h, fun _ h => .inl h, fun b hm => .inl (by simpa using hm), rfl, .inr (by rw [hw]; exact Nat.le_add_right _ _)⟩⟩
    · simp only [List.mem_singleton] at hp
      subst hp
      exact ⟨by show w'.heap[g]? = _; rw [hb g hlt, if_pos rfl], hg.2⟩
    · have hn' : b ≠ g := by simpa using hn
      show w'.heap[b]? = _
      rw [hb b hbb, if_neg hn']⟩
theorem pf_ {cur : Array Value} {d : List Value} (hs : d.length ≤ cur.size) : (Sort.putCells id 0 d.toArray cur).toList.take d.length = d := by
  apply List.ext_getElem?
  intro j
  rw [List.getElem?_take]
  split
  · rename_i hj
    simp only [Sort.putCells, Array.getElem?_toList, Array.getElem?_mapIdx]
    rw [Array.getElem?_eq_getElem (by omega)]
    simp only [Option.map_some, Nat.zero_le, true_and, Nat.zero_add, List.size_toArray, hj, if_true, Nat.sub_zero]
    rw [List.getElem?_eq_getElem hj, getElem!_pos d.toArray j (by simpa using hj)]
    rfl
  · rename_i hj
    rw [List.getElem?_eq_none (by omega)]
theorem pg_ {cur d : Array Value} : (Sort.putCells id 0 d cur).size = cur.size := by simp [Sort.putCells]
theorem holdsV {g : Nat} {cur : Array Value} {T : TypeId} {xs : List Value} {v : Vw} (hs : v.sat [(g, .cells cur T (0, 0))]) (ht : cur.toList.take xs.length = xs) : Sort.Holds id v.w g 0 xs.toArray := by
  intro j hj
  have hb := (hs.own _ List.mem_cons_self).1
  simp only [List.size_toArray] at hj
  have hc : cur[j]? = some xs[j] := by
    have := congrArg (fun l => l[j]?) ht
    simp only [List.getElem?_take, hj, if_true, Array.getElem?_toList] at this
    rw [this, List.getElem?_eq_getElem hj]
  refine ⟨?_, ?_⟩
  · simp only [World.cell?, Nat.zero_add, hb, Option.isSome_none, Bool.false_eq_true, if_false]
    rw [hc, getElem!_pos xs.toArray j (by simpa using hj)]
    rfl
  · simp [World.frozen?, hb]
def hu_ (xs : List Fc) : List Fc := xs.mergeSort fun x y => !(ltOf iX_) y x
theorem fI_ (xs : List Fc) : (hu_ xs).length = xs.length := List.length_mergeSort _
theorem qf_ (xs : List Fc) (x : Fc) : x ∈ hu_ xs ↔ x ∈ xs := List.mem_mergeSort
theorem qe_ {xs : List Fc} (h : xs.Nodup) : Srt (hu_ xs) := by
  have h1 : (hu_ xs).Pairwise fun x y => (!(ltOf iX_) y x) = true := List.pairwise_mergeSort
    (fun a b c h1 h2 => by simp only [Bool.not_eq_true'] at *; exact swoF.ntrans c b a h2 h1)
    (fun a b => by
      simp only [Bool.or_eq_true, Bool.not_eq_true']
      rw [ltF, ltF, decide_eq_false_iff_not, decide_eq_false_iff_not]
      rcases Fc.lt_tri a b with g | g | g
      · exact .inl fun q => Fc.lt_irr a (Fc.lt_trans g q)
      · subst g; exact .inl (Fc.lt_irr a)
      · exact .inr fun q => Fc.lt_irr a (Fc.lt_trans q g)) xs
  have h2 : (hu_ xs).Nodup := (List.mergeSort_perm xs _).nodup_iff.2 h
  refine (h1.and h2).imp ?_
  rintro x y ⟨a, b⟩
  simp only [Bool.not_eq_true', ltF, decide_eq_false_iff_not] at a
  rcases Fc.lt_tri x y with g | g | g
  · exact g
  · exact absurd g b
  · exact absurd g a
theorem rF_ {sv : Value} {xs : List Fc} {Hr : Hp} (h : bk_ 41 6 sv xs.length (xs.flatMap Fc.cells) Hr) (hl : xs.length ≤ 1000000000000) :
    Tri Tryz.prog 60 #[sv, .func (.func 61) #[] #[]] Hr [] (fun _ : {y : Hp // bk_ 41 6 sv (hu_ xs).length ((hu_ xs).flatMap Fc.cells) y} => .tuple #[]) (fun y => y.1) (fun _ => []) := by
  rcases h.2 with ⟨rfl, h2, rfl⟩ | ⟨g, cap, cur, rfl, rfl, h3, h4, h5, h6⟩
  · obtain rfl : xs = [] := List.eq_nil_of_length_eq_zero h2
    have T := dA_ (P := Tryz.prog) (H := []) (Γ := []) (callable Tryz.func60 rfl rfl) (fun v _ _ => (AnyF.slices_SortFunc_none Tryz.sortFc none 0 (.func (.func 61) #[] #[]) v.w).mono (by rintro e w' ⟨rfl, rfl⟩; exact ⟨rfl, ⟨rfl, rfl, rfl, Nat.le_refl _, fun _ _ => rfl⟩, .inr (Nat.le_refl _)⟩))
    exact ⟨T.callable, fun v a b => (T.run v a b).mono (by rintro e w' ⟨x, v', e1, e2, e3, e4, e5⟩; exact ⟨⟨[], by simpa [hu_] using bk_.nil _ _⟩, v', e1, e2, e3, e4, e5⟩)⟩
  · have hx : (xs.flatMap Fc.cells).length = xs.length * 6 := ea_ Fc.cells 6 Fc.cells_len xs
    have T := mf_ (P := Tryz.prog) (Γ := []) (r := .tuple #[]) (g := g) (cur := cur) (T := 41) (d := ((hu_ xs).flatMap Fc.cells).toArray) (f := 60) (args := #[.slice (some ⟨g, 0, none⟩) xs.length cap, .func (.func 61) #[] #[]]) (callable Tryz.func60 rfl rfl) (fun v hs => by
      have hh := AnyQ.slices_SortFunc_total Tryz.sortFc 6 au_ X_ Fc.cells Fc.cells_len (fun x u hu => List.all_eq_true.1 (Fc.cells_one x) u hu) iX_ swoF 61 #[] g 0 cap xs.toArray v.w (fun args w => (callable Tryz.func61 rfl rfl) args w) (sl_ g 0 _ v.w) (by unfold Sort.HoldsK; rw [kd_]; exact holdsV hs (by rw [hx]; exact h6)) (Array.getElem?_eq_some_iff.1 (hs.own _ List.mem_cons_self).1).1 (by simp; omega) totF
      refine hh.mono ?_
      rintro e w' ⟨rfl, n, os, rfl⟩
      refine ⟨rfl, n, os, ?_⟩
      unfold sortWorldK Sort.putRowK
      rw [show ((xs.toArray.toList.mergeSort fun x y => !(ltOf iX_) y x)) = hu_ xs from rfl, kd_])
    refine ⟨T.callable, fun v a b => (T.run v a b).mono ?_⟩
    rintro e w' ⟨x, v', e1, e2, e3, e4, e5⟩
    have hy : ((hu_ xs).flatMap Fc.cells).length = xs.length * 6 := by rw [ea_ Fc.cells 6 Fc.cells_len, fI_]
    refine ⟨⟨_, by rw [hy, fI_], .inr ⟨g, cap, _, by rw [fI_], rfl, by rw [fI_]; exact h3, h4, by rw [pg_]; exact h5, ?_⟩⟩, v', e1, e2, e3, e4, e5⟩
    have := pf_ (cur := cur) (d := (hu_ xs).flatMap Fc.cells) (by rw [hy, h5]; omega)
    rw [hy] at this
    rw [fI_]; exact this
end Go.Proofs.YtpdbbglpbngeiaaGreatDoor
namespace Go.Proofs.YtpdbbglpbngeiaaGreatDoor
open Go Go.Sx Go.Proofs
attribute [local irreducible] Code.wp wpList wpAnyH
open Go.Vs
section
variable {P : Program} {N : Nat} {v0 : Vw} {H0 : Hp} {fr : Fr} {H F : Hp} {Γ : List Fct} {K D : Type} [DecidableEq K]
theorem ka_ : ∀ (B : Hp) {v : Vw}, aI_ (B.map fun p => dZ_ p.1 p.2) v → ∀ p ∈ B, v.im p.1 ∧ v.w.heap[p.1]? = some p.2
  | [], _, _, _, h => by simp at h
  | q :: B, v, h, p, hp => by
    rcases List.mem_cons.1 hp with rfl | hp
    · exact h.1
    · exact ka_ B h.2 p hp
theorem qC_ {k : Act → World → Prop} {kv : K → Value} {cells : D → List Value} {kt e : TypeId} {sz mb : Nat} {l : List (K × D)} {Hm : Hp} (hK : KeyT P kt kv) (hm : dH_ kv cells e sz l mb Hm) (hH : H.Perm (Hm ++ F))
    (h : ∀ adr, Ok N v0 H0 k fr F (mlF P kt kv cells mb l adr :: Γ)) : Ok N v0 H0 k fr H Γ := by
  obtain ⟨adr, ha⟩ := hm.lent hK
  refine mJ_ Hm hH (mK_ (fun v _ hv => ?_) (h adr))
  rw [eX_] at hv
  refine ⟨ha v fun p hp => ?_, hv.2⟩
  have := hv.1
  exact ka_ Hm.reverse (by rw [List.map_reverse] at *; exact this) p (List.mem_reverse.2 hp)
theorem fh_ {tF : TypeId} {E : Emt P tF} {nw fm : List Fc} {Hs : Hp} {ty t kt et : TypeId} {x : Operand} (hS : E.St nw fm Hs) (hu : ∀ w, (underlying t).run P w = .ok (.map kt et) w) (hx : Fr.ev fr x = some (.map (some E.kb))) (hp : H.Perm (Hs ++ F)) :
    Yld P N fr H Γ (.call ⟨.builtin .len, #[x], #[t]⟩) ty (.int .i64 ((E.kof nw).length : Int)) := by
  obtain ⟨es, c, g1, g2⟩ := E.known hS
  exact ji_ g2 hu hx fun v h _ => jB_ hp g1 h
end
def nQ_ (x : Ix) (n : Nat) : Prop := x.above.length ≤ n ∧ x.under.length ≤ n ∧ x.frm.length ≤ n ∧ x.into.length ≤ n ∧ x.ranges.length ≤ n ∧ x.firms.length ≤ n
theorem qP_ : nQ_ Ix.nil 0 := by simp [nQ_, Ix.nil]
theorem ia_ {x : Ix} {n : Nat} (h : nQ_ x n) (b : Bool) (f : Fc) : nQ_ (x.add b f) (n + 1) := by
  obtain ⟨h1, h2, h3, h4, h5, h6⟩ := h
  unfold Ix.add nQ_
  split
  · simp; omega
  · split
    · simp; omega
    · split
      · cases b <;> simp <;> omega
      · omega
theorem mW_ {x : Ix} {n : Nat} (h : nQ_ x n) (hn : n ≤ 1000000000) : (∀ k, (lat x.above k).length ≤ 1000000000 ∧ (lat x.under k).length ≤ 1000000000) ∧ (∀ k, (lat x.frm k).length ≤ 1000000000 ∧ (lat x.into k).length ≤ 1000000000 ∧ (lat x.ranges k).length ≤ 1000000000 ∧ (lat x.firms k).length ≤ 1000000000) := by
  obtain ⟨h1, h2, h3, h4, h5, h6⟩ := h
  refine ⟨fun k => ⟨?_, ?_⟩, fun k => ⟨?_, ?_, ?_, ?_⟩⟩
  · have := fv_ x.above k; omega
  · have := fv_ x.under k; omega
  · have := fv_ x.frm k; omega
  · have := fv_ x.into k; omega
  · have := fv_ x.ranges k; omega
  · have := fv_ x.firms k; omega
theorem rK_ (B : EngB) (E : Emt Tryz.prog 41) (A0 : EngA) (pm : List (Ky × Pc)) (x : Ix) (f : Fc) (nw fm : List Fc) (Hs : Hp) (hS : E.St nw fm Hs) (Ha Hu Ho Hi Hr Hm : Hp) (hI : IxO 9 41 B x ⟨Ha, Hu, Ho, Hi, Hr, Hm⟩) (hpl : ∀ k, (lat pm k).length ≤ 1000000000) (hxl : ∀ k, (lat x.above k).length ≤ 1000000000 ∧ (lat x.under k).length ≤ 1000000000) (hyl : ∀ k, (lat x.frm k).length ≤ 1000000000 ∧ (lat x.into k).length ≤ 1000000000 ∧ (lat x.ranges k).length ≤ 1000000000 ∧ (lat x.firms k).length ≤ 1000000000) (hf : f.kind = 3 → -1099511627776 ≤ f.lo ∧ f.lo ≤ f.hi ∧ f.hi ≤ 1099511627776) (hq : f.kind = 3 → ∀ y ∈ lat pm (Ky.mk 9 (Fc.r f) []), -1099511627776 ≤ y.lo ∧ y.lo ≤ y.hi ∧ y.hi ≤ 1099511627776) (hk : f.kind = 1) : ∀ (j : Nat) {fv : Value}, (rlV B.g 1)[j]? = some fv → ∃ n : Nat, fv = .func (.func n) #[zp_ B.g 0] #[] ∧ Tri Tryz.prog n #[zp_ B.g 0, f.val] ((Ha ++ (Hu ++ (Ho ++ (Hi ++ (Hr ++ Hm))))) ++ Hs) [gF B E, pF B pm A0, E.ef] (fun _ : {H' : Hp // E.St (rl E.stp E.kof pm x f j (nw, fm)).1 (rl E.stp E.kof pm x f j (nw, fm)).2 H'} => .tuple #[]) (fun y => (Ha ++ (Hu ++ (Ho ++ (Hi ++ (Hr ++ Hm))))) ++ y.1) (fun _ => [])
  | 0, _, h => ⟨100, (Option.some.inj h).symm, rl10_c B E A0 pm x f nw fm Hs hS Ha Hu Ho Hi Hr Hm hI hpl hxl hyl hf hq hk⟩
  | 1, _, h => ⟨101, (Option.some.inj h).symm, rl11_c B E A0 pm x f nw fm Hs hS Ha Hu Ho Hi Hr Hm hI hpl hxl hyl hf hq hk⟩
  | 2, _, h => ⟨102, (Option.some.inj h).symm, rl12_c B E A0 pm x f nw fm Hs hS Ha Hu Ho Hi Hr Hm hI hpl hxl hyl hf hq hk⟩
  | 3, _, h => ⟨103, (Option.some.inj h).symm, rl13_c B E A0 pm x f nw fm Hs hS Ha Hu Ho Hi Hr Hm hI hpl hxl hyl hf hq hk⟩
  | 4, _, h => ⟨104, (Option.some.inj h).symm, rl14_c B E A0 pm x f nw fm Hs hS Ha Hu Ho Hi Hr Hm hI hpl hxl hyl hf hq hk⟩
  | 5, _, h => ⟨105, (Option.some.inj h).symm, rl15_c B E A0 pm x f nw fm Hs hS Ha Hu Ho Hi Hr Hm hI hpl hxl hyl hf hq hk⟩
  | j + 6, _, h => by simp [rlV] at h
theorem rJ_ (B : EngB) (E : Emt Tryz.prog 41) (A0 : EngA) (pm : List (Ky × Pc)) (x : Ix) (f : Fc) (nw fm : List Fc) (Hs : Hp) (hS : E.St nw fm Hs) (Ha Hu Ho Hi Hr Hm : Hp) (hI : IxO 9 41 B x ⟨Ha, Hu, Ho, Hi, Hr, Hm⟩) (hpl : ∀ k, (lat pm k).length ≤ 1000000000) (hxl : ∀ k, (lat x.above k).length ≤ 1000000000 ∧ (lat x.under k).length ≤ 1000000000) (hyl : ∀ k, (lat x.frm k).length ≤ 1000000000 ∧ (lat x.into k).length ≤ 1000000000 ∧ (lat x.ranges k).length ≤ 1000000000 ∧ (lat x.firms k).length ≤ 1000000000) (hf : f.kind = 3 → -1099511627776 ≤ f.lo ∧ f.lo ≤ f.hi ∧ f.hi ≤ 1099511627776) (hq : f.kind = 3 → ∀ y ∈ lat pm (Ky.mk 9 (Fc.r f) []), -1099511627776 ≤ y.lo ∧ y.lo ≤ y.hi ∧ y.hi ≤ 1099511627776) (hk : f.kind = 2) : ∀ (j : Nat) {fv : Value}, (rlV B.g 2)[j]? = some fv → ∃ n : Nat, fv = .func (.func n) #[zp_ B.g 0] #[] ∧ Tri Tryz.prog n #[zp_ B.g 0, f.val] ((Ha ++ (Hu ++ (Ho ++ (Hi ++ (Hr ++ Hm))))) ++ Hs) [gF B E, pF B pm A0, E.ef] (fun _ : {H' : Hp // E.St (rl E.stp E.kof pm x f j (nw, fm)).1 (rl E.stp E.kof pm x f j (nw, fm)).2 H'} => .tuple #[]) (fun y => (Ha ++ (Hu ++ (Ho ++ (Hi ++ (Hr ++ Hm))))) ++ y.1) (fun _ => [])
  | 0, _, h => ⟨106, (Option.some.inj h).symm, rl20_c B E A0 pm x f nw fm Hs hS Ha Hu Ho Hi Hr Hm hI hpl hxl hyl hf hq hk⟩
  | 1, _, h => ⟨107, (Option.some.inj h).symm, rl21_c B E A0 pm x f nw fm Hs hS Ha Hu Ho Hi Hr Hm hI hpl hxl hyl hf hq hk⟩
  | 2, _, h => ⟨108, (Option.some.inj h).symm, rl22_c B E A0 pm x f nw fm Hs hS Ha Hu Ho Hi Hr Hm hI hpl hxl hyl hf hq hk⟩
  | 3, _, h => ⟨109, (Option.some.inj h).symm, rl23_c B E A0 pm x f nw fm Hs hS Ha Hu Ho Hi Hr Hm hI hpl hxl hyl hf hq hk⟩
  | j + 4, _, h => by simp [rlV] at h
theorem rI_ (B : EngB) (E : Emt Tryz.prog 41) (A0 : EngA) (pm : List (Ky × Pc)) (x : Ix) (f : Fc) (nw fm : List Fc) (Hs : Hp) (hS : E.St nw fm Hs) (Ha Hu Ho Hi Hr Hm : Hp) (hI : IxO 9 41 B x ⟨Ha, Hu, Ho, Hi, Hr, Hm⟩) (hpl : ∀ k, (lat pm k).length ≤ 1000000000) (hxl : ∀ k, (lat x.above k).length ≤ 1000000000 ∧ (lat x.under k).length ≤ 1000000000) (hyl : ∀ k, (lat x.frm k).length ≤ 1000000000 ∧ (lat x.into k).length ≤ 1000000000 ∧ (lat x.ranges k).length ≤ 1000000000 ∧ (lat x.firms k).length ≤ 1000000000) (hf : f.kind = 3 → -1099511627776 ≤ f.lo ∧ f.lo ≤ f.hi ∧ f.hi ≤ 1099511627776) (hq : f.kind = 3 → ∀ y ∈ lat pm (Ky.mk 9 (Fc.r f) []), -1099511627776 ≤ y.lo ∧ y.lo ≤ y.hi ∧ y.hi ≤ 1099511627776) (hk : f.kind = 3) : ∀ (j : Nat) {fv : Value}, (rlV B.g 3)[j]? = some fv → ∃ n : Nat, fv = .func (.func n) #[zp_ B.g 0] #[] ∧ Tri Tryz.prog n #[zp_ B.g 0, f.val] ((Ha ++ (Hu ++ (Ho ++ (Hi ++ (Hr ++ Hm))))) ++ Hs) [gF B E, pF B pm A0, E.ef] (fun _ : {H' : Hp // E.St (rl E.stp E.kof pm x f j (nw, fm)).1 (rl E.stp E.kof pm x f j (nw, fm)).2 H'} => .tuple #[]) (fun y => (Ha ++ (Hu ++ (Ho ++ (Hi ++ (Hr ++ Hm))))) ++ y.1) (fun _ => [])
  | 0, _, h => ⟨110, (Option.some.inj h).symm, rl30_c B E A0 pm x f nw fm Hs hS Ha Hu Ho Hi Hr Hm hI hpl hxl hyl hf hq hk⟩
  | 1, _, h => ⟨111, (Option.some.inj h).symm, rl31_c B E A0 pm x f nw fm Hs hS Ha Hu Ho Hi Hr Hm hI hpl hxl hyl hf hq hk⟩
  | j + 2, _, h => by simp [rlV] at h
def dj_ (p : List Pc) (bu : Int) (c : Cl) (e : Int) : Prop :=
  if bD_ p ≠ 0 then c = Cl.no ∧ e = bD_ p
  else if bu < 0 ∨ 1073741824 < bu then c = Cl.no ∧ e = 1
  else (e = 0 ∧ c.ok ∧ c.atoms = atS p ∧ cT_ p (atS p) (min bu 65536).toNat (some c.facts)) ∨ (c = Cl.no ∧ e = (if bu < 65536 then 3 else 2) ∧ cT_ p (atS p) (min bu 65536).toNat none)
theorem rm_ {p : List Pc} {bu : Int} (h : bD_ p ≠ 0) : dj_ p bu Cl.no (bD_ p) := by unfold dj_; rw [if_pos h]; exact ⟨rfl, rfl⟩
theorem nr_ {p : List Pc} {bu : Int} (h : bD_ p = 0) (hb : bu < 0 ∨ 1073741824 < bu) : dj_ p bu Cl.no 1 := by unfold dj_; rw [if_neg (by simp [h]), if_pos hb]; exact ⟨rfl, rfl⟩
theorem sA_ {p : List Pc} {bu : Int} {m n : Nat} {c : Cl} {q fm : List Fc} {x : Ix} (hc : bD_ p = 0) (h1 : ¬ bu < 0) (h2 : ¬ 1073741824 < bu) (hm : min bu 65536 = (m : Int)) (hk : c.ok) (ha : c.atoms = atS p) (hL : LoopA (uniq [] p) (atS p) m n q fm x) (hn : q.length ≤ n) (hl : q.length ≤ m) (hf : c.facts = hu_ q) : dj_ p bu c 0 := by
  unfold dj_
  rw [if_neg (by simp [hc]), if_neg (by omega)]
  have e : n = q.length := Nat.le_antisymm hL.le hn
  subst e
  refine .inl ⟨rfl, hk, ha, ?_⟩
  rw [hm, hf]
  exact ⟨qe_ hL.nd, fun y => by rw [qf_, ← nO_ hL hl, me_], by rw [fI_]; simpa using hl⟩
theorem eo_ {p : List Pc} {bu : Int} {m : Nat} {e : Int} {M : List Fc} (hc : bD_ p = 0) (h1 : ¬ bu < 0) (h2 : ¬ 1073741824 < bu) (hm : min bu 65536 = (m : Int)) (he : e = if bu < 65536 then 3 else 2) (nd : M.Nodup) (hd : ∀ y ∈ M, Der (uniq [] p) (atS p) y) (hl : m < M.length) : dj_ p bu Cl.no e := by
  unfold dj_
  rw [if_neg (by simp [hc]), if_neg (by omega)]
  exact .inr ⟨rfl, he, M, nd, fun y hy => me_.1 (hd y hy), by rw [hm]; simpa using hl⟩
end Go.Proofs.YtpdbbglpbngeiaaGreatDoor
namespace Go.Proofs.YtpdbbglpbngeiaaGreatDoor
open Go Go.Sx Go.Proofs
attribute [local irreducible] Code.wp wpList wpAnyH
open Go.Vs
set_option maxHeartbeats 4000000 in
theorem sJ_ (p : List Pc) (pad : Option Addr) (pcap : Nat) (bu : Int) (hsm : ∀ x ∈ p, x.sm) (hp : p.length ≤ 100000000) : Tri Tryz.prog 18 #[.slice pad (List.length p) pcap, .int .i64 bu] [] [aS_ pad (List.flatMap Pc.cells p), gB_] (fun y : {y : Cl × Int // dj_ p bu y.1 y.2} => .tuple #[y.1.1.val, .int .i64 y.1.2]) (fun _ => []) (fun y => y.1.1.row) := by
 refine M_ Tryz.func18 rfl rfl Tryz.ntmps18 rfl fun v0 => ?_
 refine f_ (c_ (al_ Tryz.zeroValue28 rfl fun b1 => ?_))
 refine a_ (g_ rfl) rfl (d_ (b_ rfl (kE_ (f_ (f_ (c_ (a_ (h_ rfl) rfl (Q_ (lM_ p pad pcap (by omega) hsm) rfl W_ (fun v _ h => by exact ⟨h.1, h.2.1, trivial⟩) rfl fun _ => ?_))))))))
 refine a_ (g_ rfl) rfl (d_ (b_ rfl (f_ (c_ (a_ (h_ rfl) rfl (x_ (bR_ rfl rfl) rfl fun r1 hr1 => ?_))))))
 refine d_ (b_ rfl ?_)
 cases r1
 ·
  replace hr1 := bc_ hr1
  have hchk := hr1
  refine p_ rfl (A_ (b_ rfl (f_ (f_ (c_ (a_ (h_ rfl) rfl (x_ (az_ rfl rfl) rfl fun r2 hr2 => ?_)))))))
  refine a_ (h_ rfl) rfl ?_
  cases r2
  ·
   replace hr2 := of_decide_eq_false hr2
   have hb0 := hr2
   refine o_ rfl rfl (a_ (h_ rfl) rfl (o_ rfl rfl (x_ (bK_ rfl rfl) rfl fun r3 hr3 => ?_)))
   refine a_ (N_ rfl rfl) rfl (d_ (b_ rfl ?_))
   cases r3
   ·
    replace hr3 := of_decide_eq_false hr3
    have hb1 := hr3
    refine p_ rfl (A_ (b_ rfl (f_ ?_)))
    obtain ⟨m, hm0'⟩ : ∃ m : Nat, min bu 65536 = (m : Int) := ⟨(min bu 65536).toNat, by omega⟩
    have hm : m ≤ 65536 := by omega
    have hvk := qa_ (hm_ hchk)
    have hpl : ∀ k, (lat (aW_ (uniq [] p)) k).length ≤ 1000000000 := fun k => by have h1 := fv_ (aW_ (uniq [] p)) k; have h2 := jz_ (uniq [] p); have h3 := hK_ p []; simp only [List.length_nil] at h3; omega
    refine c_ (a_ (h_ rfl) rfl (Q_ (mO_ p pad pcap (by omega)) rfl W_ (fun v _ h => by exact ⟨h.1, trivial⟩) rfl fun ⟨⟨g, pb, kb, ab, ub, ob, ib, rb, sb, fb, lv, hm0, hl0⟩, hy⟩ => ?_))
    dsimp only
    dsimp only [NewE.own, NewE.ok] at hy ⊢
    obtain ⟨hym, hyl⟩ := hy
    simp only [List.cons_append, List.append_assoc]
    refine dS_ hyl (e_ (e_ (e_ (e_ (e_ (e_ (e_ (e_ (e_ (m_ z_)))))))))) fun lad lcap hlad hclad hmlad hzlad => ?_
    subst hlad
    refine al_ Tryz.zeroValue85 rfl fun b2 => ?_
    refine at_ (bj_ i_ (bj_ i_ (bj_ i_ (bj_ i_ (bj_ i_ (bj_ i_ (bj_ i_ (bj_ i_ (bj_ i_ (bj_ i_ (dw_ be_))))))))))) (Z_ 0 Tryz.sizeOf85 rfl rfl rfl rfl rfl rfl (d_ (b_ rfl (f_ (c_ (a_ (h_ rfl) rfl (a_ (cb_ (hH_ rfl rfl) (congrArg (Value.int .i64) hm0')) rfl (al_ io_ rfl fun b3 => ?_))))))))
    refine Z_ 0 H_ rfl rfl rfl rfl rfl rfl (d_ (b_ rfl (f_ (c_ (al_ lY_ rfl fun b4 => ?_)))))
    refine d_ (b_ rfl (f_ (c_ (a_ (q_ 2 cl_ rfl rfl rfl) rfl (a_ (cp_ rfl rfl) rfl (a_ (af_ rfl) rfl (a_ (j_ D_ rfl rfl rfl aU_) rfl (Z_ 3 aU_ rfl rfl rfl rfl rfl rfl (d_ ?_)))))))))
    refine b_ rfl (f_ (gl_ (dZ_ b2 (.cells #[zp_ g 0] 85 (0, 0))) (dw_ (e_ (e_ i_))) (fun _ h1 h2 _ => ⟨h1, h2⟩) ?_))
    refine gl_ (dZ_ b3 (.cells #[.int .i64 (m : Int)] 3 (0, 0))) (dw_ (e_ i_)) (fun _ h1 h2 _ => ⟨h1, h2⟩) ?_
    refine gl_ (dZ_ g (.cells #[.map (some pb), .slice lad (List.length (aB_ (uniq [] p))) lcap, .map (some kb), .func (.func 55) #[] #[zp_ b2 0, zp_ b3 0, zp_ b4 0], .map (some ab), .map (some ub), .map (some ob), .map (some ib), .map (some rb), .map (some sb), .map (some fb)] 94 (0, 0))) (dw_ (e_ i_)) (fun _ h1 h2 _ => ⟨h1, h2⟩) ?_
    refine qC_ gy_ hym (e_ (e_ (e_ (e_ (e_ (e_ (e_ (e_ (e_ ai_))))))))) fun adr => ?_
    refine c_ (a_ (h_ rfl) rfl (Q_ (atS_c p pad pcap (by omega)) rfl W_ (fun v _ h => by exact ⟨h.2.2.2.2.2.1, trivial⟩) rfl fun ⟨⟨aad, acap⟩, hac, ham, haz⟩ => ?_))
    dsimp only
    refine a_ (g_ rfl) rfl (d_ (b_ rfl (f_ (c_ (a_ (aa_ cl_ rfl (fun v _ h => by exact h.2.2.2.2.1) rfl) rfl (a_ (h_ rfl) rfl (Q_ (sr_ (EngB.mk g pb ab ub ob ib rb sb lad lcap (aB_ (uniq [] p))) (EA m hm (EngB.mk g pb ab ub ob ib rb sb lad lcap (aB_ (uniq [] p))) b2 b3 b4 kb fb) [] [] [(b4, .cells #[.slice none 0 0] 26 (0, 0)), (kb, .map #[] 0), (fb, .map #[] 0)] ⟨.slice none 0 0, #[], 0, #[], 0, [], [], rfl, bk_.nil _ _, SetE.nil, SetE.nil, by simp⟩ (atS p) aad acap (by have := oK_ p; omega) (by have := iI_ (uniq [] p); have h3 := hK_ p []; simp only [List.length_nil] at h3; show (aB_ (uniq [] p)).length ≤ _; omega)) rfl (l_ i_ (l_ i_ (e_ (e_ (e_ (e_ (e_ (e_ i_)))))))) (fun v _ h => by exact ⟨h.2.2.1, h.2.2.2.2.2.1, h.1, ⟨h.2.2.2.2.1, h.2.2.2.1, h.2.2.1⟩, trivial⟩) rfl fun ⟨Hs1, hS1⟩ => ?_)))))))
    dsimp only
    refine d_ (b_ rfl (at_ (bj_ (m_ i_) (bj_ (m_ i_) (bj_ (m_ i_) (bj_ (m_ i_) (bj_ (m_ i_) (bj_ (m_ i_) (dw_ be_))))))) (f_ (c_ (a_ (aa_ cl_ rfl (fun v _ h => by exact h.2.2.2.2.1) rfl) rfl (Q_ (rH_ g) rfl W_ (fun _ _ _ => by exact trivial) rfl fun ⟨r1, r2, r3⟩ => ?_))))))
    dsimp only
    refine al_ Tryz.zeroValue98 rfl fun b5 => ?_
    refine Z_ 0 Tryz.sizeOf98 rfl rfl rfl rfl rfl rfl (d_ (b_ rfl (f_ (kF_ (b_ rfl (f_ (f_ (c_ (a_ (g_ rfl) rfl ?_)))))))))
    refine d_ (b_ rfl (S_ ?_))
    refine aV_ (ι := {y : Nat × List Fc × List Fc × Ix × Hp × Hp × Hp × Hp × Hp × Hp × Hp // LoopA (uniq [] p) (atS p) m y.1 y.2.1 y.2.2.1 y.2.2.2.1 ∧ ((EA m hm (EngB.mk g pb ab ub ob ib rb sb lad lcap (aB_ (uniq [] p))) b2 b3 b4 kb fb)).St y.2.1 y.2.2.1 y.2.2.2.2.2.2.2.2.2.2 ∧ IxO 9 41 (EngB.mk g pb ab ub ob ib rb sb lad lcap (aB_ (uniq [] p))) y.2.2.2.1 ⟨y.2.2.2.2.1, y.2.2.2.2.2.1, y.2.2.2.2.2.2.1, y.2.2.2.2.2.2.2.1, y.2.2.2.2.2.2.2.2.1, y.2.2.2.2.2.2.2.2.2.1⟩ ∧ nQ_ y.2.2.2.1 y.1}) (fun y => [(0, .slice pad (List.length p) pcap), (1, .int .i64 bu), (4, zp_ b1 0), (7, zp_ b2 0), (8, zp_ b3 0), (9, zp_ b4 0), (10, .slice aad (List.length (atS p)) acap), (11, zp_ b5 0), (12, .int .i64 (y.1.1 : Int))]) (fun y => ((b1, .cells #[.slice none 0 0, .slice none 0 0] 28 (0, 0)) :: ((b5, .cells #[.slice none 0 0, .slice (some ⟨r1, 0, none⟩) 6 6, .slice (some ⟨r2, 0, none⟩) 4 4, .slice (some ⟨r3, 0, none⟩) 2 2] 98 (0, 0)) :: (y.1.2.2.2.2.1 ++ (y.1.2.2.2.2.2.1 ++ (y.1.2.2.2.2.2.2.1 ++ (y.1.2.2.2.2.2.2.2.1 ++ (y.1.2.2.2.2.2.2.2.2.1 ++ (y.1.2.2.2.2.2.2.2.2.2.1 ++ y.1.2.2.2.2.2.2.2.2.2.2))))))))) (fun y => [aS_ (some ⟨r1, 0, none⟩) (List.flatMap fvC (rlV g 1)), aS_ (some ⟨r2, 0, none⟩) (List.flatMap fvC (rlV g 2)), aS_ (some ⟨r3, 0, none⟩) (List.flatMap fvC (rlV g 3)), aS_ aad (List.flatMap bg_ (atS p)), mlF Tryz.prog 171 Ky.val Pc.cells pb (aW_ (uniq [] p)) adr, dZ_ g (.cells #[.map (some pb), .slice lad (List.length (aB_ (uniq [] p))) lcap, .map (some kb), .func (.func 55) #[] #[zp_ b2 0, zp_ b3 0, zp_ b4 0], .map (some ab), .map (some ub), .map (some ob), .map (some ib), .map (some rb), .map (some sb), .map (some fb)] 94 (0, 0)), dZ_ b3 (.cells #[.int .i64 (m : Int)] 3 (0, 0)), dZ_ b2 (.cells #[zp_ g 0] 85 (0, 0)), aS_ lad (List.flatMap bg_ (aB_ (uniq [] p))), aS_ pad (List.flatMap Pc.cells p), gB_]) (fun y => m + 1 - y.1.1) ⟨((0 : Nat), (emits (bx_ m) (eF_ (aB_ (uniq [] p)) (atS p)) []), ([] : List Fc), Ix.nil, [(ab, .map #[] 0)], [(ub, .map #[] 0)], [(ob, .map #[] 0)], [(ib, .map #[] 0)], [(rb, .map #[] 0)], [(sb, .map #[] 0)], Hs1), mU_ hvk rfl, by exact hS1, ⟨dH_.nil _ _, dH_.nil _ _, dH_.nil _ _, dH_.nil _ _, dH_.nil _ _, dH_.nil _ _⟩, qP_⟩ ⟨rfl, rfl, rfl, rfl, rfl, rfl, rfl, rfl, rfl, trivial⟩ (l_ (e_ (e_ (e_ (e_ (e_ (e_ (e_ i_))))))) (l_ i_ (l_ i_ (l_ i_ (l_ i_ (l_ i_ (l_ i_ (l_ i_ ba_)))))))) (fun _ _ h => h) ?_
    rintro ⟨⟨n, q, fm, x, Ha, Hu, Ho, Hi, Hr, Hm, Hs⟩, hL, hS, hI, hz⟩
    dsimp only at hL hS hI hz ⊢
    obtain ⟨sv1, es1, ce1, ef1, cf1, qf1, Hq1, hHs1, hrQ1, hEk1, hEf1, hqf1⟩ := hS
    subst hHs1
    have hqm := hL.len
    have hnq := hL.le
    obtain ⟨hxl, hyl⟩ := mW_ hz (by omega)
    refine f_ (at_ (bj_ i_ (bj_ i_ (bj_ (m_ (m_ (m_ (m_ (m_ (m_ i_)))))) (dw_ (m_ (m_ (m_ (m_ (m_ (m_ i_)))))))))) (f_ (c_ (a_ (h_ rfl) rfl (a_ (q_ 2 bX_ rfl rfl rfl) rfl (a_ (nt_ hrQ1 aj_ rfl) rfl (x_ (az_ rfl rfl) rfl fun r4 hr4 => ?_)))))))
    refine d_ (b_ rfl ?_)
    cases r4
    ·
     replace hr4 := of_decide_eq_false hr4
     refine p_ rfl (aD_ rfl (b_ rfl (f_ (f_ ?_))))
     refine aN_ (by kernel_rfl) ?_
     refine ad_ 0 [0, 1, 2, 3, 4, 5, 6] (by kernel_rfl) (fun _ a b => ⟨a, b⟩) (k_ rfl (aa_ cl_ rfl (fun v _ h => by exact h.2.2.2.2.2.2.2.1) rfl) rfl (k_ rfl (af_ rfl) rfl (k_ rfl (j_ D_ rfl rfl rfl bT_) rfl (k_ rfl (aa_ ck_ rfl (fun v _ h => by exact h.2.2.2.2.2.1) rfl) rfl (k_ rfl (cb_ (fh_ (E := (EA m hm (EngB.mk g pb ab ub ob ib rb sb lad lcap (aB_ (uniq [] p))) b2 b3 b4 kb fb)) (nw := q) (Hs := ((b4, .cells #[sv1] 26 (0, 0)) :: (kb, .map es1 ce1) :: ([(fb, .map ef1 cf1)] ++ Hq1))) ⟨sv1, es1, ce1, ef1, cf1, qf1, Hq1, rfl, hrQ1, hEk1, hEf1, hqf1⟩ aZ_ rfl (l_ (e_ (e_ i_)) (l_ (e_ (e_ i_)) (I_ (e_ (e_ (m_ (m_ (m_ (m_ (m_ (m_ z_)))))))) (e_ (e_ (m_ (m_ (m_ (m_ (m_ be_))))))))))) (show _ = Value.int .i64 (List.length q : Int) from rfl)) rfl (k_ rfl (aa_ J_ rfl (fun v _ h => by exact h.2.2.2.2.2.2.1) rfl) rfl ?_))))))
     refine ds_ rfl (bK_ rfl rfl) rfl fun r5 hr5 => ?_
     refine ac_ (ab_ (by kernel_rfl) (b_ rfl ?_))
     cases r5
     ·
      replace hr5 := of_decide_eq_false hr5
      refine p_ rfl (A_ (b_ rfl (f_ (c_ (a_ (q_ 2 bX_ rfl rfl rfl) rfl (Q_ (rF_ hrQ1 (by omega)) rfl (e_ (e_ (e_ (e_ (m_ (m_ (m_ (m_ (m_ (m_ be_)))))))))) (fun _ _ _ => by exact trivial) rfl fun ⟨Hq9, hq9⟩ => ?_))))))
      dsimp only
      refine d_ (b_ rfl (at_ (bj_ (m_ i_) (bj_ (m_ i_) (bj_ (m_ i_) (dw_ (m_ i_))))) (f_ (dS_ hq9 (e_ (e_ (e_ (e_ z_)))) fun fad fcap hfad hcfad hmfad hzfad => ?_))))
      subst hfad
      refine c_ (a_ (h_ rfl) rfl (a_ (q_ 2 bX_ rfl rfl rfl) rfl (a_ (ag_ eO_ rfl rfl) rfl (Z_ 0 ay_ rfl rfl rfl rfl rfl rfl (a_ (g_ rfl) rfl (d_ (b_ rfl (B_ ?_))))))))
      exact dY_ ⟨((Cl.mk (atS p) aad acap (hu_ q) fad fcap), 0), sA_ hchk hb0 hb1 hm0' ⟨hac, ham, haz, hcfad, hmfad, hzfad⟩ rfl hL (by omega) (by omega) rfl⟩ (fun aa v h1 h2 => ev_ (us := Cl.cells (Cl.mk (atS p) aad acap (hu_ q) fad fcap)) 0 cX_ cm_ ay_ rfl rfl rfl rfl aa v h1 h2) W_ (fun v _ h => by exact ⟨h.2.2.2.2.1, h.1, trivial⟩)
     ·
      replace hr5 := of_decide_eq_true hr5
      refine n_ rfl (f_ (f_ (c_ (a_ (h_ rfl) rfl (x_ (az_ rfl rfl) rfl fun r6 hr6 => ?_)))))
      refine d_ (b_ rfl ?_)
      cases r6
      ·
       replace hr6 := of_decide_eq_false hr6
       refine p_ rfl (A_ (b_ rfl (f_ (c_ (a_ (ag_ eO_ rfl rfl) rfl (Z_ 0 ay_ rfl rfl rfl rfl rfl rfl (a_ (g_ rfl) rfl (d_ (b_ rfl ?_)))))))))
       refine B_ ?_
       exact dY_ ⟨((Cl.mk [] none 0 [] none 0), 2), eo_ hchk hb0 hb1 hm0' (by rw [if_neg (by assumption)]) hL.nd hL.der (by omega)⟩ (fun aa v h1 h2 => ev_ (us := Cl.cells (Cl.mk [] none 0 [] none 0)) 0 cX_ cm_ ay_ rfl rfl rfl rfl aa v h1 h2) W_ (fun v _ h => by exact ⟨.inl rfl, .inl rfl, trivial⟩)
      ·
       replace hr6 := of_decide_eq_true hr6
       refine n_ rfl (f_ (c_ (a_ (ag_ eO_ rfl rfl) rfl (Z_ 0 ay_ rfl rfl rfl rfl rfl rfl (a_ (g_ rfl) rfl (d_ (b_ rfl (B_ ?_))))))))
       exact dY_ ⟨((Cl.mk [] none 0 [] none 0), 3), eo_ hchk hb0 hb1 hm0' (by rw [if_pos (by assumption)]) hL.nd hL.der (by omega)⟩ (fun aa v h1 h2 => ev_ (us := Cl.cells (Cl.mk [] none 0 [] none 0)) 0 cX_ cm_ ay_ rfl rfl rfl rfl aa v h1 h2) W_ (fun v _ h => by exact ⟨.inl rfl, .inl rfl, trivial⟩)
    ·
     replace hr4 := of_decide_eq_true hr4
     have hlf : n < List.length q := by omega
     obtain ⟨f, hf⟩ : ∃ e0, q[n]? = some e0 := ⟨_, List.getElem?_eq_getElem hlf⟩
     have hmf : f ∈ q := List.mem_of_getElem? hf
     have hfd := hL.der f hmf
     have hform := hfd.form hvk
     obtain ⟨hxl1, hyl1⟩ := mW_ (ia_ hz (decide (f ∈ fm)) f) (by omega)
     refine n_ rfl (A_ (b_ rfl (f_ (S_ (f_ (c_ (a_ (q_ 2 bX_ rfl rfl rfl) rfl (a_ (h_ rfl) rfl (a_ (oQ_ hrQ1 aj_ X_ rfl rfl (by omega) (by omega)) rfl ?_)))))))))
     refine a_ (oP_ hrQ1 (e_ (e_ (e_ (e_ (m_ (m_ (m_ (m_ (m_ (m_ be_)))))))))) au_ X_ rfl (Fc.cells_len _) (by decide) (an_ Fc.cells_len hf)) rfl (al_ bt_ rfl fun b6 => ?_)
     refine Z_ 0 X_ rfl rfl rfl rfl rfl rfl (d_ (b_ rfl (f_ (c_ (a_ (aa_ cl_ rfl (fun v _ h => by exact h.2.2.2.2.2.2.2.1) rfl) rfl (a_ (L_ 0 au_ X_ rfl rfl rfl) rfl (Q_ (se_ (EngB.mk g pb ab ub ob ib rb sb lad lcap (aB_ (uniq [] p))) (EA m hm (EngB.mk g pb ab ub ob ib rb sb lad lcap (aB_ (uniq [] p))) b2 b3 b4 kb fb) x f q fm ((b4, .cells #[sv1] 26 (0, 0)) :: (kb, .map es1 ce1) :: ([(fb, .map ef1 cf1)] ++ Hq1)) ⟨sv1, es1, ce1, ef1, cf1, qf1, Hq1, rfl, hrQ1, hEk1, hEf1, hqf1⟩ Ha Hu Ho Hi Hr Hm hI hxl hyl) rfl (I_ (e_ (e_ (e_ (e_ (e_ z_))))) (I_ (e_ (e_ (e_ (e_ (e_ z_))))) (I_ (e_ (e_ (e_ (e_ (e_ z_))))) (I_ (e_ (e_ (e_ (e_ (e_ z_))))) (I_ (e_ (e_ (e_ (e_ (e_ z_))))) (I_ (e_ (e_ (e_ (e_ (e_ z_))))) (l_ (e_ (e_ (e_ i_))) (l_ (e_ (e_ (e_ i_))) (I_ (e_ (e_ (e_ z_))) (e_ (e_ ai_))))))))))) (fun v _ h => by exact ⟨h.2.2.2.2.2.1, trivial⟩) rfl fun ⟨⟨Ha1, Hu1, Ho1, Hi1, Hr1, Hm1⟩, hI1⟩ => ?_)))))))
     dsimp only
     refine at_ rT_ (d_ (b_ rfl (at_ (bj_ (m_ (m_ (m_ (m_ (m_ (m_ i_)))))) (bj_ (m_ (m_ (m_ (m_ (m_ (m_ i_)))))) (bj_ (m_ (m_ (m_ (m_ (m_ (m_ (m_ (m_ i_)))))))) (bj_ (m_ (m_ (m_ (m_ (m_ (m_ (m_ (m_ i_)))))))) (dw_ (m_ (m_ (m_ (m_ (m_ (m_ (m_ be_)))))))))))) (f_ (c_ (a_ (j_ u_ rfl rfl rfl H_) rfl (a_ (q_ 2 J_ rfl rfl rfl) rfl ?_)))))))
     rcases hi_ hform with hk | hk | hk
     ·
      refine a_ (cb_ (ei_ qm_ Tryz.sizeOf97 rfl rfl (by omega) (by omega)) (show _ = zp_ b5 1 from by rw [hk]; rfl)) rfl (a_ (q_ 4 Tryz.isAgg97 rfl rfl rfl) rfl (a_ (ah_ cP_ rfl) rfl (a_ (h_ rfl) rfl (d_ (b_ rfl (S_ (ew_ (H' := ((b1, .cells #[.slice none 0 0, .slice none 0 0] 28 (0, 0)) :: ((b5, .cells #[.slice none 0 0, .slice (some ⟨r1, 0, none⟩) 6 6, .slice (some ⟨r2, 0, none⟩) 4 4, .slice (some ⟨r3, 0, none⟩) 2 2] 98 (0, 0)) :: ((b6, .cells (Fc.cells f).toArray 41 (0, 0)) :: (Ha1 ++ (Hu1 ++ (Ho1 ++ (Hi1 ++ (Hr1 ++ (Hm1 ++ ((b4, .cells #[sv1] 26 (0, 0)) :: (kb, .map es1 ce1) :: ([(fb, .map ef1 cf1)] ++ Hq1)))))))))))) (l_ (e_ (e_ (e_ i_))) (l_ (e_ (e_ (e_ i_))) (l_ (e_ (e_ i_)) (I_ (e_ (e_ z_)) (I_ (e_ (e_ z_)) (I_ (e_ (e_ z_)) (I_ (e_ (e_ z_)) (I_ (e_ (e_ z_)) (I_ (e_ (e_ z_)) (l_ i_ (l_ i_ (I_ z_ ba_)))))))))))) (fun v _ h => h) ?_)))))))
      refine aV_ (ι := {y : Nat × Hp // y.1 ≤ 6 ∧ ((EA m hm (EngB.mk g pb ab ub ob ib rb sb lad lcap (aB_ (uniq [] p))) b2 b3 b4 kb fb)).St (rls (bx_ m) idk (aW_ (uniq [] p)) (Ix.add x (decide (f ∈ fm)) f) f y.1 (q, fm)).1 (rls (bx_ m) idk (aW_ (uniq [] p)) (Ix.add x (decide (f ∈ fm)) f) f y.1 (q, fm)).2 y.2 ∧ (y.1 = 0 ∨ ((rls (bx_ m) idk (aW_ (uniq [] p)) (Ix.add x (decide (f ∈ fm)) f) f y.1 (q, fm)).1).length ≤ m)}) (fun y => [(0, .slice pad (List.length p) pcap), (1, .int .i64 bu), (4, zp_ b1 0), (7, zp_ b2 0), (8, zp_ b3 0), (9, zp_ b4 0), (10, .slice aad (List.length (atS p)) acap), (11, zp_ b5 0), (12, .int .i64 (n : Int)), (13, zp_ b6 0), (60, .slice (some ⟨r1, 0, none⟩) 6 6), (61, .int .i64 6), (62, .int .i64 (y.1.1 : Int))]) (fun y => ((b1, .cells #[.slice none 0 0, .slice none 0 0] 28 (0, 0)) :: ((b5, .cells #[.slice none 0 0, .slice (some ⟨r1, 0, none⟩) 6 6, .slice (some ⟨r2, 0, none⟩) 4 4, .slice (some ⟨r3, 0, none⟩) 2 2] 98 (0, 0)) :: ((b6, .cells (Fc.cells f).toArray 41 (0, 0)) :: (Ha1 ++ (Hu1 ++ (Ho1 ++ (Hi1 ++ (Hr1 ++ (Hm1 ++ y.1.2)))))))))) (fun y => [aS_ (some ⟨r1, 0, none⟩) (List.flatMap fvC (rlV g 1)), aS_ (some ⟨r2, 0, none⟩) (List.flatMap fvC (rlV g 2)), aS_ (some ⟨r3, 0, none⟩) (List.flatMap fvC (rlV g 3)), aS_ aad (List.flatMap bg_ (atS p)), mlF Tryz.prog 171 Ky.val Pc.cells pb (aW_ (uniq [] p)) adr, dZ_ g (.cells #[.map (some pb), .slice lad (List.length (aB_ (uniq [] p))) lcap, .map (some kb), .func (.func 55) #[] #[zp_ b2 0, zp_ b3 0, zp_ b4 0], .map (some ab), .map (some ub), .map (some ob), .map (some ib), .map (some rb), .map (some sb), .map (some fb)] 94 (0, 0)), dZ_ b3 (.cells #[.int .i64 (m : Int)] 3 (0, 0)), dZ_ b2 (.cells #[zp_ g 0] 85 (0, 0)), aS_ lad (List.flatMap bg_ (aB_ (uniq [] p))), aS_ pad (List.flatMap Pc.cells p), gB_]) (fun y => 6 - y.1.1) ⟨((0 : Nat), ((b4, .cells #[sv1] 26 (0, 0)) :: (kb, .map es1 ce1) :: ([(fb, .map ef1 cf1)] ++ Hq1))), by omega, by exact ⟨sv1, es1, ce1, ef1, cf1, qf1, Hq1, rfl, hrQ1, hEk1, hEf1, hqf1⟩, .inl rfl⟩ ⟨rfl, rfl, rfl, rfl, rfl, rfl, rfl, rfl, rfl, rfl, rfl, rfl, rfl, trivial⟩ (l_ i_ (l_ i_ (l_ i_ (I_ z_ (I_ z_ (I_ z_ (I_ z_ (I_ z_ (I_ z_ ba_))))))))) (fun _ _ h => h) ?_
      rintro ⟨⟨j, Hs⟩, hj, hS2, hjm⟩
      dsimp only at hj hS2 hjm ⊢
      refine f_ (c_ (x_ (az_ rfl rfl) rfl fun r7 hr7 => ?_))
      refine d_ (b_ rfl (f_ ?_))
      cases r7
      ·
       replace hr7 := of_decide_eq_false hr7
       have ej : j = 6 := by omega
       have hjl : ((rls (bx_ m) idk (aW_ (uniq [] p)) (Ix.add x (decide (f ∈ fm)) f) f j (q, fm)).1).length ≤ m := hjm.resolve_left (by omega)
       rw [ej] at hjl hS2
       refine p_ rfl (aD_ rfl (b_ rfl (c_ (a_ (h_ rfl) rfl (a_ (V_ rfl rfl rfl (aq_ (by omega) (by omega))) rfl (a_ (g_ rfl) rfl (d_ (r_ rfl ?_))))))))
       exact ao_ ⟨(n + 1, (rls (bx_ m) idk (aW_ (uniq [] p)) (Ix.add x (decide (f ∈ fm)) f) f 6 (q, fm)).1, (rls (bx_ m) idk (aW_ (uniq [] p)) (Ix.add x (decide (f ∈ fm)) f) f 6 (q, fm)).2, (Ix.add x (decide (f ∈ fm)) f), Ha1, Hu1, Ho1, Hi1, Hr1, Hm1, Hs), (hA_ hvk hL hf (by have e : nrl f = 6 := (by unfold nrl; simp [hk]); rw [e]) (by omega)), (by exact hS2), hI1, (ia_ hz _ f)⟩ (by dsimp only; omega) ⟨rfl, rfl, rfl, rfl, rfl, rfl, rfl, rfl, rfl, trivial⟩ (l_ i_ (l_ i_ (I_ (e_ z_) (I_ (e_ z_) (I_ (e_ z_) (I_ (e_ z_) (I_ (e_ z_) (I_ (e_ z_) ai_)))))))) (fun _ _ h => h)
      ·
       replace hr7 := of_decide_eq_true hr7
       have hlfv : j < List.length (rlV g 1) := by show j < 6; omega
       obtain ⟨fv, hfv⟩ : ∃ e0, (rlV g 1)[j]? = some e0 := ⟨_, List.getElem?_eq_getElem hlfv⟩
       have hmfv : fv ∈ (rlV g 1) := List.mem_of_getElem? hfv
       refine n_ rfl (A_ (b_ rfl (f_ (S_ (f_ (c_ (a_ (ak_ cP_ aU_ rfl rfl (fun v _ h => aL_ (n := 1) hh_ (by decide) (by exact h.1) hfv) (by omega) (by omega)) rfl (a_ (bH_ (ad := (some ⟨r1, 0, none⟩)) bz_ rfl (fun v _ h => by exact h.1) (an_ hh_ hfv 0 _ rfl)) rfl (a_ (g_ rfl) rfl ?_)))))))))
       refine d_ (b_ rfl (f_ (c_ (a_ (h_ rfl) rfl (a_ (L_ 2 au_ X_ rfl rfl rfl) rfl ?_)))))
       obtain ⟨nr, rfl, hT⟩ := rK_ (EngB.mk g pb ab ub ob ib rb sb lad lcap (aB_ (uniq [] p))) (EA m hm (EngB.mk g pb ab ub ob ib rb sb lad lcap (aB_ (uniq [] p))) b2 b3 b4 kb fb) (EngA.mk adr (fun _ => (none, 0)) (fun _ => (none, 0)) (fun _ => (none, 0)) (fun _ => (none, 0)) (fun _ => (none, 0)) (fun _ => (none, 0))) (aW_ (uniq [] p)) (Ix.add x (decide (f ∈ fm)) f) f (rls (bx_ m) idk (aW_ (uniq [] p)) (Ix.add x (decide (f ∈ fm)) f) f j (q, fm)).1 (rls (bx_ m) idk (aW_ (uniq [] p)) (Ix.add x (decide (f ∈ fm)) f) f j (q, fm)).2 Hs hS2 Ha1 Hu1 Ho1 Hi1 Hr1 Hm1 hI1 hpl hxl1 hyl1 (fun hk => (gz_ hform hk).2.2) (fun _ y hy => (hvk y (pm9.1 hy).1).num (.inr (pm9.1 hy).2.1)) hk j hfv
       refine aH_ (first := [zp_ g 0]) (vs := [Fc.val f]) (cap := []) hT rfl rfl (nJ_ (I_ (e_ (e_ (e_ z_))) (I_ (e_ (e_ (e_ z_))) (I_ (e_ (e_ (e_ z_))) (I_ (e_ (e_ (e_ z_))) (I_ (e_ (e_ (e_ z_))) (I_ (e_ (e_ (e_ z_))) (e_ (e_ ai_))))))))) (fun v _ h => by exact ⟨h.2.2.2.2.2.1, h.2.2.2.2.1, ⟨h.2.2.2.2.2.2.2.1, h.2.2.2.2.2.2.1, h.2.2.2.2.2.1⟩, trivial⟩) rfl fun ⟨Hs3, hS3⟩ => ?_
       refine at_ lk_ (d_ (b_ rfl (at_ (bj_ (m_ (m_ (m_ (m_ (m_ (m_ (m_ i_))))))) (bj_ (m_ (m_ (m_ (m_ (m_ (m_ (m_ i_))))))) (dw_ (m_ (m_ (m_ (m_ (m_ (m_ be_))))))))) (f_ ?_))))
       refine aN_ (by kernel_rfl) ?_
       refine ad_ 0 [0, 1, 2, 3, 4, 5, 6] (by kernel_rfl) (fun _ a b => ⟨a, b⟩) (k_ rfl (aa_ cl_ rfl (fun v _ h => by exact h.2.2.2.2.2.2.2.1) rfl) rfl (k_ rfl (af_ rfl) rfl (k_ rfl (j_ D_ rfl rfl rfl bT_) rfl (k_ rfl (aa_ ck_ rfl (fun v _ h => by exact h.2.2.2.2.2.1) rfl) rfl (k_ rfl (cb_ (fh_ (E := (EA m hm (EngB.mk g pb ab ub ob ib rb sb lad lcap (aB_ (uniq [] p))) b2 b3 b4 kb fb)) (nw := (rls (bx_ m) idk (aW_ (uniq [] p)) (Ix.add x (decide (f ∈ fm)) f) f (j + 1) (q, fm)).1) (Hs := Hs3) hS3 aZ_ rfl (e_ (e_ (e_ (m_ (m_ (m_ (m_ (m_ be_))))))))) (show _ = Value.int .i64 (List.length (rls (bx_ m) idk (aW_ (uniq [] p)) (Ix.add x (decide (f ∈ fm)) f) f (j + 1) (q, fm)).1 : Int) from rfl)) rfl (k_ rfl (aa_ J_ rfl (fun v _ h => by exact h.2.2.2.2.2.2.1) rfl) rfl ?_))))))
       refine ds_ rfl (bK_ rfl rfl) rfl fun r8 hr8 => ?_
       refine ac_ (ab_ (by kernel_rfl) (b_ rfl ?_))
       cases r8
       ·
        replace hr8 := of_decide_eq_false hr8
        refine p_ rfl (A_ (b_ rfl (c_ (a_ (V_ rfl rfl rfl (aq_ (by omega) (by omega))) rfl (a_ (h_ rfl) rfl (d_ (r_ rfl ?_)))))))
        exact ao_ ⟨(j + 1, Hs3), hlfv, by exact hS3, .inr (by dsimp only; omega)⟩ (by dsimp only; omega) ⟨rfl, rfl, rfl, rfl, rfl, rfl, rfl, rfl, rfl, rfl, rfl, rfl, rfl, trivial⟩ (l_ i_ (l_ i_ (l_ i_ (I_ z_ (I_ z_ (I_ z_ (I_ z_ (I_ z_ (I_ z_ ba_))))))))) (fun _ _ h => h)
       ·
        replace hr8 := of_decide_eq_true hr8
        refine n_ rfl (aD_ rfl (b_ rfl (f_ (f_ ?_))))
        refine aN_ (by kernel_rfl) ?_
        refine ad_ 0 [0, 1, 2, 3, 4, 5, 6] (by kernel_rfl) (fun _ a b => ⟨a, b⟩) (k_ rfl (aa_ cl_ rfl (fun v _ h => by exact h.2.2.2.2.2.2.2.1) rfl) rfl (k_ rfl (af_ rfl) rfl (k_ rfl (j_ D_ rfl rfl rfl bT_) rfl (k_ rfl (aa_ ck_ rfl (fun v _ h => by exact h.2.2.2.2.2.1) rfl) rfl (k_ rfl (cb_ (fh_ (E := (EA m hm (EngB.mk g pb ab ub ob ib rb sb lad lcap (aB_ (uniq [] p))) b2 b3 b4 kb fb)) (nw := (rls (bx_ m) idk (aW_ (uniq [] p)) (Ix.add x (decide (f ∈ fm)) f) f (j + 1) (q, fm)).1) (Hs := Hs3) hS3 aZ_ rfl (e_ (e_ (e_ (m_ (m_ (m_ (m_ (m_ be_))))))))) (show _ = Value.int .i64 (List.length (rls (bx_ m) idk (aW_ (uniq [] p)) (Ix.add x (decide (f ∈ fm)) f) f (j + 1) (q, fm)).1 : Int) from rfl)) rfl (k_ rfl (aa_ J_ rfl (fun v _ h => by exact h.2.2.2.2.2.2.1) rfl) rfl ?_))))))
        refine ds_ rfl (bK_ rfl rfl) rfl fun r9 hr9 => ?_
        refine ac_ (ab_ (by kernel_rfl) (b_ rfl ?_))
        cases r9
        ·
         replace hr9 := of_decide_eq_false hr9
         omega
        ·
         replace hr9 := of_decide_eq_true hr9
         refine n_ rfl (f_ (f_ (c_ (a_ (h_ rfl) rfl (x_ (az_ rfl rfl) rfl fun r10 hr10 => ?_)))))
         refine d_ (b_ rfl ?_)
         cases r10
         ·
          replace hr10 := of_decide_eq_false hr10
          refine p_ rfl (A_ (b_ rfl (f_ (c_ (a_ (ag_ eO_ rfl rfl) rfl (Z_ 0 ay_ rfl rfl rfl rfl rfl rfl (a_ (g_ rfl) rfl (d_ (b_ rfl ?_)))))))))
          refine B_ ?_
          exact dY_ ⟨((Cl.mk [] none 0 [] none 0), 2), eo_ hchk hb0 hb1 hm0' (by rw [if_neg (by assumption)]) (cz_ hvk hL hf (j + 1) rfl).1 (cz_ hvk hL hf (j + 1) rfl).2.2.1 (by omega)⟩ (fun aa v h1 h2 => ev_ (us := Cl.cells (Cl.mk [] none 0 [] none 0)) 0 cX_ cm_ ay_ rfl rfl rfl rfl aa v h1 h2) W_ (fun v _ h => by exact ⟨.inl rfl, .inl rfl, trivial⟩)
         ·
          replace hr10 := of_decide_eq_true hr10
          refine n_ rfl (f_ (c_ (a_ (ag_ eO_ rfl rfl) rfl (Z_ 0 ay_ rfl rfl rfl rfl rfl rfl (a_ (g_ rfl) rfl (d_ (b_ rfl (B_ ?_))))))))
          exact dY_ ⟨((Cl.mk [] none 0 [] none 0), 3), eo_ hchk hb0 hb1 hm0' (by rw [if_pos (by assumption)]) (cz_ hvk hL hf (j + 1) rfl).1 (cz_ hvk hL hf (j + 1) rfl).2.2.1 (by omega)⟩ (fun aa v h1 h2 => ev_ (us := Cl.cells (Cl.mk [] none 0 [] none 0)) 0 cX_ cm_ ay_ rfl rfl rfl rfl aa v h1 h2) W_ (fun v _ h => by exact ⟨.inl rfl, .inl rfl, trivial⟩)
     ·
      refine a_ (cb_ (ei_ qm_ Tryz.sizeOf97 rfl rfl (by omega) (by omega)) (show _ = zp_ b5 2 from by rw [hk]; rfl)) rfl (a_ (q_ 4 Tryz.isAgg97 rfl rfl rfl) rfl (a_ (ah_ cP_ rfl) rfl (a_ (h_ rfl) rfl (d_ (b_ rfl (S_ (ew_ (H' := ((b1, .cells #[.slice none 0 0, .slice none 0 0] 28 (0, 0)) :: ((b5, .cells #[.slice none 0 0, .slice (some ⟨r1, 0, none⟩) 6 6, .slice (some ⟨r2, 0, none⟩) 4 4, .slice (some ⟨r3, 0, none⟩) 2 2] 98 (0, 0)) :: ((b6, .cells (Fc.cells f).toArray 41 (0, 0)) :: (Ha1 ++ (Hu1 ++ (Ho1 ++ (Hi1 ++ (Hr1 ++ (Hm1 ++ ((b4, .cells #[sv1] 26 (0, 0)) :: (kb, .map es1 ce1) :: ([(fb, .map ef1 cf1)] ++ Hq1)))))))))))) (l_ (e_ (e_ (e_ i_))) (l_ (e_ (e_ (e_ i_))) (l_ (e_ (e_ i_)) (I_ (e_ (e_ z_)) (I_ (e_ (e_ z_)) (I_ (e_ (e_ z_)) (I_ (e_ (e_ z_)) (I_ (e_ (e_ z_)) (I_ (e_ (e_ z_)) (l_ i_ (l_ i_ (I_ z_ ba_)))))))))))) (fun v _ h => h) ?_)))))))
      refine aV_ (ι := {y : Nat × Hp // y.1 ≤ 4 ∧ ((EA m hm (EngB.mk g pb ab ub ob ib rb sb lad lcap (aB_ (uniq [] p))) b2 b3 b4 kb fb)).St (rls (bx_ m) idk (aW_ (uniq [] p)) (Ix.add x (decide (f ∈ fm)) f) f y.1 (q, fm)).1 (rls (bx_ m) idk (aW_ (uniq [] p)) (Ix.add x (decide (f ∈ fm)) f) f y.1 (q, fm)).2 y.2 ∧ (y.1 = 0 ∨ ((rls (bx_ m) idk (aW_ (uniq [] p)) (Ix.add x (decide (f ∈ fm)) f) f y.1 (q, fm)).1).length ≤ m)}) (fun y => [(0, .slice pad (List.length p) pcap), (1, .int .i64 bu), (4, zp_ b1 0), (7, zp_ b2 0), (8, zp_ b3 0), (9, zp_ b4 0), (10, .slice aad (List.length (atS p)) acap), (11, zp_ b5 0), (12, .int .i64 (n : Int)), (13, zp_ b6 0), (60, .slice (some ⟨r2, 0, none⟩) 4 4), (61, .int .i64 4), (62, .int .i64 (y.1.1 : Int))]) (fun y => ((b1, .cells #[.slice none 0 0, .slice none 0 0] 28 (0, 0)) :: ((b5, .cells #[.slice none 0 0, .slice (some ⟨r1, 0, none⟩) 6 6, .slice (some ⟨r2, 0, none⟩) 4 4, .slice (some ⟨r3, 0, none⟩) 2 2] 98 (0, 0)) :: ((b6, .cells (Fc.cells f).toArray 41 (0, 0)) :: (Ha1 ++ (Hu1 ++ (Ho1 ++ (Hi1 ++ (Hr1 ++ (Hm1 ++ y.1.2)))))))))) (fun y => [aS_ (some ⟨r1, 0, none⟩) (List.flatMap fvC (rlV g 1)), aS_ (some ⟨r2, 0, none⟩) (List.flatMap fvC (rlV g 2)), aS_ (some ⟨r3, 0, none⟩) (List.flatMap fvC (rlV g 3)), aS_ aad (List.flatMap bg_ (atS p)), mlF Tryz.prog 171 Ky.val Pc.cells pb (aW_ (uniq [] p)) adr, dZ_ g (.cells #[.map (some pb), .slice lad (List.length (aB_ (uniq [] p))) lcap, .map (some kb), .func (.func 55) #[] #[zp_ b2 0, zp_ b3 0, zp_ b4 0], .map (some ab), .map (some ub), .map (some ob), .map (some ib), .map (some rb), .map (some sb), .map (some fb)] 94 (0, 0)), dZ_ b3 (.cells #[.int .i64 (m : Int)] 3 (0, 0)), dZ_ b2 (.cells #[zp_ g 0] 85 (0, 0)), aS_ lad (List.flatMap bg_ (aB_ (uniq [] p))), aS_ pad (List.flatMap Pc.cells p), gB_]) (fun y => 4 - y.1.1) ⟨((0 : Nat), ((b4, .cells #[sv1] 26 (0, 0)) :: (kb, .map es1 ce1) :: ([(fb, .map ef1 cf1)] ++ Hq1))), by omega, by exact ⟨sv1, es1, ce1, ef1, cf1, qf1, Hq1, rfl, hrQ1, hEk1, hEf1, hqf1⟩, .inl rfl⟩ ⟨rfl, rfl, rfl, rfl, rfl, rfl, rfl, rfl, rfl, rfl, rfl, rfl, rfl, trivial⟩ (l_ i_ (l_ i_ (l_ i_ (I_ z_ (I_ z_ (I_ z_ (I_ z_ (I_ z_ (I_ z_ ba_))))))))) (fun _ _ h => h) ?_
      rintro ⟨⟨j, Hs⟩, hj, hS2, hjm⟩
      dsimp only at hj hS2 hjm ⊢
      refine f_ (c_ (x_ (az_ rfl rfl) rfl fun r11 hr11 => ?_))
      refine d_ (b_ rfl (f_ ?_))
      cases r11
      ·
       replace hr11 := of_decide_eq_false hr11
       have ej : j = 4 := by omega
       have hjl : ((rls (bx_ m) idk (aW_ (uniq [] p)) (Ix.add x (decide (f ∈ fm)) f) f j (q, fm)).1).length ≤ m := hjm.resolve_left (by omega)
       rw [ej] at hjl hS2
       refine p_ rfl (aD_ rfl (b_ rfl (c_ (a_ (h_ rfl) rfl (a_ (V_ rfl rfl rfl (aq_ (by omega) (by omega))) rfl (a_ (g_ rfl) rfl (d_ (r_ rfl ?_))))))))
       exact ao_ ⟨(n + 1, (rls (bx_ m) idk (aW_ (uniq [] p)) (Ix.add x (decide (f ∈ fm)) f) f 4 (q, fm)).1, (rls (bx_ m) idk (aW_ (uniq [] p)) (Ix.add x (decide (f ∈ fm)) f) f 4 (q, fm)).2, (Ix.add x (decide (f ∈ fm)) f), Ha1, Hu1, Ho1, Hi1, Hr1, Hm1, Hs), (hA_ hvk hL hf (by have e : nrl f = 4 := (by unfold nrl; simp [hk]); rw [e]) (by omega)), (by exact hS2), hI1, (ia_ hz _ f)⟩ (by dsimp only; omega) ⟨rfl, rfl, rfl, rfl, rfl, rfl, rfl, rfl, rfl, trivial⟩ (l_ i_ (l_ i_ (I_ (e_ z_) (I_ (e_ z_) (I_ (e_ z_) (I_ (e_ z_) (I_ (e_ z_) (I_ (e_ z_) ai_)))))))) (fun _ _ h => h)
      ·
       replace hr11 := of_decide_eq_true hr11
       have hlfv : j < List.length (rlV g 2) := by show j < 4; omega
       obtain ⟨fv, hfv⟩ : ∃ e0, (rlV g 2)[j]? = some e0 := ⟨_, List.getElem?_eq_getElem hlfv⟩
       have hmfv : fv ∈ (rlV g 2) := List.mem_of_getElem? hfv
       refine n_ rfl (A_ (b_ rfl (f_ (S_ (f_ (c_ (a_ (ak_ cP_ aU_ rfl rfl (fun v _ h => aL_ (n := 1) hh_ (by decide) (by exact h.2.1) hfv) (by omega) (by omega)) rfl (a_ (bH_ (ad := (some ⟨r2, 0, none⟩)) bz_ rfl (fun v _ h => by exact h.2.1) (an_ hh_ hfv 0 _ rfl)) rfl (a_ (g_ rfl) rfl ?_)))))))))
       refine d_ (b_ rfl (f_ (c_ (a_ (h_ rfl) rfl (a_ (L_ 2 au_ X_ rfl rfl rfl) rfl ?_)))))
       obtain ⟨nr, rfl, hT⟩ := rJ_ (EngB.mk g pb ab ub ob ib rb sb lad lcap (aB_ (uniq [] p))) (EA m hm (EngB.mk g pb ab ub ob ib rb sb lad lcap (aB_ (uniq [] p))) b2 b3 b4 kb fb) (EngA.mk adr (fun _ => (none, 0)) (fun _ => (none, 0)) (fun _ => (none, 0)) (fun _ => (none, 0)) (fun _ => (none, 0)) (fun _ => (none, 0))) (aW_ (uniq [] p)) (Ix.add x (decide (f ∈ fm)) f) f (rls (bx_ m) idk (aW_ (uniq [] p)) (Ix.add x (decide (f ∈ fm)) f) f j (q, fm)).1 (rls (bx_ m) idk (aW_ (uniq [] p)) (Ix.add x (decide (f ∈ fm)) f) f j (q, fm)).2 Hs hS2 Ha1 Hu1 Ho1 Hi1 Hr1 Hm1 hI1 hpl hxl1 hyl1 (fun hk => (gz_ hform hk).2.2) (fun _ y hy => (hvk y (pm9.1 hy).1).num (.inr (pm9.1 hy).2.1)) hk j hfv
       refine aH_ (first := [zp_ g 0]) (vs := [Fc.val f]) (cap := []) hT rfl rfl (nJ_ (I_ (e_ (e_ (e_ z_))) (I_ (e_ (e_ (e_ z_))) (I_ (e_ (e_ (e_ z_))) (I_ (e_ (e_ (e_ z_))) (I_ (e_ (e_ (e_ z_))) (I_ (e_ (e_ (e_ z_))) (e_ (e_ ai_))))))))) (fun v _ h => by exact ⟨h.2.2.2.2.2.1, h.2.2.2.2.1, ⟨h.2.2.2.2.2.2.2.1, h.2.2.2.2.2.2.1, h.2.2.2.2.2.1⟩, trivial⟩) rfl fun ⟨Hs3, hS3⟩ => ?_
       refine at_ lk_ (d_ (b_ rfl (at_ (bj_ (m_ (m_ (m_ (m_ (m_ (m_ (m_ i_))))))) (bj_ (m_ (m_ (m_ (m_ (m_ (m_ (m_ i_))))))) (dw_ (m_ (m_ (m_ (m_ (m_ (m_ be_))))))))) (f_ ?_))))
       refine aN_ (by kernel_rfl) ?_
       refine ad_ 0 [0, 1, 2, 3, 4, 5, 6] (by kernel_rfl) (fun _ a b => ⟨a, b⟩) (k_ rfl (aa_ cl_ rfl (fun v _ h => by exact h.2.2.2.2.2.2.2.1) rfl) rfl (k_ rfl (af_ rfl) rfl (k_ rfl (j_ D_ rfl rfl rfl bT_) rfl (k_ rfl (aa_ ck_ rfl (fun v _ h => by exact h.2.2.2.2.2.1) rfl) rfl (k_ rfl (cb_ (fh_ (E := (EA m hm (EngB.mk g pb ab ub ob ib rb sb lad lcap (aB_ (uniq [] p))) b2 b3 b4 kb fb)) (nw := (rls (bx_ m) idk (aW_ (uniq [] p)) (Ix.add x (decide (f ∈ fm)) f) f (j + 1) (q, fm)).1) (Hs := Hs3) hS3 aZ_ rfl (e_ (e_ (e_ (m_ (m_ (m_ (m_ (m_ be_))))))))) (show _ = Value.int .i64 (List.length (rls (bx_ m) idk (aW_ (uniq [] p)) (Ix.add x (decide (f ∈ fm)) f) f (j + 1) (q, fm)).1 : Int) from rfl)) rfl (k_ rfl (aa_ J_ rfl (fun v _ h => by exact h.2.2.2.2.2.2.1) rfl) rfl ?_))))))
       refine ds_ rfl (bK_ rfl rfl) rfl fun r12 hr12 => ?_
       refine ac_ (ab_ (by kernel_rfl) (b_ rfl ?_))
       cases r12
       ·
        replace hr12 := of_decide_eq_false hr12
        refine p_ rfl (A_ (b_ rfl (c_ (a_ (V_ rfl rfl rfl (aq_ (by omega) (by omega))) rfl (a_ (h_ rfl) rfl (d_ (r_ rfl ?_)))))))
        exact ao_ ⟨(j + 1, Hs3), hlfv, by exact hS3, .inr (by dsimp only; omega)⟩ (by dsimp only; omega) ⟨rfl, rfl, rfl, rfl, rfl, rfl, rfl, rfl, rfl, rfl, rfl, rfl, rfl, trivial⟩ (l_ i_ (l_ i_ (l_ i_ (I_ z_ (I_ z_ (I_ z_ (I_ z_ (I_ z_ (I_ z_ ba_))))))))) (fun _ _ h => h)
       ·
        replace hr12 := of_decide_eq_true hr12
        refine n_ rfl (aD_ rfl (b_ rfl (f_ (f_ ?_))))
        refine aN_ (by kernel_rfl) ?_
        refine ad_ 0 [0, 1, 2, 3, 4, 5, 6] (by kernel_rfl) (fun _ a b => ⟨a, b⟩) (k_ rfl (aa_ cl_ rfl (fun v _ h => by exact h.2.2.2.2.2.2.2.1) rfl) rfl (k_ rfl (af_ rfl) rfl (k_ rfl (j_ D_ rfl rfl rfl bT_) rfl (k_ rfl (aa_ ck_ rfl (fun v _ h => by exact h.2.2.2.2.2.1) rfl) rfl (k_ rfl (cb_ (fh_ (E := (EA m hm (EngB.mk g pb ab ub ob ib rb sb lad lcap (aB_ (uniq [] p))) b2 b3 b4 kb fb)) (nw := (rls (bx_ m) idk (aW_ (uniq [] p)) (Ix.add x (decide (f ∈ fm)) f) f (j + 1) (q, fm)).1) (Hs := Hs3) hS3 aZ_ rfl (e_ (e_ (e_ (m_ (m_ (m_ (m_ (m_ be_))))))))) (show _ = Value.int .i64 (List.length (rls (bx_ m) idk (aW_ (uniq [] p)) (Ix.add x (decide (f ∈ fm)) f) f (j + 1) (q, fm)).1 : Int) from rfl)) rfl (k_ rfl (aa_ J_ rfl (fun v _ h => by exact h.2.2.2.2.2.2.1) rfl) rfl ?_))))))
        refine ds_ rfl (bK_ rfl rfl) rfl fun r13 hr13 => ?_
        refine ac_ (ab_ (by kernel_rfl) (b_ rfl ?_))
        cases r13
        ·
         replace hr13 := of_decide_eq_false hr13
         omega
        ·
         replace hr13 := of_decide_eq_true hr13
         refine n_ rfl (f_ (f_ (c_ (a_ (h_ rfl) rfl (x_ (az_ rfl rfl) rfl fun r14 hr14 => ?_)))))
         refine d_ (b_ rfl ?_)
         cases r14
         ·
          replace hr14 := of_decide_eq_false hr14
          refine p_ rfl (A_ (b_ rfl (f_ (c_ (a_ (ag_ eO_ rfl rfl) rfl (Z_ 0 ay_ rfl rfl rfl rfl rfl rfl (a_ (g_ rfl) rfl (d_ (b_ rfl ?_)))))))))
          refine B_ ?_
          exact dY_ ⟨((Cl.mk [] none 0 [] none 0), 2), eo_ hchk hb0 hb1 hm0' (by rw [if_neg (by assumption)]) (cz_ hvk hL hf (j + 1) rfl).1 (cz_ hvk hL hf (j + 1) rfl).2.2.1 (by omega)⟩ (fun aa v h1 h2 => ev_ (us := Cl.cells (Cl.mk [] none 0 [] none 0)) 0 cX_ cm_ ay_ rfl rfl rfl rfl aa v h1 h2) W_ (fun v _ h => by exact ⟨.inl rfl, .inl rfl, trivial⟩)
         ·
          replace hr14 := of_decide_eq_true hr14
          refine n_ rfl (f_ (c_ (a_ (ag_ eO_ rfl rfl) rfl (Z_ 0 ay_ rfl rfl rfl rfl rfl rfl (a_ (g_ rfl) rfl (d_ (b_ rfl (B_ ?_))))))))
          exact dY_ ⟨((Cl.mk [] none 0 [] none 0), 3), eo_ hchk hb0 hb1 hm0' (by rw [if_pos (by assumption)]) (cz_ hvk hL hf (j + 1) rfl).1 (cz_ hvk hL hf (j + 1) rfl).2.2.1 (by omega)⟩ (fun aa v h1 h2 => ev_ (us := Cl.cells (Cl.mk [] none 0 [] none 0)) 0 cX_ cm_ ay_ rfl rfl rfl rfl aa v h1 h2) W_ (fun v _ h => by exact ⟨.inl rfl, .inl rfl, trivial⟩)
     ·
      refine a_ (cb_ (ei_ qm_ Tryz.sizeOf97 rfl rfl (by omega) (by omega)) (show _ = zp_ b5 3 from by rw [hk]; rfl)) rfl (a_ (q_ 4 Tryz.isAgg97 rfl rfl rfl) rfl (a_ (ah_ cP_ rfl) rfl (a_ (h_ rfl) rfl (d_ (b_ rfl (S_ (ew_ (H' := ((b1, .cells #[.slice none 0 0, .slice none 0 0] 28 (0, 0)) :: ((b5, .cells #[.slice none 0 0, .slice (some ⟨r1, 0, none⟩) 6 6, .slice (some ⟨r2, 0, none⟩) 4 4, .slice (some ⟨r3, 0, none⟩) 2 2] 98 (0, 0)) :: ((b6, .cells (Fc.cells f).toArray 41 (0, 0)) :: (Ha1 ++ (Hu1 ++ (Ho1 ++ (Hi1 ++ (Hr1 ++ (Hm1 ++ ((b4, .cells #[sv1] 26 (0, 0)) :: (kb, .map es1 ce1) :: ([(fb, .map ef1 cf1)] ++ Hq1)))))))))))) (l_ (e_ (e_ (e_ i_))) (l_ (e_ (e_ (e_ i_))) (l_ (e_ (e_ i_)) (I_ (e_ (e_ z_)) (I_ (e_ (e_ z_)) (I_ (e_ (e_ z_)) (I_ (e_ (e_ z_)) (I_ (e_ (e_ z_)) (I_ (e_ (e_ z_)) (l_ i_ (l_ i_ (I_ z_ ba_)))))))))))) (fun v _ h => h) ?_)))))))
      refine aV_ (ι := {y : Nat × Hp // y.1 ≤ 2 ∧ ((EA m hm (EngB.mk g pb ab ub ob ib rb sb lad lcap (aB_ (uniq [] p))) b2 b3 b4 kb fb)).St (rls (bx_ m) idk (aW_ (uniq [] p)) (Ix.add x (decide (f ∈ fm)) f) f y.1 (q, fm)).1 (rls (bx_ m) idk (aW_ (uniq [] p)) (Ix.add x (decide (f ∈ fm)) f) f y.1 (q, fm)).2 y.2 ∧ (y.1 = 0 ∨ ((rls (bx_ m) idk (aW_ (uniq [] p)) (Ix.add x (decide (f ∈ fm)) f) f y.1 (q, fm)).1).length ≤ m)}) (fun y => [(0, .slice pad (List.length p) pcap), (1, .int .i64 bu), (4, zp_ b1 0), (7, zp_ b2 0), (8, zp_ b3 0), (9, zp_ b4 0), (10, .slice aad (List.length (atS p)) acap), (11, zp_ b5 0), (12, .int .i64 (n : Int)), (13, zp_ b6 0), (60, .slice (some ⟨r3, 0, none⟩) 2 2), (61, .int .i64 2), (62, .int .i64 (y.1.1 : Int))]) (fun y => ((b1, .cells #[.slice none 0 0, .slice none 0 0] 28 (0, 0)) :: ((b5, .cells #[.slice none 0 0, .slice (some ⟨r1, 0, none⟩) 6 6, .slice (some ⟨r2, 0, none⟩) 4 4, .slice (some ⟨r3, 0, none⟩) 2 2] 98 (0, 0)) :: ((b6, .cells (Fc.cells f).toArray 41 (0, 0)) :: (Ha1 ++ (Hu1 ++ (Ho1 ++ (Hi1 ++ (Hr1 ++ (Hm1 ++ y.1.2)))))))))) (fun y => [aS_ (some ⟨r1, 0, none⟩) (List.flatMap fvC (rlV g 1)), aS_ (some ⟨r2, 0, none⟩) (List.flatMap fvC (rlV g 2)), aS_ (some ⟨r3, 0, none⟩) (List.flatMap fvC (rlV g 3)), aS_ aad (List.flatMap bg_ (atS p)), mlF Tryz.prog 171 Ky.val Pc.cells pb (aW_ (uniq [] p)) adr, dZ_ g (.cells #[.map (some pb), .slice lad (List.length (aB_ (uniq [] p))) lcap, .map (some kb), .func (.func 55) #[] #[zp_ b2 0, zp_ b3 0, zp_ b4 0], .map (some ab), .map (some ub), .map (some ob), .map (some ib), .map (some rb), .map (some sb), .map (some fb)] 94 (0, 0)), dZ_ b3 (.cells #[.int .i64 (m : Int)] 3 (0, 0)), dZ_ b2 (.cells #[zp_ g 0] 85 (0, 0)), aS_ lad (List.flatMap bg_ (aB_ (uniq [] p))), aS_ pad (List.flatMap Pc.cells p), gB_]) (fun y => 2 - y.1.1) ⟨((0 : Nat), ((b4, .cells #[sv1] 26 (0, 0)) :: (kb, .map es1 ce1) :: ([(fb, .map ef1 cf1)] ++ Hq1))), by omega, by exact ⟨sv1, es1, ce1, ef1, cf1, qf1, Hq1, rfl, hrQ1, hEk1, hEf1, hqf1⟩, .inl rfl⟩ ⟨rfl, rfl, rfl, rfl, rfl, rfl, rfl, rfl, rfl, rfl, rfl, rfl, rfl, trivial⟩ (l_ i_ (l_ i_ (l_ i_ (I_ z_ (I_ z_ (I_ z_ (I_ z_ (I_ z_ (I_ z_ ba_))))))))) (fun _ _ h => h) ?_
      rintro ⟨⟨j, Hs⟩, hj, hS2, hjm⟩
      dsimp only at hj hS2 hjm ⊢
      refine f_ (c_ (x_ (az_ rfl rfl) rfl fun r15 hr15 => ?_))
      refine d_ (b_ rfl (f_ ?_))
      cases r15
      ·
       replace hr15 := of_decide_eq_false hr15
       have ej : j = 2 := by omega
       have hjl : ((rls (bx_ m) idk (aW_ (uniq [] p)) (Ix.add x (decide (f ∈ fm)) f) f j (q, fm)).1).length ≤ m := hjm.resolve_left (by omega)
       rw [ej] at hjl hS2
       refine p_ rfl (aD_ rfl (b_ rfl (c_ (a_ (h_ rfl) rfl (a_ (V_ rfl rfl rfl (aq_ (by omega) (by omega))) rfl (a_ (g_ rfl) rfl (d_ (r_ rfl ?_))))))))
       exact ao_ ⟨(n + 1, (rls (bx_ m) idk (aW_ (uniq [] p)) (Ix.add x (decide (f ∈ fm)) f) f 2 (q, fm)).1, (rls (bx_ m) idk (aW_ (uniq [] p)) (Ix.add x (decide (f ∈ fm)) f) f 2 (q, fm)).2, (Ix.add x (decide (f ∈ fm)) f), Ha1, Hu1, Ho1, Hi1, Hr1, Hm1, Hs), (hA_ hvk hL hf (by have e : nrl f = 2 := (by unfold nrl; simp [hk]); rw [e]) (by omega)), (by exact hS2), hI1, (ia_ hz _ f)⟩ (by dsimp only; omega) ⟨rfl, rfl, rfl, rfl, rfl, rfl, rfl, rfl, rfl, trivial⟩ (l_ i_ (l_ i_ (I_ (e_ z_) (I_ (e_ z_) (I_ (e_ z_) (I_ (e_ z_) (I_ (e_ z_) (I_ (e_ z_) ai_)))))))) (fun _ _ h => h)
      ·
       replace hr15 := of_decide_eq_true hr15
       have hlfv : j < List.length (rlV g 3) := by show j < 2; omega
       obtain ⟨fv, hfv⟩ : ∃ e0, (rlV g 3)[j]? = some e0 := ⟨_, List.getElem?_eq_getElem hlfv⟩
       have hmfv : fv ∈ (rlV g 3) := List.mem_of_getElem? hfv
       refine n_ rfl (A_ (b_ rfl (f_ (S_ (f_ (c_ (a_ (ak_ cP_ aU_ rfl rfl (fun v _ h => aL_ (n := 1) hh_ (by decide) (by exact h.2.2.1) hfv) (by omega) (by omega)) rfl (a_ (bH_ (ad := (some ⟨r3, 0, none⟩)) bz_ rfl (fun v _ h => by exact h.2.2.1) (an_ hh_ hfv 0 _ rfl)) rfl (a_ (g_ rfl) rfl ?_)))))))))
       refine d_ (b_ rfl (f_ (c_ (a_ (h_ rfl) rfl (a_ (L_ 2 au_ X_ rfl rfl rfl) rfl ?_)))))
       obtain ⟨nr, rfl, hT⟩ := rI_ (EngB.mk g pb ab ub ob ib rb sb lad lcap (aB_ (uniq [] p))) (EA m hm (EngB.mk g pb ab ub ob ib rb sb lad lcap (aB_ (uniq [] p))) b2 b3 b4 kb fb) (EngA.mk adr (fun _ => (none, 0)) (fun _ => (none, 0)) (fun _ => (none, 0)) (fun _ => (none, 0)) (fun _ => (none, 0)) (fun _ => (none, 0))) (aW_ (uniq [] p)) (Ix.add x (decide (f ∈ fm)) f) f (rls (bx_ m) idk (aW_ (uniq [] p)) (Ix.add x (decide (f ∈ fm)) f) f j (q, fm)).1 (rls (bx_ m) idk (aW_ (uniq [] p)) (Ix.add x (decide (f ∈ fm)) f) f j (q, fm)).2 Hs hS2 Ha1 Hu1 Ho1 Hi1 Hr1 Hm1 hI1 hpl hxl1 hyl1 (fun hk => (gz_ hform hk).2.2) (fun _ y hy => (hvk y (pm9.1 hy).1).num (.inr (pm9.1 hy).2.1)) hk j hfv
       refine aH_ (first := [zp_ g 0]) (vs := [Fc.val f]) (cap := []) hT rfl rfl (nJ_ (I_ (e_ (e_ (e_ z_))) (I_ (e_ (e_ (e_ z_))) (I_ (e_ (e_ (e_ z_))) (I_ (e_ (e_ (e_ z_))) (I_ (e_ (e_ (e_ z_))) (I_ (e_ (e_ (e_ z_))) (e_ (e_ ai_))))))))) (fun v _ h => by exact ⟨h.2.2.2.2.2.1, h.2.2.2.2.1, ⟨h.2.2.2.2.2.2.2.1, h.2.2.2.2.2.2.1, h.2.2.2.2.2.1⟩, trivial⟩) rfl fun ⟨Hs3, hS3⟩ => ?_
       refine at_ lk_ (d_ (b_ rfl (at_ (bj_ (m_ (m_ (m_ (m_ (m_ (m_ (m_ i_))))))) (bj_ (m_ (m_ (m_ (m_ (m_ (m_ (m_ i_))))))) (dw_ (m_ (m_ (m_ (m_ (m_ (m_ be_))))))))) (f_ ?_))))
       refine aN_ (by kernel_rfl) ?_
       refine ad_ 0 [0, 1, 2, 3, 4, 5, 6] (by kernel_rfl) (fun _ a b => ⟨a, b⟩) (k_ rfl (aa_ cl_ rfl (fun v _ h => by exact h.2.2.2.2.2.2.2.1) rfl) rfl (k_ rfl (af_ rfl) rfl (k_ rfl (j_ D_ rfl rfl rfl bT_) rfl (k_ rfl (aa_ ck_ rfl (fun v _ h => by exact h.2.2.2.2.2.1) rfl) rfl (k_ rfl (cb_ (fh_ (E := (EA m hm (EngB.mk g pb ab ub ob ib rb sb lad lcap (aB_ (uniq [] p))) b2 b3 b4 kb fb)) (nw := (rls (bx_ m) idk (aW_ (uniq [] p)) (Ix.add x (decide (f ∈ fm)) f) f (j + 1) (q, fm)).1) (Hs := Hs3) hS3 aZ_ rfl (e_ (e_ (e_ (m_ (m_ (m_ (m_ (m_ be_))))))))) (show _ = Value.int .i64 (List.length (rls (bx_ m) idk (aW_ (uniq [] p)) (Ix.add x (decide (f ∈ fm)) f) f (j + 1) (q, fm)).1 : Int) from rfl)) rfl (k_ rfl (aa_ J_ rfl (fun v _ h => by exact h.2.2.2.2.2.2.1) rfl) rfl ?_))))))
       refine ds_ rfl (bK_ rfl rfl) rfl fun r16 hr16 => ?_
       refine ac_ (ab_ (by kernel_rfl) (b_ rfl ?_))
       cases r16
       ·
        replace hr16 := of_decide_eq_false hr16
        refine p_ rfl (A_ (b_ rfl (c_ (a_ (V_ rfl rfl rfl (aq_ (by omega) (by omega))) rfl (a_ (h_ rfl) rfl (d_ (r_ rfl ?_)))))))
        exact ao_ ⟨(j + 1, Hs3), hlfv, by exact hS3, .inr (by dsimp only; omega)⟩ (by dsimp only; omega) ⟨rfl, rfl, rfl, rfl, rfl, rfl, rfl, rfl, rfl, rfl, rfl, rfl, rfl, trivial⟩ (l_ i_ (l_ i_ (l_ i_ (I_ z_ (I_ z_ (I_ z_ (I_ z_ (I_ z_ (I_ z_ ba_))))))))) (fun _ _ h => h)
       ·
        replace hr16 := of_decide_eq_true hr16
        refine n_ rfl (aD_ rfl (b_ rfl (f_ (f_ ?_))))
        refine aN_ (by kernel_rfl) ?_
        refine ad_ 0 [0, 1, 2, 3, 4, 5, 6] (by kernel_rfl) (fun _ a b => ⟨a, b⟩) (k_ rfl (aa_ cl_ rfl (fun v _ h => by exact h.2.2.2.2.2.2.2.1) rfl) rfl (k_ rfl (af_ rfl) rfl (k_ rfl (j_ D_ rfl rfl rfl bT_) rfl (k_ rfl (aa_ ck_ rfl (fun v _ h => by exact h.2.2.2.2.2.1) rfl) rfl (k_ rfl (cb_ (fh_ (E := (EA m hm (EngB.mk g pb ab ub ob ib rb sb lad lcap (aB_ (uniq [] p))) b2 b3 b4 kb fb)) (nw := (rls (bx_ m) idk (aW_ (uniq [] p)) (Ix.add x (decide (f ∈ fm)) f) f (j + 1) (q, fm)).1) (Hs := Hs3) hS3 aZ_ rfl (e_ (e_ (e_ (m_ (m_ (m_ (m_ (m_ be_))))))))) (show _ = Value.int .i64 (List.length (rls (bx_ m) idk (aW_ (uniq [] p)) (Ix.add x (decide (f ∈ fm)) f) f (j + 1) (q, fm)).1 : Int) from rfl)) rfl (k_ rfl (aa_ J_ rfl (fun v _ h => by exact h.2.2.2.2.2.2.1) rfl) rfl ?_))))))
        refine ds_ rfl (bK_ rfl rfl) rfl fun r17 hr17 => ?_
        refine ac_ (ab_ (by kernel_rfl) (b_ rfl ?_))
        cases r17
        ·
         replace hr17 := of_decide_eq_false hr17
         omega
        ·
         replace hr17 := of_decide_eq_true hr17
         refine n_ rfl (f_ (f_ (c_ (a_ (h_ rfl) rfl (x_ (az_ rfl rfl) rfl fun r18 hr18 => ?_)))))
         refine d_ (b_ rfl ?_)
         cases r18
         ·
          replace hr18 := of_decide_eq_false hr18
          refine p_ rfl (A_ (b_ rfl (f_ (c_ (a_ (ag_ eO_ rfl rfl) rfl (Z_ 0 ay_ rfl rfl rfl rfl rfl rfl (a_ (g_ rfl) rfl (d_ (b_ rfl ?_)))))))))
          refine B_ ?_
          exact dY_ ⟨((Cl.mk [] none 0 [] none 0), 2), eo_ hchk hb0 hb1 hm0' (by rw [if_neg (by assumption)]) (cz_ hvk hL hf (j + 1) rfl).1 (cz_ hvk hL hf (j + 1) rfl).2.2.1 (by omega)⟩ (fun aa v h1 h2 => ev_ (us := Cl.cells (Cl.mk [] none 0 [] none 0)) 0 cX_ cm_ ay_ rfl rfl rfl rfl aa v h1 h2) W_ (fun v _ h => by exact ⟨.inl rfl, .inl rfl, trivial⟩)
         ·
          replace hr18 := of_decide_eq_true hr18
          refine n_ rfl (f_ (c_ (a_ (ag_ eO_ rfl rfl) rfl (Z_ 0 ay_ rfl rfl rfl rfl rfl rfl (a_ (g_ rfl) rfl (d_ (b_ rfl (B_ ?_))))))))
          exact dY_ ⟨((Cl.mk [] none 0 [] none 0), 3), eo_ hchk hb0 hb1 hm0' (by rw [if_pos (by assumption)]) (cz_ hvk hL hf (j + 1) rfl).1 (cz_ hvk hL hf (j + 1) rfl).2.2.1 (by omega)⟩ (fun aa v h1 h2 => ev_ (us := Cl.cells (Cl.mk [] none 0 [] none 0)) 0 cX_ cm_ ay_ rfl rfl rfl rfl aa v h1 h2) W_ (fun v _ h => by exact ⟨.inl rfl, .inl rfl, trivial⟩)
   ·
    replace hr3 := of_decide_eq_true hr3
    refine n_ rfl (f_ (c_ (a_ (ag_ eO_ rfl rfl) rfl (Z_ 0 ay_ rfl rfl rfl rfl rfl rfl (a_ (g_ rfl) rfl (d_ (b_ rfl (B_ ?_))))))))
    exact dY_ ⟨((Cl.mk [] none 0 [] none 0), 1), nr_ (by assumption) (by omega)⟩ (fun aa v h1 h2 => ev_ (us := Cl.cells (Cl.mk [] none 0 [] none 0)) 0 cX_ cm_ ay_ rfl rfl rfl rfl aa v h1 h2) W_ (fun v _ h => by exact ⟨.inl rfl, .inl rfl, trivial⟩)
  ·
   replace hr2 := of_decide_eq_true hr2
   refine t_ rfl rfl rfl rfl (t_ rfl rfl rfl rfl (a_ (R_ rfl rfl) rfl (d_ (b_ rfl (n_ rfl (f_ (c_ (a_ (ag_ eO_ rfl rfl) rfl (Z_ 0 ay_ rfl rfl rfl rfl rfl rfl ?_)))))))))
   refine a_ (g_ rfl) rfl (d_ (b_ rfl (B_ ?_)))
   exact dY_ ⟨((Cl.mk [] none 0 [] none 0), 1), nr_ (by assumption) (by omega)⟩ (fun aa v h1 h2 => ev_ (us := Cl.cells (Cl.mk [] none 0 [] none 0)) 0 cX_ cm_ ay_ rfl rfl rfl rfl aa v h1 h2) W_ (fun v _ h => by exact ⟨.inl rfl, .inl rfl, trivial⟩)
 ·
  replace hr1 := bb_ hr1
  refine n_ rfl (f_ (c_ (a_ (ag_ eO_ rfl rfl) rfl (a_ (h_ rfl) rfl (Z_ 0 ay_ rfl rfl rfl rfl rfl rfl (a_ (g_ rfl) rfl (d_ (b_ rfl (B_ ?_)))))))))
  exact dY_ ⟨((Cl.mk [] none 0 [] none 0), (bD_ p)), rm_ (by assumption)⟩ (fun aa v h1 h2 => ev_ (us := Cl.cells (Cl.mk [] none 0 [] none 0)) 0 cX_ cm_ ay_ rfl rfl rfl rfl aa v h1 h2) W_ (fun v _ h => by exact ⟨.inl rfl, .inl rfl, trivial⟩)
end Go.Proofs.YtpdbbglpbngeiaaGreatDoor
namespace Go.Proofs.YtpdbbglpbngeiaaGreatDoor
open Go Go.Sx Go.Proofs
attribute [local irreducible] Code.wp wpList wpAnyH
open Go.Vs
def isSubB (f : Fc) : Bool := decide (f = aG_ f.a f.b)
def factOk (A : List Str) (f : Fc) : Bool :=
  decide (f.a ∈ A) && (if f.kind = 1 then decide (f.b ∈ A) && isSubB f
    else if f.kind = 2 then decide (f.b ∈ A) && (decide (f.r ≠ []) && decide (f = aP_ f.a f.r f.b))
    else if f.kind = 3 then decide (f.r ≠ []) && (decide (f = aM_ f.a f.r f.lo f.hi) && (decide (-1099511627776 ≤ f.lo) && (decide (f.lo ≤ f.hi) && decide (f.hi ≤ 1099511627776))))
    else false)
abbrev sB_ (l : List Str) : Prop := l.Pairwise fun x y => x < y
def ChkB (at' : List Str) (fs : List Fc) : Prop := sB_ at' ∧ Srt fs ∧ [42] ∈ at' ∧ [33] ∈ at' ∧ ∀ f ∈ fs, factOk at' f = true
instance (at' : List Str) (fs : List Fc) : Decidable (ChkB at' fs) := by unfold ChkB; exact inferInstance
def oc_ (at' : List Str) (fs : List Fc) : Int := if ChkB at' fs then if 65536 < fs.length then 2 else 0 else 1
theorem rO_ {α : Type} {lt : α → α → Prop} (ht : ∀ {x y z}, lt x y → lt y z → lt x z) {l : List α} {k : Nat} {a b : α} (h : (l.take (k + 1)).Pairwise lt) (ha : l[k]? = some a) (hb : l[k + 1]? = some b) (hab : lt a b) : (l.take (k + 2)).Pairwise lt := by
  rw [List.take_add_one, hb, Option.toList_some, List.pairwise_append]
  refine ⟨h, by simp, fun x hx y hy => ?_⟩
  rw [List.mem_singleton] at hy
  subst hy
  rw [List.take_add_one, ha, Option.toList_some] at h hx
  rcases List.mem_append.1 hx with hx | hx
  · exact ht ((List.pairwise_append.1 h).2.2 x hx a (by simp)) hab
  · rw [List.mem_singleton] at hx; subst hx; exact hab
theorem pw_not {α : Type} {lt : α → α → Prop} {l : List α} {k : Nat} {a b : α} (ha : l[k]? = some a) (hb : l[k + 1]? = some b) (hab : ¬ lt a b) : ¬ l.Pairwise lt := fun h => by
  obtain ⟨h1, h2⟩ := List.getElem?_eq_some_iff.1 ha
  obtain ⟨h3, h4⟩ := List.getElem?_eq_some_iff.1 hb
  have := List.pairwise_iff_getElem.1 h k (k + 1) h1 h3 (by omega)
  rw [h2, h4] at this
  exact hab this
theorem pw_one {α : Type} {lt : α → α → Prop} (l : List α) : (l.take 1).Pairwise lt := by
  cases l <;> simp
end Go.Proofs.YtpdbbglpbngeiaaGreatDoor
namespace Go.Proofs.YtpdbbglpbngeiaaGreatDoor
open Go Go.Sx Go.Proofs
attribute [local irreducible] Code.wp wpList wpAnyH
open Go.Vs
theorem sB_.nodup {l : List Str} (h : sB_ l) : l.Nodup := by
  unfold List.Nodup
  refine List.Pairwise.imp ?_ h
  intro a b hab e
  exact eq_ b (e ▸ hab)
theorem any_no {α : Type} {p : α → Bool} {l : List α} {j : Nat} {x : α} (h : ∀ y ∈ l.take j, p y = false) (hx : l[j]? = some x) (hp : p x = false) : ∀ y ∈ l.take (j + 1), p y = false := fun y hy => by
  rw [List.take_add_one, hx] at hy
  simp only [Option.toList_some, List.mem_append, List.mem_singleton] at hy
  rcases hy with hy | rfl
  · exact h y hy
  · exact hp
end Go.Proofs.YtpdbbglpbngeiaaGreatDoor
namespace Go.Proofs.YtpdbbglpbngeiaaGreatDoor
open Go Go.Sx Go.Proofs
attribute [local irreducible] Code.wp wpList wpAnyH
open Go.Vs
theorem jA_ : ∀ {l : List Fc} {f : Fc} {m : Nat} {x : Fc}, Srt l → l[m]? = some x → (x.lt f ↔ m < cy_ l f)
  | [], _, _, _, _, h => by simp at h
  | y :: l, f, 0, x, hs, h => by
    simp only [List.getElem?_cons_zero, Option.some.injEq] at h
    subst h
    unfold cy_
    rw [List.countP_cons]
    constructor
    · intro q; rw [if_pos (decide_eq_true q)]; omega
    · intro q
      apply Decidable.byContradiction
      intro hn
      rw [if_neg (by simpa using hn)] at q
      obtain ⟨z, hz, hz2⟩ := List.countP_pos_iff.1 (Nat.lt_of_lt_of_eq q (Nat.add_zero _))
      exact hn (Fc.lt_trans ((List.pairwise_cons.1 hs).1 z hz) (of_decide_eq_true hz2))
  | y :: l, f, m + 1, x, hs, h => by
    simp only [List.getElem?_cons_succ] at h
    have hs' := List.pairwise_cons.1 hs
    have ih := jA_ hs'.2 h (f := f)
    unfold cy_ at *
    rw [List.countP_cons, ih]
    constructor
    · intro q
      have hx : x.lt f := ih.2 q
      rw [if_pos (decide_eq_true (Fc.lt_trans (hs'.1 x (List.mem_of_getElem? h)) hx))]; omega
    · intro q
      split at q <;> omega
theorem mid2 (lo hi : Nat) : Int.tdiv ((lo : Int) + (hi : Int)) 2 = (((lo + hi) / 2 : Nat) : Int) := by
  rw [Int.tdiv_eq_ediv_of_nonneg (by omega)]; omega
theorem less_c (x y : Fc) : Fn0 Tryz.prog 75 #[Fc.val x, Fc.val y] (.bool (decide (x.lt y))) := by
 refine M_ Tryz.func75 rfl rfl Tryz.ntmps75 rfl fun v0 => ?_
 refine f_ (c_ (aF_ rfl rfl fun b1 => ?_))
 refine aF_ rfl rfl fun b2 => ?_
 refine a_ (g_ rfl) rfl (d_ (b_ rfl (f_ (S_ (f_ (c_ (a_ (j_ u_ rfl rfl rfl H_) rfl (a_ (q_ 1 J_ rfl rfl rfl) rfl (a_ (j_ u_ rfl rfl rfl H_) rfl ?_)))))))))
 refine a_ (q_ 0 J_ rfl rfl rfl) rfl (x_ (bR_ rfl rfl) rfl fun r1 hr1 => ?_)
 refine a_ (g_ rfl) rfl (d_ (b_ rfl ?_))
 cases r1
 ·
  replace hr1 := bc_ hr1
  refine p_ rfl (f_ (c_ (a_ (j_ u_ rfl rfl rfl s_) rfl (a_ (q_ 1 w_ rfl rfl rfl) rfl (a_ (j_ u_ rfl rfl rfl s_) rfl (a_ (q_ 0 w_ rfl rfl rfl) rfl (x_ (eI_ rfl rfl) rfl fun r2 hr2 => ?_)))))))
  refine a_ (g_ rfl) rfl (d_ (b_ rfl ?_))
  cases r2
  ·
   replace hr2 := bc_ hr2
   refine p_ rfl (f_ (c_ (a_ (j_ u_ rfl rfl rfl s_) rfl (a_ (q_ 1 w_ rfl rfl rfl) rfl (a_ (j_ u_ rfl rfl rfl s_) rfl (a_ (q_ 0 w_ rfl rfl rfl) rfl (x_ (eI_ rfl rfl) rfl fun r3 hr3 => ?_)))))))
   refine a_ (g_ rfl) rfl (d_ (b_ rfl ?_))
   cases r3
   ·
    replace hr3 := bc_ hr3
    refine p_ rfl (f_ (c_ (a_ (j_ u_ rfl rfl rfl s_) rfl (a_ (q_ 1 w_ rfl rfl rfl) rfl (a_ (j_ u_ rfl rfl rfl s_) rfl (a_ (q_ 0 w_ rfl rfl rfl) rfl (x_ (eI_ rfl rfl) rfl fun r4 hr4 => ?_)))))))
    refine a_ (g_ rfl) rfl (d_ (b_ rfl ?_))
    cases r4
    ·
     replace hr4 := bc_ hr4
     refine p_ rfl (f_ (c_ (a_ (j_ u_ rfl rfl rfl H_) rfl (a_ (q_ 1 J_ rfl rfl rfl) rfl (a_ (j_ u_ rfl rfl rfl H_) rfl (a_ (q_ 0 J_ rfl rfl rfl) rfl (x_ (bR_ rfl rfl) rfl fun r5 hr5 => ?_)))))))
     refine a_ (g_ rfl) rfl (d_ (b_ rfl ?_))
     cases r5
     ·
      replace hr5 := bc_ hr5
      refine p_ rfl (A_ (b_ rfl (f_ (c_ (a_ (j_ u_ rfl rfl rfl H_) rfl (a_ (q_ 1 J_ rfl rfl rfl) rfl (a_ (j_ u_ rfl rfl rfl H_) rfl (a_ (q_ 0 J_ rfl rfl rfl) rfl (x_ (az_ rfl rfl) rfl fun r6 hr6 => ?_)))))))))
      refine a_ (g_ rfl) rfl (d_ (b_ rfl (B_ ?_)))
      exact as_ ju_ () (E_ rfl (by rw [← hr6, decide_eq_decide]; unfold Fc.lt; simp_all [eq_])) W_ (fun _ _ _ => trivial)
     ·
      replace hr5 := bb_ hr5
      refine n_ rfl (f_ (c_ (a_ (j_ u_ rfl rfl rfl H_) rfl (a_ (q_ 1 J_ rfl rfl rfl) rfl (a_ (j_ u_ rfl rfl rfl H_) rfl (a_ (q_ 0 J_ rfl rfl rfl) rfl (x_ (az_ rfl rfl) rfl fun r7 hr7 => ?_)))))))
      refine a_ (g_ rfl) rfl (d_ (b_ rfl (B_ ?_)))
      exact as_ ju_ () (E_ rfl (by rw [← hr7, decide_eq_decide]; unfold Fc.lt; simp_all [eq_])) W_ (fun _ _ _ => trivial)
    ·
     replace hr4 := bb_ hr4
     refine n_ rfl (f_ (c_ (a_ (j_ u_ rfl rfl rfl s_) rfl (a_ (q_ 1 w_ rfl rfl rfl) rfl (a_ (j_ u_ rfl rfl rfl s_) rfl (a_ (q_ 0 w_ rfl rfl rfl) rfl (x_ (jg_ rfl rfl) rfl fun r8 hr8 => ?_)))))))
     refine a_ (g_ rfl) rfl (d_ (b_ rfl (B_ ?_)))
     exact as_ ju_ () (E_ rfl (by rw [← hr8, decide_eq_decide]; unfold Fc.lt; simp_all [eq_])) W_ (fun _ _ _ => trivial)
   ·
    replace hr3 := bb_ hr3
    refine n_ rfl (f_ (c_ (a_ (j_ u_ rfl rfl rfl s_) rfl (a_ (q_ 1 w_ rfl rfl rfl) rfl (a_ (j_ u_ rfl rfl rfl s_) rfl (a_ (q_ 0 w_ rfl rfl rfl) rfl (x_ (jg_ rfl rfl) rfl fun r9 hr9 => ?_)))))))
    refine a_ (g_ rfl) rfl (d_ (b_ rfl (B_ ?_)))
    exact as_ ju_ () (E_ rfl (by rw [← hr9, decide_eq_decide]; unfold Fc.lt; simp_all [eq_])) W_ (fun _ _ _ => trivial)
  ·
   replace hr2 := bb_ hr2
   refine n_ rfl (f_ (c_ (a_ (j_ u_ rfl rfl rfl s_) rfl (a_ (q_ 1 w_ rfl rfl rfl) rfl (a_ (j_ u_ rfl rfl rfl s_) rfl (a_ (q_ 0 w_ rfl rfl rfl) rfl (x_ (jg_ rfl rfl) rfl fun r10 hr10 => ?_)))))))
   refine a_ (g_ rfl) rfl (d_ (b_ rfl (B_ ?_)))
   exact as_ ju_ () (E_ rfl (by rw [← hr10, decide_eq_decide]; unfold Fc.lt; simp_all [eq_])) W_ (fun _ _ _ => trivial)
 ·
  replace hr1 := bb_ hr1
  refine n_ rfl (f_ (c_ (a_ (j_ u_ rfl rfl rfl H_) rfl (a_ (q_ 1 J_ rfl rfl rfl) rfl (a_ (j_ u_ rfl rfl rfl H_) rfl (a_ (q_ 0 J_ rfl rfl rfl) rfl (x_ (az_ rfl rfl) rfl fun r11 hr11 => ?_)))))))
  refine a_ (g_ rfl) rfl (d_ (b_ rfl (B_ ?_)))
  exact as_ ju_ () (E_ rfl (by rw [← hr11, decide_eq_decide]; unfold Fc.lt; simp_all [eq_])) W_ (fun _ _ _ => trivial)
theorem rS_ (l : List Fc) (ad : Option Addr) (cap : Nat) (f : Fc) (hl : l.length ≤ 1000000000000) (hs : Srt l) : Tri Tryz.prog 76 #[.slice ad (List.length l) cap, Fc.val f] [] [aS_ ad (List.flatMap Fc.cells l)] (fun _ : Unit => .int .i64 (cy_ l f : Int)) (fun _ => []) (fun _ => []) := by
  refine M_ Tryz.func76 rfl rfl Tryz.ntmps76 rfl fun v0 => ?_
  refine f_ (c_ (aF_ rfl rfl fun b1 => ?_))
  refine a_ (g_ rfl) rfl (d_ (b_ rfl (f_ (c_ (a_ (g_ rfl) rfl (d_ (b_ rfl (f_ (c_ ?_)))))))))
  refine a_ (h_ rfl) rfl (a_ (ah_ aj_ rfl) rfl (a_ (g_ rfl) rfl (d_ (b_ rfl (f_ (S_ ?_))))))
  refine aV_ (ι := {y : Nat × Nat // y.1 ≤ y.2 ∧ y.1 ≤ cy_ l f ∧ cy_ l f ≤ y.2 ∧ y.2 ≤ List.length l}) (fun y => [(0, .slice ad (List.length l) cap), (3, zp_ b1 0), (5, .int .i64 (y.1.1 : Int)), (6, .int .i64 (y.1.2 : Int))]) (fun y => ((b1, .cells (Fc.cells f).toArray 41 (0, 0)) :: [])) (fun y => [aS_ ad (List.flatMap Fc.cells l)]) (fun y => y.1.2 - y.1.1) ⟨((0 : Nat), (List.length l)), Nat.zero_le _, Nat.zero_le _, pn_ l f, Nat.le_refl _⟩ ⟨rfl, rfl, rfl, rfl, trivial⟩ i_ (fun _ _ h => h) ?_
  rintro ⟨⟨lo, hi⟩, hlh, hp1, hp2, hp3⟩
  dsimp only at hlh hp1 hp2 hp3 ⊢
  refine f_ (f_ (c_ (a_ (h_ rfl) rfl (a_ (h_ rfl) rfl (x_ (az_ rfl rfl) rfl fun r1 hr1 => ?_)))))
  refine d_ (b_ rfl ?_)
  cases r1
  · skip
    replace hr1 := of_decide_eq_false hr1
    refine p_ rfl (aD_ rfl (b_ rfl (f_ (c_ (a_ (h_ rfl) rfl (a_ (g_ rfl) rfl (d_ (b_ rfl (B_ ?_)))))))))
    exact as_ Tryz.results76 () (aJ_ rfl (by omega)) W_ (fun _ _ _ => trivial)
  · skip
    replace hr1 := of_decide_eq_true hr1
    have hlx1 : ((lo + hi) / 2 : Nat) < List.length l := by omega
    obtain ⟨x1, hx1⟩ : ∃ e0, l[((lo + hi) / 2 : Nat)]? = some e0 := ⟨_, List.getElem?_eq_getElem hlx1⟩
    have hmx1 : x1 ∈ l := List.mem_of_getElem? hx1
    refine n_ rfl (A_ (b_ rfl (S_ (f_ (c_ (a_ (h_ rfl) rfl (a_ (h_ rfl) rfl (a_ (V_ rfl rfl rfl (aq_ (by omega) (by omega))) rfl (a_ (cb_ (ol_ rfl rfl (by decide) (by rw [mid2]; exact aq_ (by omega) (by omega))) (show Value.int .i64 (Int.tdiv ((lo : Int) + (hi : Int)) 2) = Value.int .i64 (((lo + hi) / 2 : Nat) : Int) from congrArg _ (mid2 lo hi))) rfl ?_)))))))))
    refine a_ (g_ rfl) rfl (d_ (b_ rfl (f_ ?_)))
    refine aN_ (by kernel_rfl) ?_
    refine ad_ 1 [0, 1, 2, 3, 4] (by kernel_rfl) (fun _ a b => ⟨a, b⟩) (k_ rfl (h_ rfl) rfl (k_ rfl (h_ rfl) rfl (k_ rfl (ak_ aj_ X_ rfl rfl (fun v _ h => aL_ (n := 6) Fc.cells_len (by decide) (by exact h.1) hx1) (by omega) (by first | omega | (simp; done))) rfl (k_ rfl (aE_ (ad := ad) (us := Fc.cells x1) au_ X_ rfl (fun v _ h => by exact h.1) (Fc.cells_len _) (an_ Fc.cells_len hx1)) rfl (k_ rfl (L_ 0 au_ X_ rfl rfl rfl) rfl (ac_ (O_ 5 rfl (by kernel_rfl) (ax_ (less_c x1 f) rfl W_ (fun _ _ _ => by exact trivial) rfl fun r2 hr2 => ?_))))))))
    refine d_ (r_ rfl (C_ (fun _ a b => ⟨a, b⟩) (ab_ (by kernel_rfl) (b_ rfl ?_))))
    cases r2
    · skip
      replace hr2 := of_decide_eq_false hr2
      refine p_ rfl (c_ (a_ (h_ rfl) rfl (a_ (g_ rfl) rfl (d_ (r_ rfl ?_)))))
      exact ao_ ⟨(lo, ((lo + hi) / 2 : Nat)), by omega, hp1, by have := (not_congr (jA_ hs hx1 (f := f))).1 hr2; omega, by omega⟩ (by dsimp only; omega) ⟨rfl, rfl, rfl, rfl, trivial⟩ i_ (fun _ _ h => h)
    · skip
      replace hr2 := of_decide_eq_true hr2
      refine n_ rfl (c_ (a_ (h_ rfl) rfl (a_ (V_ rfl rfl rfl (aq_ (by omega) (by omega))) rfl (a_ (g_ rfl) rfl (d_ (r_ rfl ?_))))))
      exact ao_ ⟨(((lo + hi) / 2 : Nat) + 1, hi), by omega, by have := (jA_ hs hx1 (f := f)).1 hr2; omega, hp2, hp3⟩ (by dsimp only; omega) ⟨rfl, rfl, rfl, rfl, trivial⟩ i_ (fun _ _ h => h)
theorem qX_ (l : List Fc) (ad : Option Addr) (cap : Nat) (f : Fc) (hl : l.length ≤ 1000000000000) (hs : Srt l) : Tri Tryz.prog 28 #[.slice ad (List.length l) cap, Fc.val f] [] [aS_ ad (List.flatMap Fc.cells l)] (fun _ : Unit => .bool (decide (f ∈ l))) (fun _ => []) (fun _ => []) := by
  refine M_ Tryz.func28 rfl rfl Tryz.ntmps28 rfl fun v0 => ?_
  refine f_ (c_ (aF_ rfl rfl fun b1 => ?_))
  refine a_ (g_ rfl) rfl (d_ (b_ rfl (f_ (c_ (a_ (h_ rfl) rfl (a_ (L_ 0 au_ X_ rfl rfl rfl) rfl (Q_ (rS_ l ad cap f (by omega) hs) rfl W_ (fun v _ h => by exact ⟨h.1, trivial⟩) rfl fun _ => ?_)))))))
  refine a_ (g_ rfl) rfl (d_ (b_ rfl (f_ ?_)))
  refine aN_ (by kernel_rfl) ?_
  refine ad_ 8 [0, 1, 2, 3, 4] (by kernel_rfl) (fun _ a b => ⟨a, b⟩) (k_ rfl (h_ rfl) rfl (k_ rfl (h_ rfl) rfl (k_ rfl (ah_ aj_ rfl) rfl ?_)))
  refine ds_ rfl (az_ rfl rfl) rfl fun r1 hr1 => ?_
  refine k_ rfl (h_ rfl) rfl (ac_ ?_)
  cases r1
  · skip
    replace hr1 := of_decide_eq_false hr1
    refine ad_ 0 [5, 6, 7, 8, 9, 10, 11, 12] (by kernel_rfl) (fun _ a b => ⟨a, b⟩) (dN_ rfl rfl rfl rfl rfl (dN_ rfl rfl rfl rfl rfl (dN_ rfl rfl rfl rfl rfl (dN_ rfl rfl rfl rfl rfl (dN_ rfl rfl rfl rfl rfl (dN_ rfl rfl rfl rfl rfl (k_ rfl (N_ rfl rfl) rfl (k_ rfl (g_ rfl) rfl (ac_ ?_)))))))))
    refine ab_ (by kernel_rfl) (b_ rfl (B_ ?_))
    exact as_ Tryz.results28 () (E_ rfl (by symm; apply decide_eq_false; intro q; have := (List.getElem?_eq_some_iff.1 ((kU_ hs f).1 q)).1; omega)) W_ (fun _ _ _ => trivial)
  · skip
    replace hr1 := of_decide_eq_true hr1
    have hlx1 : cy_ l f < List.length l := by omega
    obtain ⟨x1, hx1⟩ : ∃ e0, l[cy_ l f]? = some e0 := ⟨_, List.getElem?_eq_getElem hlx1⟩
    have hmx1 : x1 ∈ l := List.mem_of_getElem? hx1
    refine ad_ 0 [5, 6, 7, 8, 9, 10, 11, 12] (by kernel_rfl) (fun _ a b => ⟨a, b⟩) (cK_ rfl rfl rfl (h_ rfl) rfl (cK_ rfl rfl rfl (h_ rfl) rfl (cK_ rfl rfl rfl (ak_ aj_ X_ rfl rfl (fun v _ h => aL_ (n := 6) Fc.cells_len (by decide) (by exact h.1) hx1) (by omega) (by first | omega | (simp; done))) rfl (cK_ rfl rfl rfl (aE_ (ad := ad) (us := Fc.cells x1) au_ X_ rfl (fun v _ h => by exact h.1) (Fc.cells_len _) (an_ Fc.cells_len hx1)) rfl (cK_ rfl rfl rfl (L_ 0 au_ X_ rfl rfl rfl) rfl ?_)))))
    refine jp_ rfl rfl rfl (oR_ (p := x1) (q := f) rfl rfl) rfl fun r2 hr2 => ?_
    refine k_ rfl (R_ rfl rfl) rfl (k_ rfl (g_ rfl) rfl (ac_ (ab_ (by kernel_rfl) (b_ rfl (B_ ?_)))))
    exact as_ Tryz.results28 () (E_ rfl (by rw [← hr2, decide_eq_decide, kU_ hs f, hx1, Option.some.injEq])) W_ (fun _ _ _ => trivial)
end Go.Proofs.YtpdbbglpbngeiaaGreatDoor
namespace Go.Proofs.YtpdbbglpbngeiaaGreatDoor
open Go Go.Sx Go.Proofs
attribute [local irreducible] Code.wp wpList wpAnyH
open Go.Vs
def ro_ (p : List Pc) (at' : List Str) (fs l : List Fc) (e : Int) : Prop :=
  if bD_ p ≠ 0 then l = [] ∧ e = bD_ p
  else if oc_ at' fs ≠ 0 then l = [] ∧ e = oc_ at' fs
  else e = 0 ∧ Srt l ∧ ∀ y, y ∈ l ↔ fX_ p (atS p) (· ∈ fs) y ∧ y ∉ fs
end Go.Proofs.YtpdbbglpbngeiaaGreatDoor
namespace Go.Proofs.YtpdbbglpbngeiaaGreatDoor
open Go Go.Sx Go.Proofs
attribute [local irreducible] Code.wp wpList wpAnyH
open Go.Vs
theorem dj_.good {p : List Pc} {bu : Int} {c : Cl} (h : dj_ p bu c 0) : bD_ p = 0 ∧ 0 ≤ bu ∧ bu ≤ 1073741824 ∧ c.ok ∧ c.atoms = atS p ∧ cT_ p (atS p) (min bu 65536).toNat (some c.facts) := by
  unfold dj_ at h
  split at h
  · rename_i h1; exact absurd h.2.symm h1
  · rename_i h1
    split at h
    · exact absurd h.2 (by decide)
    · rename_i h2
      rcases h with h | h
      · exact ⟨by simpa using h1, by omega, by omega, h.2⟩
      · have := h.2.1; split at this <;> exact absurd this (by decide)
theorem dj_.bad {p : List Pc} {bu : Int} {c : Cl} {e : Int} (h : dj_ p bu c e) (he : e ≠ 0) : c = Cl.no := by
  unfold dj_ at h
  split at h
  · exact h.1
  · split at h
    · exact h.1
    · rcases h with h | h
      · exact absurd h.1 he
      · exact h.1
theorem dj_.ok {p : List Pc} {bu : Int} {c : Cl} {e : Int} (h : dj_ p bu c e) : c.ok := by
  by_cases he : e = 0
  · subst he; exact h.good.2.2.2.1
  · rw [h.bad he]; exact Cl.no_ok
theorem dj_.len {p : List Pc} {bu : Int} {c : Cl} {e : Int} (h : dj_ p bu c e) : c.atoms.length ≤ 3 * p.length + 2 ∧ c.facts.length ≤ 65536 := by
  by_cases he : e = 0
  · subst he
    obtain ⟨_, _, _, _, h1, h2⟩ := h.good
    refine ⟨by rw [h1]; exact oK_ p, ?_⟩
    have := h2.2.2
    omega
  · rw [h.bad he]; simp [Cl.no]
theorem jf_ {p : List Pc} {bu : Int} {c : Cl} {e : Int} {r : Option (List Fc)} (h : dj_ p bu c e) (hc : bD_ p = 0) (hb : 0 ≤ bu) (hb2 : bu ≤ 1073741824) (hr : cT_ p (atS p) (min bu 65536).toNat r) : (∀ L, r = some L → e = 0 ∧ c.facts = L ∧ c.atoms = atS p) ∧ (r = none → c = Cl.no ∧ e = if bu < 65536 then 3 else 2) := by
  unfold dj_ at h
  rw [if_neg (by simp [hc]), if_neg (by omega)] at h
  rcases h with ⟨h1, h2, h3, h4⟩ | ⟨h1, h2, h3⟩
  · have e := cT_.uniq h4 hr
    subst e
    exact ⟨fun L hL => ⟨h1, Option.some.inj hL, h3⟩, fun h => (by cases h)⟩
  · have e := cT_.uniq h3 hr
    subst e
    exact ⟨fun L hL => (by cases hL), fun _ => ⟨h1, h2⟩⟩
theorem ro_.good {p : List Pc} {at' : List Str} {fs l : List Fc} {e : Int} (h : ro_ p at' fs l e) (hp : bD_ p = 0) (hc : oc_ at' fs = 0) : e = 0 ∧ Srt l ∧ ∀ y, y ∈ l ↔ fX_ p (atS p) (· ∈ fs) y ∧ y ∉ fs := by
  unfold ro_ at h
  rw [if_neg (by simp [hp]), if_neg (by simp [hc])] at h
  exact h
end Go.Proofs.YtpdbbglpbngeiaaGreatDoor
namespace Go.Proofs.YtpdbbglpbngeiaaGreatDoor
open Go Go.Sx Go.Proofs
attribute [local irreducible] Code.wp wpList wpAnyH
open Go.Vs
theorem pU_ {N : Nat} {fr : Fr} {H : Hp} {Γ : List Fct} {P : Program} {ty t t' : TypeId} {x y : Operand} {m n : Int} (hx : Fr.ev fr x = some (.int .i64 m)) (hy : Fr.ev fr y = some (.int .i64 n)) : Yld P N fr H Γ (.binOp .add t x y t') ty (.int .i64 (IntKind.wrap .i64 (m + n))) :=
  fun a v h1 _ _ _ _ _ => by simp [execOp, h1.ev hx, h1.ev hy, eqGuard, binOp, Op.intArith]
def jC_ (x : Pc) : Int := (x.a.length : Int) + (x.b.length : Int) + (x.c.length : Int) + (x.r.length : Int) + (x.s.length : Int) + (x.t.length : Int)
def gC_ : List Pc → Int
  | [] => 0
  | x :: l => jC_ x + gC_ l
theorem kK_ : ∀ (l : List Pc) (x : Pc), gC_ (l ++ [x]) = gC_ l + jC_ x
  | [], x => by simp [gC_]
  | y :: l, x => by simp only [List.cons_append, gC_, kK_ l x]; omega
theorem pl_ {p : List Pc} {i : Nat} {x : Pc} (h : p[i]? = some x) : gC_ (p.take (i + 1)) = gC_ (p.take i) + jC_ x := by
  rw [List.take_add_one, h, Option.toList_some, kK_]
theorem mD_ : ∀ {l : List Pc}, (∀ x ∈ l, x.big) → 0 ≤ gC_ l ∧ gC_ l ≤ l.length * 844424930107392
  | [], _ => by simp [gC_]
  | x :: l, h => by
    have h1 := mD_ (l := l) fun y hy => h y (by simp [hy])
    obtain ⟨a, b, c, d, e, f⟩ := h x (by simp)
    simp only [gC_, jC_, List.length_cons]
    omega
theorem ow_ : ∀ {l : List Pc} {n : Int}, gC_ l ≤ n → n ≤ 17592186044414 → ∀ x ∈ l, x.sm
  | [], _, _, _, x, hx => by simp at hx
  | y :: l, n, h, hn, x, hx => by
    have h0 : 0 ≤ gC_ l := plen_pos l
    simp only [gC_, jC_] at h
    rcases List.mem_cons.1 hx with rfl | hx
    · exact ⟨by omega, by omega, by omega, by omega, by omega, by omega⟩
    · exact ow_ (l := l) (n := n) (by omega) hn x hx
where plen_pos : ∀ l : List Pc, 0 ≤ gC_ l
  | [] => by simp [gC_]
  | x :: l => by have := plen_pos l; simp only [gC_, jC_]; omega
theorem lP_ : atS [] = [[33], [42]] := fj_ eq_ List.lt_trans (lR_ []) (by decide) fun x => by
  rw [lQ_, gu_]
  simp [cB_, or_comm]
def A3 : List Str := [[33], [42], [65], [66], [67]]
theorem lo_ : bD_ [] = 0 := by decide +kernel
def F0 : List Fc := hn_ [] [[33], [42]] 3
theorem F0_is (m : Nat) (hm : 3 ≤ m) : cT_ [] [[33], [42]] m (some F0) := im_ (fun x hx => by simp at hx) 3 m (by decide +kernel) (Nat.le_trans (by decide +kernel) hm)
theorem F0_no : cT_ [] [[33], [42]] 2 none := pM_ (fun x hx => by simp at hx) 3 2 (by decide +kernel)
theorem sane2 {c : Cl} {e : Int} (h : dj_ [] 2 c e) : e = 3 ∧ c = Cl.no := by
  have := (jf_ h lo_ (by decide) (by decide) (r := none) (by rw [lP_]; exact F0_no)).2 rfl
  exact ⟨this.2, this.1⟩
theorem rq_ : F0.length = 3 := by decide +kernel
end Go.Proofs.YtpdbbglpbngeiaaGreatDoor
namespace Go.Proofs.YtpdbbglpbngeiaaGreatDoor
open Go Go.Sx Go.Proofs
attribute [local irreducible] Code.wp wpList wpAnyH
open Go.Vs
def fa_ (p q : List Pc) : Prop := ∀ x ∈ p, ∃ y ∈ q, ∃ n, { y with frm := n } = x
theorem fa_.rfl' (p : List Pc) : fa_ p p := fun x hx => ⟨x, hx, x.frm, rfl⟩
theorem fa_.of {p q : List Pc} (h : ∀ x ∈ p, x ∈ q) : fa_ p q := fun x hx => ⟨x, h x hx, x.frm, rfl⟩
theorem fa_.at' {p q : List Pc} (h : fa_ p q) : ∀ s ∈ atS p, s ∈ atS q := fun s hs => by
  rw [lQ_, gu_] at hs ⊢
  rcases hs with h1 | h1
  · obtain ⟨x, hx, h2⟩ := List.mem_flatMap.1 h1
    obtain ⟨y, hy, n, e⟩ := h x hx
    subst e
    exact .inl (List.mem_flatMap.2 ⟨y, hy, h2⟩)
  · exact .inr h1
theorem fa_.der {p q : List Pc} (h : fa_ p q) {y : Fc} (hy : Der p (atS p) y) : Der q (atS q) y := hy.mono h h.at'
theorem fa_.atS_eq {p q : List Pc} (h : fa_ p q) (h' : fa_ q p) : atS p = atS q :=
  fj_ eq_ List.lt_trans (lR_ p) (lR_ q) fun x => ⟨h.at' x, h'.at' x⟩
theorem cT_.congrP {p q : List Pc} {m : Nat} {r : Option (List Fc)} (h : fa_ p q) (h' : fa_ q p) (hr : cT_ p (atS p) m r) : cT_ q (atS q) m r := by
  cases r with
  | none => obtain ⟨M, h1, h2, h3⟩ := hr; exact ⟨M, h1, fun y hy => h.der (h2 y hy), h3⟩
  | some L => exact ⟨hr.1, fun y => (hr.2.1 y).trans ⟨h.der, h'.der⟩, hr.2.2⟩
theorem cT_.less {p q : List Pc} {m : Nat} {L : List Fc} {r : Option (List Fc)} (h : fa_ q p) (hp : cT_ p (atS p) m (some L)) (hq : cT_ q (atS q) m r) : ∃ M, r = some M ∧ ∀ y ∈ M, y ∈ L := by
  cases r with
  | none =>
    obtain ⟨M, h1, h2, h3⟩ := hq
    have := fL_ h1 fun x hx => (hp.2.1 x).2 (h.der (h2 x hx))
    have := hp.2.2
    omega
  | some M => exact ⟨M, rfl, fun y hy => (hp.2.1 y).2 (h.der ((hq.2.1 y).1 hy))⟩
theorem ob_ {p q : List Pc} (hp : bD_ p = 0) (hl : q.length ≤ p.length) (h : ∀ x ∈ q, x ∈ p) : bD_ q = 0 := by
  obtain ⟨h1, h2⟩ := nl_ hp
  unfold bD_
  rw [if_neg (by omega), if_pos (List.all_eq_true.2 fun x hx => List.all_eq_true.1 h2 x (h x hx))]
theorem oL_ {p : List Pc} {bu : Int} {c : Cl} {e : Int} (h : dj_ p bu c e) (hc : bD_ p = 0) (hb : 0 ≤ bu) (hb2 : bu ≤ 1073741824) : (e = 0 ∧ c.atoms = atS p ∧ cT_ p (atS p) (min bu 65536).toNat (some c.facts)) ∨ (c = Cl.no ∧ e = (if bu < 65536 then 3 else 2) ∧ cT_ p (atS p) (min bu 65536).toNat none) := by
  unfold dj_ at h
  rw [if_neg (by simp [hc]), if_neg (by omega)] at h
  rcases h with ⟨h1, _, h2, h3⟩ | h
  · exact .inl ⟨h1, h2, h3⟩
  · exact .inr h
theorem pP_ {p q : List Pc} {bu : Int} {c d : Cl} {e f : Int} (h : fa_ p q) (h' : fa_ q p) (hp : dj_ p bu c e) (hq : dj_ q bu d f) (hc : bD_ p = 0) (hd : bD_ q = 0) (hb : 0 ≤ bu) (hb2 : bu ≤ 1073741824) : c.atoms = d.atoms ∧ c.facts = d.facts ∧ e = f := by
  rcases oL_ hp hc hb hb2 with ⟨h1, h2, h3⟩ | ⟨h1, h2, h3⟩
  · obtain ⟨g1, g2, g3⟩ := (jf_ hq hd hb hb2 (cT_.congrP h h' h3)).1 _ rfl
    exact ⟨by rw [h2, g3, h.atS_eq h'], g2.symm, by rw [h1, g1]⟩
  · obtain ⟨g1, g2⟩ := (jf_ hq hd hb hb2 (cT_.congrP h h' h3)).2 rfl
    subst h1 g1
    exact ⟨rfl, rfl, by rw [h2, g2]⟩
theorem dj_.srt {p : List Pc} {bu : Int} {c : Cl} {e : Int} (h : dj_ p bu c e) : Srt c.facts := by
  by_cases he : e = 0
  · subst he; exact h.good.2.2.2.2.2.1
  · rw [h.bad he]; exact List.Pairwise.nil
def Pc.nf (x : Pc) : Pc := ⟨x.kind, x.a, x.b, x.c, x.r, x.s, x.t, x.lo, x.hi, -1⟩
theorem fa_.trans {p q r : List Pc} (h : fa_ p q) (k : fa_ q r) : fa_ p r := fun x hx => by
  obtain ⟨y, hy, n, rfl⟩ := h x hx
  obtain ⟨z, hz, m, rfl⟩ := k y hy
  exact ⟨z, hz, n, rfl⟩
end Go.Proofs.YtpdbbglpbngeiaaGreatDoor
namespace Go.Proofs.YtpdbbglpbngeiaaGreatDoor
open Go Go.Sx Go.Proofs
attribute [local irreducible] Code.wp wpList wpAnyH
open Go.Vs
theorem rx_ (a : Int) {n : Nat} (h0 : 0 < n) (hn : n ≤ 1099511627776) : ∃ i : Nat, i < n ∧ IntKind.wrap .i64 ((IntKind.wrap .u64 a).tmod (n : Int)) = (i : Int) ∧ 0 ≤ (IntKind.wrap .u64 a).tmod (n : Int) ∧ (IntKind.wrap .u64 a).tmod (n : Int) < n := by
  have h1 : 0 ≤ IntKind.wrap .u64 a := by
    simp only [IntKind.wrap, IntKind.signed, IntKind.bits, Bool.false_and, Bool.false_eq_true, if_false]
    exact Int.emod_nonneg _ (by decide)
  have e : (IntKind.wrap .u64 a).tmod (n : Int) = (IntKind.wrap .u64 a) % (n : Int) := Int.tmod_eq_emod_of_nonneg h1
  have h2 : 0 ≤ (IntKind.wrap .u64 a) % (n : Int) := Int.emod_nonneg _ (by omega)
  have h3 : (IntKind.wrap .u64 a) % (n : Int) < n := Int.emod_lt_of_pos _ (by omega)
  refine ⟨((IntKind.wrap .u64 a) % (n : Int)).toNat, by omega, ?_, by rw [e]; exact h2, by rw [e]; exact h3⟩
  rw [e, aq_ (by omega) (by omega)]
  omega
end Go.Proofs.YtpdbbglpbngeiaaGreatDoor
namespace Go.Proofs.YtpdbbglpbngeiaaGreatDoor
open Go Go.Sx Go.Proofs
attribute [local irreducible] Code.wp wpList wpAnyH
open Go.Vs
theorem sg_ {α β : Type} {g : α → List β} {l : List α} {i : Nat} {x : α} (h : l[i]? = some x) : List.flatMap g (List.take (i + 1) l) = List.flatMap g (List.take i l) ++ g x := by
  rw [List.take_add_one, h, Option.toList_some, List.flatMap_append]; simp
end Go.Proofs.YtpdbbglpbngeiaaGreatDoor
namespace Go.Proofs.YtpdbbglpbngeiaaGreatDoor
open Go Go.Sx Go.Proofs
attribute [local irreducible] Code.wp wpList wpAnyH
open Go.Vs
theorem ca_.pre {α : Type} {f : α → List Value} {n : Nat} (hf : ∀ x, (f x).length = n) {l : List α} {v : Vw} {ad : Option Addr} (h : ca_ v ad (l.flatMap f)) (j : Nat) : ca_ v ad ((l.take j).flatMap f) :=
  h.part fun k x hx => by
    have e : l.flatMap f = (l.take j).flatMap f ++ (l.drop j).flatMap f := by rw [← List.flatMap_append, List.take_append_drop]
    rw [e, List.getElem?_append_left (List.getElem?_eq_some_iff.1 hx).1]
    exact hx
end Go.Proofs.YtpdbbglpbngeiaaGreatDoor
namespace Go.Proofs.YtpdbbglpbngeiaaGreatDoor
open Go Go.Sx Go.Proofs
attribute [local irreducible] Code.wp wpList wpAnyH
open Go.Vs
theorem ou_ {α : Type} {lt : α → α → Prop} (ht : ∀ {x y z}, lt x y → lt y z → lt x z) {l : List α} {j : Nat} {b : α} (h : (l.take j).Pairwise lt) (hb : l[j]? = some b) (hab : ∀ a, 0 < j → l[j - 1]? = some a → lt a b) : (l.take (j + 1)).Pairwise lt := by
  cases j with
  | zero => exact pw_one l
  | succ k =>
    have hk := (List.getElem?_eq_some_iff.1 hb).1
    obtain ⟨a, ha⟩ : ∃ a, l[k]? = some a := ⟨_, List.getElem?_eq_getElem (by omega)⟩
    exact rO_ (lt := lt) ht h ha hb (hab a (by omega) ha)
theorem qs_ {α : Type} {lt : α → α → Prop} {l : List α} {j : Nat} {a b : α} (hj : 0 < j) (ha : l[j - 1]? = some a) (hb : l[j]? = some b) (hab : ¬ lt a b) : ¬ l.Pairwise lt := by
  obtain ⟨k, rfl⟩ : ∃ k, j = k + 1 := ⟨j - 1, by omega⟩
  exact pw_not ha hb hab
theorem lb_ {p : List Pc} {bu : Int} {c d : Cl} {e f : Int} (h : dj_ p bu c e) (k : dj_ p bu d f) : c.atoms = d.atoms ∧ c.facts = d.facts ∧ e = f := by
  by_cases h1 : bD_ p = 0
  · by_cases h2 : bu < 0 ∨ 1073741824 < bu
    · unfold dj_ at h k
      rw [if_neg (by simp [h1]), if_pos h2] at h k
      obtain ⟨rfl, rfl⟩ := h
      obtain ⟨rfl, rfl⟩ := k
      exact ⟨rfl, rfl, rfl⟩
    · exact pP_ (fa_.rfl' p) (fa_.rfl' p) h k h1 h1 (by omega) (by omega)
  · unfold dj_ at h k
    rw [if_pos h1] at h k
    obtain ⟨rfl, rfl⟩ := h
    obtain ⟨rfl, rfl⟩ := k
    exact ⟨rfl, rfl, rfl⟩
end Go.Proofs.YtpdbbglpbngeiaaGreatDoor
