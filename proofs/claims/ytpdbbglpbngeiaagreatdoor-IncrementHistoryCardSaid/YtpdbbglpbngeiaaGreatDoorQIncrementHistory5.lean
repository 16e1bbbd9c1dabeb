/-
  Part of the proof of the law IncrementHistory over this seat: the small logic, the data, the contracts of functions (no condition).
-/
import Derived.Test.YtpdbbglpbngeiaaGreatDoorQIncrementHistory4
import Derived.Test.YtpdbbglpbngeiaaGreatDoorQIncrementHistory3
import Derived.Shelf.SlSortCmp.NoneTotal
import Derived.Test.YtpdbbglpbngeiaaGreatDoorProg
import Derived.Test.YtpdbbglpbngeiaaGreatDoorQIncrementHistory1
import Derived.Test.YtpdbbglpbngeiaaGreatDoorQIncrementHistory2
import Derived.Test.YtpdbbglpbngeiaaGreatDoorRows
set_option linter.unusedVariables false
set_option linter.unusedSimpArgs false
set_option linter.unusedSectionVars false
namespace Go.Proofs.YtpdbbglpbngeiaaGreatDoor
open Go Go.Sx Go.Proofs
attribute [local irreducible] Code.wp wpList wpAnyH
open Go.Vs
theorem fi_ (x : Pc) (ro at' : Str) (pm : List (Ky × Pc)) (bx bg : Nat) (g pb kb ab ub ob ib rb sb fb : Nat) (ev : Value) (lv : Value) (Hm : Hp) (hm : cR_ Ky.val Pc.cells 47 10 pm pb Hm) (hpl : pm.length ≤ 1000000000) : Tri Tryz.prog 142 #[str ro, str at', zp_ bx 0, zp_ bg 0] ((bx, .cells (Pc.cells x).toArray 47 (0, 0)) :: (bg, .cells #[zp_ g 0] 85 (0, 0)) :: (g, .cells #[.map (some pb), lv, .map (some kb), ev, .map (some ab), .map (some ub), .map (some ob), .map (some ib), .map (some rb), .map (some sb), .map (some fb)] 94 (0, 0)) :: Hm) [] (fun _ : {H : Hp // cR_ Ky.val Pc.cells 47 10 (pm ++ [((Ky.mk (Pc.kind x) ro at'), x)]) pb H} => .tuple #[]) (fun y => (bx, .cells (Pc.cells x).toArray 47 (0, 0)) :: (bg, .cells #[zp_ g 0] 85 (0, 0)) :: (g, .cells #[.map (some pb), lv, .map (some kb), ev, .map (some ab), .map (some ub), .map (some ob), .map (some ib), .map (some rb), .map (some sb), .map (some fb)] 94 (0, 0)) :: y.1) (fun _ => []) := by
  refine J_ Tryz.func142 rfl rfl Tryz.ntmps142 rfl fun v0 => ?_
  refine h_ (d_ (a_ (m_ z_ rfl rfl rfl T_) rfl (a_ (t_ 0 O_ rfl rfl rfl) rfl (a_ (g_ rfl) rfl (a_ (g_ rfl) rfl (a_ (aj_ dx_ rfl rfl) rfl (ah_ Tryz.zeroValue171 rfl fun b1 => ?_)))))))
  refine R_ 0 Tryz.sizeOf171 rfl rfl rfl rfl rfl rfl (e_ (c_ rfl ?_))
  refine aB_ ((b1, .cells #[.int .i64 (Pc.kind x), str ro, str at'] 171 (0, 0)) :: ((bx, .cells (Pc.cells x).toArray 47 (0, 0)) :: ((bg, .cells #[zp_ g 0] 85 (0, 0)) :: ((g, .cells #[.map (some pb), lv, .map (some kb), ev, .map (some ab), .map (some ub), .map (some ob), .map (some ib), .map (some rb), .map (some sb), .map (some fb)] 94 (0, 0)) :: [])))) (by kernel_rfl) ?_
  refine ag_ 6 [0, 1, 2, 3, 4, 5] (by kernel_rfl) (fun _ a b => ⟨Vw.sat.sub (a.perm (j_ f_ (j_ f_ (j_ f_ f_)))), b⟩) (l_ rfl (t_ 2 bK_ rfl rfl rfl) rfl (l_ rfl (ab_ rfl) rfl (l_ rfl (m_ w_ rfl rfl rfl cz_) rfl (l_ rfl (t_ 3 dk_ rfl rfl rfl) rfl (l_ rfl (X_ 0 Tryz.isAgg171 Tryz.sizeOf171 rfl rfl rfl) rfl (l_ rfl (X_ 1 bc_ Q_ rfl rfl rfl) rfl (af_ (N_ 6 rfl (by kernel_rfl) (aY_ E_ Q_ aJ_ rfl rfl rfl rfl rfl rfl fun b2 => ?_)))))))))
  refine e_ (v_ rfl (C_ (fun _ a b => ⟨Vw.sat.sub (a.perm (j_ (b_ f_) (j_ (b_ f_) (j_ (b_ f_) (b_ f_))))), b⟩) (N_ 7 rfl (by kernel_rfl) ?_)))
  have hbb1 := Nat.le_trans (ek_ pm (Ky.mk (Pc.kind x) ro at')) hpl
  refine cJ_ (k := (Ky.mk (Pc.kind x) ro at')) fa_ hm bB_ bR_ rfl rfl (b_ (b_ (b_ (b_ S_)))) rfl fun es1 ce1 ie1 se1 ve1 Hk1 Hx1 ho1 hw1 => ?_
  refine e_ (v_ rfl (C_ (fun _ a b => ⟨Vw.sat.sub (a.perm (j_ (b_ (k_ (k_ (b_ f_)))) (j_ (b_ (k_ (k_ (b_ f_)))) (j_ (b_ (k_ (k_ (b_ f_)))) (b_ (k_ (k_ (b_ f_)))))))), b⟩) (ag_ 2 [8, 10] (by kernel_rfl) (fun _ a b => ⟨Vw.sat.sub (a.perm (j_ (b_ (k_ (k_ (b_ f_)))) (j_ (b_ (k_ (k_ (b_ f_)))) (j_ (b_ (k_ (k_ (b_ f_)))) (b_ (k_ (k_ (b_ f_)))))))), b⟩) (l_ rfl (V_ rfl rfl) rfl (l_ rfl (V_ rfl rfl) rfl (af_ (N_ 9 rfl (by kernel_rfl) (aU_ (news := List.flatMap Pc.cells [x]) et_ hw1 rfl rfl (b_ q_) rfl (cH_ (b_ (k_ (k_ f_)))) (fun u hu => bg_ Pc.cells_one hu) (by simp only [maxLen]; omega) (by omega) rfl fun sv1 Hr1 hr1 => ?_))))))))
  have hq1 : aS_ 47 10 sv1 (List.length ((lat pm (Ky.mk (Pc.kind x) ro at')) ++ [x])) (List.flatMap Pc.cells ((lat pm (Ky.mk (Pc.kind x) ro at')) ++ [x])) Hr1 := by rw [List.length_append, List.flatMap_append]; exact hr1
  refine e_ (v_ rfl (C_ (fun _ a b => ⟨Vw.sat.sub (a.perm (j_ (k_ (b_ (k_ (b_ f_)))) (j_ (k_ (b_ (k_ (b_ f_)))) (j_ (k_ (b_ (k_ (b_ f_)))) (k_ (b_ (k_ (b_ f_)))))))), b⟩) (N_ 11 rfl (by kernel_rfl) (bz_ (k := (Ky.mk (Pc.kind x) ro at')) (dd := x) ho1 (by rw [co_]; exact hq1) rfl rfl rfl (cm_ (j_ (k_ f_) (A_ q_ q_))) fun H2 hM2 => ?_))))
  refine e_ (v_ rfl (C_ (fun _ a b => ⟨Vw.sat.sub (a.perm (j_ (k_ (b_ f_)) (j_ (k_ (b_ f_)) (j_ (k_ (b_ f_)) (k_ (b_ f_)))))), b⟩) (Y_ (by kernel_rfl) (aW_ rfl ?_))))
  exact cw_ Tryz.results142 ⟨H2, hM2⟩ rfl (j_ (k_ (b_ (b_ f_))) (j_ (k_ (b_ (b_ f_))) (j_ (k_ (b_ (b_ f_))) q_))) (fun _ _ _ => trivial)
theorem mi_ (x : Pc) (pm : List (Ky × Pc)) (lps : List Str) (g pb kb ab ub ob ib rb sb fb : Nat) (ev : Value) (lv : Value) (Hm Hl : Hp) (hm : cR_ Ky.val Pc.cells 47 10 pm pb Hm) (hl : aS_ 9 1 lv (List.length lps) (List.flatMap aL_ lps) Hl) (hpl : pm.length ≤ 900000000) (hll : lps.length ≤ 900000000) : Tri Tryz.prog 96 #[zp_ g 0, Pc.val x] ((g, .cells #[.map (some pb), lv, .map (some kb), ev, .map (some ab), .map (some ub), .map (some ob), .map (some ib), .map (some rb), .map (some sb), .map (some fb)] 94 (0, 0)) :: (Hm ++ Hl)) [] (fun _ : {y : Value × Hp × Hp // cR_ Ky.val Pc.cells 47 10 (pm ++ bX_ x) pb y.2.1 ∧ aS_ 9 1 y.1 (List.length (lps ++ am_ [x])) (List.flatMap aL_ (lps ++ am_ [x])) y.2.2} => .tuple #[]) (fun y => (g, .cells #[.map (some pb), y.1.1, .map (some kb), ev, .map (some ab), .map (some ub), .map (some ob), .map (some ib), .map (some rb), .map (some sb), .map (some fb)] 94 (0, 0)) :: (y.1.2.1 ++ y.1.2.2)) (fun _ => []) := by
 refine J_ Tryz.func96 rfl rfl Tryz.ntmps96 rfl fun v0 => ?_
 refine h_ (d_ (bd_ rfl rfl fun b1 => ?_))
 refine bd_ rfl rfl fun b2 => ?_
 refine e_ (c_ rfl (h_ (d_ (a_ (cd_ rfl rfl) rfl (a_ (i_ rfl) rfl (e_ (c_ rfl (h_ (d_ ?_)))))))))
 refine a_ (m_ z_ rfl rfl rfl T_) rfl (a_ (t_ 0 O_ rfl rfl rfl) rfl (e_ (c_ rfl (K_ (h_ (h_ (d_ (x_ (bk_ rfl rfl) rfl fun r1 hr1 => ?_))))))))
 refine a_ (i_ rfl) rfl (e_ (c_ rfl ?_))
 cases r1
 ·
  replace hr1 := ne_of_beq_false hr1
  refine s_ rfl (h_ (d_ (x_ (bk_ rfl rfl) rfl fun r2 hr2 => ?_)))
  refine a_ (i_ rfl) rfl (e_ (c_ rfl ?_))
  cases r2
  ·
   replace hr2 := ne_of_beq_false hr2
   refine s_ rfl (d_ (x_ (bk_ rfl rfl) rfl fun r3 hr3 => ?_))
   refine a_ (i_ rfl) rfl (e_ (c_ rfl ?_))
   cases r3
   ·
    replace hr3 := ne_of_beq_false hr3
    refine s_ rfl (h_ (d_ (x_ (bk_ rfl rfl) rfl fun r4 hr4 => ?_)))
    refine a_ (i_ rfl) rfl (e_ (c_ rfl ?_))
    cases r4
    ·
     replace hr4 := ne_of_beq_false hr4
     refine s_ rfl (h_ (d_ (x_ (bk_ rfl rfl) rfl fun r5 hr5 => ?_)))
     refine a_ (i_ rfl) rfl (e_ (c_ rfl ?_))
     cases r5
     ·
      replace hr5 := ne_of_beq_false hr5
      refine s_ rfl (h_ (h_ (d_ (x_ (bk_ rfl rfl) rfl fun r6 hr6 => ?_))))
      refine a_ (i_ rfl) rfl (e_ (c_ rfl ?_))
      cases r6
      ·
       replace hr6 := ne_of_beq_false hr6
       refine s_ rfl (d_ (x_ (bk_ rfl rfl) rfl fun r7 hr7 => ?_))
       refine a_ (i_ rfl) rfl (e_ (c_ rfl ?_))
       cases r7
       ·
        replace hr7 := ne_of_beq_false hr7
        refine s_ rfl (h_ (d_ (x_ (bk_ rfl rfl) rfl fun r8 hr8 => ?_)))
        refine a_ (i_ rfl) rfl (e_ (c_ rfl ?_))
        cases r8
        ·
         replace hr8 := ne_of_beq_false hr8
         refine s_ rfl (h_ (d_ (x_ (bk_ rfl rfl) rfl fun r9 hr9 => ?_)))
         refine a_ (i_ rfl) rfl (e_ (c_ rfl ?_))
         cases r9
         ·
          replace hr9 := ne_of_beq_false hr9
          refine s_ rfl (B_ (aW_ rfl ?_))
          have e1 : pm = pm ++ bX_ x := by simp [bX_, *]
          have e2 : lps = lps ++ am_ [x] := by simp [am_, *]
          exact cw_ ck_ ⟨(lv, Hm, Hl), e1 ▸ hm, e2 ▸ hl⟩ rfl (j_ (b_ (b_ f_)) (A_ (b_ (b_ q_)) (b_ S_))) (fun _ _ _ => trivial)
         ·
          replace hr9 := eq_of_beq hr9
          refine p_ rfl ?_
          refine aB_ ((b2, .cells (Pc.cells x).toArray 47 (0, 0)) :: ((b1, .cells #[zp_ g 0] 85 (0, 0)) :: [])) (by kernel_rfl) ?_
          refine ag_ 6 [0, 1, 2, 3, 5, 6] (by kernel_rfl) (fun _ a b => ⟨Vw.sat.sub (a.perm (j_ f_ f_)), b⟩) (l_ rfl (t_ 1 bK_ rfl rfl rfl) rfl (l_ rfl (t_ 1 bK_ rfl rfl rfl) rfl (l_ rfl (ab_ rfl) rfl (l_ rfl (m_ w_ rfl rfl rfl cB_) rfl (l_ rfl (m_ z_ rfl rfl rfl o_) rfl (l_ rfl (t_ 0 u_ rfl rfl rfl) rfl (af_ ?_)))))))
          refine eo_ 4 7 rfl rfl (by kernel_rfl) ?_ ?_
          ·
           refine a_ (t_ 2 gV_ rfl rfl rfl) rfl (e_ (v_ rfl (C_ (fun _ a b => ⟨Vw.sat.sub (a.perm (j_ f_ f_)), b⟩) (N_ 7 rfl (by kernel_rfl) (aY_ H_ o_ bn_ rfl rfl rfl rfl rfl rfl fun b3 => ?_)))))
           refine e_ (v_ rfl (C_ (fun _ a b => ⟨Vw.sat.sub (a.perm (j_ (b_ f_) (b_ f_))), b⟩) (N_ 8 rfl (by kernel_rfl) (aU_ (news := List.flatMap aL_ [(Pc.r x)]) cE_ hl rfl rfl (b_ (b_ (b_ (b_ aR_)))) rfl (cn_ 0 rfl) (fun u hu => bg_ ce_ hu) (by simp only [maxLen]; first | omega | (simp; omega)) (by first | omega | (simp; omega)) rfl fun sv1 Hr1 hr1 => ?_))))
           have hq1 : aS_ 9 1 sv1 (List.length (lps ++ [(Pc.r x)])) (List.flatMap aL_ (lps ++ [(Pc.r x)])) Hr1 := by rw [List.length_append, List.flatMap_append]; exact hr1
           refine e_ (v_ rfl (C_ (fun _ a b => ⟨Vw.sat.sub (a.perm (j_ (k_ (b_ f_)) (k_ (b_ f_)))), b⟩) (ag_ 1 [9, 10] (by kernel_rfl) (fun _ a b => ⟨Vw.sat.sub (a.perm (j_ (k_ (b_ f_)) (k_ (b_ f_)))), b⟩) (l_ rfl (ab_ rfl) rfl (l_ rfl (m_ w_ rfl rfl rfl cB_) rfl (af_ (N_ 11 rfl (by kernel_rfl) (ay_ (aV_ (k_ f_) (aV_ (k_ f_) (aV_ (k_ f_) (cG_ (k_ f_))))) (eR_ 3 hq1 cB_ rfl rfl rfl rfl ?_)))))))))
           refine e_ (v_ rfl (C_ (fun _ a b => ⟨Vw.sat.sub (a.perm (j_ (b_ f_) (b_ f_))), b⟩) (Y_ (by kernel_rfl) (aW_ rfl ?_))))
           have e1 : pm = pm ++ bX_ x := by simp [bX_, *]
           have e2 : (lps ++ [(Pc.r x)]) = lps ++ am_ [x] := by simp [am_, *]
           exact cw_ ck_ ⟨(sv1, Hm, Hr1), e1 ▸ hm, e2 ▸ hq1⟩ rfl (j_ (b_ (b_ (b_ f_))) (A_ (b_ (b_ (b_ aR_))) (b_ (b_ S_)))) (fun _ _ _ => trivial)
          ·
           refine aY_ H_ o_ bn_ rfl rfl rfl rfl rfl rfl fun b4 => ?_
           refine e_ (v_ rfl (C_ (fun _ a b => ⟨Vw.sat.sub (a.perm (j_ (b_ f_) (b_ f_))), b⟩) (N_ 4 rfl (by kernel_rfl) (a_ (t_ 3 gV_ rfl rfl rfl) rfl (e_ (v_ rfl (C_ (fun _ a b => ⟨Vw.sat.sub (a.perm (j_ (b_ f_) (b_ f_))), b⟩) (N_ 8 rfl (by kernel_rfl) (aU_ (news := List.flatMap aL_ [(Pc.r x)]) cE_ hl rfl rfl (b_ (b_ (b_ (b_ aR_)))) rfl (cn_ 0 rfl) (fun u hu => bg_ ce_ hu) (by simp only [maxLen]; first | omega | (simp; omega)) (by first | omega | (simp; omega)) rfl fun sv2 Hr2 hr2 => ?_)))))))))
           have hq2 : aS_ 9 1 sv2 (List.length (lps ++ [(Pc.r x)])) (List.flatMap aL_ (lps ++ [(Pc.r x)])) Hr2 := by rw [List.length_append, List.flatMap_append]; exact hr2
           refine e_ (v_ rfl (C_ (fun _ a b => ⟨Vw.sat.sub (a.perm (j_ (k_ (b_ f_)) (k_ (b_ f_)))), b⟩) (ag_ 1 [9, 10] (by kernel_rfl) (fun _ a b => ⟨Vw.sat.sub (a.perm (j_ (k_ (b_ f_)) (k_ (b_ f_)))), b⟩) (l_ rfl (ab_ rfl) rfl (l_ rfl (m_ w_ rfl rfl rfl cB_) rfl (af_ (N_ 11 rfl (by kernel_rfl) (ay_ (aV_ (k_ f_) (aV_ (k_ f_) (aV_ (k_ f_) (cG_ (k_ f_))))) (eR_ 3 hq2 cB_ rfl rfl rfl rfl ?_)))))))))
           refine e_ (v_ rfl (C_ (fun _ a b => ⟨Vw.sat.sub (a.perm (j_ (b_ f_) (b_ f_))), b⟩) (Y_ (by kernel_rfl) (aW_ rfl ?_))))
           have e1 : pm = pm ++ bX_ x := by simp [bX_, *]
           have e2 : (lps ++ [(Pc.r x)]) = lps ++ am_ [x] := by simp [am_, *]
           exact cw_ ck_ ⟨(sv2, Hm, Hr2), e1 ▸ hm, e2 ▸ hq2⟩ rfl (j_ (b_ (b_ (b_ f_))) (A_ (b_ (b_ (b_ aR_))) (b_ (b_ S_)))) (fun _ _ _ => trivial)
        ·
         replace hr8 := eq_of_beq hr8
         refine p_ rfl (h_ (d_ (a_ (g_ rfl) rfl (a_ (m_ z_ rfl rfl rfl o_) rfl (a_ (t_ 0 u_ rfl rfl rfl) rfl (aH_ (fi_ x (Pc.r x) [] pm b2 b1 g pb kb ab ub ob ib rb sb fb ev lv Hm hm (by first | omega | (simp; omega))) rfl rfl (j_ f_ (j_ f_ (j_ f_ q_))) (fun _ _ _ => by exact trivial) rfl fun ⟨HP1, hP1⟩ => ?_))))))
         dsimp only
         simp only [List.cons_append]
         refine e_ (c_ rfl (d_ (a_ (g_ rfl) rfl (a_ (m_ z_ rfl rfl rfl o_) rfl (a_ (t_ 0 u_ rfl rfl rfl) rfl (aH_ (fi_ x [] (Pc.s x) (pm ++ [((Ky.mk (Pc.kind x) (Pc.r x) []), x)]) b2 b1 g pb kb ab ub ob ib rb sb fb ev lv HP1 hP1 (by first | omega | (simp; omega))) rfl rfl (j_ f_ (j_ f_ (j_ f_ q_))) (fun _ _ _ => by exact trivial) rfl fun ⟨HP2, hP2⟩ => ?_))))))
         dsimp only
         simp only [List.cons_append]
         refine e_ (aW_ rfl ?_)
         have e1 : ((pm ++ [((Ky.mk (Pc.kind x) (Pc.r x) []), x)]) ++ [((Ky.mk (Pc.kind x) [] (Pc.s x)), x)]) = pm ++ bX_ x := by simp [bX_, *]
         have e2 : lps = lps ++ am_ [x] := by simp [am_, *]
         exact cw_ ck_ ⟨(lv, HP2, Hl), e1 ▸ hP2, e2 ▸ hl⟩ rfl (j_ (b_ (b_ f_)) (A_ (b_ (b_ q_)) (b_ S_))) (fun _ _ _ => trivial)
       ·
        replace hr7 := eq_of_beq hr7
        refine p_ rfl (d_ (a_ (g_ rfl) rfl (a_ (m_ z_ rfl rfl rfl o_) rfl (a_ (t_ 0 u_ rfl rfl rfl) rfl (aH_ (fi_ x (Pc.r x) [] pm b2 b1 g pb kb ab ub ob ib rb sb fb ev lv Hm hm (by first | omega | (simp; omega))) rfl rfl (j_ f_ (j_ f_ (j_ f_ q_))) (fun _ _ _ => by exact trivial) rfl fun ⟨HP3, hP3⟩ => ?_)))))
        dsimp only
        simp only [List.cons_append]
        refine e_ (aW_ rfl ?_)
        have e1 : (pm ++ [((Ky.mk (Pc.kind x) (Pc.r x) []), x)]) = pm ++ bX_ x := by simp [bX_, *]
        have e2 : lps = lps ++ am_ [x] := by simp [am_, *]
        exact cw_ ck_ ⟨(lv, HP3, Hl), e1 ▸ hP3, e2 ▸ hl⟩ rfl (j_ (b_ (b_ f_)) (A_ (b_ (b_ q_)) (b_ S_))) (fun _ _ _ => trivial)
      ·
       replace hr6 := eq_of_beq hr6
       refine p_ rfl (B_ (c_ rfl (p_ rfl (d_ (a_ (g_ rfl) rfl (a_ (m_ z_ rfl rfl rfl o_) rfl (a_ (t_ 0 u_ rfl rfl rfl) rfl (aH_ (fi_ x (Pc.r x) [] pm b2 b1 g pb kb ab ub ob ib rb sb fb ev lv Hm hm (by first | omega | (simp; omega))) rfl rfl (j_ f_ (j_ f_ (j_ f_ q_))) (fun _ _ _ => by exact trivial) rfl fun ⟨HP4, hP4⟩ => ?_))))))))
       dsimp only
       simp only [List.cons_append]
       refine e_ (aW_ rfl ?_)
       have e1 : (pm ++ [((Ky.mk (Pc.kind x) (Pc.r x) []), x)]) = pm ++ bX_ x := by simp [bX_, *]
       have e2 : lps = lps ++ am_ [x] := by simp [am_, *]
       exact cw_ ck_ ⟨(lv, HP4, Hl), e1 ▸ hP4, e2 ▸ hl⟩ rfl (j_ (b_ (b_ f_)) (A_ (b_ (b_ q_)) (b_ S_))) (fun _ _ _ => trivial)
     ·
      replace hr5 := eq_of_beq hr5
      refine p_ rfl (h_ (d_ (a_ (g_ rfl) rfl (a_ (m_ z_ rfl rfl rfl o_) rfl (a_ (t_ 0 u_ rfl rfl rfl) rfl (aH_ (fi_ x [] (Pc.a x) pm b2 b1 g pb kb ab ub ob ib rb sb fb ev lv Hm hm (by first | omega | (simp; omega))) rfl rfl (j_ f_ (j_ f_ (j_ f_ q_))) (fun _ _ _ => by exact trivial) rfl fun ⟨HP5, hP5⟩ => ?_))))))
      dsimp only
      simp only [List.cons_append]
      refine e_ (c_ rfl (d_ (a_ (g_ rfl) rfl (a_ (m_ z_ rfl rfl rfl o_) rfl (a_ (t_ 0 u_ rfl rfl rfl) rfl (a_ (m_ z_ rfl rfl rfl o_) rfl (a_ (t_ 0 u_ rfl rfl rfl) rfl (aH_ (fi_ x (Pc.r x) (Pc.a x) (pm ++ [((Ky.mk (Pc.kind x) [] (Pc.a x)), x)]) b2 b1 g pb kb ab ub ob ib rb sb fb ev lv HP5 hP5 (by first | omega | (simp; omega))) rfl rfl (j_ f_ (j_ f_ (j_ f_ q_))) (fun _ _ _ => by exact trivial) rfl fun ⟨HP6, hP6⟩ => ?_))))))))
      dsimp only
      simp only [List.cons_append]
      refine e_ (aW_ rfl ?_)
      have e1 : ((pm ++ [((Ky.mk (Pc.kind x) [] (Pc.a x)), x)]) ++ [((Ky.mk (Pc.kind x) (Pc.r x) (Pc.a x)), x)]) = pm ++ bX_ x := by simp [bX_, *]
      have e2 : lps = lps ++ am_ [x] := by simp [am_, *]
      exact cw_ ck_ ⟨(lv, HP6, Hl), e1 ▸ hP6, e2 ▸ hl⟩ rfl (j_ (b_ (b_ f_)) (A_ (b_ (b_ q_)) (b_ S_))) (fun _ _ _ => trivial)
    ·
     replace hr4 := eq_of_beq hr4
     refine p_ rfl (h_ (d_ (a_ (g_ rfl) rfl (a_ (m_ z_ rfl rfl rfl o_) rfl (a_ (t_ 0 u_ rfl rfl rfl) rfl (aH_ (fi_ x [] (Pc.a x) pm b2 b1 g pb kb ab ub ob ib rb sb fb ev lv Hm hm (by first | omega | (simp; omega))) rfl rfl (j_ f_ (j_ f_ (j_ f_ q_))) (fun _ _ _ => by exact trivial) rfl fun ⟨HP7, hP7⟩ => ?_))))))
     dsimp only
     simp only [List.cons_append]
     refine e_ (c_ rfl (h_ (d_ (a_ (m_ z_ rfl rfl rfl o_) rfl (a_ (t_ 0 u_ rfl rfl rfl) rfl (a_ (m_ z_ rfl rfl rfl o_) rfl (a_ (t_ 0 u_ rfl rfl rfl) rfl (x_ (dI_ rfl rfl) rfl fun r10 hr10 => ?_))))))))
     refine e_ (c_ rfl ?_)
     cases r10
     ·
      replace hr10 := aQ_ hr10
      refine s_ rfl (B_ (aW_ rfl ?_))
      have e1 : (pm ++ [((Ky.mk (Pc.kind x) [] (Pc.a x)), x)]) = pm ++ bX_ x := by simp [bX_, *]
      have e2 : lps = lps ++ am_ [x] := by simp [am_, *]
      exact cw_ ck_ ⟨(lv, HP7, Hl), e1 ▸ hP7, e2 ▸ hl⟩ rfl (j_ (b_ (b_ f_)) (A_ (b_ (b_ q_)) (b_ S_))) (fun _ _ _ => trivial)
     ·
      replace hr10 := aP_ hr10
      refine p_ rfl (d_ (a_ (g_ rfl) rfl (a_ (m_ z_ rfl rfl rfl o_) rfl (a_ (t_ 0 u_ rfl rfl rfl) rfl (aH_ (fi_ x [] (Pc.b x) (pm ++ [((Ky.mk (Pc.kind x) [] (Pc.a x)), x)]) b2 b1 g pb kb ab ub ob ib rb sb fb ev lv HP7 hP7 (by first | omega | (simp; omega))) rfl rfl (j_ f_ (j_ f_ (j_ f_ q_))) (fun _ _ _ => by exact trivial) rfl fun ⟨HP8, hP8⟩ => ?_)))))
      dsimp only
      simp only [List.cons_append]
      refine e_ (aW_ rfl ?_)
      have e1 : ((pm ++ [((Ky.mk (Pc.kind x) [] (Pc.a x)), x)]) ++ [((Ky.mk (Pc.kind x) [] (Pc.b x)), x)]) = pm ++ bX_ x := by simp [bX_, *]
      have e2 : lps = lps ++ am_ [x] := by simp [am_, *]
      exact cw_ ck_ ⟨(lv, HP8, Hl), e1 ▸ hP8, e2 ▸ hl⟩ rfl (j_ (b_ (b_ f_)) (A_ (b_ (b_ q_)) (b_ S_))) (fun _ _ _ => trivial)
   ·
    replace hr3 := eq_of_beq hr3
    refine p_ rfl (d_ (a_ (g_ rfl) rfl (a_ (m_ z_ rfl rfl rfl o_) rfl (a_ (t_ 0 u_ rfl rfl rfl) rfl (aH_ (fi_ x [] (Pc.a x) pm b2 b1 g pb kb ab ub ob ib rb sb fb ev lv Hm hm (by first | omega | (simp; omega))) rfl rfl (j_ f_ (j_ f_ (j_ f_ q_))) (fun _ _ _ => by exact trivial) rfl fun ⟨HP9, hP9⟩ => ?_)))))
    dsimp only
    simp only [List.cons_append]
    refine e_ (aW_ rfl ?_)
    have e1 : (pm ++ [((Ky.mk (Pc.kind x) [] (Pc.a x)), x)]) = pm ++ bX_ x := by simp [bX_, *]
    have e2 : lps = lps ++ am_ [x] := by simp [am_, *]
    exact cw_ ck_ ⟨(lv, HP9, Hl), e1 ▸ hP9, e2 ▸ hl⟩ rfl (j_ (b_ (b_ f_)) (A_ (b_ (b_ q_)) (b_ S_))) (fun _ _ _ => trivial)
  ·
   replace hr2 := eq_of_beq hr2
   refine p_ rfl (B_ (c_ rfl (p_ rfl (d_ (a_ (g_ rfl) rfl (a_ (m_ z_ rfl rfl rfl o_) rfl (a_ (t_ 0 u_ rfl rfl rfl) rfl (aH_ (fi_ x [] (Pc.a x) pm b2 b1 g pb kb ab ub ob ib rb sb fb ev lv Hm hm (by first | omega | (simp; omega))) rfl rfl (j_ f_ (j_ f_ (j_ f_ q_))) (fun _ _ _ => by exact trivial) rfl fun ⟨HP10, hP10⟩ => ?_))))))))
   dsimp only
   simp only [List.cons_append]
   refine e_ (aW_ rfl ?_)
   have e1 : (pm ++ [((Ky.mk (Pc.kind x) [] (Pc.a x)), x)]) = pm ++ bX_ x := by simp [bX_, *]
   have e2 : lps = lps ++ am_ [x] := by simp [am_, *]
   exact cw_ ck_ ⟨(lv, HP10, Hl), e1 ▸ hP10, e2 ▸ hl⟩ rfl (j_ (b_ (b_ f_)) (A_ (b_ (b_ q_)) (b_ S_))) (fun _ _ _ => trivial)
 ·
  replace hr1 := eq_of_beq hr1
  refine p_ rfl (B_ (c_ rfl (p_ rfl (d_ (a_ (g_ rfl) rfl (a_ (m_ z_ rfl rfl rfl o_) rfl (a_ (t_ 0 u_ rfl rfl rfl) rfl (aH_ (fi_ x [] (Pc.a x) pm b2 b1 g pb kb ab ub ob ib rb sb fb ev lv Hm hm (by first | omega | (simp; omega))) rfl rfl (j_ f_ (j_ f_ (j_ f_ q_))) (fun _ _ _ => by exact trivial) rfl fun ⟨HP11, hP11⟩ => ?_))))))))
  dsimp only
  simp only [List.cons_append]
  refine e_ (aW_ rfl ?_)
  have e1 : (pm ++ [((Ky.mk (Pc.kind x) [] (Pc.a x)), x)]) = pm ++ bX_ x := by simp [bX_, *]
  have e2 : lps = lps ++ am_ [x] := by simp [am_, *]
  exact cw_ ck_ ⟨(lv, HP11, Hl), e1 ▸ hP11, e2 ▸ hl⟩ rfl (j_ (b_ (b_ f_)) (A_ (b_ (b_ q_)) (b_ S_))) (fun _ _ _ => trivial)
structure NewE where
  g : Nat
  pb : Nat
  kb : Nat
  ab : Nat
  ub : Nat
  ob : Nat
  ib : Nat
  rb : Nat
  sb : Nat
  fb : Nat
  lv : Value
  hm : Hp
  hl : Hp
def NewE.ok (ps : List Pc) (y : NewE) : Prop := cR_ Ky.val Pc.cells 47 10 (aF_ ps) y.pb y.hm ∧ aS_ 9 1 y.lv (List.length (am_ ps)) (List.flatMap aL_ (am_ ps)) y.hl
def NewE.own (y : NewE) : Hp := (y.g, .cells #[.map (some y.pb), y.lv, .map (some y.kb), .nilFunc, .map (some y.ab), .map (some y.ub), .map (some y.ob), .map (some y.ib), .map (some y.rb), .map (some y.sb), .map (some y.fb)] 94 (0, 0)) :: (y.kb, .map #[] 0) :: (y.ab, .map #[] 0) :: (y.ub, .map #[] 0) :: (y.ob, .map #[] 0) :: (y.ib, .map #[] 0) :: (y.rb, .map #[] 0) :: (y.sb, .map #[] 0) :: (y.fb, .map #[] 0) :: (y.hm ++ y.hl)
theorem dV_ {p : List Pc} {i : Nat} {x : Pc} (h : p[i]? = some x) : uniq [] (List.take (i + 1) p) = if x.zf ∈ uniq [] (List.take i p) then uniq [] (List.take i p) else uniq [] (List.take i p) ++ [x.zf] := by
  have key : ∀ (l : List Pc) (r : List Pc), uniq l (r ++ [x]) = if x.zf ∈ uniq l r then uniq l r else uniq l r ++ [x.zf] := by
    intro l r
    induction r generalizing l with
    | nil => rfl
    | cons y r ih => exact ih _
  rw [List.take_add_one, h, Option.toList_some]
  exact key _ _
theorem lG_ (l : List Pc) (x : Pc) : aF_ (l ++ [x]) = aF_ l ++ bX_ x := by simp [aF_]
theorem iN_ (l : List Pc) (x : Pc) : am_ (l ++ [x]) = am_ l ++ am_ [x] := by simp [am_]
theorem mL_ (x : Pc) : (bX_ x).length ≤ 2 := by unfold bX_; (repeat' split) <;> simp
theorem hu_ : ∀ l : List Pc, (aF_ l).length ≤ 2 * l.length
  | [] => by simp [aF_]
  | x :: l => by
    have := hu_ l
    have h2 := mL_ x
    simp only [aF_, List.flatMap_cons, List.length_append, List.length_cons] at this ⊢
    omega
theorem gO_ (l : List Pc) : (am_ l).length ≤ l.length := by
  simp only [am_, List.length_map]; exact List.length_filter_le _ _
theorem jT_ (p : List Pc) (pad : Option Addr) (pcap : Nat) (hp : p.length ≤ 100000000) : Tri Tryz.prog 54 #[.slice pad (List.length p) pcap] [] [ap_ pad (List.flatMap Pc.cells p)] (fun y : {y : NewE // y.ok (uniq [] p)} => zp_ y.1.g 0) (fun y => y.1.own) (fun _ => []) := by
 refine J_ Tryz.func54 rfl rfl Tryz.ntmps54 rfl fun v0 => ?_
 refine h_ (d_ (a_ (i_ rfl) rfl (e_ (c_ rfl (h_ (d_ (cI_ rfl fun b1 => ?_)))))))
 refine cI_ rfl fun b2 => ?_
 refine cI_ rfl fun b3 => ?_
 refine cI_ rfl fun b4 => ?_
 refine cI_ rfl fun b5 => ?_
 refine cI_ rfl fun b6 => ?_
 refine cI_ rfl fun b7 => ?_
 refine cI_ rfl fun b8 => ?_
 refine cI_ rfl fun b9 => ?_
 refine a_ (aj_ strt94 rfl rfl) rfl (bd_ rfl rfl fun b10 => ?_)
 refine a_ (i_ rfl) rfl (e_ (c_ rfl (h_ (d_ (cI_ rfl fun b11 => ?_)))))
 refine a_ (i_ rfl) rfl (e_ (c_ rfl (h_ (h_ (d_ (a_ (g_ rfl) rfl (a_ (ae_ E_ rfl) rfl (a_ (g_ rfl) rfl (e_ ?_)))))))))
 refine c_ rfl (K_ ?_)
 refine ax_ (ι := {y : Nat × Array MapEntry × Nat × Hp × Value × Hp // y.1 ≤ List.length p ∧ SetE Pc.val y.2.1 (uniq [] (List.take y.1 p)) ∧ cR_ Ky.val Pc.cells 47 10 (aF_ (uniq [] (List.take y.1 p))) b1 y.2.2.2.1 ∧ aS_ 9 1 y.2.2.2.2.1 (List.length (am_ (uniq [] (List.take y.1 p)))) (List.flatMap aL_ (am_ (uniq [] (List.take y.1 p)))) y.2.2.2.2.2}) (fun y => [(3, zp_ b10 0), (4, .map (some b11)), (19, .slice pad (List.length p) pcap), (20, .int .i64 (List.length p : Int)), (21, .int .i64 (y.1.1 : Int))]) (fun y => ((b10, .cells #[.map (some b1), y.1.2.2.2.2.1, .map (some b2), .nilFunc, .map (some b3), .map (some b4), .map (some b5), .map (some b6), .map (some b7), .map (some b8), .map (some b9)] 94 (0, 0)) :: ((b11, .map y.1.2.1 y.1.2.2.1) :: ((b2, .map #[] 0) :: ((b3, .map #[] 0) :: ((b4, .map #[] 0) :: ((b5, .map #[] 0) :: ((b6, .map #[] 0) :: ((b7, .map #[] 0) :: ((b8, .map #[] 0) :: ((b9, .map #[] 0) :: (y.1.2.2.2.1 ++ y.1.2.2.2.2.2)))))))))))) (fun y => [ap_ pad (List.flatMap Pc.cells p)]) (fun y => List.length p - y.1.1) ⟨((0 : Nat), #[], 0, [(b1, .map #[] 0)], (.slice none 0 0), []), by simp, by exact SetE.nil, by exact cR_.nil _ _, (aS_.nil 9 1)⟩ ⟨rfl, rfl, rfl, rfl, rfl, trivial⟩ (j_ (b_ f_) (j_ f_ (j_ (b_ (b_ (b_ (b_ (b_ (b_ (b_ f_))))))) (j_ (b_ (b_ (b_ (b_ (b_ (b_ f_)))))) (j_ (b_ (b_ (b_ (b_ (b_ f_))))) (j_ (b_ (b_ (b_ (b_ f_)))) (j_ (b_ (b_ (b_ f_))) (j_ (b_ (b_ f_)) (j_ (b_ f_) (j_ f_ f_)))))))))) (fun _ _ h => h) ?_
 rintro ⟨⟨i, es, cs, Hm, sv_L, H_L⟩, hi, hE, hm, hr_L⟩
 dsimp only at hi hE hm hr_L ⊢
 have hbu := ge_ (List.take i p) []
 have hbt := List.length_take_le i p
 simp only [List.length_nil] at hbu
 have hbp : (aF_ (uniq [] (List.take i p))).length ≤ 900000000 := by have := hu_ (uniq [] (List.take i p)); omega
 have hbl : (am_ (uniq [] (List.take i p))).length ≤ 900000000 := by have := gO_ (uniq [] (List.take i p)); omega
 refine h_ (d_ (x_ (ar_ rfl rfl) rfl fun r1 hr1 => ?_))
 refine e_ (c_ rfl (h_ ?_))
 cases r1
 ·
  replace hr1 := of_decide_eq_false hr1
  refine s_ rfl (au_ rfl (c_ rfl (h_ (d_ (a_ (g_ rfl) rfl (a_ (i_ rfl) rfl (e_ (c_ rfl (D_ ?_)))))))))
  have e9 : List.take i p = p := List.take_of_length_le (by omega)
  rw [e9] at hm hr_L
  exact aA_ Tryz.results54 ⟨NewE.mk b10 b1 b2 b3 b4 b5 b6 b7 b8 b9 sv_L Hm H_L, hm, hr_L⟩ rfl (j_ f_ (j_ (b_ f_) (j_ (b_ f_) (j_ (b_ f_) (j_ (b_ f_) (j_ (b_ f_) (j_ (b_ f_) (j_ (b_ f_) (j_ (b_ f_) (A_ (b_ q_) S_)))))))))) (fun _ _ _ => trivial)
 ·
  replace hr1 := of_decide_eq_true hr1
  have hlx1 : i < List.length p := by omega
  obtain ⟨x1, hx1⟩ : ∃ e0, p[i]? = some e0 := ⟨_, List.getElem?_eq_getElem hlx1⟩
  have hmx1 : x1 ∈ p := List.mem_of_getElem? hx1
  refine p_ rfl (B_ (c_ rfl (h_ (K_ (h_ (d_ (a_ (al_ E_ Q_ rfl rfl (fun v _ h => aG_ (n := 10) Pc.cells_len (by decide) (by exact h.1) hx1) (by omega) (by first | omega | (simp; done))) rfl (a_ (aK_ (ad := pad) (us := Pc.cells x1) bc_ Q_ rfl (fun v _ h => by exact h.1) (Pc.cells_len _) (ao_ Pc.cells_len hx1)) rfl (ah_ aJ_ rfl fun b12 => ?_)))))))))
  refine R_ 0 Q_ rfl rfl rfl rfl rfl rfl (e_ (c_ rfl (h_ (d_ (a_ (m_ z_ rfl rfl rfl T_) rfl (R_ 0 T_ rfl rfl rfl rfl rfl rfl (e_ (c_ rfl (h_ ?_)))))))))
  refine d_ (a_ (g_ rfl) rfl (a_ (X_ 0 bc_ Q_ rfl rfl rfl) rfl (x_ (dq_ (k := Pc.zf x1) (q := (uniq [] (List.take i p))) nc_ Tryz.runUnderlying139 cM_ rfl rfl hE (fun v h _ => (h.own _ (List.mem_of_getElem? (i := 2) rfl)).1)) rfl fun r2 hr2 => ?_)))
  refine a_ (bS_ rfl) rfl (e_ (c_ rfl ?_))
  cases r2
  ·
   replace hr2 := of_decide_eq_false hr2
   refine p_ rfl (h_ (d_ (a_ (g_ rfl) rfl (a_ (X_ 0 bc_ Q_ rfl rfl rfl) rfl (ey_ (k := Pc.zf x1) (q := (uniq [] (List.take i p))) 2 nc_ (.inr rfl) Tryz.runUnderlying139 rfl rfl rfl rfl hE fun es1 c1 hE1 => ?_)))))
   refine e_ (c_ rfl (d_ (a_ (g_ rfl) rfl (a_ (X_ 0 bc_ Q_ rfl rfl rfl) rfl (aa_ (mi_ (Pc.zf x1) (aF_ (uniq [] (List.take i p))) (am_ (uniq [] (List.take i p))) b10 b1 b2 b3 b4 b5 b6 b7 b8 b9 .nilFunc sv_L Hm H_L hm hr_L  hbp hbl) rfl (j_ (b_ f_) (A_ (b_ (b_ (b_ (b_ (b_ (b_ (b_ (b_ (b_ (b_ q_)))))))))) (b_ (b_ (b_ (b_ (b_ (b_ (b_ (b_ (b_ S_))))))))))) (fun _ _ _ => by exact trivial) rfl fun ⟨⟨lv1, HA1, HA2⟩, hA1, hA2⟩ => ?_)))))
   dsimp only
   simp only [List.cons_append, List.append_assoc]
   refine e_ (c_ rfl (ay_ (aV_ f_ (aV_ (k_ (k_ f_)) (aV_ (k_ (k_ f_)) (aV_ (k_ (k_ f_)) (aV_ (k_ (k_ f_)) (aV_ (k_ (k_ f_)) (aV_ (k_ (k_ f_)) (aV_ (k_ (k_ f_)) (aV_ (k_ (k_ f_)) (aV_ (k_ (k_ f_)) (cG_ (k_ aR_)))))))))))) (d_ (a_ (P_ rfl rfl rfl (an_ (by omega) (by omega))) rfl (a_ (g_ rfl) rfl (e_ (v_ rfl ?_)))))))
   exact ai_ ⟨(i + 1, es1, c1, HA1, lv1, HA2), hlx1, by rw [dV_ hx1]; exact hE1, by rw [dV_ hx1, if_neg (by assumption), lG_]; exact hA1, (by rw [dV_ hx1, if_neg (by assumption), iN_]; exact hA2)⟩ (by dsimp only; omega) ⟨rfl, rfl, rfl, rfl, rfl, trivial⟩ (j_ f_ (j_ (b_ f_) (j_ (b_ f_) (j_ (b_ f_) (j_ (b_ f_) (j_ (b_ f_) (j_ (b_ f_) (j_ (b_ f_) (j_ (b_ f_) (j_ (b_ f_) (A_ (b_ q_) S_))))))))))) (fun _ _ h => h)
  ·
   replace hr2 := of_decide_eq_true hr2
   refine s_ rfl (B_ (c_ rfl (d_ (a_ (P_ rfl rfl rfl (an_ (by omega) (by omega))) rfl (a_ (g_ rfl) rfl (e_ (v_ rfl ?_)))))))
   exact ai_ ⟨(i + 1, es, cs, Hm, sv_L, H_L), hlx1, by rw [dV_ hx1, if_pos (by assumption)]; exact hE, by rw [dV_ hx1, if_pos (by assumption)]; exact hm, (by rw [dV_ hx1, if_pos (by assumption)]; exact hr_L)⟩ (by dsimp only; omega) ⟨rfl, rfl, rfl, rfl, rfl, trivial⟩ (j_ (b_ f_) (j_ (b_ f_) (j_ (b_ f_) (j_ (b_ f_) (j_ (b_ f_) (j_ (b_ f_) (j_ (b_ f_) (j_ (b_ f_) (j_ (b_ f_) (j_ (b_ f_) (A_ (b_ q_) S_))))))))))) (fun _ _ h => h)
end Go.Proofs.YtpdbbglpbngeiaaGreatDoor
namespace Go.Proofs.YtpdbbglpbngeiaaGreatDoor
open Go Go.Sx Go.Proofs
attribute [local irreducible] Code.wp wpList wpAnyH
open Go.Vs
theorem hj_ {P : Program} {N : Nat} {fr : Fr} {H : Hp} {Γ : List Fct} {ty : TypeId} {K : Type} [DecidableEq K] {kv : K → Value} {t kt et : TypeId} {x : Operand} {mb c : Nat} {es : Array MapEntry} {q : List K} (hE : SetE kv es q) (hu : ∀ w, (underlying t).run P w = .ok (.map kt et) w) (hx : Fr.ev fr x = some (.map (some mb))) (hm : ∀ v, v.sat H → aD_ Γ v → v.w.heap[mb]? = some (.map es c)) :
    Yld P N fr H Γ (.call ⟨.builtin .len, #[x], #[t]⟩) ty (.int .i64 (q.length : Int)) := by
  rw [← hE.size]; exact mn_ hu hx hm
def andF (a b : Fct) : Fct where
  p v := a.p v ∧ b.p v
  mono := fun v v' h ⟨h1, h2⟩ => ⟨a.mono v v' h h1, b.mono v v' h h2⟩
def StA (b9 kb fb : Nat) (nw fm : List Fc) (H : Hp) : Prop := ∃ sv es c es' c' q Hq, H = (b9, .cells #[sv] 26 (0, 0)) :: (kb, .map es c) :: ([(fb, .map es' c')] ++ Hq) ∧ aS_ 41 6 sv nw.length (nw.flatMap Fc.cells) Hq ∧ SetE Fc.val es nw ∧ SetE Fc.val es' q ∧ ∀ f, f ∈ q ↔ f ∈ fm
theorem oi_ (f : Fc) (nw fm : List Fc) (m : Nat) (hm : m ≤ 65536) (g b7 b8 b9 kb fb : Nat) (c0 c1 c3 c4 c5 c6 c7 c8 c9 c10 sv : Value) (es es2 : Array MapEntry) (c c2 : Nat) (q : List Fc) (Hq : Hp) (hr : aS_ 41 6 sv nw.length (nw.flatMap Fc.cells) Hq) (hE : SetE Fc.val es nw) (hF : SetE Fc.val es2 q) (hq : ∀ f, f ∈ q ↔ f ∈ fm) : Tri Tryz.prog 55 #[Fc.val f, zp_ b7 0, zp_ b8 0, zp_ b9 0] ((b9, .cells #[sv] 26 (0, 0)) :: (kb, .map es c) :: ([(fb, .map es2 c2)] ++ Hq)) [dE_ b7 (.cells #[zp_ g 0] 85 (0, 0)), dE_ b8 (.cells #[.int .i64 (m : Int)] 3 (0, 0)), dE_ g (.cells #[c0, c1, .map (some kb), c3, c4, c5, c6, c7, c8, c9, c10] 94 (0, 0))] (fun _ : {H : Hp // StA b9 kb fb (be_ m f nw) fm H} => .tuple #[]) (fun y => y.1) (fun _ => []) := by
  refine J_ Tryz.func55 rfl rfl Tryz.ntmps55 rfl fun v0 => ?_
  refine h_ (d_ (bd_ rfl rfl fun b1 => ?_))
  refine e_ (c_ rfl (h_ ?_))
  refine az_ (by kernel_rfl) ?_
  refine ag_ 8 [0, 1, 2, 3, 4, 5, 6, 7] (by kernel_rfl) (fun _ a b => ⟨a, b⟩) (l_ rfl (U_ bK_ rfl (fun v _ h => by exact h.1) rfl) rfl (l_ rfl (ab_ rfl) rfl (l_ rfl (m_ w_ rfl rfl rfl bw_) rfl (l_ rfl (U_ bJ_ rfl (fun v _ h => by exact h.2.2.1) rfl) rfl (l_ rfl (hj_ hE aN_ rfl (fun v h _ => (h.own _ (List.mem_of_getElem? (i := 2) rfl)).1)) rfl (l_ rfl (U_ O_ rfl (fun v _ h => by exact h.2.1) rfl) rfl ?_))))))
  refine cq_ rfl (cS_ rfl rfl) rfl fun r1 hr1 => ?_
  refine l_ rfl (g_ rfl) rfl (af_ ?_)
  cases r1
  · skip
    replace hr1 := of_decide_eq_false hr1
    refine ag_ 0 [8, 9, 10, 11, 12, 13, 14, 15] (by kernel_rfl) (fun _ a b => ⟨a, b⟩) (cX_ rfl rfl rfl rfl rfl (cX_ rfl rfl rfl rfl rfl (cX_ rfl rfl rfl rfl rfl (cX_ rfl rfl rfl rfl rfl (cX_ rfl rfl rfl rfl rfl (cX_ rfl rfl rfl rfl rfl (cX_ rfl rfl rfl rfl rfl (l_ rfl (M_ rfl rfl) rfl (af_ ?_)))))))))
    refine Y_ (by kernel_rfl) (c_ rfl (s_ rfl (B_ (aW_ rfl ?_))))
    have e0 : be_ m f nw = nw := by unfold be_; rw [if_neg (by rintro ⟨q1, q2⟩; first | omega | exact absurd (by assumption) q2)]
    exact cw_ Tryz.results55 ⟨_, sv, es, c, es2, c2, q, Hq, rfl, by rw [e0]; exact hr, by rw [e0]; exact hE, hF, hq⟩ rfl (j_ (b_ f_) (j_ (b_ f_) (A_ (b_ q_) S_))) (fun _ _ _ => trivial)
  · skip
    replace hr1 := of_decide_eq_true hr1
    refine ag_ 0 [8, 9, 10, 11, 12, 13, 14, 15] (by kernel_rfl) (fun _ a b => ⟨a, b⟩) (cb_ rfl rfl rfl (U_ bK_ rfl (fun v _ h => by exact h.1) rfl) rfl (cb_ rfl rfl rfl (ab_ rfl) rfl (cb_ rfl rfl rfl (m_ w_ rfl rfl rfl bw_) rfl (cb_ rfl rfl rfl (U_ bJ_ rfl (fun v _ h => by exact h.2.2.1) rfl) rfl (cb_ rfl rfl rfl (X_ 0 ac_ G_ rfl rfl rfl) rfl ?_)))))
    refine hp_ rfl rfl rfl (dq_ (k := f) fk_ aN_ cM_ rfl rfl hE (fun v h _ => (h.own _ (List.mem_of_getElem? (i := 2) rfl)).1)) rfl fun r2 hr2 => ?_
    refine cb_ rfl rfl rfl (bS_ rfl) rfl (l_ rfl (W_ rfl rfl) rfl (af_ (Y_ (by kernel_rfl) (c_ rfl ?_))))
    cases r2
    · skip
      replace hr2 := of_decide_eq_false hr2
      refine p_ rfl (h_ ?_)
      refine aB_ ((b1, .cells (Fc.cells f).toArray 41 (0, 0)) :: ((b9, .cells #[sv] 26 (0, 0)) :: [])) (by kernel_rfl) ?_
      refine ag_ 1 [0, 1, 2, 3, 4] (by kernel_rfl) (fun _ a b => ⟨Vw.sat.sub (a.perm (j_ f_ f_)), b⟩) (l_ rfl (U_ bK_ rfl (fun v _ h => by exact h.1) rfl) rfl (l_ rfl (ab_ rfl) rfl (l_ rfl (m_ w_ rfl rfl rfl bw_) rfl (l_ rfl (U_ bJ_ rfl (fun v _ h => by exact h.2.2.1) rfl) rfl (l_ rfl (X_ 0 ac_ G_ rfl rfl rfl) rfl (af_ (N_ 5 rfl (by kernel_rfl) (ey_ (k := f) 2 fk_ (.inr rfl) aN_ rfl rfl rfl rfl hE fun ej1 cj1 hj1 => ?_))))))))
      refine e_ (v_ rfl (C_ (fun _ a b => ⟨Vw.sat.sub (a.perm (j_ f_ f_)), b⟩) (Y_ (by kernel_rfl) (c_ rfl (d_ (a_ (t_ 1 bi_ rfl rfl rfl) rfl (a_ (X_ 0 ac_ G_ rfl rfl rfl) rfl (aY_ L_ G_ bb_ rfl rfl rfl rfl rfl rfl fun b2 => ?_))))))))
      refine aU_ (news := List.flatMap Fc.cells [f]) jb_ hr rfl rfl (b_ (b_ (b_ (b_ aR_)))) rfl (cn_ 0 rfl) (fun u hu => bg_ Fc.cells_one hu) (by simp only [maxLen]; omega) (by omega) rfl fun sv1 Hr1 hr1 => ?_
      have hq1 : aS_ 41 6 sv1 (List.length (nw ++ [f])) (List.flatMap Fc.cells (nw ++ [f])) Hr1 := by rw [List.length_append, List.flatMap_append]; exact hr1
      refine ay_ (aV_ (k_ f_) (aV_ (k_ f_) (aV_ (k_ f_) (cG_ (k_ f_))))) (eR_ 2 hq1 bq_ rfl rfl rfl rfl (e_ (aW_ rfl ?_)))
      have e0 : be_ m f nw = nw ++ [f] := by unfold be_; rw [if_pos ⟨by omega, by assumption⟩]
      exact cw_ Tryz.results55 ⟨_, sv1, ej1, cj1, es2, c2, q, Hr1, rfl, by rw [e0]; exact hq1, by rw [e0]; rw [if_neg (by assumption)] at hj1; exact hj1, hF, hq⟩ rfl (j_ (b_ (b_ f_)) (j_ (b_ (b_ f_)) (A_ (b_ (b_ aR_)) (b_ S_)))) (fun _ _ _ => trivial)
    · skip
      replace hr2 := of_decide_eq_true hr2
      refine s_ rfl (B_ (aW_ rfl ?_))
      have e0 : be_ m f nw = nw := by unfold be_; rw [if_neg (by rintro ⟨q1, q2⟩; first | omega | exact absurd (by assumption) q2)]
      exact cw_ Tryz.results55 ⟨_, sv, es, c, es2, c2, q, Hq, rfl, by rw [e0]; exact hr, by rw [e0]; exact hE, hF, hq⟩ rfl (j_ (b_ f_) (j_ (b_ f_) (A_ (b_ q_) S_))) (fun _ _ _ => trivial)
end Go.Proofs.YtpdbbglpbngeiaaGreatDoor
namespace Go.Proofs.YtpdbbglpbngeiaaGreatDoor
open Go Go.Sx Go.Proofs
attribute [local irreducible] Code.wp wpList wpAnyH
open Go.Vs
def EA (m : Nat) (hm : m ≤ 65536) (B : EngB) (b7 b8 b9 kb fb : Nat) : Emt Tryz.prog 41 where
  stp := be_ m
  kof := idk
  St := StA b9 kb fb
  fn := 55
  caps := [zp_ b7 0, zp_ b8 0, zp_ b9 0]
  ef := andF (dE_ b7 (.cells #[zp_ B.g 0] 85 (0, 0))) (andF (dE_ b8 (.cells #[.int .i64 (m : Int)] 3 (0, 0))) (dE_ B.g (.cells #[.map (some B.pb), .slice B.lad B.lps.length B.lcap, .map (some kb), .func (.func 55) #[] #[zp_ b7 0, zp_ b8 0, zp_ b9 0], .map (some B.ab), .map (some B.ub), .map (some B.ob), .map (some B.ib), .map (some B.rb), .map (some B.sb), .map (some fb)] 94 (0, 0))))
  kb := kb
  fb := fb
  grows := dP_ m
  emit := fun f nw fm H hS => by
    obtain ⟨sv, es, c, es2, c2, q, Hq, rfl, h1, h2, h3, h4⟩ := hS
    exact ju_ [] (oi_ f nw fm m hm B.g b7 b8 b9 kb fb _ _ _ _ _ _ _ _ _ _ sv es es2 c c2 q Hq h1 h2 h3 h4) (fun v _ h => ⟨h.1.1, h.1.2.1, h.1.2.2, trivial⟩)
  known := fun hS => by
    obtain ⟨sv, es, c, es2, c2, q, Hq, rfl, h1, h2, h3, h4⟩ := hS
    exact ⟨es, c, by simp, h2⟩
  firm := fun hS => by
    obtain ⟨sv, es, c, es2, c2, q, Hq, rfl, h1, h2, h3, h4⟩ := hS
    exact ⟨es2, c2, q, by simp, h3, h4⟩
  setf := fun {nw fm H} f hS => by
    obtain ⟨sv, es, c, es2, c2, q, Hq, rfl, h1, h2, h3, h4⟩ := hS
    refine ⟨es2, c2, q, (b9, .cells #[sv] 26 (0, 0)) :: (kb, .map es c) :: Hq, cG_ (b_ (b_ f_)), h3, h4, fun es' c' h5 => ⟨(b9, .cells #[sv] 26 (0, 0)) :: (kb, .map es c) :: ([(fb, .map es' c')] ++ Hq), ⟨sv, es, c, es', c', _, Hq, rfl, h1, h2, h5, ?_⟩, cG_ (b_ (b_ f_))⟩⟩
    intro z
    split
    · rename_i hz; rw [h4, List.mem_cons]; constructor
      · exact .inr
      · rintro (rfl | h)
        · exact (h4 _).1 hz
        · exact h
    · rw [List.mem_append, List.mem_singleton, h4, List.mem_cons, or_comm]
end Go.Proofs.YtpdbbglpbngeiaaGreatDoor
namespace Go.Proofs.YtpdbbglpbngeiaaGreatDoor
open Go Go.Sx Go.Proofs
attribute [local irreducible] Code.wp wpList wpAnyH
open Go.Vs
def fvC (v : Value) : List Value := [v]
theorem fF_ (v : Value) : (fvC v).length = 1 := rfl
theorem lx_ {P : Program} {N : Nat} {fr : Fr} {H : Hp} {Γ : List Fct} {ty : TypeId} {t e : TypeId} {n sz : Nat} {parts : List (Nat × Operand)} {vs : List (Nat × Value)} {z cs : List Value} (hz : ∀ w, (zeroValue t).run P w = .ok (.agg z.toArray) w) (hu : ∀ w, (underlying t).run P w = .ok (.array n e) w) (hs : ∀ w, (sizeOf e).run P w = .ok sz w) (hx : Fr.evp fr parts = some vs) (hf : hT_ (fun i => some (i * sz, sz)) z vs = some cs) :
    Yld P N fr H Γ (.build t parts.toArray) ty (.agg cs.toArray) :=
  ij_ (fun a h1 w => by
    have := h1.evp hx
    rw [List.map_toArray, this]
    have hf' := gv_ _ _ _ _ hf
    simp only [Instr.build, Sem.run_bind, hz, Result.andThen_ok, hu, hs, Value.cells, hf', Sem.run_pure])
def rlV (g : Nat) (k : Nat) : List Value := if k = 1 then [(Value.func (.func 100) #[zp_ g 0] #[]), (Value.func (.func 101) #[zp_ g 0] #[]), (Value.func (.func 102) #[zp_ g 0] #[]), (Value.func (.func 103) #[zp_ g 0] #[]), (Value.func (.func 104) #[zp_ g 0] #[]), (Value.func (.func 105) #[zp_ g 0] #[])] else if k = 2 then [(Value.func (.func 106) #[zp_ g 0] #[]), (Value.func (.func 107) #[zp_ g 0] #[]), (Value.func (.func 108) #[zp_ g 0] #[]), (Value.func (.func 109) #[zp_ g 0] #[])] else [(Value.func (.func 110) #[zp_ g 0] #[]), (Value.func (.func 111) #[zp_ g 0] #[])]
theorem nK_ (g : Nat) : Tri Tryz.prog 58 #[zp_ g 0] [] [] (fun y : Nat × Nat × Nat => .agg #[.slice none 0 0, .slice (some ⟨y.1, 0, none⟩) 6 6, .slice (some ⟨y.2.1, 0, none⟩) 4 4, .slice (some ⟨y.2.2, 0, none⟩) 2 2]) (fun _ => []) (fun y => [ap_ (some ⟨y.1, 0, none⟩) (List.flatMap fvC (rlV g 1)), ap_ (some ⟨y.2.1, 0, none⟩) (List.flatMap fvC (rlV g 2)), ap_ (some ⟨y.2.2, 0, none⟩) (List.flatMap fvC (rlV g 3))]) := by
  refine J_ Tryz.func58 rfl rfl Tryz.ntmps58 rfl fun v0 => ?_
  refine h_ (d_ (ah_ Tryz.zeroValue98 rfl fun b1 => ?_))
  refine e_ (c_ rfl (h_ (d_ (a_ (g_ rfl) rfl (a_ (cd_ (us := [zp_ g 0]) (vs := []) rfl rfl) rfl (a_ (g_ rfl) rfl (a_ (cd_ (us := [zp_ g 0]) (vs := []) rfl rfl) rfl (a_ (g_ rfl) rfl (a_ (cd_ (us := [zp_ g 0]) (vs := []) rfl rfl) rfl ?_)))))))))
  refine a_ (g_ rfl) rfl (a_ (cd_ (us := [zp_ g 0]) (vs := []) rfl rfl) rfl (a_ (g_ rfl) rfl (a_ (cd_ (us := [zp_ g 0]) (vs := []) rfl rfl) rfl (a_ (g_ rfl) rfl (a_ (cd_ (us := [zp_ g 0]) (vs := []) rfl rfl) rfl (aY_ cf_ aC_ Tryz.zeroValue89 rfl rfl rfl rfl rfl rfl fun b2 => ?_))))))
  refine da_ (List.flatMap fvC [(Value.func (.func 100) #[zp_ g 0] #[]), (Value.func (.func 101) #[zp_ g 0] #[]), (Value.func (.func 102) #[zp_ g 0] #[]), (Value.func (.func 103) #[zp_ g 0] #[]), (Value.func (.func 104) #[zp_ g 0] #[]), (Value.func (.func 105) #[zp_ g 0] #[])]) f_ rfl ?_
  refine a_ (g_ rfl) rfl (a_ (cd_ (us := [zp_ g 0]) (vs := []) rfl rfl) rfl (a_ (g_ rfl) rfl (a_ (cd_ (us := [zp_ g 0]) (vs := []) rfl rfl) rfl (a_ (g_ rfl) rfl (a_ (cd_ (us := [zp_ g 0]) (vs := []) rfl rfl) rfl (a_ (g_ rfl) rfl (a_ (cd_ (us := [zp_ g 0]) (vs := []) rfl rfl) rfl (aY_ cf_ aC_ Tryz.zeroValue89 rfl rfl rfl rfl rfl rfl fun b3 => ?_))))))))
  refine da_ (List.flatMap fvC [(Value.func (.func 106) #[zp_ g 0] #[]), (Value.func (.func 107) #[zp_ g 0] #[]), (Value.func (.func 108) #[zp_ g 0] #[]), (Value.func (.func 109) #[zp_ g 0] #[])]) f_ rfl ?_
  refine a_ (g_ rfl) rfl (a_ (cd_ (us := [zp_ g 0]) (vs := []) rfl rfl) rfl (a_ (g_ rfl) rfl (a_ (cd_ (us := [zp_ g 0]) (vs := []) rfl rfl) rfl (aY_ cf_ aC_ Tryz.zeroValue89 rfl rfl rfl rfl rfl rfl fun b4 => ?_))))
  refine da_ (List.flatMap fvC [(Value.func (.func 110) #[zp_ g 0] #[]), (Value.func (.func 111) #[zp_ g 0] #[])]) f_ rfl ?_
  refine a_ (lx_ Tryz.zeroValue98 mE_ Tryz.sizeOf97 rfl rfl) rfl (R_ 0 Tryz.sizeOf98 rfl rfl rfl rfl rfl rfl (e_ (c_ rfl (D_ ?_))))
  exact dh_ (b2, b3, b4) (fun aa v h1 h2 => fy_ (us := [.slice none 0 0, .slice (some ⟨b2, 0, none⟩) (List.length [(Value.func (.func 100) #[zp_ g 0] #[]), (Value.func (.func 101) #[zp_ g 0] #[]), (Value.func (.func 102) #[zp_ g 0] #[]), (Value.func (.func 103) #[zp_ g 0] #[]), (Value.func (.func 104) #[zp_ g 0] #[]), (Value.func (.func 105) #[zp_ g 0] #[])]) 6, .slice (some ⟨b3, 0, none⟩) (List.length [(Value.func (.func 106) #[zp_ g 0] #[]), (Value.func (.func 107) #[zp_ g 0] #[]), (Value.func (.func 108) #[zp_ g 0] #[]), (Value.func (.func 109) #[zp_ g 0] #[])]) 4, .slice (some ⟨b4, 0, none⟩) (List.length [(Value.func (.func 110) #[zp_ g 0] #[]), (Value.func (.func 111) #[zp_ g 0] #[])]) 2]) 0 Tryz.results58 Tryz.isAgg98 Tryz.sizeOf98 rfl rfl rfl aa v h1 h2) F_ (fun v _ h => by exact ⟨h.2.2.1, h.2.1, h.1, trivial⟩)
end Go.Proofs.YtpdbbglpbngeiaaGreatDoor
namespace Go.Proofs.YtpdbbglpbngeiaaGreatDoor
open Go Go.Sx Go.Proofs
attribute [local irreducible] Code.wp wpList wpAnyH
open Go.Vs
theorem dO_ (B : EngB) (E : Emt Tryz.prog 41) (A0 : EngA) (pm : List (Ky × Pc)) (x : Ix) (f : Fc) (nw fm : List Fc) (Hs : Hp) (hS : E.St nw fm Hs) (Ha Hu Ho Hi Hr Hm : Hp) (hI : IxO 9 41 B x ⟨Ha, Hu, Ho, Hi, Hr, Hm⟩) {n : FuncId} {args : Array Value} {ret : Hp → Prop} (hT : ∀ A : EngA, A.p = A0.p → Tri Tryz.prog n args Hs [gF B E, pF B pm A, aF B x A, uF B x A, oF B x A, iF B x A, rF B x A, sF B x A, E.ef] (fun _ : {H' : Hp // ret H'} => .tuple #[]) (fun y => y.1) (fun _ => [])) :
    Tri Tryz.prog n args ((Ha ++ (Hu ++ (Ho ++ (Hi ++ (Hr ++ Hm))))) ++ Hs) [gF B E, pF B pm A0, E.ef] (fun _ : {H' : Hp // ret H'} => .tuple #[]) (fun y => (Ha ++ (Hu ++ (Ho ++ (Hi ++ (Hr ++ Hm))))) ++ y.1) (fun _ => []) := by
  obtain ⟨ha, hu, ho, hi, hr, hm⟩ := hI
  dsimp only at ha hu ho hi hr hm
  obtain ⟨a1, k1⟩ := ha.lent (P := Tryz.prog) go_
  obtain ⟨a2, k2⟩ := hu.lent (P := Tryz.prog) go_
  obtain ⟨a3, k3⟩ := ho.lent (P := Tryz.prog) ch_
  obtain ⟨a4, k4⟩ := hi.lent (P := Tryz.prog) ch_
  obtain ⟨a5, k5⟩ := hr.lent (P := Tryz.prog) ch_
  obtain ⟨a6, k6⟩ := hm.lent (P := Tryz.prog) ch_
  refine ju_ _ (hT ⟨A0.p, a1, a2, a3, a4, a5, a6⟩ rfl) fun v hB h => ⟨h.1, h.2.1, k1 v fun p hp => hB p (by simp [hp]), k2 v fun p hp => hB p (by simp [hp]), k3 v fun p hp => hB p (by simp [hp]), k4 v fun p hp => hB p (by simp [hp]), k5 v fun p hp => hB p (by simp [hp]), k6 v fun p hp => hB p (by simp [hp]), h.2.2.1, trivial⟩
theorem rl10_c (B : EngB) (E : Emt Tryz.prog 41) (A0 : EngA) (pm : List (Ky × Pc)) (x : Ix) (f : Fc) (nw fm : List Fc) (Hs : Hp) (hS : E.St nw fm Hs) (Ha Hu Ho Hi Hr Hm : Hp) (hI : IxO 9 41 B x ⟨Ha, Hu, Ho, Hi, Hr, Hm⟩) (hpl : ∀ k, (lat pm k).length ≤ 1000000000) (hxl : ∀ k, (lat x.above k).length ≤ 1000000000 ∧ (lat x.under k).length ≤ 1000000000) (hyl : ∀ k, (lat x.frm k).length ≤ 1000000000 ∧ (lat x.into k).length ≤ 1000000000 ∧ (lat x.ranges k).length ≤ 1000000000 ∧ (lat x.firms k).length ≤ 1000000000) (hf : f.kind = 3 → -1099511627776 ≤ f.lo ∧ f.lo ≤ f.hi ∧ f.hi ≤ 1099511627776) (hq : f.kind = 3 → ∀ y ∈ lat pm (Ky.mk 9 (Fc.r f) []), -1099511627776 ≤ y.lo ∧ y.lo ≤ y.hi ∧ y.hi ≤ 1099511627776) (hk : f.kind = 1) : Tri Tryz.prog 100 #[zp_ B.g 0, f.val] ((Ha ++ (Hu ++ (Ho ++ (Hi ++ (Hr ++ Hm))))) ++ Hs) [gF B E, pF B pm A0, E.ef] (fun _ : {H' : Hp // E.St (rl E.stp E.kof pm x f 0 (nw, fm)).1 (rl E.stp E.kof pm x f 0 (nw, fm)).2 H'} => .tuple #[]) (fun y => (Ha ++ (Hu ++ (Ho ++ (Hi ++ (Hr ++ Hm))))) ++ y.1) (fun _ => []) := by
  refine dO_ B E A0 pm x f nw fm Hs hS Ha Hu Ho Hi Hr Hm hI fun A hA => ?_
  have h := mf_ B E A pm x f nw fm Hs hS hpl hxl hyl
  have e : rl E.stp E.kof pm x f 0 (nw, fm) = _ := if_pos hk
  rw [e]
  exact h
theorem rl11_c (B : EngB) (E : Emt Tryz.prog 41) (A0 : EngA) (pm : List (Ky × Pc)) (x : Ix) (f : Fc) (nw fm : List Fc) (Hs : Hp) (hS : E.St nw fm Hs) (Ha Hu Ho Hi Hr Hm : Hp) (hI : IxO 9 41 B x ⟨Ha, Hu, Ho, Hi, Hr, Hm⟩) (hpl : ∀ k, (lat pm k).length ≤ 1000000000) (hxl : ∀ k, (lat x.above k).length ≤ 1000000000 ∧ (lat x.under k).length ≤ 1000000000) (hyl : ∀ k, (lat x.frm k).length ≤ 1000000000 ∧ (lat x.into k).length ≤ 1000000000 ∧ (lat x.ranges k).length ≤ 1000000000 ∧ (lat x.firms k).length ≤ 1000000000) (hf : f.kind = 3 → -1099511627776 ≤ f.lo ∧ f.lo ≤ f.hi ∧ f.hi ≤ 1099511627776) (hq : f.kind = 3 → ∀ y ∈ lat pm (Ky.mk 9 (Fc.r f) []), -1099511627776 ≤ y.lo ∧ y.lo ≤ y.hi ∧ y.hi ≤ 1099511627776) (hk : f.kind = 1) : Tri Tryz.prog 101 #[zp_ B.g 0, f.val] ((Ha ++ (Hu ++ (Ho ++ (Hi ++ (Hr ++ Hm))))) ++ Hs) [gF B E, pF B pm A0, E.ef] (fun _ : {H' : Hp // E.St (rl E.stp E.kof pm x f 1 (nw, fm)).1 (rl E.stp E.kof pm x f 1 (nw, fm)).2 H'} => .tuple #[]) (fun y => (Ha ++ (Hu ++ (Ho ++ (Hi ++ (Hr ++ Hm))))) ++ y.1) (fun _ => []) := by
  refine dO_ B E A0 pm x f nw fm Hs hS Ha Hu Ho Hi Hr Hm hI fun A hA => ?_
  have h := both_c B E A pm x f nw fm Hs hS hpl hxl hyl
  have e : rl E.stp E.kof pm x f 1 (nw, fm) = _ := if_pos hk
  rw [e]
  exact h
theorem rl12_c (B : EngB) (E : Emt Tryz.prog 41) (A0 : EngA) (pm : List (Ky × Pc)) (x : Ix) (f : Fc) (nw fm : List Fc) (Hs : Hp) (hS : E.St nw fm Hs) (Ha Hu Ho Hi Hr Hm : Hp) (hI : IxO 9 41 B x ⟨Ha, Hu, Ho, Hi, Hr, Hm⟩) (hpl : ∀ k, (lat pm k).length ≤ 1000000000) (hxl : ∀ k, (lat x.above k).length ≤ 1000000000 ∧ (lat x.under k).length ≤ 1000000000) (hyl : ∀ k, (lat x.frm k).length ≤ 1000000000 ∧ (lat x.into k).length ≤ 1000000000 ∧ (lat x.ranges k).length ≤ 1000000000 ∧ (lat x.firms k).length ≤ 1000000000) (hf : f.kind = 3 → -1099511627776 ≤ f.lo ∧ f.lo ≤ f.hi ∧ f.hi ≤ 1099511627776) (hq : f.kind = 3 → ∀ y ∈ lat pm (Ky.mk 9 (Fc.r f) []), -1099511627776 ≤ y.lo ∧ y.lo ≤ y.hi ∧ y.hi ≤ 1099511627776) (hk : f.kind = 1) : Tri Tryz.prog 102 #[zp_ B.g 0, f.val] ((Ha ++ (Hu ++ (Ho ++ (Hi ++ (Hr ++ Hm))))) ++ Hs) [gF B E, pF B pm A0, E.ef] (fun _ : {H' : Hp // E.St (rl E.stp E.kof pm x f 2 (nw, fm)).1 (rl E.stp E.kof pm x f 2 (nw, fm)).2 H'} => .tuple #[]) (fun y => (Ha ++ (Hu ++ (Ho ++ (Hi ++ (Hr ++ Hm))))) ++ y.1) (fun _ => []) := by
  refine dO_ B E A0 pm x f nw fm Hs hS Ha Hu Ho Hi Hr Hm hI fun A hA => ?_
  have h := some_c B E A pm x f nw fm Hs hS hpl hxl hyl
  have e : rl E.stp E.kof pm x f 2 (nw, fm) = _ := if_pos hk
  rw [e]
  exact h
theorem rl13_c (B : EngB) (E : Emt Tryz.prog 41) (A0 : EngA) (pm : List (Ky × Pc)) (x : Ix) (f : Fc) (nw fm : List Fc) (Hs : Hp) (hS : E.St nw fm Hs) (Ha Hu Ho Hi Hr Hm : Hp) (hI : IxO 9 41 B x ⟨Ha, Hu, Ho, Hi, Hr, Hm⟩) (hpl : ∀ k, (lat pm k).length ≤ 1000000000) (hxl : ∀ k, (lat x.above k).length ≤ 1000000000 ∧ (lat x.under k).length ≤ 1000000000) (hyl : ∀ k, (lat x.frm k).length ≤ 1000000000 ∧ (lat x.into k).length ≤ 1000000000 ∧ (lat x.ranges k).length ≤ 1000000000 ∧ (lat x.firms k).length ≤ 1000000000) (hf : f.kind = 3 → -1099511627776 ≤ f.lo ∧ f.lo ≤ f.hi ∧ f.hi ≤ 1099511627776) (hq : f.kind = 3 → ∀ y ∈ lat pm (Ky.mk 9 (Fc.r f) []), -1099511627776 ≤ y.lo ∧ y.lo ≤ y.hi ∧ y.hi ≤ 1099511627776) (hk : f.kind = 1) : Tri Tryz.prog 103 #[zp_ B.g 0, f.val] ((Ha ++ (Hu ++ (Ho ++ (Hi ++ (Hr ++ Hm))))) ++ Hs) [gF B E, pF B pm A0, E.ef] (fun _ : {H' : Hp // E.St (rl E.stp E.kof pm x f 3 (nw, fm)).1 (rl E.stp E.kof pm x f 3 (nw, fm)).2 H'} => .tuple #[]) (fun y => (Ha ++ (Hu ++ (Ho ++ (Hi ++ (Hr ++ Hm))))) ++ y.1) (fun _ => []) := by
  refine dO_ B E A0 pm x f nw fm Hs hS Ha Hu Ho Hi Hr Hm hI fun A hA => ?_
  have h := kK_ B E A pm x f nw fm Hs hS hpl hxl hyl
  have e : rl E.stp E.kof pm x f 3 (nw, fm) = _ := if_pos hk
  rw [e]
  exact h
theorem rl14_c (B : EngB) (E : Emt Tryz.prog 41) (A0 : EngA) (pm : List (Ky × Pc)) (x : Ix) (f : Fc) (nw fm : List Fc) (Hs : Hp) (hS : E.St nw fm Hs) (Ha Hu Ho Hi Hr Hm : Hp) (hI : IxO 9 41 B x ⟨Ha, Hu, Ho, Hi, Hr, Hm⟩) (hpl : ∀ k, (lat pm k).length ≤ 1000000000) (hxl : ∀ k, (lat x.above k).length ≤ 1000000000 ∧ (lat x.under k).length ≤ 1000000000) (hyl : ∀ k, (lat x.frm k).length ≤ 1000000000 ∧ (lat x.into k).length ≤ 1000000000 ∧ (lat x.ranges k).length ≤ 1000000000 ∧ (lat x.firms k).length ≤ 1000000000) (hf : f.kind = 3 → -1099511627776 ≤ f.lo ∧ f.lo ≤ f.hi ∧ f.hi ≤ 1099511627776) (hq : f.kind = 3 → ∀ y ∈ lat pm (Ky.mk 9 (Fc.r f) []), -1099511627776 ≤ y.lo ∧ y.lo ≤ y.hi ∧ y.hi ≤ 1099511627776) (hk : f.kind = 1) : Tri Tryz.prog 104 #[zp_ B.g 0, f.val] ((Ha ++ (Hu ++ (Ho ++ (Hi ++ (Hr ++ Hm))))) ++ Hs) [gF B E, pF B pm A0, E.ef] (fun _ : {H' : Hp // E.St (rl E.stp E.kof pm x f 4 (nw, fm)).1 (rl E.stp E.kof pm x f 4 (nw, fm)).2 H'} => .tuple #[]) (fun y => (Ha ++ (Hu ++ (Ho ++ (Hi ++ (Hr ++ Hm))))) ++ y.1) (fun _ => []) := by
  refine dO_ B E A0 pm x f nw fm Hs hS Ha Hu Ho Hi Hr Hm hI fun A hA => ?_
  have h := kf_ B E A pm x f nw fm Hs hS hpl hxl hyl
  have e : rl E.stp E.kof pm x f 4 (nw, fm) = _ := if_pos hk
  rw [e]
  exact h
theorem rl15_c (B : EngB) (E : Emt Tryz.prog 41) (A0 : EngA) (pm : List (Ky × Pc)) (x : Ix) (f : Fc) (nw fm : List Fc) (Hs : Hp) (hS : E.St nw fm Hs) (Ha Hu Ho Hi Hr Hm : Hp) (hI : IxO 9 41 B x ⟨Ha, Hu, Ho, Hi, Hr, Hm⟩) (hpl : ∀ k, (lat pm k).length ≤ 1000000000) (hxl : ∀ k, (lat x.above k).length ≤ 1000000000 ∧ (lat x.under k).length ≤ 1000000000) (hyl : ∀ k, (lat x.frm k).length ≤ 1000000000 ∧ (lat x.into k).length ≤ 1000000000 ∧ (lat x.ranges k).length ≤ 1000000000 ∧ (lat x.firms k).length ≤ 1000000000) (hf : f.kind = 3 → -1099511627776 ≤ f.lo ∧ f.lo ≤ f.hi ∧ f.hi ≤ 1099511627776) (hq : f.kind = 3 → ∀ y ∈ lat pm (Ky.mk 9 (Fc.r f) []), -1099511627776 ≤ y.lo ∧ y.lo ≤ y.hi ∧ y.hi ≤ 1099511627776) (hk : f.kind = 1) : Tri Tryz.prog 105 #[zp_ B.g 0, f.val] ((Ha ++ (Hu ++ (Ho ++ (Hi ++ (Hr ++ Hm))))) ++ Hs) [gF B E, pF B pm A0, E.ef] (fun _ : {H' : Hp // E.St (rl E.stp E.kof pm x f 5 (nw, fm)).1 (rl E.stp E.kof pm x f 5 (nw, fm)).2 H'} => .tuple #[]) (fun y => (Ha ++ (Hu ++ (Ho ++ (Hi ++ (Hr ++ Hm))))) ++ y.1) (fun _ => []) := by
  refine dO_ B E A0 pm x f nw fm Hs hS Ha Hu Ho Hi Hr Hm hI fun A hA => ?_
  have h := nD_ B E A pm x f nw fm Hs hS hpl hxl hyl
  have e : rl E.stp E.kof pm x f 5 (nw, fm) = _ := if_pos hk
  rw [e]
  exact h
theorem rl20_c (B : EngB) (E : Emt Tryz.prog 41) (A0 : EngA) (pm : List (Ky × Pc)) (x : Ix) (f : Fc) (nw fm : List Fc) (Hs : Hp) (hS : E.St nw fm Hs) (Ha Hu Ho Hi Hr Hm : Hp) (hI : IxO 9 41 B x ⟨Ha, Hu, Ho, Hi, Hr, Hm⟩) (hpl : ∀ k, (lat pm k).length ≤ 1000000000) (hxl : ∀ k, (lat x.above k).length ≤ 1000000000 ∧ (lat x.under k).length ≤ 1000000000) (hyl : ∀ k, (lat x.frm k).length ≤ 1000000000 ∧ (lat x.into k).length ≤ 1000000000 ∧ (lat x.ranges k).length ≤ 1000000000 ∧ (lat x.firms k).length ≤ 1000000000) (hf : f.kind = 3 → -1099511627776 ≤ f.lo ∧ f.lo ≤ f.hi ∧ f.hi ≤ 1099511627776) (hq : f.kind = 3 → ∀ y ∈ lat pm (Ky.mk 9 (Fc.r f) []), -1099511627776 ≤ y.lo ∧ y.lo ≤ y.hi ∧ y.hi ≤ 1099511627776) (hk : f.kind = 2) : Tri Tryz.prog 106 #[zp_ B.g 0, f.val] ((Ha ++ (Hu ++ (Ho ++ (Hi ++ (Hr ++ Hm))))) ++ Hs) [gF B E, pF B pm A0, E.ef] (fun _ : {H' : Hp // E.St (rl E.stp E.kof pm x f 0 (nw, fm)).1 (rl E.stp E.kof pm x f 0 (nw, fm)).2 H'} => .tuple #[]) (fun y => (Ha ++ (Hu ++ (Ho ++ (Hi ++ (Hr ++ Hm))))) ++ y.1) (fun _ => []) := by
  refine dO_ B E A0 pm x f nw fm Hs hS Ha Hu Ho Hi Hr Hm hI fun A hA => ?_
  have h := lY_ B E A pm x f nw fm Hs hS hpl hxl hyl
  have e : rl E.stp E.kof pm x f 0 (nw, fm) = _ := (if_neg (by rw [hk]; decide)).trans (if_pos hk)
  rw [e]
  exact h
theorem rl21_c (B : EngB) (E : Emt Tryz.prog 41) (A0 : EngA) (pm : List (Ky × Pc)) (x : Ix) (f : Fc) (nw fm : List Fc) (Hs : Hp) (hS : E.St nw fm Hs) (Ha Hu Ho Hi Hr Hm : Hp) (hI : IxO 9 41 B x ⟨Ha, Hu, Ho, Hi, Hr, Hm⟩) (hpl : ∀ k, (lat pm k).length ≤ 1000000000) (hxl : ∀ k, (lat x.above k).length ≤ 1000000000 ∧ (lat x.under k).length ≤ 1000000000) (hyl : ∀ k, (lat x.frm k).length ≤ 1000000000 ∧ (lat x.into k).length ≤ 1000000000 ∧ (lat x.ranges k).length ≤ 1000000000 ∧ (lat x.firms k).length ≤ 1000000000) (hf : f.kind = 3 → -1099511627776 ≤ f.lo ∧ f.lo ≤ f.hi ∧ f.hi ≤ 1099511627776) (hq : f.kind = 3 → ∀ y ∈ lat pm (Ky.mk 9 (Fc.r f) []), -1099511627776 ≤ y.lo ∧ y.lo ≤ y.hi ∧ y.hi ≤ 1099511627776) (hk : f.kind = 2) : Tri Tryz.prog 107 #[zp_ B.g 0, f.val] ((Ha ++ (Hu ++ (Ho ++ (Hi ++ (Hr ++ Hm))))) ++ Hs) [gF B E, pF B pm A0, E.ef] (fun _ : {H' : Hp // E.St (rl E.stp E.kof pm x f 1 (nw, fm)).1 (rl E.stp E.kof pm x f 1 (nw, fm)).2 H'} => .tuple #[]) (fun y => (Ha ++ (Hu ++ (Ho ++ (Hi ++ (Hr ++ Hm))))) ++ y.1) (fun _ => []) := by
  refine dO_ B E A0 pm x f nw fm Hs hS Ha Hu Ho Hi Hr Hm hI fun A hA => ?_
  have h := om_ B E A pm x f nw fm Hs hS hpl hxl hyl
  have e : rl E.stp E.kof pm x f 1 (nw, fm) = _ := (if_neg (by rw [hk]; decide)).trans (if_pos hk)
  rw [e]
  exact h
theorem rl22_c (B : EngB) (E : Emt Tryz.prog 41) (A0 : EngA) (pm : List (Ky × Pc)) (x : Ix) (f : Fc) (nw fm : List Fc) (Hs : Hp) (hS : E.St nw fm Hs) (Ha Hu Ho Hi Hr Hm : Hp) (hI : IxO 9 41 B x ⟨Ha, Hu, Ho, Hi, Hr, Hm⟩) (hpl : ∀ k, (lat pm k).length ≤ 1000000000) (hxl : ∀ k, (lat x.above k).length ≤ 1000000000 ∧ (lat x.under k).length ≤ 1000000000) (hyl : ∀ k, (lat x.frm k).length ≤ 1000000000 ∧ (lat x.into k).length ≤ 1000000000 ∧ (lat x.ranges k).length ≤ 1000000000 ∧ (lat x.firms k).length ≤ 1000000000) (hf : f.kind = 3 → -1099511627776 ≤ f.lo ∧ f.lo ≤ f.hi ∧ f.hi ≤ 1099511627776) (hq : f.kind = 3 → ∀ y ∈ lat pm (Ky.mk 9 (Fc.r f) []), -1099511627776 ≤ y.lo ∧ y.lo ≤ y.hi ∧ y.hi ≤ 1099511627776) (hk : f.kind = 2) : Tri Tryz.prog 108 #[zp_ B.g 0, f.val] ((Ha ++ (Hu ++ (Ho ++ (Hi ++ (Hr ++ Hm))))) ++ Hs) [gF B E, pF B pm A0, E.ef] (fun _ : {H' : Hp // E.St (rl E.stp E.kof pm x f 2 (nw, fm)).1 (rl E.stp E.kof pm x f 2 (nw, fm)).2 H'} => .tuple #[]) (fun y => (Ha ++ (Hu ++ (Ho ++ (Hi ++ (Hr ++ Hm))))) ++ y.1) (fun _ => []) := by
  refine dO_ B E A0 pm x f nw fm Hs hS Ha Hu Ho Hi Hr Hm hI fun A hA => ?_
  have h := kJ_ B E A pm x f nw fm Hs hS hpl hxl hyl
  have e : rl E.stp E.kof pm x f 2 (nw, fm) = _ := (if_neg (by rw [hk]; decide)).trans (if_pos hk)
  rw [e]
  exact h
theorem rl23_c (B : EngB) (E : Emt Tryz.prog 41) (A0 : EngA) (pm : List (Ky × Pc)) (x : Ix) (f : Fc) (nw fm : List Fc) (Hs : Hp) (hS : E.St nw fm Hs) (Ha Hu Ho Hi Hr Hm : Hp) (hI : IxO 9 41 B x ⟨Ha, Hu, Ho, Hi, Hr, Hm⟩) (hpl : ∀ k, (lat pm k).length ≤ 1000000000) (hxl : ∀ k, (lat x.above k).length ≤ 1000000000 ∧ (lat x.under k).length ≤ 1000000000) (hyl : ∀ k, (lat x.frm k).length ≤ 1000000000 ∧ (lat x.into k).length ≤ 1000000000 ∧ (lat x.ranges k).length ≤ 1000000000 ∧ (lat x.firms k).length ≤ 1000000000) (hf : f.kind = 3 → -1099511627776 ≤ f.lo ∧ f.lo ≤ f.hi ∧ f.hi ≤ 1099511627776) (hq : f.kind = 3 → ∀ y ∈ lat pm (Ky.mk 9 (Fc.r f) []), -1099511627776 ≤ y.lo ∧ y.lo ≤ y.hi ∧ y.hi ≤ 1099511627776) (hk : f.kind = 2) : Tri Tryz.prog 109 #[zp_ B.g 0, f.val] ((Ha ++ (Hu ++ (Ho ++ (Hi ++ (Hr ++ Hm))))) ++ Hs) [gF B E, pF B pm A0, E.ef] (fun _ : {H' : Hp // E.St (rl E.stp E.kof pm x f 3 (nw, fm)).1 (rl E.stp E.kof pm x f 3 (nw, fm)).2 H'} => .tuple #[]) (fun y => (Ha ++ (Hu ++ (Ho ++ (Hi ++ (Hr ++ Hm))))) ++ y.1) (fun _ => []) := by
  refine dO_ B E A0 pm x f nw fm Hs hS Ha Hu Ho Hi Hr Hm hI fun A hA => ?_
  have h := ke_ B E A pm x f nw fm Hs hS hpl hxl hyl
  have e : rl E.stp E.kof pm x f 3 (nw, fm) = _ := (if_neg (by rw [hk]; decide)).trans (if_pos hk)
  rw [e]
  exact h
theorem rl30_c (B : EngB) (E : Emt Tryz.prog 41) (A0 : EngA) (pm : List (Ky × Pc)) (x : Ix) (f : Fc) (nw fm : List Fc) (Hs : Hp) (hS : E.St nw fm Hs) (Ha Hu Ho Hi Hr Hm : Hp) (hI : IxO 9 41 B x ⟨Ha, Hu, Ho, Hi, Hr, Hm⟩) (hpl : ∀ k, (lat pm k).length ≤ 1000000000) (hxl : ∀ k, (lat x.above k).length ≤ 1000000000 ∧ (lat x.under k).length ≤ 1000000000) (hyl : ∀ k, (lat x.frm k).length ≤ 1000000000 ∧ (lat x.into k).length ≤ 1000000000 ∧ (lat x.ranges k).length ≤ 1000000000 ∧ (lat x.firms k).length ≤ 1000000000) (hf : f.kind = 3 → -1099511627776 ≤ f.lo ∧ f.lo ≤ f.hi ∧ f.hi ≤ 1099511627776) (hq : f.kind = 3 → ∀ y ∈ lat pm (Ky.mk 9 (Fc.r f) []), -1099511627776 ≤ y.lo ∧ y.lo ≤ y.hi ∧ y.hi ≤ 1099511627776) (hk : f.kind = 3) : Tri Tryz.prog 110 #[zp_ B.g 0, f.val] ((Ha ++ (Hu ++ (Ho ++ (Hi ++ (Hr ++ Hm))))) ++ Hs) [gF B E, pF B pm A0, E.ef] (fun _ : {H' : Hp // E.St (rl E.stp E.kof pm x f 0 (nw, fm)).1 (rl E.stp E.kof pm x f 0 (nw, fm)).2 H'} => .tuple #[]) (fun y => (Ha ++ (Hu ++ (Ho ++ (Hi ++ (Hr ++ Hm))))) ++ y.1) (fun _ => []) := by
  refine dO_ B E A0 pm x f nw fm Hs hS Ha Hu Ho Hi Hr Hm hI fun A hA => ?_
  have h := meet_c B E A pm x f nw fm Hs hS hpl hxl hyl
  have e : rl E.stp E.kof pm x f 0 (nw, fm) = _ := (if_neg (by rw [hk]; decide)).trans (if_neg (by rw [hk]; decide))
  rw [e]
  exact h
theorem rl31_c (B : EngB) (E : Emt Tryz.prog 41) (A0 : EngA) (pm : List (Ky × Pc)) (x : Ix) (f : Fc) (nw fm : List Fc) (Hs : Hp) (hS : E.St nw fm Hs) (Ha Hu Ho Hi Hr Hm : Hp) (hI : IxO 9 41 B x ⟨Ha, Hu, Ho, Hi, Hr, Hm⟩) (hpl : ∀ k, (lat pm k).length ≤ 1000000000) (hxl : ∀ k, (lat x.above k).length ≤ 1000000000 ∧ (lat x.under k).length ≤ 1000000000) (hyl : ∀ k, (lat x.frm k).length ≤ 1000000000 ∧ (lat x.into k).length ≤ 1000000000 ∧ (lat x.ranges k).length ≤ 1000000000 ∧ (lat x.firms k).length ≤ 1000000000) (hf : f.kind = 3 → -1099511627776 ≤ f.lo ∧ f.lo ≤ f.hi ∧ f.hi ≤ 1099511627776) (hq : f.kind = 3 → ∀ y ∈ lat pm (Ky.mk 9 (Fc.r f) []), -1099511627776 ≤ y.lo ∧ y.lo ≤ y.hi ∧ y.hi ≤ 1099511627776) (hk : f.kind = 3) : Tri Tryz.prog 111 #[zp_ B.g 0, f.val] ((Ha ++ (Hu ++ (Ho ++ (Hi ++ (Hr ++ Hm))))) ++ Hs) [gF B E, pF B pm A0, E.ef] (fun _ : {H' : Hp // E.St (rl E.stp E.kof pm x f 1 (nw, fm)).1 (rl E.stp E.kof pm x f 1 (nw, fm)).2 H'} => .tuple #[]) (fun y => (Ha ++ (Hu ++ (Ho ++ (Hi ++ (Hr ++ Hm))))) ++ y.1) (fun _ => []) := by
  refine dO_ B E A0 pm x f nw fm Hs hS Ha Hu Ho Hi Hr Hm hI fun A hA => ?_
  have h := out_c B E A pm x f nw fm Hs hS hpl hxl hyl (hf hk) (hq hk)
  have e : rl E.stp E.kof pm x f 1 (nw, fm) = _ := (if_neg (by rw [hk]; decide)).trans (if_neg (by rw [hk]; decide))
  rw [e]
  exact h
end Go.Proofs.YtpdbbglpbngeiaaGreatDoor
namespace Go.Proofs.YtpdbbglpbngeiaaGreatDoor
open Go Go.Sx Go.Proofs
attribute [local irreducible] Code.wp wpList wpAnyH
open Go.Vs
section
variable {N : Nat} {v0 : Vw} {H0 : Hp} {fr : Fr}
theorem jQ_ {k : Act → World → Prop} {F : Hp} : ∀ (B : Hp) {H : Hp} {Γ : List Fct}, H.Perm (B ++ F) → Ok N v0 H0 k fr F (B.reverse.map (fun p => dE_ p.1 p.2) ++ Γ) → Ok N v0 H0 k fr H Γ
  | [], H, Γ, hH, h => ay_ hH h
  | (b, o) :: B, H, Γ, hH, h => by
    refine fC_ (dE_ b o) (F := B ++ F) hH (fun _ h1 h2 _ => ⟨h1, h2⟩) ?_
    refine jQ_ B (.refl _) ?_
    simpa using h
end
end Go.Proofs.YtpdbbglpbngeiaaGreatDoor
namespace Go.Proofs.YtpdbbglpbngeiaaGreatDoor
open Go Go.Sx Go.Proofs
attribute [local irreducible] Code.wp wpList wpAnyH
open Go.Vs
theorem mc_ {P : Program} (w : World) (d : Nat) (t e : TypeId) (a : Option Addr) (l c : Nat) (h : P.underlying t = some (.slice e)) : (Op.equalIn (d + 1) t (.slice a l c) (.slice none 0 0)).run P w = .ok a.isNone w := by
  cases a <;> simp [Op.equalIn, run_underlying h]
theorem oh_ {P : Program} (w : World) (t e : TypeId) (a : Option Addr) (l c : Nat) (h : P.underlying t = some (.slice e)) : (Op.equal t (.slice a l c) (.slice none 0 0)).run P w = .ok a.isNone w := mc_ w 9999 t e a l c h
theorem jn_ {P : Program} {N : Nat} {fr : Fr} {H : Hp} {Γ : List Fct} {ty t t' e : TypeId} {x y : Operand} {ad : Option Addr} {m c : Nat} (hu : P.underlying t = some (.slice e)) (hx : Fr.ev fr x = some (.slice ad m c)) (hy : Fr.ev fr y = some (.slice none 0 0)) : Yld P N fr H Γ (.binOp .eql t x y t') ty (.bool (decide (ad = none))) :=
  fun a v h1 _ _ _ _ _ => by
    have he : decide (ad = none) = ad.isNone := by cases ad <;> simp
    simp [execOp, h1.ev hx, h1.ev hy, eqGuard, binOp, oh_ v.w t e ad m c hu, he]
theorem jC_ {v : Vw} {cs : List Value} (h : bD_ v none cs) : cs = [] := by
  rcases h with h | ⟨b, off, arr, T, fz, h1, _⟩
  · exact h
  · cases h1
theorem ho_ (b : Nat) (e : TypeId) (sz : Nat) : aS_ e sz (.slice (some ⟨b, 0, none⟩) 0 0) 0 [] [(b, .cells #[] e (0, 0))] := ⟨by simp, .inr ⟨b, 0, #[], rfl, rfl, Nat.le_refl _, by simp [maxLen], by simp, by simp⟩⟩
theorem nq_ (l : List Str) (ad : Option Addr) (cap : Nat) (hc : l.length ≤ cap) (hl : l.length ≤ 1000000000) : Tri Tryz.prog 97 #[.slice ad (List.length l) cap] [] [ap_ ad (List.flatMap aL_ l)] (fun y : {y : Value × Hp // aS_ 9 1 y.1 (List.length l) (List.flatMap aL_ l) y.2} => y.1.1) (fun y => y.1.2) (fun _ => []) := by
  refine J_ Tryz.func97 rfl rfl Tryz.ntmps97 rfl fun v0 => ?_
  refine h_ (d_ (a_ (i_ rfl) rfl (e_ (c_ rfl (h_ (h_ (d_ (a_ (g_ rfl) rfl (x_ (jn_ in_ rfl rfl) rfl fun r1 hr1 => ?_)))))))))
  refine e_ (c_ rfl ?_)
  cases r1
  · skip
    replace hr1 := of_decide_eq_false hr1
    refine s_ rfl (B_ (c_ rfl (h_ (d_ (gF_ H_ o_ rfl fun b1 => ?_)))))
    refine ay_ f_ (a_ (g_ rfl) rfl (dr_ (news := List.flatMap aL_ l) cE_ (ho_ b1 9 1) rfl rfl (fun q => absurd q hr1) hc aO_ (by rw [dc_ aL_ 1 ba_]) (fun v _ h => by exact h.1) (fun u hu => bg_ ce_ hu) (by simp only [maxLen]; omega) (by omega) rfl fun sv1 Hr1 hr1 => ?_))
    refine ay_ List.perm_append_comm ?_
    have hq1 : aS_ 9 1 sv1 (List.length (([] : List Str) ++ l)) (List.flatMap aL_ (([] : List Str) ++ l)) Hr1 := by rw [List.length_append, List.flatMap_append]; exact hr1
    refine a_ (i_ rfl) rfl (e_ (c_ rfl (D_ ?_)))
    exact aA_ Tryz.results97 ⟨(sv1, Hr1), by simpa using hq1⟩ rfl aO_ (fun _ _ _ => trivial)
  · skip
    replace hr1 := of_decide_eq_true hr1
    refine p_ rfl (h_ (d_ (a_ (i_ rfl) rfl (e_ (c_ rfl (D_ (mS_ (p := List.flatMap aL_ l = []) (fun v _ h => by have q := h.1; subst hr1; exact jC_ q) fun hz => ?_)))))))
    have hz2 : l = [] := List.eq_nil_of_length_eq_zero (by have := congrArg List.length hz; rwa [dc_ aL_ 1 ba_, Nat.mul_one] at this)
    exact aA_ Tryz.results97 ⟨(.slice none 0 0, []), by subst hz2; exact aS_.nil _ _⟩ rfl F_ (fun _ _ _ => trivial)
def atS (p : List Pc) : List Str := Lib.compact ((dd_ p ++ [[42], [33]]).mergeSort fun x y => decide (x ≤ y))
theorem ln_ (p : List Pc) : (atS p).length ≤ 3 * p.length + 2 := by
  have := fq_ ((dd_ p ++ [[42], [33]]).mergeSort fun x y => decide (x ≤ y))
  have h2 := dH_ p
  rw [List.length_mergeSort, List.length_append] at this
  simp only [List.length_cons, List.length_nil] at this
  unfold atS; omega
theorem je_ (p : List Pc) : (atS p).Pairwise fun x y => x < y := kL_ (my_ _)
theorem jd_ (p : List Pc) (x : Str) : x ∈ atS p ↔ x ∈ dd_ p ∨ x = [42] ∨ x = [33] := by
  unfold atS
  rw [gR_, List.mem_mergeSort, List.mem_append]
  simp
theorem atS_c (p : List Pc) (pad : Option Addr) (pcap : Nat) (hp : p.length ≤ 100000000) : Tri Tryz.prog 56 #[.slice pad (List.length p) pcap] [] [ap_ pad (List.flatMap Pc.cells p)] (fun y : {y : Option Addr × Nat // (atS p).length ≤ y.2 ∧ y.2 ≤ maxLen ∧ (y.1 = none → y.2 = 0)} => .slice y.1.1 (atS p).length y.1.2) (fun _ => []) (fun y => [ap_ y.1.1 ((atS p).flatMap aL_)]) := by
  refine J_ Tryz.func56 rfl rfl Tryz.ntmps56 rfl fun v0 => ?_
  refine h_ (d_ (a_ (i_ rfl) rfl (e_ (c_ rfl (h_ (d_ (a_ (g_ rfl) rfl (aa_ (oq_ p pad pcap (by omega)) rfl F_ (fun v _ h => by exact ⟨h.1, trivial⟩) rfl fun ⟨⟨aad, acap⟩, hac, ham⟩ => ?_))))))))
  dsimp only
  refine aa_ (nq_ (dd_ p) aad acap hac (by have := dH_ p; omega)) rfl F_ (fun v _ h => by exact ⟨h.1, trivial⟩) rfl fun ⟨⟨svc, Hcl⟩, hcl⟩ => ?_
  dsimp only
  refine ay_ fA_ (aY_ H_ o_ bn_ rfl rfl rfl rfl rfl rfl fun b1 => ?_)
  refine aU_ (news := List.flatMap aL_ [[42], [33]]) cE_ hcl rfl rfl S_ rfl (cn_ 0 rfl) (fun u hu => bg_ ce_ hu) (by simp only [maxLen]; (have := dH_ p; (try simp only [List.length_append, List.length_cons, List.length_nil]); omega)) (by (have := dH_ p; (try simp only [List.length_append, List.length_cons, List.length_nil]); omega)) rfl fun sv1 Hr1 hr1 => ?_
  refine ay_ List.perm_append_comm ?_
  have hq1 : aS_ 9 1 sv1 (List.length ((dd_ p) ++ [[42], [33]])) (List.flatMap aL_ ((dd_ p) ++ [[42], [33]])) Hr1 := by rw [List.length_append, List.flatMap_append]; exact hr1
  refine a_ (i_ rfl) rfl (e_ (c_ rfl (h_ (d_ (a_ (g_ rfl) rfl (aa_ (kX_ hq1 (by (have := dH_ p; (try simp only [List.length_append, List.length_cons, List.length_nil]); omega))) rfl S_ (fun _ _ _ => by exact trivial) rfl fun ⟨Hso1, hs1⟩ => ?_))))))
  dsimp only
  have hso1 : aS_ 9 1 sv1 (List.length ((((dd_ p) ++ [[42], [33]])).mergeSort fun x y => decide (x ≤ y))) (List.flatMap aL_ ((((dd_ p) ++ [[42], [33]])).mergeSort fun x y => decide (x ≤ y))) Hso1 := by rw [List.length_mergeSort]; exact hs1
  refine e_ (c_ rfl (ay_ (cG_ aR_) (h_ (d_ (a_ (g_ rfl) rfl (aa_ (hV_ hso1 (by rw [List.length_mergeSort]; (have := dH_ p; (try simp only [List.length_append, List.length_cons, List.length_nil]); omega))) rfl S_ (fun _ _ _ => by exact trivial) rfl fun ⟨⟨svk2, Hk2⟩, hk2⟩ => ?_))))))
  dsimp only
  refine a_ (i_ rfl) rfl (e_ (c_ rfl (D_ (cj_ hk2 q_ fun ad2 cp2 had2 hcad2 hmad2 hzad2 => ?_))))
  exact aA_ Tryz.results56 ⟨(ad2, cp2), hcad2, hmad2, hzad2⟩ (eU_ rfl had2) F_ (fun v _ h => ⟨h.1, trivial⟩)
end Go.Proofs.YtpdbbglpbngeiaaGreatDoor
namespace Go.Proofs
open Go.Shelf
def Tryz.sortFc_ren : Go.Shelf.Ren := ⟨fun | 6 => 60 | 15 => 113 | 14 => 112 | 28 => 152 | 29 => 153 | 20 => 144 | 21 => 145 | 22 => 146 | 23 => 147 | 24 => 148 | 25 => 149 | 26 => 150 | 27 => 151 | 46 => 185 | 47 => 186 | 48 => 187 | 49 => 188 | 50 => 189 | 57 => 207 | n => n, fun | 22 => 26 | 24 => 41 | 25 => 101 | 3 => 3 | 39 => 45 | 0 => 0 | 53 => 65 | 55 => 186 | 4 => 4 | 46 => 178 | 45 => 177 | 50 => 182 | 5 => 5 | 9 => 9 | 66 => 205 | 70 => 199 | 76 => 227 | 77 => 228 | n => n, fun | n => n⟩
theorem Tryz.sortFc : Go.Proofs.SlLaysF0.n6 Tryz.prog Tryz.sortFc_ren := {
 mixed := by kernel_rfl
 f6 := ⟨Tryz.f60.name, by decide, Tryz.func60.trans (congrArg some (by kernel_rfl))⟩
 f14 := ⟨Tryz.f112.name, by decide, Tryz.func112.trans (congrArg some (by kernel_rfl))⟩
 f15 := Tryz.func113.trans (congrArg some (by kernel_rfl))
 f20 := ⟨Tryz.f144.name, by decide, Tryz.func144.trans (congrArg some (by kernel_rfl))⟩
 f21 := ⟨Tryz.f145.name, by decide, Tryz.func145.trans (congrArg some (by kernel_rfl))⟩
 f22 := ⟨Tryz.f146.name, by decide, Tryz.func146.trans (congrArg some (by kernel_rfl))⟩
 f23 := ⟨Tryz.f147.name, by decide, Tryz.func147.trans (congrArg some (by kernel_rfl))⟩
 f24 := ⟨Tryz.f148.name, by decide, Tryz.func148.trans (congrArg some (by kernel_rfl))⟩
 f25 := ⟨Tryz.f149.name, by decide, Tryz.func149.trans (congrArg some (by kernel_rfl))⟩
 f26 := ⟨Tryz.f150.name, by decide, Tryz.func150.trans (congrArg some (by kernel_rfl))⟩
 f27 := ⟨Tryz.f151.name, by decide, Tryz.func151.trans (congrArg some (by kernel_rfl))⟩
 f28 := Tryz.func152.trans (congrArg some (by kernel_rfl))
 f29 := Tryz.func153.trans (congrArg some (by kernel_rfl))
 f46 := ⟨Tryz.f185.name, by decide, Tryz.func185.trans (congrArg some (by kernel_rfl))⟩
 f47 := Tryz.func186.trans (congrArg some (by kernel_rfl))
 f48 := Tryz.func187.trans (congrArg some (by kernel_rfl))
 f49 := ⟨Tryz.f188.name, by decide, Tryz.func188.trans (congrArg some (by kernel_rfl))⟩
 f50 := ⟨Tryz.f189.name, by decide, Tryz.func189.trans (congrArg some (by kernel_rfl))⟩
 f57 := ⟨Tryz.f207.name, by decide, Tryz.func207.trans (congrArg some (by kernel_rfl))⟩
 t0 := Tryz.underlying0
 a0 := Tryz.isAgg0
 z0 := Tryz.sizeOf0
 v0 := Tryz.zeroValue0
 t3 := Tryz.underlying3
 a3 := Tryz.isAgg3
 z3 := Tryz.sizeOf3
 v3 := Tryz.zeroValue3
 t4 := Tryz.underlying4
 a4 := Tryz.isAgg4
 z4 := Tryz.sizeOf4
 v4 := Tryz.zeroValue4
 t5 := Tryz.underlying5
 a5 := Tryz.isAgg5
 z5 := Tryz.sizeOf5
 v5 := Tryz.zeroValue5
 t9 := Tryz.underlying9
 a9 := Tryz.isAgg9
 z9 := Tryz.sizeOf9
 v9 := Tryz.zeroValue9
 t22 := Tryz.underlying26
 a22 := Tryz.isAgg26
 z22 := Tryz.sizeOf26
 v22 := Tryz.zeroValue26
 t25 := Tryz.underlying101
 a25 := Tryz.isAgg101
 z25 := Tryz.sizeOf101
 v25 := Tryz.zeroValue101
 t39 := Tryz.underlying45
 a39 := Tryz.isAgg45
 z39 := Tryz.sizeOf45
 v39 := Tryz.zeroValue45
 t45 := Tryz.underlying177
 a45 := Tryz.isAgg177
 z45 := Tryz.sizeOf177
 v45 := Tryz.zeroValue177
 t46 := Tryz.underlying178
 a46 := Tryz.isAgg178
 z46 := Tryz.sizeOf178
 v46 := Tryz.zeroValue178
 t50 := Tryz.underlying182
 a50 := Tryz.isAgg182
 z50 := Tryz.sizeOf182
 v50 := Tryz.zeroValue182
 t53 := Tryz.underlying65
 a53 := Tryz.isAgg65
 z53 := Tryz.sizeOf65
 v53 := Tryz.zeroValue65
 t55 := Tryz.underlying186
 a55 := Tryz.isAgg186
 z55 := Tryz.sizeOf186
 v55 := Tryz.zeroValue186
 t66 := Tryz.underlying205
 a66 := Tryz.isAgg205
 z66 := Tryz.sizeOf205
 v66 := Tryz.zeroValue205
 t70 := Tryz.underlying199
 a70 := Tryz.isAgg199
 z70 := Tryz.sizeOf199
 v70 := Tryz.zeroValue199
 t76 := Tryz.underlying227
 a76 := Tryz.isAgg227
 z76 := Tryz.sizeOf227
 v76 := Tryz.zeroValue227
 t77 := Tryz.underlying228
 a77 := Tryz.isAgg228
 z77 := Tryz.sizeOf228
 v77 := Tryz.zeroValue228 }
end Go.Proofs
namespace Go.Proofs.YtpdbbglpbngeiaaGreatDoor
open Go Go.Sx Go.Proofs
attribute [local irreducible] Code.wp wpList wpAnyH
open Go.Vs
instance : Inhabited Fc := ⟨⟨0, [], [], [], 0, 0⟩⟩
theorem hY_ (x y : Int) : Fn0 Tryz.prog 115 #[.int .i64 x, .int .i64 y] (.int .i64 (Lib.compareInt x y)) :=
  dw_ (callable Tryz.func115 rfl rfl) fun v _ _ => (Tryz.cmp_Compare_int x y v.w).mono (by rintro e w' ⟨rfl, rfl⟩; exact ⟨rfl, ⟨rfl, rfl, rfl, Nat.le_refl _, fun _ _ => rfl⟩, .inr (Nat.le_refl _)⟩)
theorem hX_ (x y : Str) : Fn0 Tryz.prog 71 #[str x, str y] (.int .i64 (Lib.compareBytes x y)) :=
  dw_ (callable Tryz.func71 rfl rfl) fun v _ _ => (Tryz.strings_Compare ⟨x.toArray⟩ ⟨y.toArray⟩ v.w).mono (by rintro e w' ⟨rfl, rfl⟩; exact ⟨rfl, ⟨rfl, rfl, rfl, Nat.le_refl _, fun _ _ => rfl⟩, .inr (Nat.le_refl _)⟩)
def orF : List Int → Int
  | [] => 0
  | x :: l => if x = 0 then orF l else x
theorem mP_ : ∀ {l : List Int} {i : Nat} {x : Int}, (∀ y ∈ l.take i, y = 0) → l[i]? = some x → x ≠ 0 → orF l = x
  | [], _, _, _, h, _ => by simp at h
  | y :: l, 0, x, _, h, hx => by simp at h; subst h; simp [orF, hx]
  | y :: l, i + 1, x, h0, h, hx => by
    have hy : y = 0 := h0 y (by simp)
    rw [orF, if_pos hy]
    exact mP_ (i := i) (fun z hz => h0 z (by rw [List.take_succ_cons]; exact List.mem_cons_of_mem _ hz)) (by simpa using h) hx
theorem jM_ : ∀ {l : List Int}, (∀ y ∈ l, y = 0) → orF l = 0
  | [], _ => rfl
  | y :: l, h => by rw [orF, if_pos (h y (by simp))]; exact jM_ fun z hz => h z (by simp [hz])
theorem cI_neg (x y : Int) : Lib.compareInt x y < 0 ↔ x < y := by unfold Lib.compareInt; (repeat' split) <;> omega
theorem on_ (x y : Int) : Lib.compareInt x y = 0 ↔ x = y := by unfold Lib.compareInt; (repeat' split) <;> omega
theorem nt_ : ∀ (x y : Str), Lib.compareBytes x y < 0 ↔ x < y
  | [], [] => by simp [Lib.compareBytes]
  | [], b :: y => by simp [Lib.compareBytes]
  | a :: x, [] => by simp [Lib.compareBytes]
  | a :: x, b :: y => by
    rw [Lib.compareBytes, List.cons_lt_cons_iff]
    by_cases h1 : a < b
    · rw [if_pos h1]; simp [h1]
    · by_cases h2 : b < a
      · rw [if_neg h1, if_pos h2]
        have : a ≠ b := fun e => by subst e; exact h1 h2
        simp [h1, this]
      · have e : a = b := UInt8.le_antisymm (UInt8.not_lt.1 h2) (UInt8.not_lt.1 h1)
        rw [if_neg h1, if_neg h2, nt_ x y]; simp [e]
theorem lm_ : ∀ (x y : Str), Lib.compareBytes x y = 0 ↔ x = y
  | [], [] => by simp [Lib.compareBytes]
  | [], b :: y => by simp [Lib.compareBytes]
  | a :: x, [] => by simp [Lib.compareBytes]
  | a :: x, b :: y => by
    rw [Lib.compareBytes]
    by_cases h1 : a < b
    · rw [if_pos h1]
      have : a ≠ b := fun e => by subst e; exact absurd h1 (UInt8.lt_irrefl a)
      simp [this]
    · by_cases h2 : b < a
      · rw [if_neg h1, if_pos h2]
        have : a ≠ b := fun e => by subst e; exact h1 h2
        simp [this]
      · have e : a = b := UInt8.le_antisymm (UInt8.not_lt.1 h2) (UInt8.not_lt.1 h1)
        rw [if_neg h1, if_neg h2, lm_ x y]; simp [e]
def gZ_ (x y : Fc) : Int := orF [Lib.compareInt x.kind y.kind, Lib.compareBytes x.a y.a, Lib.compareBytes x.b y.b, Lib.compareBytes x.r y.r, Lib.compareInt x.lo y.lo, Lib.compareInt x.hi y.hi]
theorem fB_ (x : Int) (l : List Int) : orF (x :: l) < 0 ↔ x < 0 ∨ x = 0 ∧ orF l < 0 := by
  rw [orF]; split <;> omega
theorem np_ (x y : Fc) : gZ_ x y < 0 ↔ x.lt y := by
  unfold gZ_ Fc.lt
  rw [fB_, fB_, fB_, fB_, fB_, fB_]
  simp only [cI_neg, on_, nt_, lm_, orF, Int.lt_irrefl, and_false, or_false]
theorem orF_c (l : List Int) (ad : Option Addr) (cap : Nat) (hl : l.length ≤ 1000) : Tri Tryz.prog 114 #[.slice ad (List.length l) cap] [] [ap_ ad (List.flatMap fm_ l)] (fun _ : Unit => .int .i64 (orF l)) (fun _ => []) (fun _ => []) := by
  refine J_ Tryz.func114 rfl rfl Tryz.ntmps114 rfl fun v0 => ?_
  refine h_ (d_ (a_ (i_ rfl) rfl (e_ (c_ rfl (h_ (d_ (a_ (i_ rfl) rfl (e_ (c_ rfl ?_)))))))))
  refine h_ (h_ (d_ (a_ (g_ rfl) rfl (a_ (ae_ cg_ rfl) rfl (a_ (g_ rfl) rfl (e_ (c_ rfl (K_ ?_))))))))
  refine ax_ (ι := {y : Nat // y ≤ l.length ∧ ∀ z ∈ l.take y, z = 0}) (fun y => [(3, .int .i64 0), (6, .slice ad (List.length l) cap), (7, .int .i64 (List.length l : Int)), (8, .int .i64 (y.1 : Int))]) (fun y => ([])) (fun y => [ap_ ad (List.flatMap fm_ l)]) (fun y => l.length - y.1) ⟨(0 : Nat), by simp, by simp⟩ ⟨rfl, rfl, rfl, rfl, trivial⟩ F_ (fun _ _ h => h) ?_
  rintro ⟨i, hi, h0⟩
  dsimp only at hi h0 ⊢
  refine h_ (d_ (x_ (ar_ rfl rfl) rfl fun r1 hr1 => ?_))
  refine e_ (c_ rfl (h_ ?_))
  cases r1
  · skip
    replace hr1 := of_decide_eq_false hr1
    refine s_ rfl (au_ rfl (c_ rfl (h_ (d_ (a_ (g_ rfl) rfl (a_ (i_ rfl) rfl (e_ (c_ rfl (D_ ?_)))))))))
    exact aA_ Tryz.results114 () (ci_ rfl (jM_ fun y hy => h0 y (by rw [List.take_of_length_le (by omega)]; exact hy)).symm) F_ (fun _ _ _ => trivial)
  · skip
    replace hr1 := of_decide_eq_true hr1
    have hlx1 : i < List.length l := by omega
    obtain ⟨x1, hx1⟩ : ∃ e0, l[i]? = some e0 := ⟨_, List.getElem?_eq_getElem hlx1⟩
    have hmx1 : x1 ∈ l := List.mem_of_getElem? hx1
    refine p_ rfl (B_ (c_ rfl (h_ (K_ (h_ (d_ (a_ (al_ cg_ T_ rfl rfl (fun v _ h => aG_ (n := 1) eC_ (by decide) (by exact h.1) hx1) (by omega) (by first | omega | (simp; done))) rfl (a_ (bu_ (ad := ad) O_ rfl (fun v _ h => by exact h.1) (ao_ eC_ hx1 0 _ rfl)) rfl (a_ (i_ rfl) rfl ?_)))))))))
    refine e_ (c_ rfl (h_ (d_ (a_ (g_ rfl) rfl (a_ (g_ rfl) rfl (x_ (bC_ rfl rfl) rfl fun r2 hr2 => ?_))))))
    refine e_ (c_ rfl ?_)
    cases r2
    · skip
      replace hr2 := aQ_ hr2
      refine s_ rfl (B_ (c_ rfl (d_ (a_ (P_ rfl rfl rfl (an_ (by omega) (by omega))) rfl (a_ (g_ rfl) rfl (e_ (v_ rfl ?_)))))))
      exact ai_ ⟨i + 1, hlx1, fun y hy => by rw [List.take_add_one, hx1] at hy; simp only [Option.toList_some, List.mem_append, List.mem_singleton] at hy; rcases hy with hy | rfl; exact h0 y hy; omega⟩ (by dsimp only; omega) ⟨rfl, rfl, rfl, rfl, trivial⟩ F_ (fun _ _ h => h)
    · skip
      replace hr2 := aP_ hr2
      refine p_ rfl (h_ (d_ (a_ (g_ rfl) rfl (a_ (i_ rfl) rfl (e_ (c_ rfl (D_ ?_)))))))
      exact aA_ Tryz.results114 () (ci_ rfl (mP_ h0 hx1 (by assumption)).symm) F_ (fun _ _ _ => trivial)
theorem cmpF_c (x y : Fc) : Fn0 Tryz.prog 61 #[Fc.val x, Fc.val y] (.int .i64 (gZ_ x y)) := by
  refine J_ Tryz.func61 rfl rfl Tryz.ntmps61 rfl fun v0 => ?_
  refine h_ (d_ (bd_ rfl rfl fun b1 => ?_))
  refine bd_ rfl rfl fun b2 => ?_
  refine a_ (i_ rfl) rfl (e_ (c_ rfl (h_ ?_)))
  refine az_ (by kernel_rfl) ?_
  refine ag_ 9 [0, 1, 2, 3, 5, 6, 7, 8, 10, 11, 12, 13, 15, 16, 17, 18, 20, 21, 22, 23, 25, 26, 27, 28] (by kernel_rfl) (fun _ a b => ⟨a, b⟩) (l_ rfl (m_ n_ rfl rfl rfl T_) rfl (l_ rfl (t_ 1 O_ rfl rfl rfl) rfl (l_ rfl (m_ n_ rfl rfl rfl T_) rfl (l_ rfl (t_ 0 O_ rfl rfl rfl) rfl (l_ rfl (m_ n_ rfl rfl rfl o_) rfl (l_ rfl (t_ 1 u_ rfl rfl rfl) rfl (l_ rfl (m_ n_ rfl rfl rfl o_) rfl (l_ rfl (t_ 0 u_ rfl rfl rfl) rfl (l_ rfl (m_ n_ rfl rfl rfl o_) rfl ?_)))))))))
  refine l_ rfl (t_ 1 u_ rfl rfl rfl) rfl (l_ rfl (m_ n_ rfl rfl rfl o_) rfl (l_ rfl (t_ 0 u_ rfl rfl rfl) rfl (l_ rfl (m_ n_ rfl rfl rfl o_) rfl (l_ rfl (t_ 1 u_ rfl rfl rfl) rfl (l_ rfl (m_ n_ rfl rfl rfl o_) rfl (l_ rfl (t_ 0 u_ rfl rfl rfl) rfl (l_ rfl (m_ n_ rfl rfl rfl T_) rfl (l_ rfl (t_ 1 O_ rfl rfl rfl) rfl (l_ rfl (m_ n_ rfl rfl rfl T_) rfl ?_)))))))))
  refine l_ rfl (t_ 0 O_ rfl rfl rfl) rfl (l_ rfl (m_ n_ rfl rfl rfl T_) rfl (l_ rfl (t_ 1 O_ rfl rfl rfl) rfl (l_ rfl (m_ n_ rfl rfl rfl T_) rfl (l_ rfl (t_ 0 O_ rfl rfl rfl) rfl (af_ (N_ 4 rfl (by kernel_rfl) (aa_ (hY_ (Fc.kind x) (Fc.kind y)) rfl F_ (fun _ _ _ => by exact trivial) rfl fun _ => ?_)))))))
  refine e_ (v_ rfl (C_ (fun _ a b => ⟨a, b⟩) (N_ 9 rfl (by kernel_rfl) (aa_ (hX_ (Fc.a x) (Fc.a y)) rfl F_ (fun _ _ _ => by exact trivial) rfl fun _ => ?_))))
  refine e_ (v_ rfl (C_ (fun _ a b => ⟨a, b⟩) (N_ 14 rfl (by kernel_rfl) (aa_ (hX_ (Fc.b x) (Fc.b y)) rfl F_ (fun _ _ _ => by exact trivial) rfl fun _ => ?_))))
  refine e_ (v_ rfl (C_ (fun _ a b => ⟨a, b⟩) (N_ 19 rfl (by kernel_rfl) (aa_ (hX_ (Fc.r x) (Fc.r y)) rfl F_ (fun _ _ _ => by exact trivial) rfl fun _ => ?_))))
  refine e_ (v_ rfl (C_ (fun _ a b => ⟨a, b⟩) (N_ 24 rfl (by kernel_rfl) (aa_ (hY_ (Fc.lo x) (Fc.lo y)) rfl F_ (fun _ _ _ => by exact trivial) rfl fun _ => ?_))))
  refine e_ (v_ rfl (C_ (fun _ a b => ⟨a, b⟩) (N_ 29 rfl (by kernel_rfl) (aa_ (hY_ (Fc.hi x) (Fc.hi y)) rfl F_ (fun _ _ _ => by exact trivial) rfl fun _ => ?_))))
  refine e_ (v_ rfl (C_ (fun _ a b => ⟨a, b⟩) (N_ 30 rfl (by kernel_rfl) (aY_ cg_ T_ kT_ rfl rfl rfl rfl rfl rfl fun b3 => ?_))))
  refine da_ (List.flatMap fm_ [(Lib.compareInt (Fc.kind x) (Fc.kind y)), (Lib.compareBytes (Fc.a x) (Fc.a y)), (Lib.compareBytes (Fc.b x) (Fc.b y)), (Lib.compareBytes (Fc.r x) (Fc.r y)), (Lib.compareInt (Fc.lo x) (Fc.lo y)), (Lib.compareInt (Fc.hi x) (Fc.hi y))]) f_ rfl ?_
  refine e_ (v_ rfl (C_ (fun _ a b => ⟨a, b.2⟩) (N_ 31 rfl (by kernel_rfl) (aa_ (orF_c [(Lib.compareInt (Fc.kind x) (Fc.kind y)), (Lib.compareBytes (Fc.a x) (Fc.a y)), (Lib.compareBytes (Fc.b x) (Fc.b y)), (Lib.compareBytes (Fc.r x) (Fc.r y)), (Lib.compareInt (Fc.lo x) (Fc.lo y)), (Lib.compareInt (Fc.hi x) (Fc.hi y))] (some ⟨b3, 0, none⟩) 6 (by simp)) rfl F_ (fun v _ h => by exact ⟨h.1, trivial⟩) rfl fun _ => ?_))))
  refine e_ (v_ rfl (C_ (fun _ a b => ⟨a, b.2⟩) (ag_ 0 [32] (by kernel_rfl) (fun _ a b => ⟨a, b.2⟩) (l_ rfl (i_ rfl) rfl (af_ (Y_ (by kernel_rfl) (c_ rfl (D_ ?_))))))))
  exact aA_ Tryz.results61 () (ci_ rfl (by rfl)) F_ (fun _ _ _ => trivial)
end Go.Proofs.YtpdbbglpbngeiaaGreatDoor
namespace Go.Proofs.YtpdbbglpbngeiaaGreatDoor
open Go Go.Sx Go.Proofs
attribute [local irreducible] Code.wp wpList wpAnyH
open Go.Vs
theorem dT {p : Prop} {i : Decidable p} (h : @decide p i = true) : p := of_decide_eq_true h
theorem dF {p : Prop} {i : Decidable p} (h : @decide p i = false) : ¬ p := of_decide_eq_false h
structure Cl where
  atoms : List Str
  aad : Option Addr
  acap : Nat
  facts : List Fc
  fad : Option Addr
  fcap : Nat
def Cl.cells (c : Cl) : List Value := [.slice c.aad c.atoms.length c.acap, .slice c.fad c.facts.length c.fcap]
theorem Cl.cells_len (c : Cl) : c.cells.length = 2 := rfl
def Cl.val (c : Cl) : Value := .agg c.cells.toArray
def Cl.row (c : Cl) : List Fct := [ap_ c.aad (List.flatMap aL_ c.atoms), ap_ c.fad (List.flatMap Fc.cells c.facts)]
def Cl.no : Cl := Cl.mk [] none 0 [] none 0
structure Cl.ok (c : Cl) : Prop where
  al : c.atoms.length ≤ c.acap
  am : c.acap ≤ maxLen
  az : c.aad = none → c.acap = 0
  fl : c.facts.length ≤ c.fcap
  fm : c.fcap ≤ maxLen
  fz : c.fad = none → c.fcap = 0
theorem Cl.no_ok : Cl.no.ok := ⟨Nat.le_refl _, by simp [Cl.no], fun _ => rfl, Nat.le_refl _, by simp [Cl.no], fun _ => rfl⟩
theorem nP_ {s : Str} (h : cT_ s = true) : s ≠ [] := fun e => by subst e; revert h; decide
theorem lL_ {s : Str} (h : bO_ s = true) : s ≠ [] := fun e => by subst e; revert h; decide
theorem lz_ {p : Pc} (h : p.valid = true) : p.vok := by
  unfold Pc.valid at h
  split at h
  · simp at h
  rename_i h1
  split at h
  · simp at h
  rename_i h2
  split at h
  · simp at h
  have hk : p.kind = 1 ∨ p.kind = 2 ∨ p.kind = 3 ∨ p.kind = 4 ∨ p.kind = 5 ∨ p.kind = 6 ∨ p.kind = 7 ∨ p.kind = 8 ∨ p.kind = 9 := by omega
  have hn : ∀ {b : Bool} {s : Str}, bY_ b s cT_ = true → b = true → s ≠ [] := fun h1 h2 => by
    subst h2; simp [bY_] at h1; exact nP_ h1
  have hn' : ∀ {b : Bool} {s : Str}, bY_ b s bO_ = true → b = true → s ≠ [] := fun h1 h2 => by
    subst h2; simp [bY_] at h1; exact lL_ h1
  simp only [Bool.and_eq_true] at h
  obtain ⟨⟨⟨⟨⟨_, _⟩, _⟩, hr⟩, hs⟩, ht⟩ := h
  unfold Pc.rok at *
  refine ⟨⟨fun q => ?_, fun q => ?_, fun q => ?_⟩, fun q => ?_⟩
  · rcases q with q | q | q | q | q | q | q <;> rw [q] at hr
    · exact hn hr (by decide)
    · exact hn hr (by decide)
    · exact hn hr (by decide)
    · exact hn' hr (by decide)
    · exact hn hr (by decide)
    · exact hn hr (by decide)
    · exact hn' hr (by decide)
  · rw [q] at hs ht; exact ⟨hn hs (by decide), hn ht (by decide)⟩
  · rw [q] at ht; exact hn ht (by decide)
  · rcases q with q | q <;> rw [q] at h2 <;> have : (nus 8).numbers = true ∧ (nus 9).numbers = true := by decide
    all_goals simp only [this.1, this.2, true_and] at h2; omega
theorem ki_ {p : List Pc} (h : br_ p = 0) : p.length ≤ 16384 ∧ p.all Pc.valid = true := by
  unfold br_ at h
  split at h
  · simp at h
  · split at h
    · exact ⟨by omega, by assumption⟩
    · simp at h
theorem fL_ {p : List Pc} (h : br_ p = 0) : ∀ x ∈ p, x.vok := fun x hx => lz_ (List.all_eq_true.1 (ki_ h).2 x hx)
section
variable {P : Program} {N : Nat} {v0 : Vw} {H0 : Hp} {fr : Fr} {H F Ha Hu Ho Hi Hr Hm Hs : Hp} {Γ : List Fct}
theorem dB_ {fn : Func} {t s b n : Nat} {ty T : TypeId} {us : List Value} {u : Value} (i : Nat) (hr : fn.results = #[.cell t ty, .tmp s]) (ha : ∀ w, (isAgg ty).run P w = .ok true w) (hs : ∀ w, (sizeOf ty).run P w = .ok n w) (hn : us.length = n) (hx : Fr.get fr t = some (zp_ b 0)) (hu : Fr.get fr s = some u)
    (hi : H[i]? = some (b, .cells us.toArray T (0, 0))) (a : Act) (v : Vw) (h1 : Fr.sat N fr a) (h2 : v.sat H) : (results fn a.tmps).run P v.w = .ok (.tuple #[.agg us.toArray, u]) v.w := by
  have e := h1.val t _ hx
  have e2 := h1.val s _ hu
  have hl := ct_ (t := ty) (w := v.w) (b := b) (off := 0) ha hs hn (fun j y hj => by rw [Nat.zero_add, ex_ h2 hi]; simpa using hj)
  simp [results, hr, e, e2, asAddr, hl]
theorem kx_ (h : H.Perm ((Ha ++ (Hu ++ (Ho ++ (Hi ++ (Hr ++ (Hm ++ Hs)))))) ++ F)) : H.Perm (((Ha ++ (Hu ++ (Ho ++ (Hi ++ (Hr ++ Hm))))) ++ Hs) ++ F) := by simpa [List.append_assoc] using h
theorem iM_ : (((Ha ++ (Hu ++ (Ho ++ (Hi ++ (Hr ++ Hm))))) ++ Hs) ++ F).Perm (Ha ++ (Hu ++ (Ho ++ (Hi ++ (Hr ++ (Hm ++ (Hs ++ F))))))) := by simp [List.append_assoc]
theorem nT_ {a b c : Nat × Obj} {Hq : Hp} : ((Ha ++ (Hu ++ (Ho ++ (Hi ++ (Hr ++ (Hm ++ (a :: b :: ([c] ++ Hq)))))))) ++ F).Perm (Ha ++ (Hu ++ (Ho ++ (Hi ++ (Hr ++ (Hm ++ (a :: b :: ([c] ++ (Hq ++ F))))))))) := by simp [List.append_assoc]
end
theorem dM_ : jh_ Tryz.prog 28 [(0, 1), (1, 1)] [.slice none 0 0, .slice none 0 0] := ⟨_, fQ_, as_, fun w => by simp [cB_, bq_]⟩
end Go.Proofs.YtpdbbglpbngeiaaGreatDoor
namespace Go.Proofs.YtpdbbglpbngeiaaGreatDoor
open Go Go.Sx Go.Proofs
attribute [local irreducible] Code.wp wpList wpAnyH
open Go.Vs Go.ChangeShapes Go.WideShapes Go.ChangeAt Go.RowKit
structure Tys2 (P : Program) (tI tS tSs tF tFs tK : TypeId) : Prop where
  f : ∃ fs, P.underlying tF = some (.struct fs) ∧ fs.toList.map (fun f => (f.type, f.offset)) = [(tI, 0), (tS, 1), (tS, 2), (tS, 3), (tI, 4), (tI, 5)]
  fs : P.underlying tFs = some (.slice tF)
  k : ∃ fs, P.underlying tK = some (.struct fs) ∧ fs.toList.map (fun f => (f.type, f.offset)) = [(tSs, 0), (tFs, 1)]
  cf : P.cellsOf tF = 6
  cfs : P.cellsOf tFs = 1
  ck : P.cellsOf tK = 2
  bf : P.bytesOf tF = 72
section
variable {H : Type} {enc : TypeId × Value → H} {P : Program} {W : World} {tI tB tS tSs tC tCs tA tAs tP tPs tF tFs tK : TypeId} (X : Tys P tI tB tS tSs tC tCs tA tAs tP tPs) (Z : Tys2 P tI tS tSs tF tFs tK)
include X Z
variable {base : Nat} {v : Value} {d : DataW H} {ps : List MemPlace}
end
end Go.Proofs.YtpdbbglpbngeiaaGreatDoor
namespace Go.Proofs.YtpdbbglpbngeiaaGreatDoor
open Go Go.Sx Go.Proofs
attribute [local irreducible] Code.wp wpList wpAnyH
open Go.Vs Go.ChangeShapes Go.WideShapes Go.ChangeAt Go.RowKit
theorem own : ownKnob Tryz.prog.godebug = none := by kernel_rfl
def hI_ : List (String × DataW Unit) := [("unicode/utf8.acceptRanges", Rows.laid_unicode_utf8_acceptRanges), ("veilstone/normal.uses", Rows.laid_veilstone_normal_uses), ("unicode/utf8.first", Rows.laid_unicode_utf8_first)]
theorem kids : Kids Tryz.prog (· < Tryz.prog.types.size) := kids_rows (by kernel_rfl) (by kernel_rfl)
theorem full : ∀ t e, t < Tryz.prog.types.size → Tryz.prog.underlying t = some (.slice e) → 0 < Tryz.prog.cellsOf e := slices_full_of _ (by kernel_rfl)
theorem mV_ : Tryz.prog.types.size = 292 := by kernel_rfl
theorem tysX : Tys Tryz.prog 3 4 9 25 132 130 134 75 47 22 where
  i := bs_
  b := Tryz.underlying4
  s := aZ_
  ss := in_
  c := ⟨_, Tryz.underlying132, rfl⟩
  cs := Tryz.underlying130
  a := ⟨_, Tryz.underlying134, rfl⟩
  axs := Tryz.underlying75
  p := ⟨_, im_, rfl⟩
  ps := Tryz.underlying22
  ci := by kernel_rfl
  cb := by kernel_rfl
  cs1 := by kernel_rfl
  css := by kernel_rfl
  cc := by kernel_rfl
  ccs := by kernel_rfl
  ca := by kernel_rfl
  cp := by kernel_rfl
  bs := by kernel_rfl
  bc := by kernel_rfl
  ba := by kernel_rfl
  bp := by kernel_rfl
theorem gU_ {W : World} (h : laidMetH Tryz.prog hI_ W) : ∃ T fz, W.heap[0]? = some (.cells (eP_ (H := Unit) Rows.laid_veilstone_normal_uses).toArray T fz) := by
  rw [MakeChecks.laidMetH_plain _ _ _ (by kernel_rfl)] at h
  exact mu_ kids (name := "veilstone/normal.uses") h (by simp [hI_]) (g := 0) (t := 153) (by kernel_rfl) (by kernel_rfl) (by rw [mV_]; decide) (m := 4) (by kernel_rfl)
theorem nO_ {W : World} {g : Nat} {l : List Value} {d : List Value} (h : ∃ T fz, W.heap[g]? = some (.cells l.toArray T fz)) (e : l = d) : bD_ (vw W) (some ⟨g, 0, none⟩) d := by
  obtain ⟨T, fz, h⟩ := h
  subst e
  exact .inr ⟨g, 0, _, T, fz, rfl, (Array.getElem?_eq_some_iff.1 h).1, h, fun j x hj => by rw [Nat.zero_add]; simpa using hj⟩
theorem nE_ {W : World} (h : laidMetH Tryz.prog hI_ W) : eu_.p (vw W) := nO_ (gU_ h) (by kernel_rfl)
end Go.Proofs.YtpdbbglpbngeiaaGreatDoor
namespace Go.Proofs.YtpdbbglpbngeiaaGreatDoor
open Go Go.Sx Go.Proofs
attribute [local irreducible] Code.wp wpList wpAnyH
open Go.Vs Go.Shelf Go.RowKit
theorem jq_ {v v' : Vw} (h : v.to [] v' []) (hs : ¬ v.sl) : ∃ q os, v'.w = Sort.grow (v.w.drewN q) os := by
  have hd : v.w.drawn ≤ v'.w.drawn := h.dr.resolve_left hs
  refine ⟨v'.w.drawn - v.w.drawn, v'.w.heap.extract v.w.heap.size v'.w.heap.size, ?_⟩
  have hh : v'.w.heap = v.w.heap ++ v'.w.heap.extract v.w.heap.size v'.w.heap.size := by
    apply Array.ext_getElem?
    intro i
    have hsz := h.size
    rw [Array.getElem?_append]
    split
    · rename_i hi; exact h.block i hi (by simp)
    · rename_i hi
      rw [Array.getElem?_extract]
      split
      · congr 1; omega
      · rw [Array.getElem?_eq_none (by omega)]
  have e1 := h.os; have e2 := h.tape; have e3 := h.output
  obtain ⟨im', ⟨hp, tp, dn, os', ou⟩, sl'⟩ := v'
  simp only at e1 e2 e3 hh hd
  simp only [Sort.grow, World.drewN, World.mk.injEq]
  exact ⟨hh, e2, by omega, e1, e3⟩
theorem ok_ (blk off size : Nat) (w : World) : CmpLays Tryz.prog 61 #[] Fc.cells 6 gZ_ blk off size w := fun m os dk _ x y => by
  have h := (cmpF_c x y).run ⟨fun _ => False, sortWorldK Fc.cells 6 w blk off m dk os, False⟩ ⟨by simp, by simp, fun _ h => h.elim⟩ trivial
  refine h.mono ?_
  rintro e w' ⟨_, v', rfl, rfl, _, _, ht⟩
  obtain ⟨q, os', hw⟩ := jq_ ht (fun h => h)
  exact ⟨rfl, q, os', hw⟩
theorem ltF (x y : Fc) : ltOf gZ_ x y = decide (x.lt y) := by unfold ltOf; rw [decide_eq_decide]; exact np_ x y
theorem swoF : Sort.SWO (ltOf gZ_) where
  irrefl x := by rw [ltF]; exact decide_eq_false (Fc.lt_irr x)
  trans x y z h1 h2 := by rw [ltF, decide_eq_true_eq] at *; exact Fc.lt_trans h1 h2
  ntrans x y z h1 h2 := by
    rw [ltF, decide_eq_false_iff_not] at *
    intro h
    rcases Fc.lt_tri x y with g | g | g
    · exact h1 g
    · subst g; exact h2 h
    · exact h2 (Fc.lt_trans g h)
theorem totF (x y : Fc) (h1 : ltOf gZ_ x y = false) (h2 : ltOf gZ_ y x = false) : x = y := by
  rw [ltF, decide_eq_false_iff_not] at h1 h2
  rcases Fc.lt_tri x y with g | g | g
  · exact absurd g h1
  · exact g
  · exact absurd g h2
theorem hR_ (xs : List Fc) : Sort.flatK Fc.cells 6 xs.toArray = (xs.flatMap Fc.cells).toArray := by
  apply Array.ext_getElem?
  intro t
  have e0 : (xs.flatMap Fc.cells).toArray[t]? = (xs.flatMap Fc.cells)[t]? := by simp
  rw [e0]
  by_cases ht : t < xs.length * 6
  · have hd : t / 6 < xs.length := by omega
    have := iW_ Fc.cells 6 Fc.cells_len xs (t / 6) (t % 6) xs[t / 6] (List.getElem?_eq_getElem hd) (Nat.mod_lt _ (by decide))
    rw [show t / 6 * 6 + t % 6 = t by omega] at this
    rw [this]
    simp only [Sort.flatK, Array.getElem?_map, List.size_toArray]
    rw [Array.getElem?_eq_getElem (by simpa using ht)]
    simp only [Array.getElem_range, Option.map_some]
    rw [getElem!_pos xs.toArray (t / 6) (by simpa using hd)]
    have hl : t % 6 < (Fc.cells xs[t / 6]).length := by rw [Fc.cells_len]; omega
    rw [List.getElem?_eq_getElem hl]
    simp only [List.getElem_toArray]
    rw [getElem!_pos (Fc.cells xs[t / 6]) (t % 6) hl]
  · rw [List.getElem?_eq_none (by rw [dc_ Fc.cells 6 Fc.cells_len]; omega), Array.getElem?_eq_none (by simp [Sort.flatK]; omega)]
theorem jt_ {P : Program} {Γ : List Fct} {f : FuncId} {args : Array Value} {r : Value} {g : Nat} {cur : Array Value} {T : TypeId} {d : Array Value} (hc : eK_ P f)
    (h : ∀ v : Vw, v.sat [(g, .cells cur T (0, 0))] → Calls P f args v.w fun e w' => e = .returned r ∧ ∃ n os, w' = Sort.grow (Sort.putRow id (Sort.ahead v.w n) g 0 d) os) :
    Tri P f args [(g, .cells cur T (0, 0))] Γ (fun _ : Unit => r) (fun _ => [(g, .cells (Sort.putCells id 0 d cur) T (0, 0))]) (fun _ => []) :=
  ⟨hc, fun v h1 _ => (h v h1).mono fun e w' ⟨he, n, os, hw⟩ => by
    have hg := (h1.own _ List.mem_cons_self)
    have hlt : g < v.w.heap.size := (Array.getElem?_eq_some_iff.1 hg.1).1
    have hb : ∀ b, b < v.w.heap.size → w'.heap[b]? = if b = g then some (.cells (Sort.putCells id 0 d cur) T (0, 0)) else v.w.heap[b]? := fun b hb => by
      rw [hw]
      simp only [Sort.grow, Sort.putRow, Sort.mapBlock, Sort.ahead]
      rw [Array.getElem?_append_left (by simpa using hb), Array.getElem?_modify]
      by_cases e : b = g
      · subst e
        simp only [if_true, hg.1, Option.map_some, Sort.onCells]
      · rw [if_neg (fun q => e q.symm), if_neg e]
    have hsz : v.w.heap.size ≤ w'.heap.size := by rw [hw]; simp [Sort.grow, Sort.putRow, Sort.mapBlock, Sort.ahead]
    refine ⟨(), ⟨v.im, w', v.sl⟩, he, rfl, ⟨fun p hp => ?_, by simp, fun b hbb => Nat.lt_of_lt_of_le (h1.lt b hbb) hsz⟩, trivial, ⟨by rw [hw]; rfl, by rw [hw]; rfl, by rw [hw]; rfl, hsz, fun b hbb hn => ?_, fun _ h => h, fun _ h => .inl h, fun b hm => .inl (by simpa using hm), rfl, .inr (by rw [hw]; exact Nat.le_add_right _ _)⟩⟩
    · simp only [List.mem_singleton] at hp
      subst hp
      exact ⟨by show w'.heap[g]? = _; rw [hb g hlt, if_pos rfl], hg.2⟩
    · have hn' : b ≠ g := by simpa using hn
      show w'.heap[b]? = _
      rw [hb b hbb, if_neg hn']⟩
theorem lE_ {cur : Array Value} {d : List Value} (hs : d.length ≤ cur.size) : (Sort.putCells id 0 d.toArray cur).toList.take d.length = d := by
  apply List.ext_getElem?
  intro j
  rw [List.getElem?_take]
  split
  · rename_i hj
    simp only [Sort.putCells, Array.getElem?_toList, Array.getElem?_mapIdx]
    rw [Array.getElem?_eq_getElem (by omega)]
    simp only [Option.map_some, Nat.zero_le, true_and, Nat.zero_add, List.size_toArray, hj, if_true, Nat.sub_zero]
    rw [List.getElem?_eq_getElem hj, getElem!_pos d.toArray j (by simpa using hj)]
    rfl
  · rename_i hj
    rw [List.getElem?_eq_none (by omega)]
theorem lF_ {cur d : Array Value} : (Sort.putCells id 0 d cur).size = cur.size := by simp [Sort.putCells]
theorem holdsV {g : Nat} {cur : Array Value} {T : TypeId} {xs : List Value} {v : Vw} (hs : v.sat [(g, .cells cur T (0, 0))]) (ht : cur.toList.take xs.length = xs) : Sort.Holds id v.w g 0 xs.toArray := by
  intro j hj
  have hb := (hs.own _ List.mem_cons_self).1
  simp only [List.size_toArray] at hj
  have hc : cur[j]? = some xs[j] := by
    have := congrArg (fun l => l[j]?) ht
    simp only [List.getElem?_take, hj, if_true, Array.getElem?_toList] at this
    rw [this, List.getElem?_eq_getElem hj]
  refine ⟨?_, ?_⟩
  · simp only [World.cell?, Nat.zero_add, hb, Option.isSome_none, Bool.false_eq_true, if_false]
    rw [hc, getElem!_pos xs.toArray j (by simpa using hj)]
    rfl
  · simp [World.frozen?, hb]
def fU_ (xs : List Fc) : List Fc := xs.mergeSort fun x y => !(ltOf gZ_) y x
theorem ew_ (xs : List Fc) : (fU_ xs).length = xs.length := List.length_mergeSort _
theorem mw_ (xs : List Fc) (x : Fc) : x ∈ fU_ xs ↔ x ∈ xs := List.mem_mergeSort
theorem mv_ {xs : List Fc} (h : xs.Nodup) : Srt (fU_ xs) := by
  have h1 : (fU_ xs).Pairwise fun x y => (!(ltOf gZ_) y x) = true := List.pairwise_mergeSort
    (fun a b c h1 h2 => by simp only [Bool.not_eq_true'] at *; exact swoF.ntrans c b a h2 h1)
    (fun a b => by
      simp only [Bool.or_eq_true, Bool.not_eq_true']
      rw [ltF, ltF, decide_eq_false_iff_not, decide_eq_false_iff_not]
      rcases Fc.lt_tri a b with g | g | g
      · exact .inl fun q => Fc.lt_irr a (Fc.lt_trans g q)
      · subst g; exact .inl (Fc.lt_irr a)
      · exact .inr fun q => Fc.lt_irr a (Fc.lt_trans q g)) xs
  have h2 : (fU_ xs).Nodup := (List.mergeSort_perm xs _).nodup_iff.2 h
  refine (h1.and h2).imp ?_
  rintro x y ⟨a, b⟩
  simp only [Bool.not_eq_true', ltF, decide_eq_false_iff_not] at a
  rcases Fc.lt_tri x y with g | g | g
  · exact g
  · exact absurd g b
  · exact absurd g a
theorem nG_ {sv : Value} {xs : List Fc} {Hr : Hp} (h : aS_ 41 6 sv xs.length (xs.flatMap Fc.cells) Hr) (hl : xs.length ≤ 1000000000000) :
    Tri Tryz.prog 60 #[sv, .func (.func 61) #[] #[]] Hr [] (fun _ : {y : Hp // aS_ 41 6 sv (fU_ xs).length ((fU_ xs).flatMap Fc.cells) y} => .tuple #[]) (fun y => y.1) (fun _ => []) := by
  rcases h.2 with ⟨rfl, h2, rfl⟩ | ⟨g, cap, cur, rfl, rfl, h3, h4, h5, h6⟩
  · obtain rfl : xs = [] := List.eq_nil_of_length_eq_zero h2
    have T := dw_ (P := Tryz.prog) (H := []) (Γ := []) (callable Tryz.func60 rfl rfl) (fun v _ _ => (AnyF.slices_SortFunc_none Tryz.sortFc none 0 (.func (.func 61) #[] #[]) v.w).mono (by rintro e w' ⟨rfl, rfl⟩; exact ⟨rfl, ⟨rfl, rfl, rfl, Nat.le_refl _, fun _ _ => rfl⟩, .inr (Nat.le_refl _)⟩))
    exact ⟨T.callable, fun v a b => (T.run v a b).mono (by rintro e w' ⟨x, v', e1, e2, e3, e4, e5⟩; exact ⟨⟨[], by simpa [fU_] using aS_.nil _ _⟩, v', e1, e2, e3, e4, e5⟩)⟩
  · have hx : (xs.flatMap Fc.cells).length = xs.length * 6 := dc_ Fc.cells 6 Fc.cells_len xs
    have T := jt_ (P := Tryz.prog) (Γ := []) (r := .tuple #[]) (g := g) (cur := cur) (T := 41) (d := ((fU_ xs).flatMap Fc.cells).toArray) (f := 60) (args := #[.slice (some ⟨g, 0, none⟩) xs.length cap, .func (.func 61) #[] #[]]) (callable Tryz.func60 rfl rfl) (fun v hs => by
      have hh := AnyQ.slices_SortFunc_total Tryz.sortFc 6 ac_ G_ Fc.cells Fc.cells_len (fun x u hu => List.all_eq_true.1 (Fc.cells_one x) u hu) gZ_ swoF 61 #[] g 0 cap xs.toArray v.w (fun args w => (callable Tryz.func61 rfl rfl) args w) (ok_ g 0 _ v.w) (by unfold Sort.HoldsK; rw [hR_]; exact holdsV hs (by rw [hx]; exact h6)) (Array.getElem?_eq_some_iff.1 (hs.own _ List.mem_cons_self).1).1 (by simp; omega) totF
      refine hh.mono ?_
      rintro e w' ⟨rfl, n, os, rfl⟩
      refine ⟨rfl, n, os, ?_⟩
      unfold sortWorldK Sort.putRowK
      rw [show ((xs.toArray.toList.mergeSort fun x y => !(ltOf gZ_) y x)) = fU_ xs from rfl, hR_])
    refine ⟨T.callable, fun v a b => (T.run v a b).mono ?_⟩
    rintro e w' ⟨x, v', e1, e2, e3, e4, e5⟩
    have hy : ((fU_ xs).flatMap Fc.cells).length = xs.length * 6 := by rw [dc_ Fc.cells 6 Fc.cells_len, ew_]
    refine ⟨⟨_, by rw [hy, ew_], .inr ⟨g, cap, _, by rw [ew_], rfl, by rw [ew_]; exact h3, h4, by rw [lF_]; exact h5, ?_⟩⟩, v', e1, e2, e3, e4, e5⟩
    have := lE_ (cur := cur) (d := (fU_ xs).flatMap Fc.cells) (by rw [hy, h5]; omega)
    rw [hy] at this
    rw [ew_]; exact this
end Go.Proofs.YtpdbbglpbngeiaaGreatDoor
namespace Go.Proofs.YtpdbbglpbngeiaaGreatDoor
open Go Go.Sx Go.Proofs
attribute [local irreducible] Code.wp wpList wpAnyH
open Go.Vs
section
variable {P : Program} {N : Nat} {v0 : Vw} {H0 : Hp} {fr : Fr} {H F : Hp} {Γ : List Fct} {K D : Type} [DecidableEq K]
theorem hP_ : ∀ (B : Hp) {v : Vw}, aD_ (B.map fun p => dE_ p.1 p.2) v → ∀ p ∈ B, v.im p.1 ∧ v.w.heap[p.1]? = some p.2
  | [], _, _, _, h => by simp at h
  | q :: B, v, h, p, hp => by
    rcases List.mem_cons.1 hp with rfl | hp
    · exact h.1
    · exact hP_ B h.2 p hp
theorem mR_ {k : Act → World → Prop} {kv : K → Value} {cells : D → List Value} {kt e : TypeId} {sz mb : Nat} {l : List (K × D)} {Hm : Hp} (hK : KeyT P kt kv) (hm : cR_ kv cells e sz l mb Hm) (hH : H.Perm (Hm ++ F))
    (h : ∀ adr, Ok N v0 H0 k fr F (mlF P kt kv cells mb l adr :: Γ)) : Ok N v0 H0 k fr H Γ := by
  obtain ⟨adr, ha⟩ := hm.lent hK
  refine jQ_ Hm hH (jR_ (fun v _ hv => ?_) (h adr))
  rw [gr_] at hv
  refine ⟨ha v fun p hp => ?_, hv.2⟩
  have := hv.1
  exact hP_ Hm.reverse (by rw [List.map_reverse] at *; exact this) p (List.mem_reverse.2 hp)
theorem dZ_ {tF : TypeId} {E : Emt P tF} {nw fm : List Fc} {Hs : Hp} {ty t kt et : TypeId} {x : Operand} (hS : E.St nw fm Hs) (hu : ∀ w, (underlying t).run P w = .ok (.map kt et) w) (hx : Fr.ev fr x = some (.map (some E.kb))) (hp : H.Perm (Hs ++ F)) :
    Yld P N fr H Γ (.call ⟨.builtin .len, #[x], #[t]⟩) ty (.int .i64 ((E.kof nw).length : Int)) := by
  obtain ⟨es, c, g1, g2⟩ := E.known hS
  exact hj_ g2 hu hx fun v h _ => hw_ hp g1 h
end
def kD_ (x : Ix) (n : Nat) : Prop := x.above.length ≤ n ∧ x.under.length ≤ n ∧ x.frm.length ≤ n ∧ x.into.length ≤ n ∧ x.ranges.length ≤ n ∧ x.firms.length ≤ n
theorem nd_ : kD_ Ix.nil 0 := by simp [kD_, Ix.nil]
theorem gq_ {x : Ix} {n : Nat} (h : kD_ x n) (b : Bool) (f : Fc) : kD_ (x.add b f) (n + 1) := by
  obtain ⟨h1, h2, h3, h4, h5, h6⟩ := h
  unfold Ix.add kD_
  split
  · simp; omega
  · split
    · simp; omega
    · split
      · cases b <;> simp <;> omega
      · omega
theorem jZ_ {x : Ix} {n : Nat} (h : kD_ x n) (hn : n ≤ 1000000000) : (∀ k, (lat x.above k).length ≤ 1000000000 ∧ (lat x.under k).length ≤ 1000000000) ∧ (∀ k, (lat x.frm k).length ≤ 1000000000 ∧ (lat x.into k).length ≤ 1000000000 ∧ (lat x.ranges k).length ≤ 1000000000 ∧ (lat x.firms k).length ≤ 1000000000) := by
  obtain ⟨h1, h2, h3, h4, h5, h6⟩ := h
  refine ⟨fun k => ⟨?_, ?_⟩, fun k => ⟨?_, ?_, ?_, ?_⟩⟩
  · have := ek_ x.above k; omega
  · have := ek_ x.under k; omega
  · have := ek_ x.frm k; omega
  · have := ek_ x.into k; omega
  · have := ek_ x.ranges k; omega
  · have := ek_ x.firms k; omega
theorem nN_ (B : EngB) (E : Emt Tryz.prog 41) (A0 : EngA) (pm : List (Ky × Pc)) (x : Ix) (f : Fc) (nw fm : List Fc) (Hs : Hp) (hS : E.St nw fm Hs) (Ha Hu Ho Hi Hr Hm : Hp) (hI : IxO 9 41 B x ⟨Ha, Hu, Ho, Hi, Hr, Hm⟩) (hpl : ∀ k, (lat pm k).length ≤ 1000000000) (hxl : ∀ k, (lat x.above k).length ≤ 1000000000 ∧ (lat x.under k).length ≤ 1000000000) (hyl : ∀ k, (lat x.frm k).length ≤ 1000000000 ∧ (lat x.into k).length ≤ 1000000000 ∧ (lat x.ranges k).length ≤ 1000000000 ∧ (lat x.firms k).length ≤ 1000000000) (hf : f.kind = 3 → -1099511627776 ≤ f.lo ∧ f.lo ≤ f.hi ∧ f.hi ≤ 1099511627776) (hq : f.kind = 3 → ∀ y ∈ lat pm (Ky.mk 9 (Fc.r f) []), -1099511627776 ≤ y.lo ∧ y.lo ≤ y.hi ∧ y.hi ≤ 1099511627776) (hk : f.kind = 1) : ∀ (j : Nat) {fv : Value}, (rlV B.g 1)[j]? = some fv → ∃ n : Nat, fv = .func (.func n) #[zp_ B.g 0] #[] ∧ Tri Tryz.prog n #[zp_ B.g 0, f.val] ((Ha ++ (Hu ++ (Ho ++ (Hi ++ (Hr ++ Hm))))) ++ Hs) [gF B E, pF B pm A0, E.ef] (fun _ : {H' : Hp // E.St (rl E.stp E.kof pm x f j (nw, fm)).1 (rl E.stp E.kof pm x f j (nw, fm)).2 H'} => .tuple #[]) (fun y => (Ha ++ (Hu ++ (Ho ++ (Hi ++ (Hr ++ Hm))))) ++ y.1) (fun _ => [])
  | 0, _, h => ⟨100, (Option.some.inj h).symm, rl10_c B E A0 pm x f nw fm Hs hS Ha Hu Ho Hi Hr Hm hI hpl hxl hyl hf hq hk⟩
  | 1, _, h => ⟨101, (Option.some.inj h).symm, rl11_c B E A0 pm x f nw fm Hs hS Ha Hu Ho Hi Hr Hm hI hpl hxl hyl hf hq hk⟩
  | 2, _, h => ⟨102, (Option.some.inj h).symm, rl12_c B E A0 pm x f nw fm Hs hS Ha Hu Ho Hi Hr Hm hI hpl hxl hyl hf hq hk⟩
  | 3, _, h => ⟨103, (Option.some.inj h).symm, rl13_c B E A0 pm x f nw fm Hs hS Ha Hu Ho Hi Hr Hm hI hpl hxl hyl hf hq hk⟩
  | 4, _, h => ⟨104, (Option.some.inj h).symm, rl14_c B E A0 pm x f nw fm Hs hS Ha Hu Ho Hi Hr Hm hI hpl hxl hyl hf hq hk⟩
  | 5, _, h => ⟨105, (Option.some.inj h).symm, rl15_c B E A0 pm x f nw fm Hs hS Ha Hu Ho Hi Hr Hm hI hpl hxl hyl hf hq hk⟩
  | j + 6, _, h => by simp [rlV] at h
theorem nM_ (B : EngB) (E : Emt Tryz.prog 41) (A0 : EngA) (pm : List (Ky × Pc)) (x : Ix) (f : Fc) (nw fm : List Fc) (Hs : Hp) (hS : E.St nw fm Hs) (Ha Hu Ho Hi Hr Hm : Hp) (hI : IxO 9 41 B x ⟨Ha, Hu, Ho, Hi, Hr, Hm⟩) (hpl : ∀ k, (lat pm k).length ≤ 1000000000) (hxl : ∀ k, (lat x.above k).length ≤ 1000000000 ∧ (lat x.under k).length ≤ 1000000000) (hyl : ∀ k, (lat x.frm k).length ≤ 1000000000 ∧ (lat x.into k).length ≤ 1000000000 ∧ (lat x.ranges k).length ≤ 1000000000 ∧ (lat x.firms k).length ≤ 1000000000) (hf : f.kind = 3 → -1099511627776 ≤ f.lo ∧ f.lo ≤ f.hi ∧ f.hi ≤ 1099511627776) (hq : f.kind = 3 → ∀ y ∈ lat pm (Ky.mk 9 (Fc.r f) []), -1099511627776 ≤ y.lo ∧ y.lo ≤ y.hi ∧ y.hi ≤ 1099511627776) (hk : f.kind = 2) : ∀ (j : Nat) {fv : Value}, (rlV B.g 2)[j]? = some fv → ∃ n : Nat, fv = .func (.func n) #[zp_ B.g 0] #[] ∧ Tri Tryz.prog n #[zp_ B.g 0, f.val] ((Ha ++ (Hu ++ (Ho ++ (Hi ++ (Hr ++ Hm))))) ++ Hs) [gF B E, pF B pm A0, E.ef] (fun _ : {H' : Hp // E.St (rl E.stp E.kof pm x f j (nw, fm)).1 (rl E.stp E.kof pm x f j (nw, fm)).2 H'} => .tuple #[]) (fun y => (Ha ++ (Hu ++ (Ho ++ (Hi ++ (Hr ++ Hm))))) ++ y.1) (fun _ => [])
  | 0, _, h => ⟨106, (Option.some.inj h).symm, rl20_c B E A0 pm x f nw fm Hs hS Ha Hu Ho Hi Hr Hm hI hpl hxl hyl hf hq hk⟩
  | 1, _, h => ⟨107, (Option.some.inj h).symm, rl21_c B E A0 pm x f nw fm Hs hS Ha Hu Ho Hi Hr Hm hI hpl hxl hyl hf hq hk⟩
  | 2, _, h => ⟨108, (Option.some.inj h).symm, rl22_c B E A0 pm x f nw fm Hs hS Ha Hu Ho Hi Hr Hm hI hpl hxl hyl hf hq hk⟩
  | 3, _, h => ⟨109, (Option.some.inj h).symm, rl23_c B E A0 pm x f nw fm Hs hS Ha Hu Ho Hi Hr Hm hI hpl hxl hyl hf hq hk⟩
  | j + 4, _, h => by simp [rlV] at h
theorem nL_ (B : EngB) (E : Emt Tryz.prog 41) (A0 : EngA) (pm : List (Ky × Pc)) (x : Ix) (f : Fc) (nw fm : List Fc) (Hs : Hp) (hS : E.St nw fm Hs) (Ha Hu Ho Hi Hr Hm : Hp) (hI : IxO 9 41 B x ⟨Ha, Hu, Ho, Hi, Hr, Hm⟩) (hpl : ∀ k, (lat pm k).length ≤ 1000000000) (hxl : ∀ k, (lat x.above k).length ≤ 1000000000 ∧ (lat x.under k).length ≤ 1000000000) (hyl : ∀ k, (lat x.frm k).length ≤ 1000000000 ∧ (lat x.into k).length ≤ 1000000000 ∧ (lat x.ranges k).length ≤ 1000000000 ∧ (lat x.firms k).length ≤ 1000000000) (hf : f.kind = 3 → -1099511627776 ≤ f.lo ∧ f.lo ≤ f.hi ∧ f.hi ≤ 1099511627776) (hq : f.kind = 3 → ∀ y ∈ lat pm (Ky.mk 9 (Fc.r f) []), -1099511627776 ≤ y.lo ∧ y.lo ≤ y.hi ∧ y.hi ≤ 1099511627776) (hk : f.kind = 3) : ∀ (j : Nat) {fv : Value}, (rlV B.g 3)[j]? = some fv → ∃ n : Nat, fv = .func (.func n) #[zp_ B.g 0] #[] ∧ Tri Tryz.prog n #[zp_ B.g 0, f.val] ((Ha ++ (Hu ++ (Ho ++ (Hi ++ (Hr ++ Hm))))) ++ Hs) [gF B E, pF B pm A0, E.ef] (fun _ : {H' : Hp // E.St (rl E.stp E.kof pm x f j (nw, fm)).1 (rl E.stp E.kof pm x f j (nw, fm)).2 H'} => .tuple #[]) (fun y => (Ha ++ (Hu ++ (Ho ++ (Hi ++ (Hr ++ Hm))))) ++ y.1) (fun _ => [])
  | 0, _, h => ⟨110, (Option.some.inj h).symm, rl30_c B E A0 pm x f nw fm Hs hS Ha Hu Ho Hi Hr Hm hI hpl hxl hyl hf hq hk⟩
  | 1, _, h => ⟨111, (Option.some.inj h).symm, rl31_c B E A0 pm x f nw fm Hs hS Ha Hu Ho Hi Hr Hm hI hpl hxl hyl hf hq hk⟩
  | j + 2, _, h => by simp [rlV] at h
def cv_ (p : List Pc) (bu : Int) (c : Cl) (e : Int) : Prop :=
  if br_ p ≠ 0 then c = Cl.no ∧ e = br_ p
  else if bu < 0 ∨ 1073741824 < bu then c = Cl.no ∧ e = 1
  else (e = 0 ∧ c.ok ∧ c.atoms = atS p ∧ cp_ p (atS p) (min bu 65536).toNat (some c.facts)) ∨ (c = Cl.no ∧ e = (if bu < 65536 then 3 else 2) ∧ cp_ p (atS p) (min bu 65536).toNat none)
theorem nw_ {p : List Pc} {bu : Int} (h : br_ p ≠ 0) : cv_ p bu Cl.no (br_ p) := by unfold cv_; rw [if_pos h]; exact ⟨rfl, rfl⟩
theorem kn_ {p : List Pc} {bu : Int} (h : br_ p = 0) (hb : bu < 0 ∨ 1073741824 < bu) : cv_ p bu Cl.no 1 := by unfold cv_; rw [if_neg (by simp [h]), if_pos hb]; exact ⟨rfl, rfl⟩
theorem ov_ {p : List Pc} {bu : Int} {m n : Nat} {c : Cl} {q fm : List Fc} {x : Ix} (hc : br_ p = 0) (h1 : ¬ bu < 0) (h2 : ¬ 1073741824 < bu) (hm : min bu 65536 = (m : Int)) (hk : c.ok) (ha : c.atoms = atS p) (hL : LoopA (uniq [] p) (atS p) m n q fm x) (hn : q.length ≤ n) (hl : q.length ≤ m) (hf : c.facts = fU_ q) : cv_ p bu c 0 := by
  unfold cv_
  rw [if_neg (by simp [hc]), if_neg (by omega)]
  have e : n = q.length := Nat.le_antisymm hL.le hn
  subst e
  refine .inl ⟨rfl, hk, ha, ?_⟩
  rw [hm, hf]
  exact ⟨mv_ hL.nd, fun y => by rw [mw_, ← kB_ hL hl, js_], by rw [ew_]; simpa using hl⟩
theorem dv_ {p : List Pc} {bu : Int} {m : Nat} {e : Int} {M : List Fc} (hc : br_ p = 0) (h1 : ¬ bu < 0) (h2 : ¬ 1073741824 < bu) (hm : min bu 65536 = (m : Int)) (he : e = if bu < 65536 then 3 else 2) (nd : M.Nodup) (hd : ∀ y ∈ M, Der (uniq [] p) (atS p) y) (hl : m < M.length) : cv_ p bu Cl.no e := by
  unfold cv_
  rw [if_neg (by simp [hc]), if_neg (by omega)]
  exact .inr ⟨rfl, he, M, nd, fun y hy => js_.1 (hd y hy), by rw [hm]; simpa using hl⟩
end Go.Proofs.YtpdbbglpbngeiaaGreatDoor
namespace Go.Proofs.YtpdbbglpbngeiaaGreatDoor
open Go Go.Sx Go.Proofs
attribute [local irreducible] Code.wp wpList wpAnyH
open Go.Vs
set_option maxHeartbeats 4000000 in
theorem lo_ (p : List Pc) (pad : Option Addr) (pcap : Nat) (bu : Int) (hsm : ∀ x ∈ p, x.sm) (hp : p.length ≤ 100000000) : Tri Tryz.prog 18 #[.slice pad (List.length p) pcap, .int .i64 bu] [] [ap_ pad (List.flatMap Pc.cells p), eu_] (fun y : {y : Cl × Int // cv_ p bu y.1 y.2} => .tuple #[y.1.1.val, .int .i64 y.1.2]) (fun _ => []) (fun y => y.1.1.row) := by
 refine J_ Tryz.func18 rfl rfl Tryz.ntmps18 rfl fun v0 => ?_
 refine h_ (d_ (ah_ fQ_ rfl fun b1 => ?_))
 refine a_ (i_ rfl) rfl (e_ (c_ rfl (ir_ (h_ (h_ (d_ (a_ (g_ rfl) rfl (aa_ (jc_ p pad pcap (by omega) hsm) rfl F_ (fun v _ h => by exact ⟨h.1, h.2.1, trivial⟩) rfl fun _ => ?_))))))))
 refine a_ (i_ rfl) rfl (e_ (c_ rfl (h_ (d_ (a_ (g_ rfl) rfl (x_ (bC_ rfl rfl) rfl fun r1 hr1 => ?_))))))
 refine e_ (c_ rfl ?_)
 cases r1
 ·
  replace hr1 := aQ_ hr1
  have hchk := hr1
  refine s_ rfl (B_ (c_ rfl (h_ (h_ (d_ (a_ (g_ rfl) rfl (x_ (ar_ rfl rfl) rfl fun r2 hr2 => ?_)))))))
  refine a_ (g_ rfl) rfl ?_
  cases r2
  ·
   replace hr2 := of_decide_eq_false hr2
   have hb0 := hr2
   refine r_ rfl rfl (a_ (g_ rfl) rfl (r_ rfl rfl (x_ (bL_ rfl rfl) rfl fun r3 hr3 => ?_)))
   refine a_ (M_ rfl rfl) rfl (e_ (c_ rfl ?_))
   cases r3
   ·
    replace hr3 := of_decide_eq_false hr3
    have hb1 := hr3
    refine s_ rfl (B_ (c_ rfl (h_ ?_)))
    obtain ⟨m, hm0'⟩ : ∃ m : Nat, min bu 65536 = (m : Int) := ⟨(min bu 65536).toNat, by omega⟩
    have hm : m ≤ 65536 := by omega
    have hvk := ms_ (fL_ hchk)
    have hpl : ∀ k, (lat (aF_ (uniq [] p)) k).length ≤ 1000000000 := fun k => by have h1 := ek_ (aF_ (uniq [] p)) k; have h2 := hu_ (uniq [] p); have h3 := ge_ p []; simp only [List.length_nil] at h3; omega
    refine d_ (a_ (g_ rfl) rfl (aa_ (jT_ p pad pcap (by omega)) rfl F_ (fun v _ h => by exact ⟨h.1, trivial⟩) rfl fun ⟨⟨g, pb, kb, ab, ub, ob, ib, rb, sb, fb, lv, hm0, hl0⟩, hy⟩ => ?_))
    dsimp only
    dsimp only [NewE.own, NewE.ok] at hy ⊢
    obtain ⟨hym, hyl⟩ := hy
    simp only [List.cons_append, List.append_assoc]
    refine cj_ hyl (b_ (b_ (b_ (b_ (b_ (b_ (b_ (b_ (b_ (k_ q_)))))))))) fun lad lcap hlad hclad hmlad hzlad => ?_
    subst hlad
    refine ah_ Tryz.zeroValue85 rfl fun b2 => ?_
    refine ay_ (aV_ f_ (aV_ f_ (aV_ f_ (aV_ f_ (aV_ f_ (aV_ f_ (aV_ f_ (aV_ f_ (aV_ f_ (aV_ f_ (cG_ aR_))))))))))) (R_ 0 Tryz.sizeOf85 rfl rfl rfl rfl rfl rfl (e_ (c_ rfl (h_ (d_ (a_ (g_ rfl) rfl (a_ (bG_ (gb_ rfl rfl) (congrArg (Value.int .i64) hm0')) rfl (ah_ kT_ rfl fun b3 => ?_))))))))
    refine R_ 0 T_ rfl rfl rfl rfl rfl rfl (e_ (c_ rfl (h_ (d_ (ah_ jm_ rfl fun b4 => ?_)))))
    refine e_ (c_ rfl (h_ (d_ (a_ (t_ 2 bK_ rfl rfl rfl) rfl (a_ (cd_ rfl rfl) rfl (a_ (ab_ rfl) rfl (a_ (m_ w_ rfl rfl rfl aC_) rfl (R_ 3 aC_ rfl rfl rfl rfl rfl rfl (e_ ?_)))))))))
    refine c_ rfl (h_ (fC_ (dE_ b2 (.cells #[zp_ g 0] 85 (0, 0))) (cG_ (b_ (b_ f_))) (fun _ h1 h2 _ => ⟨h1, h2⟩) ?_))
    refine fC_ (dE_ b3 (.cells #[.int .i64 (m : Int)] 3 (0, 0))) (cG_ (b_ f_)) (fun _ h1 h2 _ => ⟨h1, h2⟩) ?_
    refine fC_ (dE_ g (.cells #[.map (some pb), .slice lad (List.length (am_ (uniq [] p))) lcap, .map (some kb), .func (.func 55) #[] #[zp_ b2 0, zp_ b3 0, zp_ b4 0], .map (some ab), .map (some ub), .map (some ob), .map (some ib), .map (some rb), .map (some sb), .map (some fb)] 94 (0, 0))) (cG_ (b_ f_)) (fun _ h1 h2 _ => ⟨h1, h2⟩) ?_
    refine mR_ fa_ hym (b_ (b_ (b_ (b_ (b_ (b_ (b_ (b_ (b_ S_))))))))) fun adr => ?_
    refine d_ (a_ (g_ rfl) rfl (aa_ (atS_c p pad pcap (by omega)) rfl F_ (fun v _ h => by exact ⟨h.2.2.2.2.2.1, trivial⟩) rfl fun ⟨⟨aad, acap⟩, hac, ham, haz⟩ => ?_))
    dsimp only
    refine a_ (i_ rfl) rfl (e_ (c_ rfl (h_ (d_ (a_ (U_ bK_ rfl (fun v _ h => by exact h.2.2.2.2.1) rfl) rfl (a_ (g_ rfl) rfl (aa_ (op_ (EngB.mk g pb ab ub ob ib rb sb lad lcap (am_ (uniq [] p))) (EA m hm (EngB.mk g pb ab ub ob ib rb sb lad lcap (am_ (uniq [] p))) b2 b3 b4 kb fb) [] [] [(b4, .cells #[.slice none 0 0] 26 (0, 0)), (kb, .map #[] 0), (fb, .map #[] 0)] ⟨.slice none 0 0, #[], 0, #[], 0, [], [], rfl, aS_.nil _ _, SetE.nil, SetE.nil, by simp⟩ (atS p) aad acap (by have := ln_ p; omega) (by have := gO_ (uniq [] p); have h3 := ge_ p []; simp only [List.length_nil] at h3; show (am_ (uniq [] p)).length ≤ _; omega)) rfl (j_ f_ (j_ f_ (b_ (b_ (b_ (b_ (b_ (b_ f_)))))))) (fun v _ h => by exact ⟨h.2.2.1, h.2.2.2.2.2.1, h.1, ⟨h.2.2.2.2.1, h.2.2.2.1, h.2.2.1⟩, trivial⟩) rfl fun ⟨Hs1, hS1⟩ => ?_)))))))
    dsimp only
    refine e_ (c_ rfl (ay_ (aV_ (k_ f_) (aV_ (k_ f_) (aV_ (k_ f_) (aV_ (k_ f_) (aV_ (k_ f_) (aV_ (k_ f_) (cG_ aR_))))))) (h_ (d_ (a_ (U_ bK_ rfl (fun v _ h => by exact h.2.2.2.2.1) rfl) rfl (aa_ (nK_ g) rfl F_ (fun _ _ _ => by exact trivial) rfl fun ⟨r1, r2, r3⟩ => ?_))))))
    dsimp only
    refine ah_ Tryz.zeroValue98 rfl fun b5 => ?_
    refine R_ 0 Tryz.sizeOf98 rfl rfl rfl rfl rfl rfl (e_ (c_ rfl (h_ (is_ (c_ rfl (h_ (h_ (d_ (a_ (i_ rfl) rfl ?_)))))))))
    refine e_ (c_ rfl (K_ ?_))
    refine ax_ (ι := {y : Nat × List Fc × List Fc × Ix × Hp × Hp × Hp × Hp × Hp × Hp × Hp // LoopA (uniq [] p) (atS p) m y.1 y.2.1 y.2.2.1 y.2.2.2.1 ∧ ((EA m hm (EngB.mk g pb ab ub ob ib rb sb lad lcap (am_ (uniq [] p))) b2 b3 b4 kb fb)).St y.2.1 y.2.2.1 y.2.2.2.2.2.2.2.2.2.2 ∧ IxO 9 41 (EngB.mk g pb ab ub ob ib rb sb lad lcap (am_ (uniq [] p))) y.2.2.2.1 ⟨y.2.2.2.2.1, y.2.2.2.2.2.1, y.2.2.2.2.2.2.1, y.2.2.2.2.2.2.2.1, y.2.2.2.2.2.2.2.2.1, y.2.2.2.2.2.2.2.2.2.1⟩ ∧ kD_ y.2.2.2.1 y.1}) (fun y => [(0, .slice pad (List.length p) pcap), (1, .int .i64 bu), (4, zp_ b1 0), (7, zp_ b2 0), (8, zp_ b3 0), (9, zp_ b4 0), (10, .slice aad (List.length (atS p)) acap), (11, zp_ b5 0), (12, .int .i64 (y.1.1 : Int))]) (fun y => ((b1, .cells #[.slice none 0 0, .slice none 0 0] 28 (0, 0)) :: ((b5, .cells #[.slice none 0 0, .slice (some ⟨r1, 0, none⟩) 6 6, .slice (some ⟨r2, 0, none⟩) 4 4, .slice (some ⟨r3, 0, none⟩) 2 2] 98 (0, 0)) :: (y.1.2.2.2.2.1 ++ (y.1.2.2.2.2.2.1 ++ (y.1.2.2.2.2.2.2.1 ++ (y.1.2.2.2.2.2.2.2.1 ++ (y.1.2.2.2.2.2.2.2.2.1 ++ (y.1.2.2.2.2.2.2.2.2.2.1 ++ y.1.2.2.2.2.2.2.2.2.2.2))))))))) (fun y => [ap_ (some ⟨r1, 0, none⟩) (List.flatMap fvC (rlV g 1)), ap_ (some ⟨r2, 0, none⟩) (List.flatMap fvC (rlV g 2)), ap_ (some ⟨r3, 0, none⟩) (List.flatMap fvC (rlV g 3)), ap_ aad (List.flatMap aL_ (atS p)), mlF Tryz.prog 171 Ky.val Pc.cells pb (aF_ (uniq [] p)) adr, dE_ g (.cells #[.map (some pb), .slice lad (List.length (am_ (uniq [] p))) lcap, .map (some kb), .func (.func 55) #[] #[zp_ b2 0, zp_ b3 0, zp_ b4 0], .map (some ab), .map (some ub), .map (some ob), .map (some ib), .map (some rb), .map (some sb), .map (some fb)] 94 (0, 0)), dE_ b3 (.cells #[.int .i64 (m : Int)] 3 (0, 0)), dE_ b2 (.cells #[zp_ g 0] 85 (0, 0)), ap_ lad (List.flatMap aL_ (am_ (uniq [] p))), ap_ pad (List.flatMap Pc.cells p), eu_]) (fun y => m + 1 - y.1.1) ⟨((0 : Nat), (emits (be_ m) (dG_ (am_ (uniq [] p)) (atS p)) []), ([] : List Fc), Ix.nil, [(ab, .map #[] 0)], [(ub, .map #[] 0)], [(ob, .map #[] 0)], [(ib, .map #[] 0)], [(rb, .map #[] 0)], [(sb, .map #[] 0)], Hs1), jY_ hvk rfl, by exact hS1, ⟨cR_.nil _ _, cR_.nil _ _, cR_.nil _ _, cR_.nil _ _, cR_.nil _ _, cR_.nil _ _⟩, nd_⟩ ⟨rfl, rfl, rfl, rfl, rfl, rfl, rfl, rfl, rfl, trivial⟩ (j_ (b_ (b_ (b_ (b_ (b_ (b_ (b_ f_))))))) (j_ f_ (j_ f_ (j_ f_ (j_ f_ (j_ f_ (j_ f_ (j_ f_ aO_)))))))) (fun _ _ h => h) ?_
    rintro ⟨⟨n, q, fm, x, Ha, Hu, Ho, Hi, Hr, Hm, Hs⟩, hL, hS, hI, hz⟩
    dsimp only at hL hS hI hz ⊢
    obtain ⟨sv1, es1, ce1, ef1, cf1, qf1, Hq1, hHs1, hrQ1, hEk1, hEf1, hqf1⟩ := hS
    subst hHs1
    have hqm := hL.len
    have hnq := hL.le
    obtain ⟨hxl, hyl⟩ := jZ_ hz (by omega)
    refine h_ (ay_ (aV_ f_ (aV_ f_ (aV_ (k_ (k_ (k_ (k_ (k_ (k_ f_)))))) (cG_ (k_ (k_ (k_ (k_ (k_ (k_ f_)))))))))) (h_ (d_ (a_ (g_ rfl) rfl (a_ (t_ 2 bi_ rfl rfl rfl) rfl (a_ (fS_ hrQ1 L_ rfl) rfl (x_ (ar_ rfl rfl) rfl fun r4 hr4 => ?_)))))))
    refine e_ (c_ rfl ?_)
    cases r4
    ·
     replace hr4 := of_decide_eq_false hr4
     refine s_ rfl (au_ rfl (c_ rfl (h_ (h_ ?_))))
     refine az_ (by kernel_rfl) ?_
     refine ag_ 0 [0, 1, 2, 3, 4, 5, 6] (by kernel_rfl) (fun _ a b => ⟨a, b⟩) (l_ rfl (U_ bK_ rfl (fun v _ h => by exact h.2.2.2.2.2.2.2.1) rfl) rfl (l_ rfl (ab_ rfl) rfl (l_ rfl (m_ w_ rfl rfl rfl bw_) rfl (l_ rfl (U_ bJ_ rfl (fun v _ h => by exact h.2.2.2.2.2.1) rfl) rfl (l_ rfl (bG_ (dZ_ (E := (EA m hm (EngB.mk g pb ab ub ob ib rb sb lad lcap (am_ (uniq [] p))) b2 b3 b4 kb fb)) (nw := q) (Hs := ((b4, .cells #[sv1] 26 (0, 0)) :: (kb, .map es1 ce1) :: ([(fb, .map ef1 cf1)] ++ Hq1))) ⟨sv1, es1, ce1, ef1, cf1, qf1, Hq1, rfl, hrQ1, hEk1, hEf1, hqf1⟩ aN_ rfl (j_ (b_ (b_ f_)) (j_ (b_ (b_ f_)) (A_ (b_ (b_ (k_ (k_ (k_ (k_ (k_ (k_ q_)))))))) (b_ (b_ (k_ (k_ (k_ (k_ (k_ aR_))))))))))) (show _ = Value.int .i64 (List.length q : Int) from rfl)) rfl (l_ rfl (U_ O_ rfl (fun v _ h => by exact h.2.2.2.2.2.2.1) rfl) rfl ?_))))))
     refine cq_ rfl (bL_ rfl rfl) rfl fun r5 hr5 => ?_
     refine af_ (Y_ (by kernel_rfl) (c_ rfl ?_))
     cases r5
     ·
      replace hr5 := of_decide_eq_false hr5
      refine s_ rfl (B_ (c_ rfl (h_ (d_ (a_ (t_ 2 bi_ rfl rfl rfl) rfl (aa_ (nG_ hrQ1 (by omega)) rfl (b_ (b_ (b_ (b_ (k_ (k_ (k_ (k_ (k_ (k_ aR_)))))))))) (fun _ _ _ => by exact trivial) rfl fun ⟨Hq9, hq9⟩ => ?_))))))
      dsimp only
      refine e_ (c_ rfl (ay_ (aV_ (k_ f_) (aV_ (k_ f_) (aV_ (k_ f_) (cG_ (k_ f_))))) (h_ (cj_ hq9 (b_ (b_ (b_ (b_ q_)))) fun fad fcap hfad hcfad hmfad hzfad => ?_))))
      subst hfad
      refine d_ (a_ (g_ rfl) rfl (a_ (t_ 2 bi_ rfl rfl rfl) rfl (a_ (aj_ dM_ rfl rfl) rfl (R_ 0 ad_ rfl rfl rfl rfl rfl rfl (a_ (i_ rfl) rfl (e_ (c_ rfl (D_ ?_))))))))
      exact dh_ ⟨((Cl.mk (atS p) aad acap (fU_ q) fad fcap), 0), ov_ hchk hb0 hb1 hm0' ⟨hac, ham, haz, hcfad, hmfad, hzfad⟩ rfl hL (by omega) (by omega) rfl⟩ (fun aa v h1 h2 => dB_ (us := Cl.cells (Cl.mk (atS p) aad acap (fU_ q) fad fcap)) 0 cl_ bp_ ad_ rfl rfl rfl rfl aa v h1 h2) F_ (fun v _ h => by exact ⟨h.2.2.2.2.1, h.1, trivial⟩)
     ·
      replace hr5 := of_decide_eq_true hr5
      refine p_ rfl (h_ (h_ (d_ (a_ (g_ rfl) rfl (x_ (ar_ rfl rfl) rfl fun r6 hr6 => ?_)))))
      refine e_ (c_ rfl ?_)
      cases r6
      ·
       replace hr6 := of_decide_eq_false hr6
       refine s_ rfl (B_ (c_ rfl (h_ (d_ (a_ (aj_ dM_ rfl rfl) rfl (R_ 0 ad_ rfl rfl rfl rfl rfl rfl (a_ (i_ rfl) rfl (e_ (c_ rfl ?_)))))))))
       refine D_ ?_
       exact dh_ ⟨((Cl.mk [] none 0 [] none 0), 2), dv_ hchk hb0 hb1 hm0' (by rw [if_neg (by assumption)]) hL.nd hL.der (by omega)⟩ (fun aa v h1 h2 => dB_ (us := Cl.cells (Cl.mk [] none 0 [] none 0)) 0 cl_ bp_ ad_ rfl rfl rfl rfl aa v h1 h2) F_ (fun v _ h => by exact ⟨.inl rfl, .inl rfl, trivial⟩)
      ·
       replace hr6 := of_decide_eq_true hr6
       refine p_ rfl (h_ (d_ (a_ (aj_ dM_ rfl rfl) rfl (R_ 0 ad_ rfl rfl rfl rfl rfl rfl (a_ (i_ rfl) rfl (e_ (c_ rfl (D_ ?_))))))))
       exact dh_ ⟨((Cl.mk [] none 0 [] none 0), 3), dv_ hchk hb0 hb1 hm0' (by rw [if_pos (by assumption)]) hL.nd hL.der (by omega)⟩ (fun aa v h1 h2 => dB_ (us := Cl.cells (Cl.mk [] none 0 [] none 0)) 0 cl_ bp_ ad_ rfl rfl rfl rfl aa v h1 h2) F_ (fun v _ h => by exact ⟨.inl rfl, .inl rfl, trivial⟩)
    ·
     replace hr4 := of_decide_eq_true hr4
     have hlf : n < List.length q := by omega
     obtain ⟨f, hf⟩ : ∃ e0, q[n]? = some e0 := ⟨_, List.getElem?_eq_getElem hlf⟩
     have hmf : f ∈ q := List.mem_of_getElem? hf
     have hfd := hL.der f hmf
     have hform := hfd.form hvk
     obtain ⟨hxl1, hyl1⟩ := jZ_ (gq_ hz (decide (f ∈ fm)) f) (by omega)
     refine p_ rfl (B_ (c_ rfl (h_ (K_ (h_ (d_ (a_ (t_ 2 bi_ rfl rfl rfl) rfl (a_ (g_ rfl) rfl (a_ (lv_ hrQ1 L_ G_ rfl rfl (by omega) (by omega)) rfl ?_)))))))))
     refine a_ (lu_ hrQ1 (b_ (b_ (b_ (b_ (k_ (k_ (k_ (k_ (k_ (k_ aR_)))))))))) ac_ G_ rfl (Fc.cells_len _) (by decide) (ao_ Fc.cells_len hf)) rfl (ah_ bb_ rfl fun b6 => ?_)
     refine R_ 0 G_ rfl rfl rfl rfl rfl rfl (e_ (c_ rfl (h_ (d_ (a_ (U_ bK_ rfl (fun v _ h => by exact h.2.2.2.2.2.2.2.1) rfl) rfl (a_ (X_ 0 ac_ G_ rfl rfl rfl) rfl (aa_ (oc_ (EngB.mk g pb ab ub ob ib rb sb lad lcap (am_ (uniq [] p))) (EA m hm (EngB.mk g pb ab ub ob ib rb sb lad lcap (am_ (uniq [] p))) b2 b3 b4 kb fb) x f q fm ((b4, .cells #[sv1] 26 (0, 0)) :: (kb, .map es1 ce1) :: ([(fb, .map ef1 cf1)] ++ Hq1)) ⟨sv1, es1, ce1, ef1, cf1, qf1, Hq1, rfl, hrQ1, hEk1, hEf1, hqf1⟩ Ha Hu Ho Hi Hr Hm hI hxl hyl) rfl (A_ (b_ (b_ (b_ (b_ (b_ q_))))) (A_ (b_ (b_ (b_ (b_ (b_ q_))))) (A_ (b_ (b_ (b_ (b_ (b_ q_))))) (A_ (b_ (b_ (b_ (b_ (b_ q_))))) (A_ (b_ (b_ (b_ (b_ (b_ q_))))) (A_ (b_ (b_ (b_ (b_ (b_ q_))))) (j_ (b_ (b_ (b_ f_))) (j_ (b_ (b_ (b_ f_))) (A_ (b_ (b_ (b_ q_))) (b_ (b_ S_))))))))))) (fun v _ h => by exact ⟨h.2.2.2.2.2.1, trivial⟩) rfl fun ⟨⟨Ha1, Hu1, Ho1, Hi1, Hr1, Hm1⟩, hI1⟩ => ?_)))))))
     dsimp only
     refine ay_ nT_ (e_ (c_ rfl (ay_ (aV_ (k_ (k_ (k_ (k_ (k_ (k_ f_)))))) (aV_ (k_ (k_ (k_ (k_ (k_ (k_ f_)))))) (aV_ (k_ (k_ (k_ (k_ (k_ (k_ (k_ (k_ f_)))))))) (aV_ (k_ (k_ (k_ (k_ (k_ (k_ (k_ (k_ f_)))))))) (cG_ (k_ (k_ (k_ (k_ (k_ (k_ (k_ aR_)))))))))))) (h_ (d_ (a_ (m_ n_ rfl rfl rfl T_) rfl (a_ (t_ 2 O_ rfl rfl rfl) rfl ?_)))))))
     rcases fG_ hform with hk | hk | hk
     ·
      refine a_ (bG_ (eL_ mE_ Tryz.sizeOf97 rfl rfl (by omega) (by omega)) (show _ = zp_ b5 1 from by rw [hk]; rfl)) rfl (a_ (t_ 4 Tryz.isAgg97 rfl rfl rfl) rfl (a_ (ae_ cf_ rfl) rfl (a_ (g_ rfl) rfl (e_ (c_ rfl (K_ (eh_ (H' := ((b1, .cells #[.slice none 0 0, .slice none 0 0] 28 (0, 0)) :: ((b5, .cells #[.slice none 0 0, .slice (some ⟨r1, 0, none⟩) 6 6, .slice (some ⟨r2, 0, none⟩) 4 4, .slice (some ⟨r3, 0, none⟩) 2 2] 98 (0, 0)) :: ((b6, .cells (Fc.cells f).toArray 41 (0, 0)) :: (Ha1 ++ (Hu1 ++ (Ho1 ++ (Hi1 ++ (Hr1 ++ (Hm1 ++ ((b4, .cells #[sv1] 26 (0, 0)) :: (kb, .map es1 ce1) :: ([(fb, .map ef1 cf1)] ++ Hq1)))))))))))) (j_ (b_ (b_ (b_ f_))) (j_ (b_ (b_ (b_ f_))) (j_ (b_ (b_ f_)) (A_ (b_ (b_ q_)) (A_ (b_ (b_ q_)) (A_ (b_ (b_ q_)) (A_ (b_ (b_ q_)) (A_ (b_ (b_ q_)) (A_ (b_ (b_ q_)) (j_ f_ (j_ f_ (A_ q_ aO_)))))))))))) (fun v _ h => h) ?_)))))))
      refine ax_ (ι := {y : Nat × Hp // y.1 ≤ 6 ∧ ((EA m hm (EngB.mk g pb ab ub ob ib rb sb lad lcap (am_ (uniq [] p))) b2 b3 b4 kb fb)).St (rls (be_ m) idk (aF_ (uniq [] p)) (Ix.add x (decide (f ∈ fm)) f) f y.1 (q, fm)).1 (rls (be_ m) idk (aF_ (uniq [] p)) (Ix.add x (decide (f ∈ fm)) f) f y.1 (q, fm)).2 y.2 ∧ (y.1 = 0 ∨ ((rls (be_ m) idk (aF_ (uniq [] p)) (Ix.add x (decide (f ∈ fm)) f) f y.1 (q, fm)).1).length ≤ m)}) (fun y => [(0, .slice pad (List.length p) pcap), (1, .int .i64 bu), (4, zp_ b1 0), (7, zp_ b2 0), (8, zp_ b3 0), (9, zp_ b4 0), (10, .slice aad (List.length (atS p)) acap), (11, zp_ b5 0), (12, .int .i64 (n : Int)), (13, zp_ b6 0), (60, .slice (some ⟨r1, 0, none⟩) 6 6), (61, .int .i64 6), (62, .int .i64 (y.1.1 : Int))]) (fun y => ((b1, .cells #[.slice none 0 0, .slice none 0 0] 28 (0, 0)) :: ((b5, .cells #[.slice none 0 0, .slice (some ⟨r1, 0, none⟩) 6 6, .slice (some ⟨r2, 0, none⟩) 4 4, .slice (some ⟨r3, 0, none⟩) 2 2] 98 (0, 0)) :: ((b6, .cells (Fc.cells f).toArray 41 (0, 0)) :: (Ha1 ++ (Hu1 ++ (Ho1 ++ (Hi1 ++ (Hr1 ++ (Hm1 ++ y.1.2)))))))))) (fun y => [ap_ (some ⟨r1, 0, none⟩) (List.flatMap fvC (rlV g 1)), ap_ (some ⟨r2, 0, none⟩) (List.flatMap fvC (rlV g 2)), ap_ (some ⟨r3, 0, none⟩) (List.flatMap fvC (rlV g 3)), ap_ aad (List.flatMap aL_ (atS p)), mlF Tryz.prog 171 Ky.val Pc.cells pb (aF_ (uniq [] p)) adr, dE_ g (.cells #[.map (some pb), .slice lad (List.length (am_ (uniq [] p))) lcap, .map (some kb), .func (.func 55) #[] #[zp_ b2 0, zp_ b3 0, zp_ b4 0], .map (some ab), .map (some ub), .map (some ob), .map (some ib), .map (some rb), .map (some sb), .map (some fb)] 94 (0, 0)), dE_ b3 (.cells #[.int .i64 (m : Int)] 3 (0, 0)), dE_ b2 (.cells #[zp_ g 0] 85 (0, 0)), ap_ lad (List.flatMap aL_ (am_ (uniq [] p))), ap_ pad (List.flatMap Pc.cells p), eu_]) (fun y => 6 - y.1.1) ⟨((0 : Nat), ((b4, .cells #[sv1] 26 (0, 0)) :: (kb, .map es1 ce1) :: ([(fb, .map ef1 cf1)] ++ Hq1))), by omega, by exact ⟨sv1, es1, ce1, ef1, cf1, qf1, Hq1, rfl, hrQ1, hEk1, hEf1, hqf1⟩, .inl rfl⟩ ⟨rfl, rfl, rfl, rfl, rfl, rfl, rfl, rfl, rfl, rfl, rfl, rfl, rfl, trivial⟩ (j_ f_ (j_ f_ (j_ f_ (A_ q_ (A_ q_ (A_ q_ (A_ q_ (A_ q_ (A_ q_ aO_))))))))) (fun _ _ h => h) ?_
      rintro ⟨⟨j, Hs⟩, hj, hS2, hjm⟩
      dsimp only at hj hS2 hjm ⊢
      refine h_ (d_ (x_ (ar_ rfl rfl) rfl fun r7 hr7 => ?_))
      refine e_ (c_ rfl (h_ ?_))
      cases r7
      ·
       replace hr7 := of_decide_eq_false hr7
       have ej : j = 6 := by omega
       have hjl : ((rls (be_ m) idk (aF_ (uniq [] p)) (Ix.add x (decide (f ∈ fm)) f) f j (q, fm)).1).length ≤ m := hjm.resolve_left (by omega)
       rw [ej] at hjl hS2
       refine s_ rfl (au_ rfl (c_ rfl (d_ (a_ (g_ rfl) rfl (a_ (P_ rfl rfl rfl (an_ (by omega) (by omega))) rfl (a_ (i_ rfl) rfl (e_ (v_ rfl ?_))))))))
       exact ai_ ⟨(n + 1, (rls (be_ m) idk (aF_ (uniq [] p)) (Ix.add x (decide (f ∈ fm)) f) f 6 (q, fm)).1, (rls (be_ m) idk (aF_ (uniq [] p)) (Ix.add x (decide (f ∈ fm)) f) f 6 (q, fm)).2, (Ix.add x (decide (f ∈ fm)) f), Ha1, Hu1, Ho1, Hi1, Hr1, Hm1, Hs), (fX_ hvk hL hf (by have e : nrl f = 6 := (by unfold nrl; simp [hk]); rw [e]) (by omega)), (by exact hS2), hI1, (gq_ hz _ f)⟩ (by dsimp only; omega) ⟨rfl, rfl, rfl, rfl, rfl, rfl, rfl, rfl, rfl, trivial⟩ (j_ f_ (j_ f_ (A_ (b_ q_) (A_ (b_ q_) (A_ (b_ q_) (A_ (b_ q_) (A_ (b_ q_) (A_ (b_ q_) S_)))))))) (fun _ _ h => h)
      ·
       replace hr7 := of_decide_eq_true hr7
       have hlfv : j < List.length (rlV g 1) := by show j < 6; omega
       obtain ⟨fv, hfv⟩ : ∃ e0, (rlV g 1)[j]? = some e0 := ⟨_, List.getElem?_eq_getElem hlfv⟩
       have hmfv : fv ∈ (rlV g 1) := List.mem_of_getElem? hfv
       refine p_ rfl (B_ (c_ rfl (h_ (K_ (h_ (d_ (a_ (al_ cf_ aC_ rfl rfl (fun v _ h => aG_ (n := 1) fF_ (by decide) (by exact h.1) hfv) (by omega) (by omega)) rfl (a_ (bu_ (ad := (some ⟨r1, 0, none⟩)) bh_ rfl (fun v _ h => by exact h.1) (ao_ fF_ hfv 0 _ rfl)) rfl (a_ (i_ rfl) rfl ?_)))))))))
       refine e_ (c_ rfl (h_ (d_ (a_ (g_ rfl) rfl (a_ (X_ 2 ac_ G_ rfl rfl rfl) rfl ?_)))))
       obtain ⟨nr, rfl, hT⟩ := nN_ (EngB.mk g pb ab ub ob ib rb sb lad lcap (am_ (uniq [] p))) (EA m hm (EngB.mk g pb ab ub ob ib rb sb lad lcap (am_ (uniq [] p))) b2 b3 b4 kb fb) (EngA.mk adr (fun _ => (none, 0)) (fun _ => (none, 0)) (fun _ => (none, 0)) (fun _ => (none, 0)) (fun _ => (none, 0)) (fun _ => (none, 0))) (aF_ (uniq [] p)) (Ix.add x (decide (f ∈ fm)) f) f (rls (be_ m) idk (aF_ (uniq [] p)) (Ix.add x (decide (f ∈ fm)) f) f j (q, fm)).1 (rls (be_ m) idk (aF_ (uniq [] p)) (Ix.add x (decide (f ∈ fm)) f) f j (q, fm)).2 Hs hS2 Ha1 Hu1 Ho1 Hi1 Hr1 Hm1 hI1 hpl hxl1 hyl1 (fun hk => (fb_ hform hk).2.2) (fun _ y hy => (hvk y (pm9.1 hy).1).num (.inr (pm9.1 hy).2.1)) hk j hfv
       refine aH_ (first := [zp_ g 0]) (vs := [Fc.val f]) (cap := []) hT rfl rfl (kx_ (A_ (b_ (b_ (b_ q_))) (A_ (b_ (b_ (b_ q_))) (A_ (b_ (b_ (b_ q_))) (A_ (b_ (b_ (b_ q_))) (A_ (b_ (b_ (b_ q_))) (A_ (b_ (b_ (b_ q_))) (b_ (b_ S_))))))))) (fun v _ h => by exact ⟨h.2.2.2.2.2.1, h.2.2.2.2.1, ⟨h.2.2.2.2.2.2.2.1, h.2.2.2.2.2.2.1, h.2.2.2.2.2.1⟩, trivial⟩) rfl fun ⟨Hs3, hS3⟩ => ?_
       refine ay_ iM_ (e_ (c_ rfl (ay_ (aV_ (k_ (k_ (k_ (k_ (k_ (k_ (k_ f_))))))) (aV_ (k_ (k_ (k_ (k_ (k_ (k_ (k_ f_))))))) (cG_ (k_ (k_ (k_ (k_ (k_ (k_ aR_))))))))) (h_ ?_))))
       refine az_ (by kernel_rfl) ?_
       refine ag_ 0 [0, 1, 2, 3, 4, 5, 6] (by kernel_rfl) (fun _ a b => ⟨a, b⟩) (l_ rfl (U_ bK_ rfl (fun v _ h => by exact h.2.2.2.2.2.2.2.1) rfl) rfl (l_ rfl (ab_ rfl) rfl (l_ rfl (m_ w_ rfl rfl rfl bw_) rfl (l_ rfl (U_ bJ_ rfl (fun v _ h => by exact h.2.2.2.2.2.1) rfl) rfl (l_ rfl (bG_ (dZ_ (E := (EA m hm (EngB.mk g pb ab ub ob ib rb sb lad lcap (am_ (uniq [] p))) b2 b3 b4 kb fb)) (nw := (rls (be_ m) idk (aF_ (uniq [] p)) (Ix.add x (decide (f ∈ fm)) f) f (j + 1) (q, fm)).1) (Hs := Hs3) hS3 aN_ rfl (b_ (b_ (b_ (k_ (k_ (k_ (k_ (k_ aR_))))))))) (show _ = Value.int .i64 (List.length (rls (be_ m) idk (aF_ (uniq [] p)) (Ix.add x (decide (f ∈ fm)) f) f (j + 1) (q, fm)).1 : Int) from rfl)) rfl (l_ rfl (U_ O_ rfl (fun v _ h => by exact h.2.2.2.2.2.2.1) rfl) rfl ?_))))))
       refine cq_ rfl (bL_ rfl rfl) rfl fun r8 hr8 => ?_
       refine af_ (Y_ (by kernel_rfl) (c_ rfl ?_))
       cases r8
       ·
        replace hr8 := of_decide_eq_false hr8
        refine s_ rfl (B_ (c_ rfl (d_ (a_ (P_ rfl rfl rfl (an_ (by omega) (by omega))) rfl (a_ (g_ rfl) rfl (e_ (v_ rfl ?_)))))))
        exact ai_ ⟨(j + 1, Hs3), hlfv, by exact hS3, .inr (by dsimp only; omega)⟩ (by dsimp only; omega) ⟨rfl, rfl, rfl, rfl, rfl, rfl, rfl, rfl, rfl, rfl, rfl, rfl, rfl, trivial⟩ (j_ f_ (j_ f_ (j_ f_ (A_ q_ (A_ q_ (A_ q_ (A_ q_ (A_ q_ (A_ q_ aO_))))))))) (fun _ _ h => h)
       ·
        replace hr8 := of_decide_eq_true hr8
        refine p_ rfl (au_ rfl (c_ rfl (h_ (h_ ?_))))
        refine az_ (by kernel_rfl) ?_
        refine ag_ 0 [0, 1, 2, 3, 4, 5, 6] (by kernel_rfl) (fun _ a b => ⟨a, b⟩) (l_ rfl (U_ bK_ rfl (fun v _ h => by exact h.2.2.2.2.2.2.2.1) rfl) rfl (l_ rfl (ab_ rfl) rfl (l_ rfl (m_ w_ rfl rfl rfl bw_) rfl (l_ rfl (U_ bJ_ rfl (fun v _ h => by exact h.2.2.2.2.2.1) rfl) rfl (l_ rfl (bG_ (dZ_ (E := (EA m hm (EngB.mk g pb ab ub ob ib rb sb lad lcap (am_ (uniq [] p))) b2 b3 b4 kb fb)) (nw := (rls (be_ m) idk (aF_ (uniq [] p)) (Ix.add x (decide (f ∈ fm)) f) f (j + 1) (q, fm)).1) (Hs := Hs3) hS3 aN_ rfl (b_ (b_ (b_ (k_ (k_ (k_ (k_ (k_ aR_))))))))) (show _ = Value.int .i64 (List.length (rls (be_ m) idk (aF_ (uniq [] p)) (Ix.add x (decide (f ∈ fm)) f) f (j + 1) (q, fm)).1 : Int) from rfl)) rfl (l_ rfl (U_ O_ rfl (fun v _ h => by exact h.2.2.2.2.2.2.1) rfl) rfl ?_))))))
        refine cq_ rfl (bL_ rfl rfl) rfl fun r9 hr9 => ?_
        refine af_ (Y_ (by kernel_rfl) (c_ rfl ?_))
        cases r9
        ·
         replace hr9 := of_decide_eq_false hr9
         omega
        ·
         replace hr9 := of_decide_eq_true hr9
         refine p_ rfl (h_ (h_ (d_ (a_ (g_ rfl) rfl (x_ (ar_ rfl rfl) rfl fun r10 hr10 => ?_)))))
         refine e_ (c_ rfl ?_)
         cases r10
         ·
          replace hr10 := of_decide_eq_false hr10
          refine s_ rfl (B_ (c_ rfl (h_ (d_ (a_ (aj_ dM_ rfl rfl) rfl (R_ 0 ad_ rfl rfl rfl rfl rfl rfl (a_ (i_ rfl) rfl (e_ (c_ rfl ?_)))))))))
          refine D_ ?_
          exact dh_ ⟨((Cl.mk [] none 0 [] none 0), 2), dv_ hchk hb0 hb1 hm0' (by rw [if_neg (by assumption)]) (bU_ hvk hL hf (j + 1) rfl).1 (bU_ hvk hL hf (j + 1) rfl).2.2.1 (by omega)⟩ (fun aa v h1 h2 => dB_ (us := Cl.cells (Cl.mk [] none 0 [] none 0)) 0 cl_ bp_ ad_ rfl rfl rfl rfl aa v h1 h2) F_ (fun v _ h => by exact ⟨.inl rfl, .inl rfl, trivial⟩)
         ·
          replace hr10 := of_decide_eq_true hr10
          refine p_ rfl (h_ (d_ (a_ (aj_ dM_ rfl rfl) rfl (R_ 0 ad_ rfl rfl rfl rfl rfl rfl (a_ (i_ rfl) rfl (e_ (c_ rfl (D_ ?_))))))))
          exact dh_ ⟨((Cl.mk [] none 0 [] none 0), 3), dv_ hchk hb0 hb1 hm0' (by rw [if_pos (by assumption)]) (bU_ hvk hL hf (j + 1) rfl).1 (bU_ hvk hL hf (j + 1) rfl).2.2.1 (by omega)⟩ (fun aa v h1 h2 => dB_ (us := Cl.cells (Cl.mk [] none 0 [] none 0)) 0 cl_ bp_ ad_ rfl rfl rfl rfl aa v h1 h2) F_ (fun v _ h => by exact ⟨.inl rfl, .inl rfl, trivial⟩)
     ·
      refine a_ (bG_ (eL_ mE_ Tryz.sizeOf97 rfl rfl (by omega) (by omega)) (show _ = zp_ b5 2 from by rw [hk]; rfl)) rfl (a_ (t_ 4 Tryz.isAgg97 rfl rfl rfl) rfl (a_ (ae_ cf_ rfl) rfl (a_ (g_ rfl) rfl (e_ (c_ rfl (K_ (eh_ (H' := ((b1, .cells #[.slice none 0 0, .slice none 0 0] 28 (0, 0)) :: ((b5, .cells #[.slice none 0 0, .slice (some ⟨r1, 0, none⟩) 6 6, .slice (some ⟨r2, 0, none⟩) 4 4, .slice (some ⟨r3, 0, none⟩) 2 2] 98 (0, 0)) :: ((b6, .cells (Fc.cells f).toArray 41 (0, 0)) :: (Ha1 ++ (Hu1 ++ (Ho1 ++ (Hi1 ++ (Hr1 ++ (Hm1 ++ ((b4, .cells #[sv1] 26 (0, 0)) :: (kb, .map es1 ce1) :: ([(fb, .map ef1 cf1)] ++ Hq1)))))))))))) (j_ (b_ (b_ (b_ f_))) (j_ (b_ (b_ (b_ f_))) (j_ (b_ (b_ f_)) (A_ (b_ (b_ q_)) (A_ (b_ (b_ q_)) (A_ (b_ (b_ q_)) (A_ (b_ (b_ q_)) (A_ (b_ (b_ q_)) (A_ (b_ (b_ q_)) (j_ f_ (j_ f_ (A_ q_ aO_)))))))))))) (fun v _ h => h) ?_)))))))
      refine ax_ (ι := {y : Nat × Hp // y.1 ≤ 4 ∧ ((EA m hm (EngB.mk g pb ab ub ob ib rb sb lad lcap (am_ (uniq [] p))) b2 b3 b4 kb fb)).St (rls (be_ m) idk (aF_ (uniq [] p)) (Ix.add x (decide (f ∈ fm)) f) f y.1 (q, fm)).1 (rls (be_ m) idk (aF_ (uniq [] p)) (Ix.add x (decide (f ∈ fm)) f) f y.1 (q, fm)).2 y.2 ∧ (y.1 = 0 ∨ ((rls (be_ m) idk (aF_ (uniq [] p)) (Ix.add x (decide (f ∈ fm)) f) f y.1 (q, fm)).1).length ≤ m)}) (fun y => [(0, .slice pad (List.length p) pcap), (1, .int .i64 bu), (4, zp_ b1 0), (7, zp_ b2 0), (8, zp_ b3 0), (9, zp_ b4 0), (10, .slice aad (List.length (atS p)) acap), (11, zp_ b5 0), (12, .int .i64 (n : Int)), (13, zp_ b6 0), (60, .slice (some ⟨r2, 0, none⟩) 4 4), (61, .int .i64 4), (62, .int .i64 (y.1.1 : Int))]) (fun y => ((b1, .cells #[.slice none 0 0, .slice none 0 0] 28 (0, 0)) :: ((b5, .cells #[.slice none 0 0, .slice (some ⟨r1, 0, none⟩) 6 6, .slice (some ⟨r2, 0, none⟩) 4 4, .slice (some ⟨r3, 0, none⟩) 2 2] 98 (0, 0)) :: ((b6, .cells (Fc.cells f).toArray 41 (0, 0)) :: (Ha1 ++ (Hu1 ++ (Ho1 ++ (Hi1 ++ (Hr1 ++ (Hm1 ++ y.1.2)))))))))) (fun y => [ap_ (some ⟨r1, 0, none⟩) (List.flatMap fvC (rlV g 1)), ap_ (some ⟨r2, 0, none⟩) (List.flatMap fvC (rlV g 2)), ap_ (some ⟨r3, 0, none⟩) (List.flatMap fvC (rlV g 3)), ap_ aad (List.flatMap aL_ (atS p)), mlF Tryz.prog 171 Ky.val Pc.cells pb (aF_ (uniq [] p)) adr, dE_ g (.cells #[.map (some pb), .slice lad (List.length (am_ (uniq [] p))) lcap, .map (some kb), .func (.func 55) #[] #[zp_ b2 0, zp_ b3 0, zp_ b4 0], .map (some ab), .map (some ub), .map (some ob), .map (some ib), .map (some rb), .map (some sb), .map (some fb)] 94 (0, 0)), dE_ b3 (.cells #[.int .i64 (m : Int)] 3 (0, 0)), dE_ b2 (.cells #[zp_ g 0] 85 (0, 0)), ap_ lad (List.flatMap aL_ (am_ (uniq [] p))), ap_ pad (List.flatMap Pc.cells p), eu_]) (fun y => 4 - y.1.1) ⟨((0 : Nat), ((b4, .cells #[sv1] 26 (0, 0)) :: (kb, .map es1 ce1) :: ([(fb, .map ef1 cf1)] ++ Hq1))), by omega, by exact ⟨sv1, es1, ce1, ef1, cf1, qf1, Hq1, rfl, hrQ1, hEk1, hEf1, hqf1⟩, .inl rfl⟩ ⟨rfl, rfl, rfl, rfl, rfl, rfl, rfl, rfl, rfl, rfl, rfl, rfl, rfl, trivial⟩ (j_ f_ (j_ f_ (j_ f_ (A_ q_ (A_ q_ (A_ q_ (A_ q_ (A_ q_ (A_ q_ aO_))))))))) (fun _ _ h => h) ?_
      rintro ⟨⟨j, Hs⟩, hj, hS2, hjm⟩
      dsimp only at hj hS2 hjm ⊢
      refine h_ (d_ (x_ (ar_ rfl rfl) rfl fun r11 hr11 => ?_))
      refine e_ (c_ rfl (h_ ?_))
      cases r11
      ·
       replace hr11 := of_decide_eq_false hr11
       have ej : j = 4 := by omega
       have hjl : ((rls (be_ m) idk (aF_ (uniq [] p)) (Ix.add x (decide (f ∈ fm)) f) f j (q, fm)).1).length ≤ m := hjm.resolve_left (by omega)
       rw [ej] at hjl hS2
       refine s_ rfl (au_ rfl (c_ rfl (d_ (a_ (g_ rfl) rfl (a_ (P_ rfl rfl rfl (an_ (by omega) (by omega))) rfl (a_ (i_ rfl) rfl (e_ (v_ rfl ?_))))))))
       exact ai_ ⟨(n + 1, (rls (be_ m) idk (aF_ (uniq [] p)) (Ix.add x (decide (f ∈ fm)) f) f 4 (q, fm)).1, (rls (be_ m) idk (aF_ (uniq [] p)) (Ix.add x (decide (f ∈ fm)) f) f 4 (q, fm)).2, (Ix.add x (decide (f ∈ fm)) f), Ha1, Hu1, Ho1, Hi1, Hr1, Hm1, Hs), (fX_ hvk hL hf (by have e : nrl f = 4 := (by unfold nrl; simp [hk]); rw [e]) (by omega)), (by exact hS2), hI1, (gq_ hz _ f)⟩ (by dsimp only; omega) ⟨rfl, rfl, rfl, rfl, rfl, rfl, rfl, rfl, rfl, trivial⟩ (j_ f_ (j_ f_ (A_ (b_ q_) (A_ (b_ q_) (A_ (b_ q_) (A_ (b_ q_) (A_ (b_ q_) (A_ (b_ q_) S_)))))))) (fun _ _ h => h)
      ·
       replace hr11 := of_decide_eq_true hr11
       have hlfv : j < List.length (rlV g 2) := by show j < 4; omega
       obtain ⟨fv, hfv⟩ : ∃ e0, (rlV g 2)[j]? = some e0 := ⟨_, List.getElem?_eq_getElem hlfv⟩
       have hmfv : fv ∈ (rlV g 2) := List.mem_of_getElem? hfv
       refine p_ rfl (B_ (c_ rfl (h_ (K_ (h_ (d_ (a_ (al_ cf_ aC_ rfl rfl (fun v _ h => aG_ (n := 1) fF_ (by decide) (by exact h.2.1) hfv) (by omega) (by omega)) rfl (a_ (bu_ (ad := (some ⟨r2, 0, none⟩)) bh_ rfl (fun v _ h => by exact h.2.1) (ao_ fF_ hfv 0 _ rfl)) rfl (a_ (i_ rfl) rfl ?_)))))))))
       refine e_ (c_ rfl (h_ (d_ (a_ (g_ rfl) rfl (a_ (X_ 2 ac_ G_ rfl rfl rfl) rfl ?_)))))
       obtain ⟨nr, rfl, hT⟩ := nM_ (EngB.mk g pb ab ub ob ib rb sb lad lcap (am_ (uniq [] p))) (EA m hm (EngB.mk g pb ab ub ob ib rb sb lad lcap (am_ (uniq [] p))) b2 b3 b4 kb fb) (EngA.mk adr (fun _ => (none, 0)) (fun _ => (none, 0)) (fun _ => (none, 0)) (fun _ => (none, 0)) (fun _ => (none, 0)) (fun _ => (none, 0))) (aF_ (uniq [] p)) (Ix.add x (decide (f ∈ fm)) f) f (rls (be_ m) idk (aF_ (uniq [] p)) (Ix.add x (decide (f ∈ fm)) f) f j (q, fm)).1 (rls (be_ m) idk (aF_ (uniq [] p)) (Ix.add x (decide (f ∈ fm)) f) f j (q, fm)).2 Hs hS2 Ha1 Hu1 Ho1 Hi1 Hr1 Hm1 hI1 hpl hxl1 hyl1 (fun hk => (fb_ hform hk).2.2) (fun _ y hy => (hvk y (pm9.1 hy).1).num (.inr (pm9.1 hy).2.1)) hk j hfv
       refine aH_ (first := [zp_ g 0]) (vs := [Fc.val f]) (cap := []) hT rfl rfl (kx_ (A_ (b_ (b_ (b_ q_))) (A_ (b_ (b_ (b_ q_))) (A_ (b_ (b_ (b_ q_))) (A_ (b_ (b_ (b_ q_))) (A_ (b_ (b_ (b_ q_))) (A_ (b_ (b_ (b_ q_))) (b_ (b_ S_))))))))) (fun v _ h => by exact ⟨h.2.2.2.2.2.1, h.2.2.2.2.1, ⟨h.2.2.2.2.2.2.2.1, h.2.2.2.2.2.2.1, h.2.2.2.2.2.1⟩, trivial⟩) rfl fun ⟨Hs3, hS3⟩ => ?_
       refine ay_ iM_ (e_ (c_ rfl (ay_ (aV_ (k_ (k_ (k_ (k_ (k_ (k_ (k_ f_))))))) (aV_ (k_ (k_ (k_ (k_ (k_ (k_ (k_ f_))))))) (cG_ (k_ (k_ (k_ (k_ (k_ (k_ aR_))))))))) (h_ ?_))))
       refine az_ (by kernel_rfl) ?_
       refine ag_ 0 [0, 1, 2, 3, 4, 5, 6] (by kernel_rfl) (fun _ a b => ⟨a, b⟩) (l_ rfl (U_ bK_ rfl (fun v _ h => by exact h.2.2.2.2.2.2.2.1) rfl) rfl (l_ rfl (ab_ rfl) rfl (l_ rfl (m_ w_ rfl rfl rfl bw_) rfl (l_ rfl (U_ bJ_ rfl (fun v _ h => by exact h.2.2.2.2.2.1) rfl) rfl (l_ rfl (bG_ (dZ_ (E := (EA m hm (EngB.mk g pb ab ub ob ib rb sb lad lcap (am_ (uniq [] p))) b2 b3 b4 kb fb)) (nw := (rls (be_ m) idk (aF_ (uniq [] p)) (Ix.add x (decide (f ∈ fm)) f) f (j + 1) (q, fm)).1) (Hs := Hs3) hS3 aN_ rfl (b_ (b_ (b_ (k_ (k_ (k_ (k_ (k_ aR_))))))))) (show _ = Value.int .i64 (List.length (rls (be_ m) idk (aF_ (uniq [] p)) (Ix.add x (decide (f ∈ fm)) f) f (j + 1) (q, fm)).1 : Int) from rfl)) rfl (l_ rfl (U_ O_ rfl (fun v _ h => by exact h.2.2.2.2.2.2.1) rfl) rfl ?_))))))
       refine cq_ rfl (bL_ rfl rfl) rfl fun r12 hr12 => ?_
       refine af_ (Y_ (by kernel_rfl) (c_ rfl ?_))
       cases r12
       ·
        replace hr12 := of_decide_eq_false hr12
        refine s_ rfl (B_ (c_ rfl (d_ (a_ (P_ rfl rfl rfl (an_ (by omega) (by omega))) rfl (a_ (g_ rfl) rfl (e_ (v_ rfl ?_)))))))
        exact ai_ ⟨(j + 1, Hs3), hlfv, by exact hS3, .inr (by dsimp only; omega)⟩ (by dsimp only; omega) ⟨rfl, rfl, rfl, rfl, rfl, rfl, rfl, rfl, rfl, rfl, rfl, rfl, rfl, trivial⟩ (j_ f_ (j_ f_ (j_ f_ (A_ q_ (A_ q_ (A_ q_ (A_ q_ (A_ q_ (A_ q_ aO_))))))))) (fun _ _ h => h)
       ·
        replace hr12 := of_decide_eq_true hr12
        refine p_ rfl (au_ rfl (c_ rfl (h_ (h_ ?_))))
        refine az_ (by kernel_rfl) ?_
        refine ag_ 0 [0, 1, 2, 3, 4, 5, 6] (by kernel_rfl) (fun _ a b => ⟨a, b⟩) (l_ rfl (U_ bK_ rfl (fun v _ h => by exact h.2.2.2.2.2.2.2.1) rfl) rfl (l_ rfl (ab_ rfl) rfl (l_ rfl (m_ w_ rfl rfl rfl bw_) rfl (l_ rfl (U_ bJ_ rfl (fun v _ h => by exact h.2.2.2.2.2.1) rfl) rfl (l_ rfl (bG_ (dZ_ (E := (EA m hm (EngB.mk g pb ab ub ob ib rb sb lad lcap (am_ (uniq [] p))) b2 b3 b4 kb fb)) (nw := (rls (be_ m) idk (aF_ (uniq [] p)) (Ix.add x (decide (f ∈ fm)) f) f (j + 1) (q, fm)).1) (Hs := Hs3) hS3 aN_ rfl (b_ (b_ (b_ (k_ (k_ (k_ (k_ (k_ aR_))))))))) (show _ = Value.int .i64 (List.length (rls (be_ m) idk (aF_ (uniq [] p)) (Ix.add x (decide (f ∈ fm)) f) f (j + 1) (q, fm)).1 : Int) from rfl)) rfl (l_ rfl (U_ O_ rfl (fun v _ h => by exact h.2.2.2.2.2.2.1) rfl) rfl ?_))))))
        refine cq_ rfl (bL_ rfl rfl) rfl fun r13 hr13 => ?_
        refine af_ (Y_ (by kernel_rfl) (c_ rfl ?_))
        cases r13
        ·
         replace hr13 := of_decide_eq_false hr13
         omega
        ·
         replace hr13 := of_decide_eq_true hr13
         refine p_ rfl (h_ (h_ (d_ (a_ (g_ rfl) rfl (x_ (ar_ rfl rfl) rfl fun r14 hr14 => ?_)))))
         refine e_ (c_ rfl ?_)
         cases r14
         ·
          replace hr14 := of_decide_eq_false hr14
          refine s_ rfl (B_ (c_ rfl (h_ (d_ (a_ (aj_ dM_ rfl rfl) rfl (R_ 0 ad_ rfl rfl rfl rfl rfl rfl (a_ (i_ rfl) rfl (e_ (c_ rfl ?_)))))))))
          refine D_ ?_
          exact dh_ ⟨((Cl.mk [] none 0 [] none 0), 2), dv_ hchk hb0 hb1 hm0' (by rw [if_neg (by assumption)]) (bU_ hvk hL hf (j + 1) rfl).1 (bU_ hvk hL hf (j + 1) rfl).2.2.1 (by omega)⟩ (fun aa v h1 h2 => dB_ (us := Cl.cells (Cl.mk [] none 0 [] none 0)) 0 cl_ bp_ ad_ rfl rfl rfl rfl aa v h1 h2) F_ (fun v _ h => by exact ⟨.inl rfl, .inl rfl, trivial⟩)
         ·
          replace hr14 := of_decide_eq_true hr14
          refine p_ rfl (h_ (d_ (a_ (aj_ dM_ rfl rfl) rfl (R_ 0 ad_ rfl rfl rfl rfl rfl rfl (a_ (i_ rfl) rfl (e_ (c_ rfl (D_ ?_))))))))
          exact dh_ ⟨((Cl.mk [] none 0 [] none 0), 3), dv_ hchk hb0 hb1 hm0' (by rw [if_pos (by assumption)]) (bU_ hvk hL hf (j + 1) rfl).1 (bU_ hvk hL hf (j + 1) rfl).2.2.1 (by omega)⟩ (fun aa v h1 h2 => dB_ (us := Cl.cells (Cl.mk [] none 0 [] none 0)) 0 cl_ bp_ ad_ rfl rfl rfl rfl aa v h1 h2) F_ (fun v _ h => by exact ⟨.inl rfl, .inl rfl, trivial⟩)
     ·
      refine a_ (bG_ (eL_ mE_ Tryz.sizeOf97 rfl rfl (by omega) (by omega)) (show _ = zp_ b5 3 from by rw [hk]; rfl)) rfl (a_ (t_ 4 Tryz.isAgg97 rfl rfl rfl) rfl (a_ (ae_ cf_ rfl) rfl (a_ (g_ rfl) rfl (e_ (c_ rfl (K_ (eh_ (H' := ((b1, .cells #[.slice none 0 0, .slice none 0 0] 28 (0, 0)) :: ((b5, .cells #[.slice none 0 0, .slice (some ⟨r1, 0, none⟩) 6 6, .slice (some ⟨r2, 0, none⟩) 4 4, .slice (some ⟨r3, 0, none⟩) 2 2] 98 (0, 0)) :: ((b6, .cells (Fc.cells f).toArray 41 (0, 0)) :: (Ha1 ++ (Hu1 ++ (Ho1 ++ (Hi1 ++ (Hr1 ++ (Hm1 ++ ((b4, .cells #[sv1] 26 (0, 0)) :: (kb, .map es1 ce1) :: ([(fb, .map ef1 cf1)] ++ Hq1)))))))))))) (j_ (b_ (b_ (b_ f_))) (j_ (b_ (b_ (b_ f_))) (j_ (b_ (b_ f_)) (A_ (b_ (b_ q_)) (A_ (b_ (b_ q_)) (A_ (b_ (b_ q_)) (A_ (b_ (b_ q_)) (A_ (b_ (b_ q_)) (A_ (b_ (b_ q_)) (j_ f_ (j_ f_ (A_ q_ aO_)))))))))))) (fun v _ h => h) ?_)))))))
      refine ax_ (ι := {y : Nat × Hp // y.1 ≤ 2 ∧ ((EA m hm (EngB.mk g pb ab ub ob ib rb sb lad lcap (am_ (uniq [] p))) b2 b3 b4 kb fb)).St (rls (be_ m) idk (aF_ (uniq [] p)) (Ix.add x (decide (f ∈ fm)) f) f y.1 (q, fm)).1 (rls (be_ m) idk (aF_ (uniq [] p)) (Ix.add x (decide (f ∈ fm)) f) f y.1 (q, fm)).2 y.2 ∧ (y.1 = 0 ∨ ((rls (be_ m) idk (aF_ (uniq [] p)) (Ix.add x (decide (f ∈ fm)) f) f y.1 (q, fm)).1).length ≤ m)}) (fun y => [(0, .slice pad (List.length p) pcap), (1, .int .i64 bu), (4, zp_ b1 0), (7, zp_ b2 0), (8, zp_ b3 0), (9, zp_ b4 0), (10, .slice aad (List.length (atS p)) acap), (11, zp_ b5 0), (12, .int .i64 (n : Int)), (13, zp_ b6 0), (60, .slice (some ⟨r3, 0, none⟩) 2 2), (61, .int .i64 2), (62, .int .i64 (y.1.1 : Int))]) (fun y => ((b1, .cells #[.slice none 0 0, .slice none 0 0] 28 (0, 0)) :: ((b5, .cells #[.slice none 0 0, .slice (some ⟨r1, 0, none⟩) 6 6, .slice (some ⟨r2, 0, none⟩) 4 4, .slice (some ⟨r3, 0, none⟩) 2 2] 98 (0, 0)) :: ((b6, .cells (Fc.cells f).toArray 41 (0, 0)) :: (Ha1 ++ (Hu1 ++ (Ho1 ++ (Hi1 ++ (Hr1 ++ (Hm1 ++ y.1.2)))))))))) (fun y => [ap_ (some ⟨r1, 0, none⟩) (List.flatMap fvC (rlV g 1)), ap_ (some ⟨r2, 0, none⟩) (List.flatMap fvC (rlV g 2)), ap_ (some ⟨r3, 0, none⟩) (List.flatMap fvC (rlV g 3)), ap_ aad (List.flatMap aL_ (atS p)), mlF Tryz.prog 171 Ky.val Pc.cells pb (aF_ (uniq [] p)) adr, dE_ g (.cells #[.map (some pb), .slice lad (List.length (am_ (uniq [] p))) lcap, .map (some kb), .func (.func 55) #[] #[zp_ b2 0, zp_ b3 0, zp_ b4 0], .map (some ab), .map (some ub), .map (some ob), .map (some ib), .map (some rb), .map (some sb), .map (some fb)] 94 (0, 0)), dE_ b3 (.cells #[.int .i64 (m : Int)] 3 (0, 0)), dE_ b2 (.cells #[zp_ g 0] 85 (0, 0)), ap_ lad (List.flatMap aL_ (am_ (uniq [] p))), ap_ pad (List.flatMap Pc.cells p), eu_]) (fun y => 2 - y.1.1) ⟨((0 : Nat), ((b4, .cells #[sv1] 26 (0, 0)) :: (kb, .map es1 ce1) :: ([(fb, .map ef1 cf1)] ++ Hq1))), by omega, by exact ⟨sv1, es1, ce1, ef1, cf1, qf1, Hq1, rfl, hrQ1, hEk1, hEf1, hqf1⟩, .inl rfl⟩ ⟨rfl, rfl, rfl, rfl, rfl, rfl, rfl, rfl, rfl, rfl, rfl, rfl, rfl, trivial⟩ (j_ f_ (j_ f_ (j_ f_ (A_ q_ (A_ q_ (A_ q_ (A_ q_ (A_ q_ (A_ q_ aO_))))))))) (fun _ _ h => h) ?_
      rintro ⟨⟨j, Hs⟩, hj, hS2, hjm⟩
      dsimp only at hj hS2 hjm ⊢
      refine h_ (d_ (x_ (ar_ rfl rfl) rfl fun r15 hr15 => ?_))
      refine e_ (c_ rfl (h_ ?_))
      cases r15
      ·
       replace hr15 := of_decide_eq_false hr15
       have ej : j = 2 := by omega
       have hjl : ((rls (be_ m) idk (aF_ (uniq [] p)) (Ix.add x (decide (f ∈ fm)) f) f j (q, fm)).1).length ≤ m := hjm.resolve_left (by omega)
       rw [ej] at hjl hS2
       refine s_ rfl (au_ rfl (c_ rfl (d_ (a_ (g_ rfl) rfl (a_ (P_ rfl rfl rfl (an_ (by omega) (by omega))) rfl (a_ (i_ rfl) rfl (e_ (v_ rfl ?_))))))))
       exact ai_ ⟨(n + 1, (rls (be_ m) idk (aF_ (uniq [] p)) (Ix.add x (decide (f ∈ fm)) f) f 2 (q, fm)).1, (rls (be_ m) idk (aF_ (uniq [] p)) (Ix.add x (decide (f ∈ fm)) f) f 2 (q, fm)).2, (Ix.add x (decide (f ∈ fm)) f), Ha1, Hu1, Ho1, Hi1, Hr1, Hm1, Hs), (fX_ hvk hL hf (by have e : nrl f = 2 := (by unfold nrl; simp [hk]); rw [e]) (by omega)), (by exact hS2), hI1, (gq_ hz _ f)⟩ (by dsimp only; omega) ⟨rfl, rfl, rfl, rfl, rfl, rfl, rfl, rfl, rfl, trivial⟩ (j_ f_ (j_ f_ (A_ (b_ q_) (A_ (b_ q_) (A_ (b_ q_) (A_ (b_ q_) (A_ (b_ q_) (A_ (b_ q_) S_)))))))) (fun _ _ h => h)
      ·
       replace hr15 := of_decide_eq_true hr15
       have hlfv : j < List.length (rlV g 3) := by show j < 2; omega
       obtain ⟨fv, hfv⟩ : ∃ e0, (rlV g 3)[j]? = some e0 := ⟨_, List.getElem?_eq_getElem hlfv⟩
       have hmfv : fv ∈ (rlV g 3) := List.mem_of_getElem? hfv
       refine p_ rfl (B_ (c_ rfl (h_ (K_ (h_ (d_ (a_ (al_ cf_ aC_ rfl rfl (fun v _ h => aG_ (n := 1) fF_ (by decide) (by exact h.2.2.1) hfv) (by omega) (by omega)) rfl (a_ (bu_ (ad := (some ⟨r3, 0, none⟩)) bh_ rfl (fun v _ h => by exact h.2.2.1) (ao_ fF_ hfv 0 _ rfl)) rfl (a_ (i_ rfl) rfl ?_)))))))))
       refine e_ (c_ rfl (h_ (d_ (a_ (g_ rfl) rfl (a_ (X_ 2 ac_ G_ rfl rfl rfl) rfl ?_)))))
       obtain ⟨nr, rfl, hT⟩ := nL_ (EngB.mk g pb ab ub ob ib rb sb lad lcap (am_ (uniq [] p))) (EA m hm (EngB.mk g pb ab ub ob ib rb sb lad lcap (am_ (uniq [] p))) b2 b3 b4 kb fb) (EngA.mk adr (fun _ => (none, 0)) (fun _ => (none, 0)) (fun _ => (none, 0)) (fun _ => (none, 0)) (fun _ => (none, 0)) (fun _ => (none, 0))) (aF_ (uniq [] p)) (Ix.add x (decide (f ∈ fm)) f) f (rls (be_ m) idk (aF_ (uniq [] p)) (Ix.add x (decide (f ∈ fm)) f) f j (q, fm)).1 (rls (be_ m) idk (aF_ (uniq [] p)) (Ix.add x (decide (f ∈ fm)) f) f j (q, fm)).2 Hs hS2 Ha1 Hu1 Ho1 Hi1 Hr1 Hm1 hI1 hpl hxl1 hyl1 (fun hk => (fb_ hform hk).2.2) (fun _ y hy => (hvk y (pm9.1 hy).1).num (.inr (pm9.1 hy).2.1)) hk j hfv
       refine aH_ (first := [zp_ g 0]) (vs := [Fc.val f]) (cap := []) hT rfl rfl (kx_ (A_ (b_ (b_ (b_ q_))) (A_ (b_ (b_ (b_ q_))) (A_ (b_ (b_ (b_ q_))) (A_ (b_ (b_ (b_ q_))) (A_ (b_ (b_ (b_ q_))) (A_ (b_ (b_ (b_ q_))) (b_ (b_ S_))))))))) (fun v _ h => by exact ⟨h.2.2.2.2.2.1, h.2.2.2.2.1, ⟨h.2.2.2.2.2.2.2.1, h.2.2.2.2.2.2.1, h.2.2.2.2.2.1⟩, trivial⟩) rfl fun ⟨Hs3, hS3⟩ => ?_
       refine ay_ iM_ (e_ (c_ rfl (ay_ (aV_ (k_ (k_ (k_ (k_ (k_ (k_ (k_ f_))))))) (aV_ (k_ (k_ (k_ (k_ (k_ (k_ (k_ f_))))))) (cG_ (k_ (k_ (k_ (k_ (k_ (k_ aR_))))))))) (h_ ?_))))
       refine az_ (by kernel_rfl) ?_
       refine ag_ 0 [0, 1, 2, 3, 4, 5, 6] (by kernel_rfl) (fun _ a b => ⟨a, b⟩) (l_ rfl (U_ bK_ rfl (fun v _ h => by exact h.2.2.2.2.2.2.2.1) rfl) rfl (l_ rfl (ab_ rfl) rfl (l_ rfl (m_ w_ rfl rfl rfl bw_) rfl (l_ rfl (U_ bJ_ rfl (fun v _ h => by exact h.2.2.2.2.2.1) rfl) rfl (l_ rfl (bG_ (dZ_ (E := (EA m hm (EngB.mk g pb ab ub ob ib rb sb lad lcap (am_ (uniq [] p))) b2 b3 b4 kb fb)) (nw := (rls (be_ m) idk (aF_ (uniq [] p)) (Ix.add x (decide (f ∈ fm)) f) f (j + 1) (q, fm)).1) (Hs := Hs3) hS3 aN_ rfl (b_ (b_ (b_ (k_ (k_ (k_ (k_ (k_ aR_))))))))) (show _ = Value.int .i64 (List.length (rls (be_ m) idk (aF_ (uniq [] p)) (Ix.add x (decide (f ∈ fm)) f) f (j + 1) (q, fm)).1 : Int) from rfl)) rfl (l_ rfl (U_ O_ rfl (fun v _ h => by exact h.2.2.2.2.2.2.1) rfl) rfl ?_))))))
       refine cq_ rfl (bL_ rfl rfl) rfl fun r16 hr16 => ?_
       refine af_ (Y_ (by kernel_rfl) (c_ rfl ?_))
       cases r16
       ·
        replace hr16 := of_decide_eq_false hr16
        refine s_ rfl (B_ (c_ rfl (d_ (a_ (P_ rfl rfl rfl (an_ (by omega) (by omega))) rfl (a_ (g_ rfl) rfl (e_ (v_ rfl ?_)))))))
        exact ai_ ⟨(j + 1, Hs3), hlfv, by exact hS3, .inr (by dsimp only; omega)⟩ (by dsimp only; omega) ⟨rfl, rfl, rfl, rfl, rfl, rfl, rfl, rfl, rfl, rfl, rfl, rfl, rfl, trivial⟩ (j_ f_ (j_ f_ (j_ f_ (A_ q_ (A_ q_ (A_ q_ (A_ q_ (A_ q_ (A_ q_ aO_))))))))) (fun _ _ h => h)
       ·
        replace hr16 := of_decide_eq_true hr16
        refine p_ rfl (au_ rfl (c_ rfl (h_ (h_ ?_))))
        refine az_ (by kernel_rfl) ?_
        refine ag_ 0 [0, 1, 2, 3, 4, 5, 6] (by kernel_rfl) (fun _ a b => ⟨a, b⟩) (l_ rfl (U_ bK_ rfl (fun v _ h => by exact h.2.2.2.2.2.2.2.1) rfl) rfl (l_ rfl (ab_ rfl) rfl (l_ rfl (m_ w_ rfl rfl rfl bw_) rfl (l_ rfl (U_ bJ_ rfl (fun v _ h => by exact h.2.2.2.2.2.1) rfl) rfl (l_ rfl (bG_ (dZ_ (E := (EA m hm (EngB.mk g pb ab ub ob ib rb sb lad lcap (am_ (uniq [] p))) b2 b3 b4 kb fb)) (nw := (rls (be_ m) idk (aF_ (uniq [] p)) (Ix.add x (decide (f ∈ fm)) f) f (j + 1) (q, fm)).1) (Hs := Hs3) hS3 aN_ rfl (b_ (b_ (b_ (k_ (k_ (k_ (k_ (k_ aR_))))))))) (show _ = Value.int .i64 (List.length (rls (be_ m) idk (aF_ (uniq [] p)) (Ix.add x (decide (f ∈ fm)) f) f (j + 1) (q, fm)).1 : Int) from rfl)) rfl (l_ rfl (U_ O_ rfl (fun v _ h => by exact h.2.2.2.2.2.2.1) rfl) rfl ?_))))))
        refine cq_ rfl (bL_ rfl rfl) rfl fun r17 hr17 => ?_
        refine af_ (Y_ (by kernel_rfl) (c_ rfl ?_))
        cases r17
        ·
         replace hr17 := of_decide_eq_false hr17
         omega
        ·
         replace hr17 := of_decide_eq_true hr17
         refine p_ rfl (h_ (h_ (d_ (a_ (g_ rfl) rfl (x_ (ar_ rfl rfl) rfl fun r18 hr18 => ?_)))))
         refine e_ (c_ rfl ?_)
         cases r18
         ·
          replace hr18 := of_decide_eq_false hr18
          refine s_ rfl (B_ (c_ rfl (h_ (d_ (a_ (aj_ dM_ rfl rfl) rfl (R_ 0 ad_ rfl rfl rfl rfl rfl rfl (a_ (i_ rfl) rfl (e_ (c_ rfl ?_)))))))))
          refine D_ ?_
          exact dh_ ⟨((Cl.mk [] none 0 [] none 0), 2), dv_ hchk hb0 hb1 hm0' (by rw [if_neg (by assumption)]) (bU_ hvk hL hf (j + 1) rfl).1 (bU_ hvk hL hf (j + 1) rfl).2.2.1 (by omega)⟩ (fun aa v h1 h2 => dB_ (us := Cl.cells (Cl.mk [] none 0 [] none 0)) 0 cl_ bp_ ad_ rfl rfl rfl rfl aa v h1 h2) F_ (fun v _ h => by exact ⟨.inl rfl, .inl rfl, trivial⟩)
         ·
          replace hr18 := of_decide_eq_true hr18
          refine p_ rfl (h_ (d_ (a_ (aj_ dM_ rfl rfl) rfl (R_ 0 ad_ rfl rfl rfl rfl rfl rfl (a_ (i_ rfl) rfl (e_ (c_ rfl (D_ ?_))))))))
          exact dh_ ⟨((Cl.mk [] none 0 [] none 0), 3), dv_ hchk hb0 hb1 hm0' (by rw [if_pos (by assumption)]) (bU_ hvk hL hf (j + 1) rfl).1 (bU_ hvk hL hf (j + 1) rfl).2.2.1 (by omega)⟩ (fun aa v h1 h2 => dB_ (us := Cl.cells (Cl.mk [] none 0 [] none 0)) 0 cl_ bp_ ad_ rfl rfl rfl rfl aa v h1 h2) F_ (fun v _ h => by exact ⟨.inl rfl, .inl rfl, trivial⟩)
   ·
    replace hr3 := of_decide_eq_true hr3
    refine p_ rfl (h_ (d_ (a_ (aj_ dM_ rfl rfl) rfl (R_ 0 ad_ rfl rfl rfl rfl rfl rfl (a_ (i_ rfl) rfl (e_ (c_ rfl (D_ ?_))))))))
    exact dh_ ⟨((Cl.mk [] none 0 [] none 0), 1), kn_ (by assumption) (by omega)⟩ (fun aa v h1 h2 => dB_ (us := Cl.cells (Cl.mk [] none 0 [] none 0)) 0 cl_ bp_ ad_ rfl rfl rfl rfl aa v h1 h2) F_ (fun v _ h => by exact ⟨.inl rfl, .inl rfl, trivial⟩)
  ·
   replace hr2 := of_decide_eq_true hr2
   refine y_ rfl rfl rfl rfl (y_ rfl rfl rfl rfl (a_ (W_ rfl rfl) rfl (e_ (c_ rfl (p_ rfl (h_ (d_ (a_ (aj_ dM_ rfl rfl) rfl (R_ 0 ad_ rfl rfl rfl rfl rfl rfl ?_)))))))))
   refine a_ (i_ rfl) rfl (e_ (c_ rfl (D_ ?_)))
   exact dh_ ⟨((Cl.mk [] none 0 [] none 0), 1), kn_ (by assumption) (by omega)⟩ (fun aa v h1 h2 => dB_ (us := Cl.cells (Cl.mk [] none 0 [] none 0)) 0 cl_ bp_ ad_ rfl rfl rfl rfl aa v h1 h2) F_ (fun v _ h => by exact ⟨.inl rfl, .inl rfl, trivial⟩)
 ·
  replace hr1 := aP_ hr1
  refine p_ rfl (h_ (d_ (a_ (aj_ dM_ rfl rfl) rfl (a_ (g_ rfl) rfl (R_ 0 ad_ rfl rfl rfl rfl rfl rfl (a_ (i_ rfl) rfl (e_ (c_ rfl (D_ ?_)))))))))
  exact dh_ ⟨((Cl.mk [] none 0 [] none 0), (br_ p)), nw_ (by assumption)⟩ (fun aa v h1 h2 => dB_ (us := Cl.cells (Cl.mk [] none 0 [] none 0)) 0 cl_ bp_ ad_ rfl rfl rfl rfl aa v h1 h2) F_ (fun v _ h => by exact ⟨.inl rfl, .inl rfl, trivial⟩)
end Go.Proofs.YtpdbbglpbngeiaaGreatDoor
namespace Go.Proofs.YtpdbbglpbngeiaaGreatDoor
open Go Go.Sx Go.Proofs
attribute [local irreducible] Code.wp wpList wpAnyH
open Go.Vs
def isSubB (f : Fc) : Bool := decide (f = aq_ f.a f.b)
def factOk (A : List Str) (f : Fc) : Bool :=
  decide (f.a ∈ A) && (if f.kind = 1 then decide (f.b ∈ A) && isSubB f
    else if f.kind = 2 then decide (f.b ∈ A) && (decide (f.r ≠ []) && decide (f = av_ f.a f.r f.b))
    else if f.kind = 3 then decide (f.r ≠ []) && (decide (f = at_ f.a f.r f.lo f.hi) && (decide (-1099511627776 ≤ f.lo) && (decide (f.lo ≤ f.hi) && decide (f.hi ≤ 1099511627776))))
    else false)
abbrev ow_ (l : List Str) : Prop := l.Pairwise fun x y => x < y
def ChkB (at' : List Str) (fs : List Fc) : Prop := ow_ at' ∧ Srt fs ∧ [42] ∈ at' ∧ [33] ∈ at' ∧ ∀ f ∈ fs, factOk at' f = true
instance (at' : List Str) (fs : List Fc) : Decidable (ChkB at' fs) := by unfold ChkB; exact inferInstance
def kN_ (at' : List Str) (fs : List Fc) : Int := if ChkB at' fs then if 65536 < fs.length then 2 else 0 else 1
theorem nR_ {α : Type} {lt : α → α → Prop} (ht : ∀ {x y z}, lt x y → lt y z → lt x z) {l : List α} {k : Nat} {a b : α} (h : (l.take (k + 1)).Pairwise lt) (ha : l[k]? = some a) (hb : l[k + 1]? = some b) (hab : lt a b) : (l.take (k + 2)).Pairwise lt := by
  rw [List.take_add_one, hb, Option.toList_some, List.pairwise_append]
  refine ⟨h, by simp, fun x hx y hy => ?_⟩
  rw [List.mem_singleton] at hy
  subst hy
  rw [List.take_add_one, ha, Option.toList_some] at h hx
  rcases List.mem_append.1 hx with hx | hx
  · exact ht ((List.pairwise_append.1 h).2.2 x hx a (by simp)) hab
  · rw [List.mem_singleton] at hx; subst hx; exact hab
theorem pw_not {α : Type} {lt : α → α → Prop} {l : List α} {k : Nat} {a b : α} (ha : l[k]? = some a) (hb : l[k + 1]? = some b) (hab : ¬ lt a b) : ¬ l.Pairwise lt := fun h => by
  obtain ⟨h1, h2⟩ := List.getElem?_eq_some_iff.1 ha
  obtain ⟨h3, h4⟩ := List.getElem?_eq_some_iff.1 hb
  have := List.pairwise_iff_getElem.1 h k (k + 1) h1 h3 (by omega)
  rw [h2, h4] at this
  exact hab this
theorem pw_one {α : Type} {lt : α → α → Prop} (l : List α) : (l.take 1).Pairwise lt := by
  cases l <;> simp
end Go.Proofs.YtpdbbglpbngeiaaGreatDoor
namespace Go.Proofs.YtpdbbglpbngeiaaGreatDoor
open Go Go.Sx Go.Proofs
attribute [local irreducible] Code.wp wpList wpAnyH
open Go.Vs
theorem ow_.nodup {l : List Str} (h : ow_ l) : l.Nodup := by
  unfold List.Nodup
  refine List.Pairwise.imp ?_ h
  intro a b hab e
  exact dy_ b (e ▸ hab)
theorem any_no {α : Type} {p : α → Bool} {l : List α} {j : Nat} {x : α} (h : ∀ y ∈ l.take j, p y = false) (hx : l[j]? = some x) (hp : p x = false) : ∀ y ∈ l.take (j + 1), p y = false := fun y hy => by
  rw [List.take_add_one, hx] at hy
  simp only [Option.toList_some, List.mem_append, List.mem_singleton] at hy
  rcases hy with hy | rfl
  · exact h y hy
  · exact hp
end Go.Proofs.YtpdbbglpbngeiaaGreatDoor
namespace Go.Proofs.YtpdbbglpbngeiaaGreatDoor
open Go Go.Sx Go.Proofs
attribute [local irreducible] Code.wp wpList wpAnyH
open Go.Vs
theorem hv_ : ∀ {l : List Fc} {f : Fc} {m : Nat} {x : Fc}, Srt l → l[m]? = some x → (x.lt f ↔ m < bT_ l f)
  | [], _, _, _, _, h => by simp at h
  | y :: l, f, 0, x, hs, h => by
    simp only [List.getElem?_cons_zero, Option.some.injEq] at h
    subst h
    unfold bT_
    rw [List.countP_cons]
    constructor
    · intro q; rw [if_pos (decide_eq_true q)]; omega
    · intro q
      apply Decidable.byContradiction
      intro hn
      rw [if_neg (by simpa using hn)] at q
      obtain ⟨z, hz, hz2⟩ := List.countP_pos_iff.1 (Nat.lt_of_lt_of_eq q (Nat.add_zero _))
      exact hn (Fc.lt_trans ((List.pairwise_cons.1 hs).1 z hz) (of_decide_eq_true hz2))
  | y :: l, f, m + 1, x, hs, h => by
    simp only [List.getElem?_cons_succ] at h
    have hs' := List.pairwise_cons.1 hs
    have ih := hv_ hs'.2 h (f := f)
    unfold bT_ at *
    rw [List.countP_cons, ih]
    constructor
    · intro q
      have hx : x.lt f := ih.2 q
      rw [if_pos (decide_eq_true (Fc.lt_trans (hs'.1 x (List.mem_of_getElem? h)) hx))]; omega
    · intro q
      split at q <;> omega
theorem mid2 (lo hi : Nat) : Int.tdiv ((lo : Int) + (hi : Int)) 2 = (((lo + hi) / 2 : Nat) : Int) := by
  rw [Int.tdiv_eq_ediv_of_nonneg (by omega)]; omega
theorem less_c (x y : Fc) : Fn0 Tryz.prog 75 #[Fc.val x, Fc.val y] (.bool (decide (x.lt y))) := by
 refine J_ Tryz.func75 rfl rfl Tryz.ntmps75 rfl fun v0 => ?_
 refine h_ (d_ (bd_ rfl rfl fun b1 => ?_))
 refine bd_ rfl rfl fun b2 => ?_
 refine a_ (i_ rfl) rfl (e_ (c_ rfl (h_ (K_ (h_ (d_ (a_ (m_ n_ rfl rfl rfl T_) rfl (a_ (t_ 1 O_ rfl rfl rfl) rfl (a_ (m_ n_ rfl rfl rfl T_) rfl ?_)))))))))
 refine a_ (t_ 0 O_ rfl rfl rfl) rfl (x_ (bC_ rfl rfl) rfl fun r1 hr1 => ?_)
 refine a_ (i_ rfl) rfl (e_ (c_ rfl ?_))
 cases r1
 ·
  replace hr1 := aQ_ hr1
  refine s_ rfl (h_ (d_ (a_ (m_ n_ rfl rfl rfl o_) rfl (a_ (t_ 1 u_ rfl rfl rfl) rfl (a_ (m_ n_ rfl rfl rfl o_) rfl (a_ (t_ 0 u_ rfl rfl rfl) rfl (x_ (dI_ rfl rfl) rfl fun r2 hr2 => ?_)))))))
  refine a_ (i_ rfl) rfl (e_ (c_ rfl ?_))
  cases r2
  ·
   replace hr2 := aQ_ hr2
   refine s_ rfl (h_ (d_ (a_ (m_ n_ rfl rfl rfl o_) rfl (a_ (t_ 1 u_ rfl rfl rfl) rfl (a_ (m_ n_ rfl rfl rfl o_) rfl (a_ (t_ 0 u_ rfl rfl rfl) rfl (x_ (dI_ rfl rfl) rfl fun r3 hr3 => ?_)))))))
   refine a_ (i_ rfl) rfl (e_ (c_ rfl ?_))
   cases r3
   ·
    replace hr3 := aQ_ hr3
    refine s_ rfl (h_ (d_ (a_ (m_ n_ rfl rfl rfl o_) rfl (a_ (t_ 1 u_ rfl rfl rfl) rfl (a_ (m_ n_ rfl rfl rfl o_) rfl (a_ (t_ 0 u_ rfl rfl rfl) rfl (x_ (dI_ rfl rfl) rfl fun r4 hr4 => ?_)))))))
    refine a_ (i_ rfl) rfl (e_ (c_ rfl ?_))
    cases r4
    ·
     replace hr4 := aQ_ hr4
     refine s_ rfl (h_ (d_ (a_ (m_ n_ rfl rfl rfl T_) rfl (a_ (t_ 1 O_ rfl rfl rfl) rfl (a_ (m_ n_ rfl rfl rfl T_) rfl (a_ (t_ 0 O_ rfl rfl rfl) rfl (x_ (bC_ rfl rfl) rfl fun r5 hr5 => ?_)))))))
     refine a_ (i_ rfl) rfl (e_ (c_ rfl ?_))
     cases r5
     ·
      replace hr5 := aQ_ hr5
      refine s_ rfl (B_ (c_ rfl (h_ (d_ (a_ (m_ n_ rfl rfl rfl T_) rfl (a_ (t_ 1 O_ rfl rfl rfl) rfl (a_ (m_ n_ rfl rfl rfl T_) rfl (a_ (t_ 0 O_ rfl rfl rfl) rfl (x_ (ar_ rfl rfl) rfl fun r6 hr6 => ?_)))))))))
      refine a_ (i_ rfl) rfl (e_ (c_ rfl (D_ ?_)))
      exact aA_ hs_ () (I_ rfl (by rw [← hr6, decide_eq_decide]; unfold Fc.lt; simp_all [dy_])) F_ (fun _ _ _ => trivial)
     ·
      replace hr5 := aP_ hr5
      refine p_ rfl (h_ (d_ (a_ (m_ n_ rfl rfl rfl T_) rfl (a_ (t_ 1 O_ rfl rfl rfl) rfl (a_ (m_ n_ rfl rfl rfl T_) rfl (a_ (t_ 0 O_ rfl rfl rfl) rfl (x_ (ar_ rfl rfl) rfl fun r7 hr7 => ?_)))))))
      refine a_ (i_ rfl) rfl (e_ (c_ rfl (D_ ?_)))
      exact aA_ hs_ () (I_ rfl (by rw [← hr7, decide_eq_decide]; unfold Fc.lt; simp_all [dy_])) F_ (fun _ _ _ => trivial)
    ·
     replace hr4 := aP_ hr4
     refine p_ rfl (h_ (d_ (a_ (m_ n_ rfl rfl rfl o_) rfl (a_ (t_ 1 u_ rfl rfl rfl) rfl (a_ (m_ n_ rfl rfl rfl o_) rfl (a_ (t_ 0 u_ rfl rfl rfl) rfl (x_ (hg_ rfl rfl) rfl fun r8 hr8 => ?_)))))))
     refine a_ (i_ rfl) rfl (e_ (c_ rfl (D_ ?_)))
     exact aA_ hs_ () (I_ rfl (by rw [← hr8, decide_eq_decide]; unfold Fc.lt; simp_all [dy_])) F_ (fun _ _ _ => trivial)
   ·
    replace hr3 := aP_ hr3
    refine p_ rfl (h_ (d_ (a_ (m_ n_ rfl rfl rfl o_) rfl (a_ (t_ 1 u_ rfl rfl rfl) rfl (a_ (m_ n_ rfl rfl rfl o_) rfl (a_ (t_ 0 u_ rfl rfl rfl) rfl (x_ (hg_ rfl rfl) rfl fun r9 hr9 => ?_)))))))
    refine a_ (i_ rfl) rfl (e_ (c_ rfl (D_ ?_)))
    exact aA_ hs_ () (I_ rfl (by rw [← hr9, decide_eq_decide]; unfold Fc.lt; simp_all [dy_])) F_ (fun _ _ _ => trivial)
  ·
   replace hr2 := aP_ hr2
   refine p_ rfl (h_ (d_ (a_ (m_ n_ rfl rfl rfl o_) rfl (a_ (t_ 1 u_ rfl rfl rfl) rfl (a_ (m_ n_ rfl rfl rfl o_) rfl (a_ (t_ 0 u_ rfl rfl rfl) rfl (x_ (hg_ rfl rfl) rfl fun r10 hr10 => ?_)))))))
   refine a_ (i_ rfl) rfl (e_ (c_ rfl (D_ ?_)))
   exact aA_ hs_ () (I_ rfl (by rw [← hr10, decide_eq_decide]; unfold Fc.lt; simp_all [dy_])) F_ (fun _ _ _ => trivial)
 ·
  replace hr1 := aP_ hr1
  refine p_ rfl (h_ (d_ (a_ (m_ n_ rfl rfl rfl T_) rfl (a_ (t_ 1 O_ rfl rfl rfl) rfl (a_ (m_ n_ rfl rfl rfl T_) rfl (a_ (t_ 0 O_ rfl rfl rfl) rfl (x_ (ar_ rfl rfl) rfl fun r11 hr11 => ?_)))))))
  refine a_ (i_ rfl) rfl (e_ (c_ rfl (D_ ?_)))
  exact aA_ hs_ () (I_ rfl (by rw [← hr11, decide_eq_decide]; unfold Fc.lt; simp_all [dy_])) F_ (fun _ _ _ => trivial)
theorem nS_ (l : List Fc) (ad : Option Addr) (cap : Nat) (f : Fc) (hl : l.length ≤ 1000000000000) (hs : Srt l) : Tri Tryz.prog 76 #[.slice ad (List.length l) cap, Fc.val f] [] [ap_ ad (List.flatMap Fc.cells l)] (fun _ : Unit => .int .i64 (bT_ l f : Int)) (fun _ => []) (fun _ => []) := by
  refine J_ Tryz.func76 rfl rfl Tryz.ntmps76 rfl fun v0 => ?_
  refine h_ (d_ (bd_ rfl rfl fun b1 => ?_))
  refine a_ (i_ rfl) rfl (e_ (c_ rfl (h_ (d_ (a_ (i_ rfl) rfl (e_ (c_ rfl (h_ (d_ ?_)))))))))
  refine a_ (g_ rfl) rfl (a_ (ae_ L_ rfl) rfl (a_ (i_ rfl) rfl (e_ (c_ rfl (h_ (K_ ?_))))))
  refine ax_ (ι := {y : Nat × Nat // y.1 ≤ y.2 ∧ y.1 ≤ bT_ l f ∧ bT_ l f ≤ y.2 ∧ y.2 ≤ List.length l}) (fun y => [(0, .slice ad (List.length l) cap), (3, zp_ b1 0), (5, .int .i64 (y.1.1 : Int)), (6, .int .i64 (y.1.2 : Int))]) (fun y => ((b1, .cells (Fc.cells f).toArray 41 (0, 0)) :: [])) (fun y => [ap_ ad (List.flatMap Fc.cells l)]) (fun y => y.1.2 - y.1.1) ⟨((0 : Nat), (List.length l)), Nat.zero_le _, Nat.zero_le _, lJ_ l f, Nat.le_refl _⟩ ⟨rfl, rfl, rfl, rfl, trivial⟩ f_ (fun _ _ h => h) ?_
  rintro ⟨⟨lo, hi⟩, hlh, hp1, hp2, hp3⟩
  dsimp only at hlh hp1 hp2 hp3 ⊢
  refine h_ (h_ (d_ (a_ (g_ rfl) rfl (a_ (g_ rfl) rfl (x_ (ar_ rfl rfl) rfl fun r1 hr1 => ?_)))))
  refine e_ (c_ rfl ?_)
  cases r1
  · skip
    replace hr1 := of_decide_eq_false hr1
    refine s_ rfl (au_ rfl (c_ rfl (h_ (d_ (a_ (g_ rfl) rfl (a_ (i_ rfl) rfl (e_ (c_ rfl (D_ ?_)))))))))
    exact aA_ Tryz.results76 () (ci_ rfl (by omega)) F_ (fun _ _ _ => trivial)
  · skip
    replace hr1 := of_decide_eq_true hr1
    have hlx1 : ((lo + hi) / 2 : Nat) < List.length l := by omega
    obtain ⟨x1, hx1⟩ : ∃ e0, l[((lo + hi) / 2 : Nat)]? = some e0 := ⟨_, List.getElem?_eq_getElem hlx1⟩
    have hmx1 : x1 ∈ l := List.mem_of_getElem? hx1
    refine p_ rfl (B_ (c_ rfl (K_ (h_ (d_ (a_ (g_ rfl) rfl (a_ (g_ rfl) rfl (a_ (P_ rfl rfl rfl (an_ (by omega) (by omega))) rfl (a_ (bG_ (nA_ rfl rfl (by decide) (by rw [mid2]; exact an_ (by omega) (by omega))) (show Value.int .i64 (Int.tdiv ((lo : Int) + (hi : Int)) 2) = Value.int .i64 (((lo + hi) / 2 : Nat) : Int) from congrArg _ (mid2 lo hi))) rfl ?_)))))))))
    refine a_ (i_ rfl) rfl (e_ (c_ rfl (h_ ?_)))
    refine az_ (by kernel_rfl) ?_
    refine ag_ 1 [0, 1, 2, 3, 4] (by kernel_rfl) (fun _ a b => ⟨a, b⟩) (l_ rfl (g_ rfl) rfl (l_ rfl (g_ rfl) rfl (l_ rfl (al_ L_ G_ rfl rfl (fun v _ h => aG_ (n := 6) Fc.cells_len (by decide) (by exact h.1) hx1) (by omega) (by first | omega | (simp; done))) rfl (l_ rfl (aK_ (ad := ad) (us := Fc.cells x1) ac_ G_ rfl (fun v _ h => by exact h.1) (Fc.cells_len _) (ao_ Fc.cells_len hx1)) rfl (l_ rfl (X_ 0 ac_ G_ rfl rfl rfl) rfl (af_ (N_ 5 rfl (by kernel_rfl) (aI_ (less_c x1 f) rfl F_ (fun _ _ _ => by exact trivial) rfl fun r2 hr2 => ?_))))))))
    refine e_ (v_ rfl (C_ (fun _ a b => ⟨a, b⟩) (Y_ (by kernel_rfl) (c_ rfl ?_))))
    cases r2
    · skip
      replace hr2 := of_decide_eq_false hr2
      refine s_ rfl (d_ (a_ (g_ rfl) rfl (a_ (i_ rfl) rfl (e_ (v_ rfl ?_)))))
      exact ai_ ⟨(lo, ((lo + hi) / 2 : Nat)), by omega, hp1, by have := (not_congr (hv_ hs hx1 (f := f))).1 hr2; omega, by omega⟩ (by dsimp only; omega) ⟨rfl, rfl, rfl, rfl, trivial⟩ f_ (fun _ _ h => h)
    · skip
      replace hr2 := of_decide_eq_true hr2
      refine p_ rfl (d_ (a_ (g_ rfl) rfl (a_ (P_ rfl rfl rfl (an_ (by omega) (by omega))) rfl (a_ (i_ rfl) rfl (e_ (v_ rfl ?_))))))
      exact ai_ ⟨(((lo + hi) / 2 : Nat) + 1, hi), by omega, by have := (hv_ hs hx1 (f := f)).1 hr2; omega, hp2, hp3⟩ (by dsimp only; omega) ⟨rfl, rfl, rfl, rfl, trivial⟩ f_ (fun _ _ h => h)
theorem lj_ (l : List Fc) (ad : Option Addr) (cap : Nat) (f : Fc) (hl : l.length ≤ 1000000000000) (hs : Srt l) : Tri Tryz.prog 28 #[.slice ad (List.length l) cap, Fc.val f] [] [ap_ ad (List.flatMap Fc.cells l)] (fun _ : Unit => .bool (decide (f ∈ l))) (fun _ => []) (fun _ => []) := by
  refine J_ Tryz.func28 rfl rfl Tryz.ntmps28 rfl fun v0 => ?_
  refine h_ (d_ (bd_ rfl rfl fun b1 => ?_))
  refine a_ (i_ rfl) rfl (e_ (c_ rfl (h_ (d_ (a_ (g_ rfl) rfl (a_ (X_ 0 ac_ G_ rfl rfl rfl) rfl (aa_ (nS_ l ad cap f (by omega) hs) rfl F_ (fun v _ h => by exact ⟨h.1, trivial⟩) rfl fun _ => ?_)))))))
  refine a_ (i_ rfl) rfl (e_ (c_ rfl (h_ ?_)))
  refine az_ (by kernel_rfl) ?_
  refine ag_ 8 [0, 1, 2, 3, 4] (by kernel_rfl) (fun _ a b => ⟨a, b⟩) (l_ rfl (g_ rfl) rfl (l_ rfl (g_ rfl) rfl (l_ rfl (ae_ L_ rfl) rfl ?_)))
  refine cq_ rfl (ar_ rfl rfl) rfl fun r1 hr1 => ?_
  refine l_ rfl (g_ rfl) rfl (af_ ?_)
  cases r1
  · skip
    replace hr1 := of_decide_eq_false hr1
    refine ag_ 0 [5, 6, 7, 8, 9, 10, 11, 12] (by kernel_rfl) (fun _ a b => ⟨a, b⟩) (cX_ rfl rfl rfl rfl rfl (cX_ rfl rfl rfl rfl rfl (cX_ rfl rfl rfl rfl rfl (cX_ rfl rfl rfl rfl rfl (cX_ rfl rfl rfl rfl rfl (cX_ rfl rfl rfl rfl rfl (l_ rfl (M_ rfl rfl) rfl (l_ rfl (i_ rfl) rfl (af_ ?_)))))))))
    refine Y_ (by kernel_rfl) (c_ rfl (D_ ?_))
    exact aA_ Tryz.results28 () (I_ rfl (by symm; apply decide_eq_false; intro q; have := (List.getElem?_eq_some_iff.1 ((iC_ hs f).1 q)).1; omega)) F_ (fun _ _ _ => trivial)
  · skip
    replace hr1 := of_decide_eq_true hr1
    have hlx1 : bT_ l f < List.length l := by omega
    obtain ⟨x1, hx1⟩ : ∃ e0, l[bT_ l f]? = some e0 := ⟨_, List.getElem?_eq_getElem hlx1⟩
    have hmx1 : x1 ∈ l := List.mem_of_getElem? hx1
    refine ag_ 0 [5, 6, 7, 8, 9, 10, 11, 12] (by kernel_rfl) (fun _ a b => ⟨a, b⟩) (cb_ rfl rfl rfl (g_ rfl) rfl (cb_ rfl rfl rfl (g_ rfl) rfl (cb_ rfl rfl rfl (al_ L_ G_ rfl rfl (fun v _ h => aG_ (n := 6) Fc.cells_len (by decide) (by exact h.1) hx1) (by omega) (by first | omega | (simp; done))) rfl (cb_ rfl rfl rfl (aK_ (ad := ad) (us := Fc.cells x1) ac_ G_ rfl (fun v _ h => by exact h.1) (Fc.cells_len _) (ao_ Fc.cells_len hx1)) rfl (cb_ rfl rfl rfl (X_ 0 ac_ G_ rfl rfl rfl) rfl ?_)))))
    refine hp_ rfl rfl rfl (lw_ (p := x1) (q := f) rfl rfl) rfl fun r2 hr2 => ?_
    refine l_ rfl (W_ rfl rfl) rfl (l_ rfl (i_ rfl) rfl (af_ (Y_ (by kernel_rfl) (c_ rfl (D_ ?_)))))
    exact aA_ Tryz.results28 () (I_ rfl (by rw [← hr2, decide_eq_decide, iC_ hs f, hx1, Option.some.injEq])) F_ (fun _ _ _ => trivial)
end Go.Proofs.YtpdbbglpbngeiaaGreatDoor
namespace Go.Proofs.YtpdbbglpbngeiaaGreatDoor
open Go Go.Sx Go.Proofs
attribute [local irreducible] Code.wp wpList wpAnyH
open Go.Vs
theorem nI_ (l m : List Str) (ad ae : Option Addr) (cap cpe : Nat) (hl : l.length ≤ 1000000000000) (hm : m.length ≤ 1000000000000) : Tri Tryz.prog 66 #[.slice ad (List.length l) cap, .slice ae (List.length m) cpe] [] [ap_ ad (List.flatMap aL_ l), ap_ ae (List.flatMap aL_ m)] (fun _ : Unit => .bool (decide (l = m))) (fun _ => []) (fun _ => []) := by
 refine J_ Tryz.func66 rfl rfl Tryz.ntmps66 rfl fun v0 => ?_
 refine h_ (d_ (a_ (i_ rfl) rfl (e_ (c_ rfl (h_ (h_ (d_ (a_ (g_ rfl) rfl (a_ (ae_ H_ rfl) rfl ?_)))))))))
 refine a_ (g_ rfl) rfl (a_ (ae_ H_ rfl) rfl (x_ (bC_ rfl rfl) rfl fun r1 hr1 => ?_))
 refine e_ (c_ rfl ?_)
 cases r1
 ·
  replace hr1 := aQ_ hr1
  refine s_ rfl (B_ (c_ rfl (h_ (h_ (d_ (a_ (i_ rfl) rfl (e_ (c_ rfl (K_ ?_)))))))))
  refine ax_ (ι := {y : Nat // y ≤ l.length ∧ l.take y = m.take y}) (fun y => [(0, .slice ad (List.length l) cap), (1, .slice ae (List.length m) cpe), (5, .int .i64 (y.1 : Int))]) (fun y => ([])) (fun y => [ap_ ad (List.flatMap aL_ l), ap_ ae (List.flatMap aL_ m)]) (fun y => l.length - y.1) ⟨(0 : Nat), by simp, by simp⟩ ⟨rfl, rfl, rfl, trivial⟩ F_ (fun _ _ h => h) ?_
  rintro ⟨i, hi, he⟩
  dsimp only at hi he ⊢
  have hlm : l.length = m.length := by omega
  refine h_ (h_ (d_ (a_ (g_ rfl) rfl (a_ (g_ rfl) rfl (a_ (ae_ H_ rfl) rfl (x_ (ar_ rfl rfl) rfl fun r2 hr2 => ?_))))))
  refine e_ (c_ rfl ?_)
  cases r2
  ·
   replace hr2 := of_decide_eq_false hr2
   refine s_ rfl (au_ rfl (c_ rfl (h_ (d_ (a_ (i_ rfl) rfl (e_ (c_ rfl (D_ ?_))))))))
   exact aA_ Tryz.results66 () (I_ rfl (by symm; apply decide_eq_true; rwa [List.take_of_length_le (by omega), List.take_of_length_le (by omega)] at he)) F_ (fun _ _ _ => trivial)
  ·
   replace hr2 := of_decide_eq_true hr2
   have hlx1 : i < List.length l := by omega
   obtain ⟨x1, hx1⟩ : ∃ e0, l[i]? = some e0 := ⟨_, List.getElem?_eq_getElem hlx1⟩
   have hmx1 : x1 ∈ l := List.mem_of_getElem? hx1
   have hlx2 : i < List.length m := by omega
   obtain ⟨x2, hx2⟩ : ∃ e0, m[i]? = some e0 := ⟨_, List.getElem?_eq_getElem hlx2⟩
   have hmx2 : x2 ∈ m := List.mem_of_getElem? hx2
   refine p_ rfl (B_ (c_ rfl (h_ (K_ (h_ ?_)))))
   refine az_ (by kernel_rfl) ?_
   refine ag_ 0 [0, 1, 2, 3, 4, 5, 6, 7, 8] (by kernel_rfl) (fun _ a b => ⟨dg_ a, b⟩) (l_ rfl (g_ rfl) rfl (l_ rfl (g_ rfl) rfl (l_ rfl (al_ H_ o_ rfl rfl (fun v _ h => aG_ (n := 1) ba_ (by decide) (by exact h.1) hx1) (by omega) (by first | omega | (simp; done))) rfl (l_ rfl (bu_ (ad := ad) u_ rfl (fun v _ h => by exact h.1) (ao_ ba_ hx1 0 _ rfl)) rfl (l_ rfl (g_ rfl) rfl (l_ rfl (g_ rfl) rfl (l_ rfl (al_ H_ o_ rfl rfl (fun v _ h => aG_ (n := 1) ba_ (by decide) (by exact h.2.1) hx2) (by omega) (by first | omega | (simp; done))) rfl (l_ rfl (bu_ (ad := ae) u_ rfl (fun v _ h => by exact h.2.1) (ao_ ba_ hx2 0 _ rfl)) rfl ?_))))))))
   refine cq_ rfl (dI_ rfl rfl) rfl fun r3 hr3 => ?_
   refine af_ (Y_ (by kernel_rfl) (c_ rfl ?_))
   cases r3
   ·
    replace hr3 := aQ_ hr3
    refine s_ rfl (B_ (c_ rfl (d_ (a_ (g_ rfl) rfl (a_ (P_ rfl rfl rfl (an_ (by omega) (by omega))) rfl (a_ (i_ rfl) rfl (e_ (v_ rfl ?_))))))))
    exact ai_ ⟨i + 1, hlx1, by rw [List.take_add_one, hx1, List.take_add_one, hx2, he]; simp_all⟩ (by dsimp only; omega) ⟨rfl, rfl, rfl, trivial⟩ F_ (fun _ _ h => h)
   ·
    replace hr3 := aP_ hr3
    refine p_ rfl (h_ (d_ (a_ (i_ rfl) rfl (e_ (c_ rfl (D_ ?_))))))
    exact aA_ Tryz.results66 () (I_ rfl (by symm; apply decide_eq_false; intro e; subst e; rw [hx1] at hx2; simp_all)) F_ (fun _ _ _ => trivial)
 ·
  replace hr1 := aP_ hr1
  refine p_ rfl (h_ (d_ (a_ (i_ rfl) rfl (e_ (c_ rfl (D_ ?_))))))
  exact aA_ Tryz.results66 () (I_ rfl (by symm; apply decide_eq_false; intro e; subst e; omega)) F_ (fun _ _ _ => trivial)
theorem nJ_ (l m : List Fc) (ad ae : Option Addr) (cap cpe : Nat) (hl : l.length ≤ 1000000000000) (hm : m.length ≤ 1000000000000) : Tri Tryz.prog 24 #[.slice ad (List.length l) cap, .slice ae (List.length m) cpe] [] [ap_ ad (List.flatMap Fc.cells l), ap_ ae (List.flatMap Fc.cells m)] (fun _ : Unit => .bool (decide (l = m))) (fun _ => []) (fun _ => []) := by
 refine J_ Tryz.func24 rfl rfl Tryz.ntmps24 rfl fun v0 => ?_
 refine h_ (d_ (a_ (i_ rfl) rfl (e_ (c_ rfl (h_ (h_ (d_ (a_ (g_ rfl) rfl (a_ (ae_ L_ rfl) rfl ?_)))))))))
 refine a_ (g_ rfl) rfl (a_ (ae_ L_ rfl) rfl (x_ (bC_ rfl rfl) rfl fun r1 hr1 => ?_))
 refine e_ (c_ rfl ?_)
 cases r1
 ·
  replace hr1 := aQ_ hr1
  refine s_ rfl (B_ (c_ rfl (h_ (h_ (d_ (a_ (i_ rfl) rfl (e_ (c_ rfl (K_ ?_)))))))))
  refine ax_ (ι := {y : Nat // y ≤ l.length ∧ l.take y = m.take y}) (fun y => [(0, .slice ad (List.length l) cap), (1, .slice ae (List.length m) cpe), (5, .int .i64 (y.1 : Int))]) (fun y => ([])) (fun y => [ap_ ad (List.flatMap Fc.cells l), ap_ ae (List.flatMap Fc.cells m)]) (fun y => l.length - y.1) ⟨(0 : Nat), by simp, by simp⟩ ⟨rfl, rfl, rfl, trivial⟩ F_ (fun _ _ h => h) ?_
  rintro ⟨i, hi, he⟩
  dsimp only at hi he ⊢
  have hlm : l.length = m.length := by omega
  refine h_ (h_ (d_ (a_ (g_ rfl) rfl (a_ (g_ rfl) rfl (a_ (ae_ L_ rfl) rfl (x_ (ar_ rfl rfl) rfl fun r2 hr2 => ?_))))))
  refine e_ (c_ rfl ?_)
  cases r2
  ·
   replace hr2 := of_decide_eq_false hr2
   refine s_ rfl (au_ rfl (c_ rfl (h_ (d_ (a_ (i_ rfl) rfl (e_ (c_ rfl (D_ ?_))))))))
   exact aA_ Tryz.results24 () (I_ rfl (by symm; apply decide_eq_true; rwa [List.take_of_length_le (by omega), List.take_of_length_le (by omega)] at he)) F_ (fun _ _ _ => trivial)
  ·
   replace hr2 := of_decide_eq_true hr2
   have hlx1 : i < List.length l := by omega
   obtain ⟨x1, hx1⟩ : ∃ e0, l[i]? = some e0 := ⟨_, List.getElem?_eq_getElem hlx1⟩
   have hmx1 : x1 ∈ l := List.mem_of_getElem? hx1
   have hlx2 : i < List.length m := by omega
   obtain ⟨x2, hx2⟩ : ∃ e0, m[i]? = some e0 := ⟨_, List.getElem?_eq_getElem hlx2⟩
   have hmx2 : x2 ∈ m := List.mem_of_getElem? hx2
   refine p_ rfl (B_ (c_ rfl (h_ (K_ (h_ ?_)))))
   refine az_ (by kernel_rfl) ?_
   refine ag_ 0 [0, 1, 2, 3, 4, 5, 6, 7, 8] (by kernel_rfl) (fun _ a b => ⟨dg_ a, b⟩) (l_ rfl (g_ rfl) rfl (l_ rfl (g_ rfl) rfl (l_ rfl (al_ L_ G_ rfl rfl (fun v _ h => aG_ (n := 6) Fc.cells_len (by decide) (by exact h.1) hx1) (by omega) (by first | omega | (simp; done))) rfl (l_ rfl (aK_ (ad := ad) (us := Fc.cells x1) ac_ G_ rfl (fun v _ h => by exact h.1) (Fc.cells_len _) (ao_ Fc.cells_len hx1)) rfl (l_ rfl (g_ rfl) rfl (l_ rfl (g_ rfl) rfl (l_ rfl (al_ L_ G_ rfl rfl (fun v _ h => aG_ (n := 6) Fc.cells_len (by decide) (by exact h.2.1) hx2) (by omega) (by first | omega | (simp; done))) rfl (l_ rfl (aK_ (ad := ae) (us := Fc.cells x2) ac_ G_ rfl (fun v _ h => by exact h.2.1) (Fc.cells_len _) (ao_ Fc.cells_len hx2)) rfl ?_))))))))
   refine cq_ rfl (dU_ (p := x1) (q := x2) rfl rfl) rfl fun r3 hr3 => ?_
   refine af_ (Y_ (by kernel_rfl) (c_ rfl ?_))
   cases r3
   ·
    replace hr3 := of_decide_eq_false hr3
    refine s_ rfl (B_ (c_ rfl (d_ (a_ (g_ rfl) rfl (a_ (P_ rfl rfl rfl (an_ (by omega) (by omega))) rfl (a_ (i_ rfl) rfl (e_ (v_ rfl ?_))))))))
    exact ai_ ⟨i + 1, hlx1, by rw [List.take_add_one, hx1, List.take_add_one, hx2, he]; simp_all⟩ (by dsimp only; omega) ⟨rfl, rfl, rfl, trivial⟩ F_ (fun _ _ h => h)
   ·
    replace hr3 := of_decide_eq_true hr3
    refine p_ rfl (h_ (d_ (a_ (i_ rfl) rfl (e_ (c_ rfl (D_ ?_))))))
    exact aA_ Tryz.results24 () (I_ rfl (by symm; apply decide_eq_false; intro e; subst e; rw [hx1] at hx2; simp_all)) F_ (fun _ _ _ => trivial)
 ·
  replace hr1 := aP_ hr1
  refine p_ rfl (h_ (d_ (a_ (i_ rfl) rfl (e_ (c_ rfl (D_ ?_))))))
  exact aA_ Tryz.results24 () (I_ rfl (by symm; apply decide_eq_false; intro e; subst e; omega)) F_ (fun _ _ _ => trivial)
theorem kY_ (c d : Cl) (h1 : c.atoms.length ≤ 1000000000000) (h2 : c.facts.length ≤ 1000000000000) (h3 : d.atoms.length ≤ 1000000000000) (h4 : d.facts.length ≤ 1000000000000) : Tri Tryz.prog 20 #[Cl.val c, Cl.val d] [] [ap_ (Cl.aad c) (List.flatMap aL_ (Cl.atoms c)), ap_ (Cl.fad c) (List.flatMap Fc.cells (Cl.facts c)), ap_ (Cl.aad d) (List.flatMap aL_ (Cl.atoms d)), ap_ (Cl.fad d) (List.flatMap Fc.cells (Cl.facts d))] (fun _ : Unit => .bool (decide (c.atoms = d.atoms) && decide (c.facts = d.facts))) (fun _ => []) (fun _ => []) := by
  refine J_ Tryz.func20 rfl rfl Tryz.ntmps20 rfl fun v0 => ?_
  refine h_ (d_ (bd_ rfl rfl fun b1 => ?_))
  refine bd_ rfl rfl fun b2 => ?_
  refine a_ (i_ rfl) rfl (e_ (c_ rfl (h_ (d_ (a_ (m_ as_ rfl rfl rfl cB_) rfl (a_ (t_ 1 gV_ rfl rfl rfl) rfl (a_ (m_ as_ rfl rfl rfl cB_) rfl (a_ (t_ 0 gV_ rfl rfl rfl) rfl (aI_ (nI_ (Cl.atoms c) (Cl.atoms d) (Cl.aad c) (Cl.aad d) (Cl.acap c) (Cl.acap d) (by omega) (by omega)) rfl F_ (fun v _ h => by exact ⟨h.1, h.2.2.1, trivial⟩) rfl fun r1 hr1 => ?_)))))))))
  refine a_ (g_ rfl) rfl ?_
  cases r1
  · skip
    replace hr1 := of_decide_eq_false hr1
    refine y_ rfl rfl rfl rfl (y_ rfl rfl rfl rfl (y_ rfl rfl rfl rfl (y_ rfl rfl rfl rfl (y_ rfl rfl rfl rfl (a_ (M_ rfl rfl) rfl (a_ (i_ rfl) rfl (e_ (c_ rfl (D_ ?_)))))))))
    exact aA_ Tryz.results20 () (I_ rfl (by have p1 := eq_false hr1; simp only [p1, if_true, if_false, decide_true, decide_false, Bool.and_true, Bool.and_false, Bool.true_and, Bool.false_and, Bool.or_true, Bool.or_false, Bool.true_or, Bool.false_or, Bool.not_true, Bool.not_false, ne_eq, not_true_eq_false, not_false_eq_true, true_and, and_true, false_and, and_false, true_or, or_true, false_or, or_false, ite_true, ite_false, Bool.false_eq_true])) F_ (fun _ _ _ => trivial)
  · skip
    replace hr1 := of_decide_eq_true hr1
    refine r_ rfl rfl (a_ (m_ as_ rfl rfl rfl bq_) rfl (r_ rfl rfl (a_ (t_ 1 bi_ rfl rfl rfl) rfl (r_ rfl rfl (a_ (m_ as_ rfl rfl rfl bq_) rfl (r_ rfl rfl (a_ (t_ 0 bi_ rfl rfl rfl) rfl (r_ rfl rfl (aI_ (nJ_ (Cl.facts c) (Cl.facts d) (Cl.fad c) (Cl.fad d) (Cl.fcap c) (Cl.fcap d) (by omega) (by omega)) rfl F_ (fun v _ h => by exact ⟨h.2.1, h.2.2.2.1, trivial⟩) rfl fun r2 hr2 => ?_)))))))))
    refine a_ (W_ rfl rfl) rfl (a_ (i_ rfl) rfl (e_ (c_ rfl (D_ ?_))))
    exact aA_ Tryz.results20 () (I_ rfl (by have p1 := eq_true hr1; rw [← hr2]; simp only [p1, if_true, if_false, decide_true, decide_false, Bool.and_true, Bool.and_false, Bool.true_and, Bool.false_and, Bool.or_true, Bool.or_false, Bool.true_or, Bool.false_or, Bool.not_true, Bool.not_false, ne_eq, not_true_eq_false, not_false_eq_true, true_and, and_true, false_and, and_false, true_or, or_true, false_or, or_false, ite_true, ite_false, Bool.false_eq_true])) F_ (fun _ _ _ => trivial)
end Go.Proofs.YtpdbbglpbngeiaaGreatDoor
namespace Go.Proofs.YtpdbbglpbngeiaaGreatDoor
open Go Go.Sx Go.Proofs
attribute [local irreducible] Code.wp wpList wpAnyH
open Go.Vs
def ny_ (p : List Pc) (at' : List Str) (fs l : List Fc) (e : Int) : Prop :=
  if br_ p ≠ 0 then l = [] ∧ e = br_ p
  else if kN_ at' fs ≠ 0 then l = [] ∧ e = kN_ at' fs
  else e = 0 ∧ Srt l ∧ ∀ y, y ∈ l ↔ eI_ p (atS p) (· ∈ fs) y ∧ y ∉ fs
end Go.Proofs.YtpdbbglpbngeiaaGreatDoor
namespace Go.Proofs.YtpdbbglpbngeiaaGreatDoor
open Go Go.Sx Go.Proofs
attribute [local irreducible] Code.wp wpList wpAnyH
open Go.Vs
theorem cv_.good {p : List Pc} {bu : Int} {c : Cl} (h : cv_ p bu c 0) : br_ p = 0 ∧ 0 ≤ bu ∧ bu ≤ 1073741824 ∧ c.ok ∧ c.atoms = atS p ∧ cp_ p (atS p) (min bu 65536).toNat (some c.facts) := by
  unfold cv_ at h
  split at h
  · rename_i h1; exact absurd h.2.symm h1
  · rename_i h1
    split at h
    · exact absurd h.2 (by decide)
    · rename_i h2
      rcases h with h | h
      · exact ⟨by simpa using h1, by omega, by omega, h.2⟩
      · have := h.2.1; split at this <;> exact absurd this (by decide)
theorem cv_.bad {p : List Pc} {bu : Int} {c : Cl} {e : Int} (h : cv_ p bu c e) (he : e ≠ 0) : c = Cl.no := by
  unfold cv_ at h
  split at h
  · exact h.1
  · split at h
    · exact h.1
    · rcases h with h | h
      · exact absurd h.1 he
      · exact h.1
theorem cv_.ok {p : List Pc} {bu : Int} {c : Cl} {e : Int} (h : cv_ p bu c e) : c.ok := by
  by_cases he : e = 0
  · subst he; exact h.good.2.2.2.1
  · rw [h.bad he]; exact Cl.no_ok
theorem cv_.len {p : List Pc} {bu : Int} {c : Cl} {e : Int} (h : cv_ p bu c e) : c.atoms.length ≤ 3 * p.length + 2 ∧ c.facts.length ≤ 65536 := by
  by_cases he : e = 0
  · subst he
    obtain ⟨_, _, _, _, h1, h2⟩ := h.good
    refine ⟨by rw [h1]; exact ln_ p, ?_⟩
    have := h2.2.2
    omega
  · rw [h.bad he]; simp [Cl.no]
theorem gB_ {p : List Pc} {bu : Int} {c : Cl} {e : Int} {r : Option (List Fc)} (h : cv_ p bu c e) (hc : br_ p = 0) (hb : 0 ≤ bu) (hb2 : bu ≤ 1073741824) (hr : cp_ p (atS p) (min bu 65536).toNat r) : (∀ L, r = some L → e = 0 ∧ c.facts = L ∧ c.atoms = atS p) ∧ (r = none → c = Cl.no ∧ e = if bu < 65536 then 3 else 2) := by
  unfold cv_ at h
  rw [if_neg (by simp [hc]), if_neg (by omega)] at h
  rcases h with ⟨h1, h2, h3, h4⟩ | ⟨h1, h2, h3⟩
  · have e := cp_.uniq h4 hr
    subst e
    exact ⟨fun L hL => ⟨h1, Option.some.inj hL, h3⟩, fun h => (by cases h)⟩
  · have e := cp_.uniq h3 hr
    subst e
    exact ⟨fun L hL => (by cases hL), fun _ => ⟨h1, h2⟩⟩
theorem ny_.good {p : List Pc} {at' : List Str} {fs l : List Fc} {e : Int} (h : ny_ p at' fs l e) (hp : br_ p = 0) (hc : kN_ at' fs = 0) : e = 0 ∧ Srt l ∧ ∀ y, y ∈ l ↔ eI_ p (atS p) (· ∈ fs) y ∧ y ∉ fs := by
  unfold ny_ at h
  rw [if_neg (by simp [hp]), if_neg (by simp [hc])] at h
  exact h
end Go.Proofs.YtpdbbglpbngeiaaGreatDoor
namespace Go.Proofs.YtpdbbglpbngeiaaGreatDoor
open Go Go.Sx Go.Proofs
attribute [local irreducible] Code.wp wpList wpAnyH
open Go.Vs
theorem mo_ {N : Nat} {fr : Fr} {H : Hp} {Γ : List Fct} {P : Program} {ty t t' : TypeId} {x y : Operand} {m n : Int} (hx : Fr.ev fr x = some (.int .i64 m)) (hy : Fr.ev fr y = some (.int .i64 n)) : Yld P N fr H Γ (.binOp .add t x y t') ty (.int .i64 (IntKind.wrap .i64 (m + n))) :=
  fun a v h1 _ _ _ _ _ => by simp [execOp, h1.ev hx, h1.ev hy, eqGuard, binOp, Op.intArith]
def hx_ (x : Pc) : Int := (x.a.length : Int) + (x.b.length : Int) + (x.c.length : Int) + (x.r.length : Int) + (x.s.length : Int) + (x.t.length : Int)
def fc_ : List Pc → Int
  | [] => 0
  | x :: l => hx_ x + fc_ l
theorem iv_ : ∀ (l : List Pc) (x : Pc), fc_ (l ++ [x]) = fc_ l + hx_ x
  | [], x => by simp [fc_]
  | y :: l, x => by simp only [List.cons_append, fc_, iv_ l x]; omega
theorem lH_ {p : List Pc} {i : Nat} {x : Pc} (h : p[i]? = some x) : fc_ (p.take (i + 1)) = fc_ (p.take i) + hx_ x := by
  rw [List.take_add_one, h, Option.toList_some, iv_]
theorem jL_ : ∀ {l : List Pc}, (∀ x ∈ l, x.big) → 0 ≤ fc_ l ∧ fc_ l ≤ l.length * 844424930107392
  | [], _ => by simp [fc_]
  | x :: l, h => by
    have h1 := jL_ (l := l) fun y hy => h y (by simp [hy])
    obtain ⟨a, b, c, d, e, f⟩ := h x (by simp)
    simp only [fc_, hx_, List.length_cons]
    omega
theorem lc_ : ∀ {l : List Pc} {n : Int}, fc_ l ≤ n → n ≤ 17592186044414 → ∀ x ∈ l, x.sm
  | [], _, _, _, x, hx => by simp at hx
  | y :: l, n, h, hn, x, hx => by
    have h0 : 0 ≤ fc_ l := plen_pos l
    simp only [fc_, hx_] at h
    rcases List.mem_cons.1 hx with rfl | hx
    · exact ⟨by omega, by omega, by omega, by omega, by omega, by omega⟩
    · exact lc_ (l := l) (n := n) (by omega) hn x hx
where plen_pos : ∀ l : List Pc, 0 ≤ fc_ l
  | [] => by simp [fc_]
  | x :: l => by have := plen_pos l; simp only [fc_, hx_]; omega
theorem hf_ : atS [] = [[33], [42]] := eb_ dy_ List.lt_trans (je_ []) (by decide) fun x => by
  rw [jd_, eX_]
  simp [bV_, or_comm]
def A3 : List Str := [[33], [42], [65], [66], [67]]
theorem ha_ : br_ [] = 0 := by decide +kernel
def F0 : List Fc := fM_ [] [[33], [42]] 3
theorem oE_ (m : Nat) (hm : 3 ≤ m) : cp_ [] [[33], [42]] m (some F0) := gA_ (fun x hx => by simp at hx) 3 m (by decide +kernel) (Nat.le_trans (by decide +kernel) hm)
theorem F0_no : cp_ [] [[33], [42]] 2 none := mh_ (fun x hx => by simp at hx) 3 2 (by decide +kernel)
theorem sane2 {c : Cl} {e : Int} (h : cv_ [] 2 c e) : e = 3 ∧ c = Cl.no := by
  have := (gB_ h ha_ (by decide) (by decide) (r := none) (by rw [hf_]; exact F0_no)).2 rfl
  exact ⟨this.2, this.1⟩
theorem nz_ : F0.length = 3 := by decide +kernel
end Go.Proofs.YtpdbbglpbngeiaaGreatDoor
namespace Go.Proofs.YtpdbbglpbngeiaaGreatDoor
open Go Go.Sx Go.Proofs
attribute [local irreducible] Code.wp wpList wpAnyH
open Go.Vs
def dQ_ (p q : List Pc) : Prop := ∀ x ∈ p, ∃ y ∈ q, ∃ n, { y with frm := n } = x
theorem dQ_.rfl' (p : List Pc) : dQ_ p p := fun x hx => ⟨x, hx, x.frm, rfl⟩
theorem dQ_.of {p q : List Pc} (h : ∀ x ∈ p, x ∈ q) : dQ_ p q := fun x hx => ⟨x, h x hx, x.frm, rfl⟩
theorem dQ_.at' {p q : List Pc} (h : dQ_ p q) : ∀ s ∈ atS p, s ∈ atS q := fun s hs => by
  rw [jd_, eX_] at hs ⊢
  rcases hs with h1 | h1
  · obtain ⟨x, hx, h2⟩ := List.mem_flatMap.1 h1
    obtain ⟨y, hy, n, e⟩ := h x hx
    subst e
    exact .inl (List.mem_flatMap.2 ⟨y, hy, h2⟩)
  · exact .inr h1
theorem dQ_.der {p q : List Pc} (h : dQ_ p q) {y : Fc} (hy : Der p (atS p) y) : Der q (atS q) y := hy.mono h h.at'
theorem dQ_.atS_eq {p q : List Pc} (h : dQ_ p q) (h' : dQ_ q p) : atS p = atS q :=
  eb_ dy_ List.lt_trans (je_ p) (je_ q) fun x => ⟨h.at' x, h'.at' x⟩
theorem cp_.congrP {p q : List Pc} {m : Nat} {r : Option (List Fc)} (h : dQ_ p q) (h' : dQ_ q p) (hr : cp_ p (atS p) m r) : cp_ q (atS q) m r := by
  cases r with
  | none => obtain ⟨M, h1, h2, h3⟩ := hr; exact ⟨M, h1, fun y hy => h.der (h2 y hy), h3⟩
  | some L => exact ⟨hr.1, fun y => (hr.2.1 y).trans ⟨h.der, h'.der⟩, hr.2.2⟩
theorem cp_.less {p q : List Pc} {m : Nat} {L : List Fc} {r : Option (List Fc)} (h : dQ_ q p) (hp : cp_ p (atS p) m (some L)) (hq : cp_ q (atS q) m r) : ∃ M, r = some M ∧ ∀ y ∈ M, y ∈ L := by
  cases r with
  | none =>
    obtain ⟨M, h1, h2, h3⟩ := hq
    have := ez_ h1 fun x hx => (hp.2.1 x).2 (h.der (h2 x hx))
    have := hp.2.2
    omega
  | some M => exact ⟨M, rfl, fun y hy => (hp.2.1 y).2 (h.der ((hq.2.1 y).1 hy))⟩
theorem kM_ {p q : List Pc} (hp : br_ p = 0) (hl : q.length ≤ p.length) (h : ∀ x ∈ q, x ∈ p) : br_ q = 0 := by
  obtain ⟨h1, h2⟩ := ki_ hp
  unfold br_
  rw [if_neg (by omega), if_pos (List.all_eq_true.2 fun x hx => List.all_eq_true.1 h2 x (h x hx))]
theorem lp_ {p : List Pc} {bu : Int} {c : Cl} {e : Int} (h : cv_ p bu c e) (hc : br_ p = 0) (hb : 0 ≤ bu) (hb2 : bu ≤ 1073741824) : (e = 0 ∧ c.atoms = atS p ∧ cp_ p (atS p) (min bu 65536).toNat (some c.facts)) ∨ (c = Cl.no ∧ e = (if bu < 65536 then 3 else 2) ∧ cp_ p (atS p) (min bu 65536).toNat none) := by
  unfold cv_ at h
  rw [if_neg (by simp [hc]), if_neg (by omega)] at h
  rcases h with ⟨h1, _, h2, h3⟩ | h
  · exact .inl ⟨h1, h2, h3⟩
  · exact .inr h
theorem ml_ {p q : List Pc} {bu : Int} {c d : Cl} {e f : Int} (h : dQ_ p q) (h' : dQ_ q p) (hp : cv_ p bu c e) (hq : cv_ q bu d f) (hc : br_ p = 0) (hd : br_ q = 0) (hb : 0 ≤ bu) (hb2 : bu ≤ 1073741824) : c.atoms = d.atoms ∧ c.facts = d.facts ∧ e = f := by
  rcases lp_ hp hc hb hb2 with ⟨h1, h2, h3⟩ | ⟨h1, h2, h3⟩
  · obtain ⟨g1, g2, g3⟩ := (gB_ hq hd hb hb2 (cp_.congrP h h' h3)).1 _ rfl
    exact ⟨by rw [h2, g3, h.atS_eq h'], g2.symm, by rw [h1, g1]⟩
  · obtain ⟨g1, g2⟩ := (gB_ hq hd hb hb2 (cp_.congrP h h' h3)).2 rfl
    subst h1 g1
    exact ⟨rfl, rfl, by rw [h2, g2]⟩
theorem mm_ {p q : List Pc} {bu : Int} {c d : Cl} {g : Int} (h : ∀ x ∈ q, x ∈ p) (hl : q.length ≤ p.length) (hp : cv_ p bu c 0) (hq : cv_ q bu d g) : g = 0 ∧ ∀ y ∈ d.facts, y ∈ c.facts := by
  obtain ⟨h1, h2, h3, _, _, h4⟩ := hp.good
  rcases lp_ hq (kM_ h1 hl h) h2 h3 with ⟨g1, _, g3⟩ | ⟨_, _, g3⟩
  · obtain ⟨M, e, hM⟩ := cp_.less (dQ_.of h) h4 g3
    obtain rfl := Option.some.inj e
    exact ⟨g1, hM⟩
  · obtain ⟨M, e, _⟩ := cp_.less (dQ_.of h) h4 g3
    cases e
theorem cv_.srt {p : List Pc} {bu : Int} {c : Cl} {e : Int} (h : cv_ p bu c e) : Srt c.facts := by
  by_cases he : e = 0
  · subst he; exact h.good.2.2.2.2.2.1
  · rw [h.bad he]; exact List.Pairwise.nil
def Pc.nf (x : Pc) : Pc := ⟨x.kind, x.a, x.b, x.c, x.r, x.s, x.t, x.lo, x.hi, -1⟩
theorem dQ_.trans {p q r : List Pc} (h : dQ_ p q) (k : dQ_ q r) : dQ_ p r := fun x hx => by
  obtain ⟨y, hy, n, rfl⟩ := h x hx
  obtain ⟨z, hz, m, rfl⟩ := k y hy
  exact ⟨z, hz, n, rfl⟩
end Go.Proofs.YtpdbbglpbngeiaaGreatDoor
namespace Go.Proofs.YtpdbbglpbngeiaaGreatDoor
open Go Go.Sx Go.Proofs
attribute [local irreducible] Code.wp wpList wpAnyH
open Go.Vs
theorem of_ {α β : Type} {g : α → List β} {l : List α} {i : Nat} {x : α} (h : l[i]? = some x) : List.flatMap g (List.take (i + 1) l) = List.flatMap g (List.take i l) ++ g x := by
  rw [List.take_add_one, h, Option.toList_some, List.flatMap_append]; simp
end Go.Proofs.YtpdbbglpbngeiaaGreatDoor
namespace Go.Proofs.YtpdbbglpbngeiaaGreatDoor
open Go Go.Sx Go.Proofs
attribute [local irreducible] Code.wp wpList wpAnyH
open Go.Vs
theorem bD_.pre {α : Type} {f : α → List Value} {n : Nat} (hf : ∀ x, (f x).length = n) {l : List α} {v : Vw} {ad : Option Addr} (h : bD_ v ad (l.flatMap f)) (j : Nat) : bD_ v ad ((l.take j).flatMap f) :=
  h.part fun k x hx => by
    have e : l.flatMap f = (l.take j).flatMap f ++ (l.drop j).flatMap f := by rw [← List.flatMap_append, List.take_append_drop]
    rw [e, List.getElem?_append_left (List.getElem?_eq_some_iff.1 hx).1]
    exact hx
end Go.Proofs.YtpdbbglpbngeiaaGreatDoor
