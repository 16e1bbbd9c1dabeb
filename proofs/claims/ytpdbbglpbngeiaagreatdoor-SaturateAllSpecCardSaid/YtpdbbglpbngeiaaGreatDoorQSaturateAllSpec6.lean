/-
  Part of the proof of the law SaturateAllSpec over this seat: the small logic, the data, the contracts of functions (no condition).
-/
import Derived.Test.YtpdbbglpbngeiaaGreatDoorQSaturateAllSpec5
import Derived.Test.YtpdbbglpbngeiaaGreatDoorQSaturateAllSpec4
import Derived.Shelf.SlSortCmp.NoneTotal
import Derived.Test.YtpdbbglpbngeiaaGreatDoorProg
import Derived.Test.YtpdbbglpbngeiaaGreatDoorQSaturateAllSpec2
import Derived.Test.YtpdbbglpbngeiaaGreatDoorRows
set_option linter.unusedVariables false
set_option linter.unusedSimpArgs false
set_option linter.unusedSectionVars false
namespace Go.Proofs.YtpdbbglpbngeiaaGreatDoor
open Go Go.Sx Go.Proofs
attribute [local irreducible] Code.wp wpList wpAnyH
open Go.Vs
theorem gx_ (x : Pc) (ro at' : Str) (pm : List (Ky × Pc)) (bx bg : Nat) (g pb kb ab ub ob ib rb sb fb : Nat) (ev : Value) (lv : Value) (Hm : Hp) (hm : dn_ Ky.val Pc.cells 47 10 pm pb Hm) (hpl : pm.length ≤ 1000000000) : Tri Tryz.prog 142 #[str ro, str at', zp_ bx 0, zp_ bg 0] ((bx, .cells (Pc.cells x).toArray 47 (0, 0)) :: (bg, .cells #[zp_ g 0] 85 (0, 0)) :: (g, .cells #[.map (some pb), lv, .map (some kb), ev, .map (some ab), .map (some ub), .map (some ob), .map (some ib), .map (some rb), .map (some sb), .map (some fb)] 94 (0, 0)) :: Hm) [] (fun _ : {H : Hp // dn_ Ky.val Pc.cells 47 10 (pm ++ [((Ky.mk (Pc.kind x) ro at'), x)]) pb H} => .tuple #[]) (fun y => (bx, .cells (Pc.cells x).toArray 47 (0, 0)) :: (bg, .cells #[zp_ g 0] 85 (0, 0)) :: (g, .cells #[.map (some pb), lv, .map (some kb), ev, .map (some ab), .map (some ub), .map (some ob), .map (some ib), .map (some rb), .map (some sb), .map (some fb)] 94 (0, 0)) :: y.1) (fun _ => []) := by
  refine S_ Tryz.func142 rfl rfl Tryz.ntmps142 rfl fun v0 => ?_
  refine h_ (d_ (a_ (n_ l_ rfl rfl rfl K_) rfl (a_ (s_ 0 L_ rfl rfl rfl) rfl (a_ (f_ rfl) rfl (a_ (f_ rfl) rfl (a_ (aI_ ep_ rfl rfl) rfl (ar_ Tryz.zeroValue171 rfl fun b1 => ?_)))))))
  refine V_ 0 Tryz.sizeOf171 rfl rfl rfl rfl rfl rfl (e_ (b_ rfl ?_))
  refine aP_ ((b1, .cells #[.int .i64 (Pc.kind x), str ro, str at'] 171 (0, 0)) :: ((bx, .cells (Pc.cells x).toArray 47 (0, 0)) :: ((bg, .cells #[zp_ g 0] 85 (0, 0)) :: ((g, .cells #[.map (some pb), lv, .map (some kb), ev, .map (some ab), .map (some ub), .map (some ob), .map (some ib), .map (some rb), .map (some sb), .map (some fb)] 94 (0, 0)) :: [])))) (by kernel_rfl) ?_
  refine ad_ 6 [0, 1, 2, 3, 4, 5] (by kernel_rfl) (fun _ a b => ⟨Vw.sat.sub (a.perm (m_ i_ (m_ i_ (m_ i_ i_)))), b⟩) (o_ rfl (s_ 2 bB_ rfl rfl rfl) rfl (o_ rfl (ao_ rfl) rfl (o_ rfl (n_ I_ rfl rfl rfl dr_) rfl (o_ rfl (s_ 3 dZ_ rfl rfl rfl) rfl (o_ rfl (Y_ 0 Tryz.isAgg171 Tryz.sizeOf171 rfl rfl rfl) rfl (o_ rfl (Y_ 1 aK_ R_ rfl rfl rfl) rfl (ac_ (X_ 6 rfl (by kernel_rfl) (aN_ N_ R_ bi_ rfl rfl rfl rfl rfl rfl fun b2 => ?_)))))))))
  refine e_ (x_ rfl (O_ (fun _ a b => ⟨Vw.sat.sub (a.perm (m_ (c_ i_) (m_ (c_ i_) (m_ (c_ i_) (c_ i_))))), b⟩) (X_ 7 rfl (by kernel_rfl) ?_)))
  have hbb1 := Nat.le_trans (eW_ pm (Ky.mk (Pc.kind x) ro at')) hpl
  refine dz_ (k := (Ky.mk (Pc.kind x) ro at')) fI_ hm cf_ cN_ rfl rfl (c_ (c_ (c_ (c_ Q_)))) rfl fun es1 ce1 ie1 se1 ve1 Hk1 Hx1 ho1 hw1 => ?_
  refine e_ (x_ rfl (O_ (fun _ a b => ⟨Vw.sat.sub (a.perm (m_ (c_ (q_ (q_ (c_ i_)))) (m_ (c_ (q_ (q_ (c_ i_)))) (m_ (c_ (q_ (q_ (c_ i_)))) (c_ (q_ (q_ (c_ i_)))))))), b⟩) (ad_ 2 [8, 10] (by kernel_rfl) (fun _ a b => ⟨Vw.sat.sub (a.perm (m_ (c_ (q_ (q_ (c_ i_)))) (m_ (c_ (q_ (q_ (c_ i_)))) (m_ (c_ (q_ (q_ (c_ i_)))) (c_ (q_ (q_ (c_ i_)))))))), b⟩) (o_ rfl (av_ rfl rfl) rfl (o_ rfl (av_ rfl rfl) rfl (ac_ (X_ 9 rfl (by kernel_rfl) (bt_ (news := List.flatMap Pc.cells [x]) elt_pc hw1 rfl rfl (c_ w_) rfl (dx_ (c_ (q_ (q_ i_)))) (fun u hu => aO_ Pc.cells_one hu) (by simp only [maxLen]; omega) (by omega) rfl fun sv1 Hr1 hr1 => ?_))))))))
  have hq1 : aR_ 47 10 sv1 (List.length ((lat pm (Ky.mk (Pc.kind x) ro at')) ++ [x])) (List.flatMap Pc.cells ((lat pm (Ky.mk (Pc.kind x) ro at')) ++ [x])) Hr1 := by rw [List.length_append, List.flatMap_append]; exact hr1
  refine e_ (x_ rfl (O_ (fun _ a b => ⟨Vw.sat.sub (a.perm (m_ (q_ (c_ (q_ (c_ i_)))) (m_ (q_ (c_ (q_ (c_ i_)))) (m_ (q_ (c_ (q_ (c_ i_)))) (q_ (c_ (q_ (c_ i_)))))))), b⟩) (X_ 11 rfl (by kernel_rfl) (ca_ (k := (Ky.mk (Pc.kind x) ro at')) (dd := x) ho1 (by rw [db_]; exact hq1) rfl rfl rfl (cZ_ (m_ (q_ i_) (B_ w_ w_))) fun H2 hM2 => ?_))))
  refine e_ (x_ rfl (O_ (fun _ a b => ⟨Vw.sat.sub (a.perm (m_ (q_ (c_ i_)) (m_ (q_ (c_ i_)) (m_ (q_ (c_ i_)) (q_ (c_ i_)))))), b⟩) (aa_ (by kernel_rfl) (bk_ rfl ?_))))
  exact dd_ Tryz.results142 ⟨H2, hM2⟩ rfl (m_ (q_ (c_ (c_ i_))) (m_ (q_ (c_ (c_ i_))) (m_ (q_ (c_ (c_ i_))) w_))) (fun _ _ _ => trivial)
theorem oG_ (x : Pc) (pm : List (Ky × Pc)) (lps : List Str) (g pb kb ab ub ob ib rb sb fb : Nat) (ev : Value) (lv : Value) (Hm Hl : Hp) (hm : dn_ Ky.val Pc.cells 47 10 pm pb Hm) (hl : aR_ 9 1 lv (List.length lps) (List.flatMap aJ_ lps) Hl) (hpl : pm.length ≤ 900000000) (hll : lps.length ≤ 900000000) : Tri Tryz.prog 96 #[zp_ g 0, Pc.val x] ((g, .cells #[.map (some pb), lv, .map (some kb), ev, .map (some ab), .map (some ub), .map (some ob), .map (some ib), .map (some rb), .map (some sb), .map (some fb)] 94 (0, 0)) :: (Hm ++ Hl)) [] (fun _ : {y : Value × Hp × Hp // dn_ Ky.val Pc.cells 47 10 (pm ++ cG_ x) pb y.2.1 ∧ aR_ 9 1 y.1 (List.length (lps ++ an_ [x])) (List.flatMap aJ_ (lps ++ an_ [x])) y.2.2} => .tuple #[]) (fun y => (g, .cells #[.map (some pb), y.1.1, .map (some kb), ev, .map (some ab), .map (some ub), .map (some ob), .map (some ib), .map (some rb), .map (some sb), .map (some fb)] 94 (0, 0)) :: (y.1.2.1 ++ y.1.2.2)) (fun _ => []) := by
 refine S_ Tryz.func96 rfl rfl Tryz.ntmps96 rfl fun v0 => ?_
 refine h_ (d_ (bl_ rfl rfl fun b1 => ?_))
 refine bl_ rfl rfl fun b2 => ?_
 refine e_ (b_ rfl (h_ (d_ (a_ (cO_ rfl rfl) rfl (a_ (g_ rfl) rfl (e_ (b_ rfl (h_ (d_ ?_)))))))))
 refine a_ (n_ l_ rfl rfl rfl K_) rfl (a_ (s_ 0 L_ rfl rfl rfl) rfl (e_ (b_ rfl (P_ (h_ (h_ (d_ (y_ (aG_ rfl rfl) rfl fun r1 hr1 => ?_))))))))
 refine a_ (g_ rfl) rfl (e_ (b_ rfl ?_))
 cases r1
 ·
  replace hr1 := ne_of_beq_false hr1
  refine v_ rfl (h_ (d_ (y_ (aG_ rfl rfl) rfl fun r2 hr2 => ?_)))
  refine a_ (g_ rfl) rfl (e_ (b_ rfl ?_))
  cases r2
  ·
   replace hr2 := ne_of_beq_false hr2
   refine v_ rfl (d_ (y_ (aG_ rfl rfl) rfl fun r3 hr3 => ?_))
   refine a_ (g_ rfl) rfl (e_ (b_ rfl ?_))
   cases r3
   ·
    replace hr3 := ne_of_beq_false hr3
    refine v_ rfl (h_ (d_ (y_ (aG_ rfl rfl) rfl fun r4 hr4 => ?_)))
    refine a_ (g_ rfl) rfl (e_ (b_ rfl ?_))
    cases r4
    ·
     replace hr4 := ne_of_beq_false hr4
     refine v_ rfl (h_ (d_ (y_ (aG_ rfl rfl) rfl fun r5 hr5 => ?_)))
     refine a_ (g_ rfl) rfl (e_ (b_ rfl ?_))
     cases r5
     ·
      replace hr5 := ne_of_beq_false hr5
      refine v_ rfl (h_ (h_ (d_ (y_ (aG_ rfl rfl) rfl fun r6 hr6 => ?_))))
      refine a_ (g_ rfl) rfl (e_ (b_ rfl ?_))
      cases r6
      ·
       replace hr6 := ne_of_beq_false hr6
       refine v_ rfl (d_ (y_ (aG_ rfl rfl) rfl fun r7 hr7 => ?_))
       refine a_ (g_ rfl) rfl (e_ (b_ rfl ?_))
       cases r7
       ·
        replace hr7 := ne_of_beq_false hr7
        refine v_ rfl (h_ (d_ (y_ (aG_ rfl rfl) rfl fun r8 hr8 => ?_)))
        refine a_ (g_ rfl) rfl (e_ (b_ rfl ?_))
        cases r8
        ·
         replace hr8 := ne_of_beq_false hr8
         refine v_ rfl (h_ (d_ (y_ (aG_ rfl rfl) rfl fun r9 hr9 => ?_)))
         refine a_ (g_ rfl) rfl (e_ (b_ rfl ?_))
         cases r9
         ·
          replace hr9 := ne_of_beq_false hr9
          refine v_ rfl (E_ (bk_ rfl ?_))
          have e1 : pm = pm ++ cG_ x := by simp [cG_, *]
          have e2 : lps = lps ++ an_ [x] := by simp [an_, *]
          exact dd_ cW_ ⟨(lv, Hm, Hl), e1 ▸ hm, e2 ▸ hl⟩ rfl (m_ (c_ (c_ i_)) (B_ (c_ (c_ w_)) (c_ Q_))) (fun _ _ _ => trivial)
         ·
          replace hr9 := eq_of_beq hr9
          refine u_ rfl ?_
          refine aP_ ((b2, .cells (Pc.cells x).toArray 47 (0, 0)) :: ((b1, .cells #[zp_ g 0] 85 (0, 0)) :: [])) (by kernel_rfl) ?_
          refine ad_ 6 [0, 1, 2, 3, 5, 6] (by kernel_rfl) (fun _ a b => ⟨Vw.sat.sub (a.perm (m_ i_ i_)), b⟩) (o_ rfl (s_ 1 bB_ rfl rfl rfl) rfl (o_ rfl (s_ 1 bB_ rfl rfl rfl) rfl (o_ rfl (ao_ rfl) rfl (o_ rfl (n_ I_ rfl rfl rfl cx_) rfl (o_ rfl (n_ l_ rfl rfl rfl j_) rfl (o_ rfl (s_ 0 p_ rfl rfl rfl) rfl (ac_ ?_)))))))
          refine hT_ 4 7 rfl rfl (by kernel_rfl) ?_ ?_
          ·
           refine a_ (s_ 2 eC_ rfl rfl rfl) rfl (e_ (x_ rfl (O_ (fun _ a b => ⟨Vw.sat.sub (a.perm (m_ i_ i_)), b⟩) (X_ 7 rfl (by kernel_rfl) (aN_ D_ j_ bf_ rfl rfl rfl rfl rfl rfl fun b3 => ?_)))))
           refine e_ (x_ rfl (O_ (fun _ a b => ⟨Vw.sat.sub (a.perm (m_ (c_ i_) (c_ i_))), b⟩) (X_ 8 rfl (by kernel_rfl) (bt_ (news := List.flatMap aJ_ [(Pc.r x)]) cH_ hl rfl rfl (c_ (c_ (c_ (c_ ba_)))) rfl (cP_ 0 rfl) (fun u hu => aO_ cj_ hu) (by simp only [maxLen]; first | omega | (simp; omega)) (by first | omega | (simp; omega)) rfl fun sv1 Hr1 hr1 => ?_))))
           have hq1 : aR_ 9 1 sv1 (List.length (lps ++ [(Pc.r x)])) (List.flatMap aJ_ (lps ++ [(Pc.r x)])) Hr1 := by rw [List.length_append, List.flatMap_append]; exact hr1
           refine e_ (x_ rfl (O_ (fun _ a b => ⟨Vw.sat.sub (a.perm (m_ (q_ (c_ i_)) (q_ (c_ i_)))), b⟩) (ad_ 1 [9, 10] (by kernel_rfl) (fun _ a b => ⟨Vw.sat.sub (a.perm (m_ (q_ (c_ i_)) (q_ (c_ i_)))), b⟩) (o_ rfl (ao_ rfl) rfl (o_ rfl (n_ I_ rfl rfl rfl cx_) rfl (ac_ (X_ 11 rfl (by kernel_rfl) (am_ (bc_ (q_ i_) (bc_ (q_ i_) (bc_ (q_ i_) (cl_ (q_ i_))))) (ge_ 3 hq1 cx_ rfl rfl rfl rfl ?_)))))))))
           refine e_ (x_ rfl (O_ (fun _ a b => ⟨Vw.sat.sub (a.perm (m_ (c_ i_) (c_ i_))), b⟩) (aa_ (by kernel_rfl) (bk_ rfl ?_))))
           have e1 : pm = pm ++ cG_ x := by simp [cG_, *]
           have e2 : (lps ++ [(Pc.r x)]) = lps ++ an_ [x] := by simp [an_, *]
           exact dd_ cW_ ⟨(sv1, Hm, Hr1), e1 ▸ hm, e2 ▸ hq1⟩ rfl (m_ (c_ (c_ (c_ i_))) (B_ (c_ (c_ (c_ ba_))) (c_ (c_ Q_)))) (fun _ _ _ => trivial)
          ·
           refine aN_ D_ j_ bf_ rfl rfl rfl rfl rfl rfl fun b4 => ?_
           refine e_ (x_ rfl (O_ (fun _ a b => ⟨Vw.sat.sub (a.perm (m_ (c_ i_) (c_ i_))), b⟩) (X_ 4 rfl (by kernel_rfl) (a_ (s_ 3 eC_ rfl rfl rfl) rfl (e_ (x_ rfl (O_ (fun _ a b => ⟨Vw.sat.sub (a.perm (m_ (c_ i_) (c_ i_))), b⟩) (X_ 8 rfl (by kernel_rfl) (bt_ (news := List.flatMap aJ_ [(Pc.r x)]) cH_ hl rfl rfl (c_ (c_ (c_ (c_ ba_)))) rfl (cP_ 0 rfl) (fun u hu => aO_ cj_ hu) (by simp only [maxLen]; first | omega | (simp; omega)) (by first | omega | (simp; omega)) rfl fun sv2 Hr2 hr2 => ?_)))))))))
           have hq2 : aR_ 9 1 sv2 (List.length (lps ++ [(Pc.r x)])) (List.flatMap aJ_ (lps ++ [(Pc.r x)])) Hr2 := by rw [List.length_append, List.flatMap_append]; exact hr2
           refine e_ (x_ rfl (O_ (fun _ a b => ⟨Vw.sat.sub (a.perm (m_ (q_ (c_ i_)) (q_ (c_ i_)))), b⟩) (ad_ 1 [9, 10] (by kernel_rfl) (fun _ a b => ⟨Vw.sat.sub (a.perm (m_ (q_ (c_ i_)) (q_ (c_ i_)))), b⟩) (o_ rfl (ao_ rfl) rfl (o_ rfl (n_ I_ rfl rfl rfl cx_) rfl (ac_ (X_ 11 rfl (by kernel_rfl) (am_ (bc_ (q_ i_) (bc_ (q_ i_) (bc_ (q_ i_) (cl_ (q_ i_))))) (ge_ 3 hq2 cx_ rfl rfl rfl rfl ?_)))))))))
           refine e_ (x_ rfl (O_ (fun _ a b => ⟨Vw.sat.sub (a.perm (m_ (c_ i_) (c_ i_))), b⟩) (aa_ (by kernel_rfl) (bk_ rfl ?_))))
           have e1 : pm = pm ++ cG_ x := by simp [cG_, *]
           have e2 : (lps ++ [(Pc.r x)]) = lps ++ an_ [x] := by simp [an_, *]
           exact dd_ cW_ ⟨(sv2, Hm, Hr2), e1 ▸ hm, e2 ▸ hq2⟩ rfl (m_ (c_ (c_ (c_ i_))) (B_ (c_ (c_ (c_ ba_))) (c_ (c_ Q_)))) (fun _ _ _ => trivial)
        ·
         replace hr8 := eq_of_beq hr8
         refine u_ rfl (h_ (d_ (a_ (f_ rfl) rfl (a_ (n_ l_ rfl rfl rfl j_) rfl (a_ (s_ 0 p_ rfl rfl rfl) rfl (bb_ (gx_ x (Pc.r x) [] pm b2 b1 g pb kb ab ub ob ib rb sb fb ev lv Hm hm (by first | omega | (simp; omega))) rfl rfl (m_ i_ (m_ i_ (m_ i_ w_))) (fun _ _ _ => by exact trivial) rfl fun ⟨HP1, hP1⟩ => ?_))))))
         dsimp only
         simp only [List.cons_append]
         refine e_ (b_ rfl (d_ (a_ (f_ rfl) rfl (a_ (n_ l_ rfl rfl rfl j_) rfl (a_ (s_ 0 p_ rfl rfl rfl) rfl (bb_ (gx_ x [] (Pc.s x) (pm ++ [((Ky.mk (Pc.kind x) (Pc.r x) []), x)]) b2 b1 g pb kb ab ub ob ib rb sb fb ev lv HP1 hP1 (by first | omega | (simp; omega))) rfl rfl (m_ i_ (m_ i_ (m_ i_ w_))) (fun _ _ _ => by exact trivial) rfl fun ⟨HP2, hP2⟩ => ?_))))))
         dsimp only
         simp only [List.cons_append]
         refine e_ (bk_ rfl ?_)
         have e1 : ((pm ++ [((Ky.mk (Pc.kind x) (Pc.r x) []), x)]) ++ [((Ky.mk (Pc.kind x) [] (Pc.s x)), x)]) = pm ++ cG_ x := by simp [cG_, *]
         have e2 : lps = lps ++ an_ [x] := by simp [an_, *]
         exact dd_ cW_ ⟨(lv, HP2, Hl), e1 ▸ hP2, e2 ▸ hl⟩ rfl (m_ (c_ (c_ i_)) (B_ (c_ (c_ w_)) (c_ Q_))) (fun _ _ _ => trivial)
       ·
        replace hr7 := eq_of_beq hr7
        refine u_ rfl (d_ (a_ (f_ rfl) rfl (a_ (n_ l_ rfl rfl rfl j_) rfl (a_ (s_ 0 p_ rfl rfl rfl) rfl (bb_ (gx_ x (Pc.r x) [] pm b2 b1 g pb kb ab ub ob ib rb sb fb ev lv Hm hm (by first | omega | (simp; omega))) rfl rfl (m_ i_ (m_ i_ (m_ i_ w_))) (fun _ _ _ => by exact trivial) rfl fun ⟨HP3, hP3⟩ => ?_)))))
        dsimp only
        simp only [List.cons_append]
        refine e_ (bk_ rfl ?_)
        have e1 : (pm ++ [((Ky.mk (Pc.kind x) (Pc.r x) []), x)]) = pm ++ cG_ x := by simp [cG_, *]
        have e2 : lps = lps ++ an_ [x] := by simp [an_, *]
        exact dd_ cW_ ⟨(lv, HP3, Hl), e1 ▸ hP3, e2 ▸ hl⟩ rfl (m_ (c_ (c_ i_)) (B_ (c_ (c_ w_)) (c_ Q_))) (fun _ _ _ => trivial)
      ·
       replace hr6 := eq_of_beq hr6
       refine u_ rfl (E_ (b_ rfl (u_ rfl (d_ (a_ (f_ rfl) rfl (a_ (n_ l_ rfl rfl rfl j_) rfl (a_ (s_ 0 p_ rfl rfl rfl) rfl (bb_ (gx_ x (Pc.r x) [] pm b2 b1 g pb kb ab ub ob ib rb sb fb ev lv Hm hm (by first | omega | (simp; omega))) rfl rfl (m_ i_ (m_ i_ (m_ i_ w_))) (fun _ _ _ => by exact trivial) rfl fun ⟨HP4, hP4⟩ => ?_))))))))
       dsimp only
       simp only [List.cons_append]
       refine e_ (bk_ rfl ?_)
       have e1 : (pm ++ [((Ky.mk (Pc.kind x) (Pc.r x) []), x)]) = pm ++ cG_ x := by simp [cG_, *]
       have e2 : lps = lps ++ an_ [x] := by simp [an_, *]
       exact dd_ cW_ ⟨(lv, HP4, Hl), e1 ▸ hP4, e2 ▸ hl⟩ rfl (m_ (c_ (c_ i_)) (B_ (c_ (c_ w_)) (c_ Q_))) (fun _ _ _ => trivial)
     ·
      replace hr5 := eq_of_beq hr5
      refine u_ rfl (h_ (d_ (a_ (f_ rfl) rfl (a_ (n_ l_ rfl rfl rfl j_) rfl (a_ (s_ 0 p_ rfl rfl rfl) rfl (bb_ (gx_ x [] (Pc.a x) pm b2 b1 g pb kb ab ub ob ib rb sb fb ev lv Hm hm (by first | omega | (simp; omega))) rfl rfl (m_ i_ (m_ i_ (m_ i_ w_))) (fun _ _ _ => by exact trivial) rfl fun ⟨HP5, hP5⟩ => ?_))))))
      dsimp only
      simp only [List.cons_append]
      refine e_ (b_ rfl (d_ (a_ (f_ rfl) rfl (a_ (n_ l_ rfl rfl rfl j_) rfl (a_ (s_ 0 p_ rfl rfl rfl) rfl (a_ (n_ l_ rfl rfl rfl j_) rfl (a_ (s_ 0 p_ rfl rfl rfl) rfl (bb_ (gx_ x (Pc.r x) (Pc.a x) (pm ++ [((Ky.mk (Pc.kind x) [] (Pc.a x)), x)]) b2 b1 g pb kb ab ub ob ib rb sb fb ev lv HP5 hP5 (by first | omega | (simp; omega))) rfl rfl (m_ i_ (m_ i_ (m_ i_ w_))) (fun _ _ _ => by exact trivial) rfl fun ⟨HP6, hP6⟩ => ?_))))))))
      dsimp only
      simp only [List.cons_append]
      refine e_ (bk_ rfl ?_)
      have e1 : ((pm ++ [((Ky.mk (Pc.kind x) [] (Pc.a x)), x)]) ++ [((Ky.mk (Pc.kind x) (Pc.r x) (Pc.a x)), x)]) = pm ++ cG_ x := by simp [cG_, *]
      have e2 : lps = lps ++ an_ [x] := by simp [an_, *]
      exact dd_ cW_ ⟨(lv, HP6, Hl), e1 ▸ hP6, e2 ▸ hl⟩ rfl (m_ (c_ (c_ i_)) (B_ (c_ (c_ w_)) (c_ Q_))) (fun _ _ _ => trivial)
    ·
     replace hr4 := eq_of_beq hr4
     refine u_ rfl (h_ (d_ (a_ (f_ rfl) rfl (a_ (n_ l_ rfl rfl rfl j_) rfl (a_ (s_ 0 p_ rfl rfl rfl) rfl (bb_ (gx_ x [] (Pc.a x) pm b2 b1 g pb kb ab ub ob ib rb sb fb ev lv Hm hm (by first | omega | (simp; omega))) rfl rfl (m_ i_ (m_ i_ (m_ i_ w_))) (fun _ _ _ => by exact trivial) rfl fun ⟨HP7, hP7⟩ => ?_))))))
     dsimp only
     simp only [List.cons_append]
     refine e_ (b_ rfl (h_ (d_ (a_ (n_ l_ rfl rfl rfl j_) rfl (a_ (s_ 0 p_ rfl rfl rfl) rfl (a_ (n_ l_ rfl rfl rfl j_) rfl (a_ (s_ 0 p_ rfl rfl rfl) rfl (y_ (du_ rfl rfl) rfl fun r10 hr10 => ?_))))))))
     refine e_ (b_ rfl ?_)
     cases r10
     ·
      replace hr10 := br_ hr10
      refine v_ rfl (E_ (bk_ rfl ?_))
      have e1 : (pm ++ [((Ky.mk (Pc.kind x) [] (Pc.a x)), x)]) = pm ++ cG_ x := by simp [cG_, *]
      have e2 : lps = lps ++ an_ [x] := by simp [an_, *]
      exact dd_ cW_ ⟨(lv, HP7, Hl), e1 ▸ hP7, e2 ▸ hl⟩ rfl (m_ (c_ (c_ i_)) (B_ (c_ (c_ w_)) (c_ Q_))) (fun _ _ _ => trivial)
     ·
      replace hr10 := bq_ hr10
      refine u_ rfl (d_ (a_ (f_ rfl) rfl (a_ (n_ l_ rfl rfl rfl j_) rfl (a_ (s_ 0 p_ rfl rfl rfl) rfl (bb_ (gx_ x [] (Pc.b x) (pm ++ [((Ky.mk (Pc.kind x) [] (Pc.a x)), x)]) b2 b1 g pb kb ab ub ob ib rb sb fb ev lv HP7 hP7 (by first | omega | (simp; omega))) rfl rfl (m_ i_ (m_ i_ (m_ i_ w_))) (fun _ _ _ => by exact trivial) rfl fun ⟨HP8, hP8⟩ => ?_)))))
      dsimp only
      simp only [List.cons_append]
      refine e_ (bk_ rfl ?_)
      have e1 : ((pm ++ [((Ky.mk (Pc.kind x) [] (Pc.a x)), x)]) ++ [((Ky.mk (Pc.kind x) [] (Pc.b x)), x)]) = pm ++ cG_ x := by simp [cG_, *]
      have e2 : lps = lps ++ an_ [x] := by simp [an_, *]
      exact dd_ cW_ ⟨(lv, HP8, Hl), e1 ▸ hP8, e2 ▸ hl⟩ rfl (m_ (c_ (c_ i_)) (B_ (c_ (c_ w_)) (c_ Q_))) (fun _ _ _ => trivial)
   ·
    replace hr3 := eq_of_beq hr3
    refine u_ rfl (d_ (a_ (f_ rfl) rfl (a_ (n_ l_ rfl rfl rfl j_) rfl (a_ (s_ 0 p_ rfl rfl rfl) rfl (bb_ (gx_ x [] (Pc.a x) pm b2 b1 g pb kb ab ub ob ib rb sb fb ev lv Hm hm (by first | omega | (simp; omega))) rfl rfl (m_ i_ (m_ i_ (m_ i_ w_))) (fun _ _ _ => by exact trivial) rfl fun ⟨HP9, hP9⟩ => ?_)))))
    dsimp only
    simp only [List.cons_append]
    refine e_ (bk_ rfl ?_)
    have e1 : (pm ++ [((Ky.mk (Pc.kind x) [] (Pc.a x)), x)]) = pm ++ cG_ x := by simp [cG_, *]
    have e2 : lps = lps ++ an_ [x] := by simp [an_, *]
    exact dd_ cW_ ⟨(lv, HP9, Hl), e1 ▸ hP9, e2 ▸ hl⟩ rfl (m_ (c_ (c_ i_)) (B_ (c_ (c_ w_)) (c_ Q_))) (fun _ _ _ => trivial)
  ·
   replace hr2 := eq_of_beq hr2
   refine u_ rfl (E_ (b_ rfl (u_ rfl (d_ (a_ (f_ rfl) rfl (a_ (n_ l_ rfl rfl rfl j_) rfl (a_ (s_ 0 p_ rfl rfl rfl) rfl (bb_ (gx_ x [] (Pc.a x) pm b2 b1 g pb kb ab ub ob ib rb sb fb ev lv Hm hm (by first | omega | (simp; omega))) rfl rfl (m_ i_ (m_ i_ (m_ i_ w_))) (fun _ _ _ => by exact trivial) rfl fun ⟨HP10, hP10⟩ => ?_))))))))
   dsimp only
   simp only [List.cons_append]
   refine e_ (bk_ rfl ?_)
   have e1 : (pm ++ [((Ky.mk (Pc.kind x) [] (Pc.a x)), x)]) = pm ++ cG_ x := by simp [cG_, *]
   have e2 : lps = lps ++ an_ [x] := by simp [an_, *]
   exact dd_ cW_ ⟨(lv, HP10, Hl), e1 ▸ hP10, e2 ▸ hl⟩ rfl (m_ (c_ (c_ i_)) (B_ (c_ (c_ w_)) (c_ Q_))) (fun _ _ _ => trivial)
 ·
  replace hr1 := eq_of_beq hr1
  refine u_ rfl (E_ (b_ rfl (u_ rfl (d_ (a_ (f_ rfl) rfl (a_ (n_ l_ rfl rfl rfl j_) rfl (a_ (s_ 0 p_ rfl rfl rfl) rfl (bb_ (gx_ x [] (Pc.a x) pm b2 b1 g pb kb ab ub ob ib rb sb fb ev lv Hm hm (by first | omega | (simp; omega))) rfl rfl (m_ i_ (m_ i_ (m_ i_ w_))) (fun _ _ _ => by exact trivial) rfl fun ⟨HP11, hP11⟩ => ?_))))))))
  dsimp only
  simp only [List.cons_append]
  refine e_ (bk_ rfl ?_)
  have e1 : (pm ++ [((Ky.mk (Pc.kind x) [] (Pc.a x)), x)]) = pm ++ cG_ x := by simp [cG_, *]
  have e2 : lps = lps ++ an_ [x] := by simp [an_, *]
  exact dd_ cW_ ⟨(lv, HP11, Hl), e1 ▸ hP11, e2 ▸ hl⟩ rfl (m_ (c_ (c_ i_)) (B_ (c_ (c_ w_)) (c_ Q_))) (fun _ _ _ => trivial)
structure NewE where
  g : Nat
  pb : Nat
  kb : Nat
  ab : Nat
  ub : Nat
  ob : Nat
  ib : Nat
  rb : Nat
  sb : Nat
  fb : Nat
  lv : Value
  hm : Hp
  hl : Hp
def NewE.ok (ps : List Pc) (y : NewE) : Prop := dn_ Ky.val Pc.cells 47 10 (aS_ ps) y.pb y.hm ∧ aR_ 9 1 y.lv (List.length (an_ ps)) (List.flatMap aJ_ (an_ ps)) y.hl
def NewE.own (y : NewE) : Hp := (y.g, .cells #[.map (some y.pb), y.lv, .map (some y.kb), .nilFunc, .map (some y.ab), .map (some y.ub), .map (some y.ob), .map (some y.ib), .map (some y.rb), .map (some y.sb), .map (some y.fb)] 94 (0, 0)) :: (y.kb, .map #[] 0) :: (y.ab, .map #[] 0) :: (y.ub, .map #[] 0) :: (y.ob, .map #[] 0) :: (y.ib, .map #[] 0) :: (y.rb, .map #[] 0) :: (y.sb, .map #[] 0) :: (y.fb, .map #[] 0) :: (y.hm ++ y.hl)
theorem eY_ {p : List Pc} {i : Nat} {x : Pc} (h : p[i]? = some x) : uniq [] (List.take (i + 1) p) = if x.zf ∈ uniq [] (List.take i p) then uniq [] (List.take i p) else uniq [] (List.take i p) ++ [x.zf] := by
  have key : ∀ (l : List Pc) (r : List Pc), uniq l (r ++ [x]) = if x.zf ∈ uniq l r then uniq l r else uniq l r ++ [x.zf] := by
    intro l r
    induction r generalizing l with
    | nil => rfl
    | cons y r ih => exact ih _
  rw [List.take_add_one, h, Option.toList_some]
  exact key _ _
theorem oa_ (l : List Pc) (x : Pc) : aS_ (l ++ [x]) = aS_ l ++ cG_ x := by simp [aS_]
theorem kI_ (l : List Pc) (x : Pc) : an_ (l ++ [x]) = an_ l ++ an_ [x] := by simp [an_]
theorem pp_ (x : Pc) : (cG_ x).length ≤ 2 := by unfold cG_; (repeat' split) <;> simp
theorem hD_ : ∀ l : List Pc, (aS_ l).length ≤ 2 * l.length
  | [] => by simp [aS_]
  | x :: l => by
    have := hD_ l
    have h2 := pp_ x
    simp only [aS_, List.flatMap_cons, List.length_append, List.length_cons] at this ⊢
    omega
theorem gD_ (l : List Pc) : (an_ l).length ≤ l.length := by
  simp only [an_, List.length_map]; exact List.length_filter_le _ _
theorem iA_ (p : List Pc) (pad : Option Addr) (pcap : Nat) (hp : p.length ≤ 100000000) : Tri Tryz.prog 54 #[.slice pad (List.length p) pcap] [] [aD_ pad (List.flatMap Pc.cells p)] (fun y : {y : NewE // y.ok (uniq [] p)} => zp_ y.1.g 0) (fun y => y.1.own) (fun _ => []) := by
 refine S_ Tryz.func54 rfl rfl Tryz.ntmps54 rfl fun v0 => ?_
 refine h_ (d_ (a_ (g_ rfl) rfl (e_ (b_ rfl (h_ (d_ (di_ rfl fun b1 => ?_)))))))
 refine di_ rfl fun b2 => ?_
 refine di_ rfl fun b3 => ?_
 refine di_ rfl fun b4 => ?_
 refine di_ rfl fun b5 => ?_
 refine di_ rfl fun b6 => ?_
 refine di_ rfl fun b7 => ?_
 refine di_ rfl fun b8 => ?_
 refine di_ rfl fun b9 => ?_
 refine a_ (aI_ strt94 rfl rfl) rfl (bl_ rfl rfl fun b10 => ?_)
 refine a_ (g_ rfl) rfl (e_ (b_ rfl (h_ (d_ (di_ rfl fun b11 => ?_)))))
 refine a_ (g_ rfl) rfl (e_ (b_ rfl (h_ (h_ (d_ (a_ (f_ rfl) rfl (a_ (as_ N_ rfl) rfl (a_ (f_ rfl) rfl (e_ ?_)))))))))
 refine b_ rfl (P_ ?_)
 refine aE_ (ι := {y : Nat × Array MapEntry × Nat × Hp × Value × Hp // y.1 ≤ List.length p ∧ SetE Pc.val y.2.1 (uniq [] (List.take y.1 p)) ∧ dn_ Ky.val Pc.cells 47 10 (aS_ (uniq [] (List.take y.1 p))) b1 y.2.2.2.1 ∧ aR_ 9 1 y.2.2.2.2.1 (List.length (an_ (uniq [] (List.take y.1 p)))) (List.flatMap aJ_ (an_ (uniq [] (List.take y.1 p)))) y.2.2.2.2.2}) (fun y => [(3, zp_ b10 0), (4, .map (some b11)), (19, .slice pad (List.length p) pcap), (20, .int .i64 (List.length p : Int)), (21, .int .i64 (y.1.1 : Int))]) (fun y => ((b10, .cells #[.map (some b1), y.1.2.2.2.2.1, .map (some b2), .nilFunc, .map (some b3), .map (some b4), .map (some b5), .map (some b6), .map (some b7), .map (some b8), .map (some b9)] 94 (0, 0)) :: ((b11, .map y.1.2.1 y.1.2.2.1) :: ((b2, .map #[] 0) :: ((b3, .map #[] 0) :: ((b4, .map #[] 0) :: ((b5, .map #[] 0) :: ((b6, .map #[] 0) :: ((b7, .map #[] 0) :: ((b8, .map #[] 0) :: ((b9, .map #[] 0) :: (y.1.2.2.2.1 ++ y.1.2.2.2.2.2)))))))))))) (fun y => [aD_ pad (List.flatMap Pc.cells p)]) (fun y => List.length p - y.1.1) ⟨((0 : Nat), #[], 0, [(b1, .map #[] 0)], (.slice none 0 0), []), by simp, by exact SetE.nil, by exact dn_.nil _ _, (aR_.nil 9 1)⟩ ⟨rfl, rfl, rfl, rfl, rfl, trivial⟩ (m_ (c_ i_) (m_ i_ (m_ (c_ (c_ (c_ (c_ (c_ (c_ (c_ i_))))))) (m_ (c_ (c_ (c_ (c_ (c_ (c_ i_)))))) (m_ (c_ (c_ (c_ (c_ (c_ i_))))) (m_ (c_ (c_ (c_ (c_ i_)))) (m_ (c_ (c_ (c_ i_))) (m_ (c_ (c_ i_)) (m_ (c_ i_) (m_ i_ i_)))))))))) (fun _ _ h => h) ?_
 rintro ⟨⟨i, es, cs, Hm, sv_L, H_L⟩, hi, hE, hm, hr_L⟩
 dsimp only at hi hE hm hr_L ⊢
 have hbu := fA_ (List.take i p) []
 have hbt := List.length_take_le i p
 simp only [List.length_nil] at hbu
 have hbp : (aS_ (uniq [] (List.take i p))).length ≤ 900000000 := by have := hD_ (uniq [] (List.take i p)); omega
 have hbl : (an_ (uniq [] (List.take i p))).length ≤ 900000000 := by have := gD_ (uniq [] (List.take i p)); omega
 refine h_ (d_ (y_ (ay_ rfl rfl) rfl fun r1 hr1 => ?_))
 refine e_ (b_ rfl (h_ ?_))
 cases r1
 ·
  replace hr1 := of_decide_eq_false hr1
  refine v_ rfl (aw_ rfl (b_ rfl (h_ (d_ (a_ (f_ rfl) rfl (a_ (g_ rfl) rfl (e_ (b_ rfl (H_ ?_)))))))))
  have e9 : List.take i p = p := List.take_of_length_le (by omega)
  rw [e9] at hm hr_L
  exact at_ Tryz.results54 ⟨NewE.mk b10 b1 b2 b3 b4 b5 b6 b7 b8 b9 sv_L Hm H_L, hm, hr_L⟩ rfl (m_ i_ (m_ (c_ i_) (m_ (c_ i_) (m_ (c_ i_) (m_ (c_ i_) (m_ (c_ i_) (m_ (c_ i_) (m_ (c_ i_) (m_ (c_ i_) (B_ (c_ w_) Q_)))))))))) (fun _ _ _ => trivial)
 ·
  replace hr1 := of_decide_eq_true hr1
  have hlx1 : i < List.length p := by omega
  obtain ⟨x1, hx1⟩ : ∃ e0, p[i]? = some e0 := ⟨_, List.getElem?_eq_getElem hlx1⟩
  have hmx1 : x1 ∈ p := List.mem_of_getElem? hx1
  refine u_ rfl (E_ (b_ rfl (h_ (P_ (h_ (d_ (a_ (ae_ N_ R_ rfl rfl (fun v _ h => az_ (n := 10) Pc.cells_len (by decide) (by exact h.1) hx1) (by omega) (by first | omega | (simp; done))) rfl (a_ (aV_ (ad := pad) (us := Pc.cells x1) aK_ R_ rfl (fun v _ h => by exact h.1) (Pc.cells_len _) (ai_ Pc.cells_len hx1)) rfl (ar_ bi_ rfl fun b12 => ?_)))))))))
  refine V_ 0 R_ rfl rfl rfl rfl rfl rfl (e_ (b_ rfl (h_ (d_ (a_ (n_ l_ rfl rfl rfl K_) rfl (V_ 0 K_ rfl rfl rfl rfl rfl rfl (e_ (b_ rfl (h_ ?_)))))))))
  refine d_ (a_ (f_ rfl) rfl (a_ (Y_ 0 aK_ R_ rfl rfl rfl) rfl (y_ (cV_ (k := Pc.zf x1) (q := (uniq [] (List.take i p))) pK_ Tryz.runUnderlying139 ci_ rfl rfl hE (fun v h _ => (h.own _ (List.mem_of_getElem? (i := 2) rfl)).1)) rfl fun r2 hr2 => ?_)))
  refine a_ (bV_ rfl) rfl (e_ (b_ rfl ?_))
  cases r2
  ·
   replace hr2 := of_decide_eq_false hr2
   refine u_ rfl (h_ (d_ (a_ (f_ rfl) rfl (a_ (Y_ 0 aK_ R_ rfl rfl rfl) rfl (fC_ (k := Pc.zf x1) (q := (uniq [] (List.take i p))) 2 pK_ (.inr rfl) Tryz.runUnderlying139 rfl rfl rfl rfl hE fun es1 c1 hE1 => ?_)))))
   refine e_ (b_ rfl (d_ (a_ (f_ rfl) rfl (a_ (Y_ 0 aK_ R_ rfl rfl rfl) rfl (W_ (oG_ (Pc.zf x1) (aS_ (uniq [] (List.take i p))) (an_ (uniq [] (List.take i p))) b10 b1 b2 b3 b4 b5 b6 b7 b8 b9 .nilFunc sv_L Hm H_L hm hr_L  hbp hbl) rfl (m_ (c_ i_) (B_ (c_ (c_ (c_ (c_ (c_ (c_ (c_ (c_ (c_ (c_ w_)))))))))) (c_ (c_ (c_ (c_ (c_ (c_ (c_ (c_ (c_ Q_))))))))))) (fun _ _ _ => by exact trivial) rfl fun ⟨⟨lv1, HA1, HA2⟩, hA1, hA2⟩ => ?_)))))
   dsimp only
   simp only [List.cons_append, List.append_assoc]
   refine e_ (b_ rfl (am_ (bc_ i_ (bc_ (q_ (q_ i_)) (bc_ (q_ (q_ i_)) (bc_ (q_ (q_ i_)) (bc_ (q_ (q_ i_)) (bc_ (q_ (q_ i_)) (bc_ (q_ (q_ i_)) (bc_ (q_ (q_ i_)) (bc_ (q_ (q_ i_)) (bc_ (q_ (q_ i_)) (cl_ (q_ ba_)))))))))))) (d_ (a_ (M_ rfl rfl rfl (al_ (by omega) (by omega))) rfl (a_ (f_ rfl) rfl (e_ (x_ rfl ?_)))))))
   exact Z_ ⟨(i + 1, es1, c1, HA1, lv1, HA2), hlx1, by rw [eY_ hx1]; exact hE1, by rw [eY_ hx1, if_neg (by assumption), oa_]; exact hA1, (by rw [eY_ hx1, if_neg (by assumption), kI_]; exact hA2)⟩ (by dsimp only; omega) ⟨rfl, rfl, rfl, rfl, rfl, trivial⟩ (m_ i_ (m_ (c_ i_) (m_ (c_ i_) (m_ (c_ i_) (m_ (c_ i_) (m_ (c_ i_) (m_ (c_ i_) (m_ (c_ i_) (m_ (c_ i_) (m_ (c_ i_) (B_ (c_ w_) Q_))))))))))) (fun _ _ h => h)
  ·
   replace hr2 := of_decide_eq_true hr2
   refine v_ rfl (E_ (b_ rfl (d_ (a_ (M_ rfl rfl rfl (al_ (by omega) (by omega))) rfl (a_ (f_ rfl) rfl (e_ (x_ rfl ?_)))))))
   exact Z_ ⟨(i + 1, es, cs, Hm, sv_L, H_L), hlx1, by rw [eY_ hx1, if_pos (by assumption)]; exact hE, by rw [eY_ hx1, if_pos (by assumption)]; exact hm, (by rw [eY_ hx1, if_pos (by assumption)]; exact hr_L)⟩ (by dsimp only; omega) ⟨rfl, rfl, rfl, rfl, rfl, trivial⟩ (m_ (c_ i_) (m_ (c_ i_) (m_ (c_ i_) (m_ (c_ i_) (m_ (c_ i_) (m_ (c_ i_) (m_ (c_ i_) (m_ (c_ i_) (m_ (c_ i_) (m_ (c_ i_) (B_ (c_ w_) Q_))))))))))) (fun _ _ h => h)
end Go.Proofs.YtpdbbglpbngeiaaGreatDoor
namespace Go.Proofs.YtpdbbglpbngeiaaGreatDoor
open Go Go.Sx Go.Proofs
attribute [local irreducible] Code.wp wpList wpAnyH
open Go.Vs
theorem iT_ {P : Program} {N : Nat} {fr : Fr} {H : Hp} {Γ : List Fct} {ty : TypeId} {K : Type} [DecidableEq K] {kv : K → Value} {t kt et : TypeId} {x : Operand} {mb c : Nat} {es : Array MapEntry} {q : List K} (hE : SetE kv es q) (hu : ∀ w, (underlying t).run P w = .ok (.map kt et) w) (hx : Fr.ev fr x = some (.map (some mb))) (hm : ∀ v, v.sat H → aQ_ Γ v → v.w.heap[mb]? = some (.map es c)) :
    Yld P N fr H Γ (.call ⟨.builtin .len, #[x], #[t]⟩) ty (.int .i64 (q.length : Int)) := by
  rw [← hE.size]; exact oM_ hu hx hm
def rd_ (a b : Fct) : Fct where
  p v := a.p v ∧ b.p v
  mono := fun v v' h ⟨h1, h2⟩ => ⟨a.mono v v' h h1, b.mono v v' h h2⟩
def StA (b9 kb fb : Nat) (nw fm : List Fc) (H : Hp) : Prop := ∃ sv es c es' c' q Hq, H = (b9, .cells #[sv] 26 (0, 0)) :: (kb, .map es c) :: ([(fb, .map es' c')] ++ Hq) ∧ aR_ 41 6 sv nw.length (nw.flatMap Fc.cells) Hq ∧ SetE Fc.val es nw ∧ SetE Fc.val es' q ∧ ∀ f, f ∈ q ↔ f ∈ fm
def StN (c : List Fc) (kb fb nb : Nat) (nw fm : List Fc) (H : Hp) : Prop := ∃ es c1 es2 c2 q es3 c3, H = (nb, .map es3 c3) :: (kb, .map es c1) :: [(fb, .map es2 c2)] ∧ SetE Fc.val es3 nw ∧ SetE Fc.val es c ∧ SetE Fc.val es2 q ∧ (∀ f, f ∈ q ↔ f ∈ fm) ∧ Born es3 c3
theorem qR_ (f : Fc) (nw fm : List Fc) (m : Nat) (hm : m ≤ 65536) (g b7 b8 b9 kb fb : Nat) (c0 c1 c3 c4 c5 c6 c7 c8 c9 c10 sv : Value) (es es2 : Array MapEntry) (c c2 : Nat) (q : List Fc) (Hq : Hp) (hr : aR_ 41 6 sv nw.length (nw.flatMap Fc.cells) Hq) (hE : SetE Fc.val es nw) (hF : SetE Fc.val es2 q) (hq : ∀ f, f ∈ q ↔ f ∈ fm) : Tri Tryz.prog 55 #[Fc.val f, zp_ b7 0, zp_ b8 0, zp_ b9 0] ((b9, .cells #[sv] 26 (0, 0)) :: (kb, .map es c) :: ([(fb, .map es2 c2)] ++ Hq)) [cL_ b7 (.cells #[zp_ g 0] 85 (0, 0)), cL_ b8 (.cells #[.int .i64 (m : Int)] 3 (0, 0)), cL_ g (.cells #[c0, c1, .map (some kb), c3, c4, c5, c6, c7, c8, c9, c10] 94 (0, 0))] (fun _ : {H : Hp // StA b9 kb fb (bG_ m f nw) fm H} => .tuple #[]) (fun y => y.1) (fun _ => []) := by
  refine S_ Tryz.func55 rfl rfl Tryz.ntmps55 rfl fun v0 => ?_
  refine h_ (d_ (bl_ rfl rfl fun b1 => ?_))
  refine e_ (b_ rfl (h_ ?_))
  refine aC_ (by kernel_rfl) ?_
  refine ad_ 8 [0, 1, 2, 3, 4, 5, 6, 7] (by kernel_rfl) (fun _ a b => ⟨a, b⟩) (o_ rfl (ah_ bB_ rfl (fun v _ h => by exact h.1) rfl) rfl (o_ rfl (ao_ rfl) rfl (o_ rfl (n_ I_ rfl rfl rfl bA_) rfl (o_ rfl (ah_ bI_ rfl (fun v _ h => by exact h.2.2.1) rfl) rfl (o_ rfl (iT_ hE aU_ rfl (fun v h _ => (h.own _ (List.mem_of_getElem? (i := 2) rfl)).1)) rfl (o_ rfl (ah_ L_ rfl (fun v _ h => by exact h.2.1) rfl) rfl ?_))))))
  refine bT_ rfl (bS_ rfl rfl) rfl fun r1 hr1 => ?_
  refine o_ rfl (f_ rfl) rfl (ac_ ?_)
  cases r1
  · skip
    replace hr1 := of_decide_eq_false hr1
    refine ad_ 0 [8, 9, 10, 11, 12, 13, 14, 15] (by kernel_rfl) (fun _ a b => ⟨a, b⟩) (af_ rfl rfl rfl rfl rfl (af_ rfl rfl rfl rfl rfl (af_ rfl rfl rfl rfl rfl (af_ rfl rfl rfl rfl rfl (af_ rfl rfl rfl rfl rfl (af_ rfl rfl rfl rfl rfl (af_ rfl rfl rfl rfl rfl (o_ rfl (C_ rfl rfl) rfl (ac_ ?_)))))))))
    refine aa_ (by kernel_rfl) (b_ rfl (v_ rfl (E_ (bk_ rfl ?_))))
    have e0 : bG_ m f nw = nw := by unfold bG_; rw [if_neg (by rintro ⟨q1, q2⟩; first | omega | exact absurd (by assumption) q2)]
    exact dd_ Tryz.results55 ⟨_, sv, es, c, es2, c2, q, Hq, rfl, by rw [e0]; exact hr, by rw [e0]; exact hE, hF, hq⟩ rfl (m_ (c_ i_) (m_ (c_ i_) (B_ (c_ w_) Q_))) (fun _ _ _ => trivial)
  · skip
    replace hr1 := of_decide_eq_true hr1
    refine ad_ 0 [8, 9, 10, 11, 12, 13, 14, 15] (by kernel_rfl) (fun _ a b => ⟨a, b⟩) (ab_ rfl rfl rfl (ah_ bB_ rfl (fun v _ h => by exact h.1) rfl) rfl (ab_ rfl rfl rfl (ao_ rfl) rfl (ab_ rfl rfl rfl (n_ I_ rfl rfl rfl bA_) rfl (ab_ rfl rfl rfl (ah_ bI_ rfl (fun v _ h => by exact h.2.2.1) rfl) rfl (ab_ rfl rfl rfl (Y_ 0 U_ A_ rfl rfl rfl) rfl ?_)))))
    refine bR_ rfl rfl rfl (cV_ (k := f) fJ_ aU_ ci_ rfl rfl hE (fun v h _ => (h.own _ (List.mem_of_getElem? (i := 2) rfl)).1)) rfl fun r2 hr2 => ?_
    refine ab_ rfl rfl rfl (bV_ rfl) rfl (o_ rfl (F_ rfl rfl) rfl (ac_ (aa_ (by kernel_rfl) (b_ rfl ?_))))
    cases r2
    · skip
      replace hr2 := of_decide_eq_false hr2
      refine u_ rfl (h_ ?_)
      refine aP_ ((b1, .cells (Fc.cells f).toArray 41 (0, 0)) :: ((b9, .cells #[sv] 26 (0, 0)) :: [])) (by kernel_rfl) ?_
      refine ad_ 1 [0, 1, 2, 3, 4] (by kernel_rfl) (fun _ a b => ⟨Vw.sat.sub (a.perm (m_ i_ i_)), b⟩) (o_ rfl (ah_ bB_ rfl (fun v _ h => by exact h.1) rfl) rfl (o_ rfl (ao_ rfl) rfl (o_ rfl (n_ I_ rfl rfl rfl bA_) rfl (o_ rfl (ah_ bI_ rfl (fun v _ h => by exact h.2.2.1) rfl) rfl (o_ rfl (Y_ 0 U_ A_ rfl rfl rfl) rfl (ac_ (X_ 5 rfl (by kernel_rfl) (fC_ (k := f) 2 fJ_ (.inr rfl) aU_ rfl rfl rfl rfl hE fun ej1 cj1 hj1 => ?_))))))))
      refine e_ (x_ rfl (O_ (fun _ a b => ⟨Vw.sat.sub (a.perm (m_ i_ i_)), b⟩) (aa_ (by kernel_rfl) (b_ rfl (d_ (a_ (s_ 1 bC_ rfl rfl rfl) rfl (a_ (Y_ 0 U_ A_ rfl rfl rfl) rfl (aN_ G_ A_ ag_ rfl rfl rfl rfl rfl rfl fun b2 => ?_))))))))
      refine bt_ (news := List.flatMap Fc.cells [f]) cb_ hr rfl rfl (c_ (c_ (c_ (c_ ba_)))) rfl (cP_ 0 rfl) (fun u hu => aO_ Fc.cells_one hu) (by simp only [maxLen]; omega) (by omega) rfl fun sv1 Hr1 hr1 => ?_
      have hq1 : aR_ 41 6 sv1 (List.length (nw ++ [f])) (List.flatMap Fc.cells (nw ++ [f])) Hr1 := by rw [List.length_append, List.flatMap_append]; exact hr1
      refine am_ (bc_ (q_ i_) (bc_ (q_ i_) (bc_ (q_ i_) (cl_ (q_ i_))))) (ge_ 2 hq1 bp_ rfl rfl rfl rfl (e_ (bk_ rfl ?_)))
      have e0 : bG_ m f nw = nw ++ [f] := by unfold bG_; rw [if_pos ⟨by omega, by assumption⟩]
      exact dd_ Tryz.results55 ⟨_, sv1, ej1, cj1, es2, c2, q, Hr1, rfl, by rw [e0]; exact hq1, by rw [e0]; rw [if_neg (by assumption)] at hj1; exact hj1, hF, hq⟩ rfl (m_ (c_ (c_ i_)) (m_ (c_ (c_ i_)) (B_ (c_ (c_ ba_)) (c_ Q_)))) (fun _ _ _ => trivial)
    · skip
      replace hr2 := of_decide_eq_true hr2
      refine v_ rfl (E_ (bk_ rfl ?_))
      have e0 : bG_ m f nw = nw := by unfold bG_; rw [if_neg (by rintro ⟨q1, q2⟩; first | omega | exact absurd (by assumption) q2)]
      exact dd_ Tryz.results55 ⟨_, sv, es, c, es2, c2, q, Hq, rfl, by rw [e0]; exact hr, by rw [e0]; exact hE, hF, hq⟩ rfl (m_ (c_ i_) (m_ (c_ i_) (B_ (c_ w_) Q_))) (fun _ _ _ => trivial)
theorem qQ_ (f : Fc) (cl nw fm : List Fc) (g b7 b9 kb fb nb : Nat) (c0 c1' c3 c4 c5 c6 c7 c8 c9 c10 : Value) (es es2 es3 : Array MapEntry) (c1 c2 c3' : Nat) (q : List Fc) (hE : SetE Fc.val es3 nw) (hK : SetE Fc.val es cl) (hF : SetE Fc.val es2 q) (hq : ∀ f, f ∈ q ↔ f ∈ fm) (hB : Born es3 c3') : Tri Tryz.prog 67 #[Fc.val f, zp_ b7 0, zp_ b9 0] ((nb, .map es3 c3') :: (kb, .map es c1) :: [(fb, .map es2 c2)]) [cL_ b7 (.cells #[zp_ g 0] 85 (0, 0)), cL_ b9 (.cells #[.map (some nb)] 88 (0, 0)), cL_ g (.cells #[c0, c1', .map (some kb), c3, c4, c5, c6, c7, c8, c9, c10] 94 (0, 0))] (fun _ : {H : Hp // StN cl kb fb nb (dB_ cl f nw) fm H} => .tuple #[]) (fun y => y.1) (fun _ => []) := by
  refine S_ Tryz.func67 rfl rfl Tryz.ntmps67 rfl fun v0 => ?_
  refine h_ (d_ (bl_ rfl rfl fun b1 => ?_))
  refine e_ (b_ rfl (h_ ?_))
  refine aC_ (by kernel_rfl) ?_
  refine ad_ 0 [0, 1, 2, 3, 4, 5, 6] (by kernel_rfl) (fun _ a b => ⟨a, b⟩) (o_ rfl (ah_ bB_ rfl (fun v _ h => by exact h.1) rfl) rfl (o_ rfl (ao_ rfl) rfl (o_ rfl (n_ I_ rfl rfl rfl bA_) rfl (o_ rfl (ah_ bI_ rfl (fun v _ h => by exact h.2.2.1) rfl) rfl (o_ rfl (Y_ 0 U_ A_ rfl rfl rfl) rfl ?_)))))
  refine bT_ rfl (cV_ (k := f) fJ_ aU_ ci_ rfl rfl hK (fun v h _ => (h.own _ (List.mem_of_getElem? (i := 2) rfl)).1)) rfl fun r1 hr1 => ?_
  refine o_ rfl (bV_ rfl) rfl (ac_ (aa_ (by kernel_rfl) (b_ rfl ?_)))
  cases r1
  · skip
    replace hr1 := of_decide_eq_false hr1
    refine u_ rfl (d_ (a_ (ah_ bI_ rfl (fun v _ h => by exact h.2.1) rfl) rfl (a_ (Y_ 0 U_ A_ rfl rfl rfl) rfl (oi_ (k := f) 1 fJ_ (.inr rfl) aU_ rfl rfl rfl rfl hE fun ej1 cj1 hj1 hbj1 => ?_))))
    refine e_ (bk_ rfl ?_)
    have hn0 : f ∉ cl := by assumption
    exact dd_ Tryz.results67 ⟨_, es, c1, es2, c2, q, ej1, cj1, rfl, by unfold dB_; rw [show (if f ∈ cl ∨ f ∈ nw then nw else nw ++ [f]) = (if f ∈ nw then nw else nw ++ [f]) from by simp only [hn0, false_or]]; exact hj1, hK, hF, hq, (hbj1 hB)⟩ rfl (m_ (c_ i_) (m_ (c_ i_) (c_ i_))) (fun _ _ _ => trivial)
  · skip
    replace hr1 := of_decide_eq_true hr1
    refine v_ rfl (E_ (bk_ rfl ?_))
    exact dd_ Tryz.results67 ⟨_, es, c1, es2, c2, q, es3, c3', rfl, by unfold dB_; rw [if_pos (.inl (by assumption))]; exact hE, hK, hF, hq, hB⟩ rfl (m_ (c_ i_) (m_ (c_ i_) (c_ i_))) (fun _ _ _ => trivial)
end Go.Proofs.YtpdbbglpbngeiaaGreatDoor
namespace Go.Proofs.YtpdbbglpbngeiaaGreatDoor
open Go Go.Sx Go.Proofs
attribute [local irreducible] Code.wp wpList wpAnyH
open Go.Vs
def EA (m : Nat) (hm : m ≤ 65536) (B : EngB) (b7 b8 b9 kb fb : Nat) : Emt Tryz.prog 41 where
  stp := bG_ m
  kof := idk
  St := StA b9 kb fb
  fn := 55
  caps := [zp_ b7 0, zp_ b8 0, zp_ b9 0]
  ef := rd_ (cL_ b7 (.cells #[zp_ B.g 0] 85 (0, 0))) (rd_ (cL_ b8 (.cells #[.int .i64 (m : Int)] 3 (0, 0))) (cL_ B.g (.cells #[.map (some B.pb), .slice B.lad B.lps.length B.lcap, .map (some kb), .func (.func 55) #[] #[zp_ b7 0, zp_ b8 0, zp_ b9 0], .map (some B.ab), .map (some B.ub), .map (some B.ob), .map (some B.ib), .map (some B.rb), .map (some B.sb), .map (some fb)] 94 (0, 0))))
  kb := kb
  fb := fb
  grows := eR_ m
  emit := fun f nw fm H hS => by
    obtain ⟨sv, es, c, es2, c2, q, Hq, rfl, h1, h2, h3, h4⟩ := hS
    exact iX_ [] (qR_ f nw fm m hm B.g b7 b8 b9 kb fb _ _ _ _ _ _ _ _ _ _ sv es es2 c c2 q Hq h1 h2 h3 h4) (fun v _ h => ⟨h.1.1, h.1.2.1, h.1.2.2, trivial⟩)
  known := fun hS => by
    obtain ⟨sv, es, c, es2, c2, q, Hq, rfl, h1, h2, h3, h4⟩ := hS
    exact ⟨es, c, by simp, h2⟩
  firm := fun hS => by
    obtain ⟨sv, es, c, es2, c2, q, Hq, rfl, h1, h2, h3, h4⟩ := hS
    exact ⟨es2, c2, q, by simp, h3, h4⟩
  setf := fun {nw fm H} f hS => by
    obtain ⟨sv, es, c, es2, c2, q, Hq, rfl, h1, h2, h3, h4⟩ := hS
    refine ⟨es2, c2, q, (b9, .cells #[sv] 26 (0, 0)) :: (kb, .map es c) :: Hq, cl_ (c_ (c_ i_)), h3, h4, fun es' c' h5 => ⟨(b9, .cells #[sv] 26 (0, 0)) :: (kb, .map es c) :: ([(fb, .map es' c')] ++ Hq), ⟨sv, es, c, es', c', _, Hq, rfl, h1, h2, h5, ?_⟩, cl_ (c_ (c_ i_))⟩⟩
    intro z
    split
    · rename_i hz; rw [h4, List.mem_cons]; constructor
      · exact .inr
      · rintro (rfl | h)
        · exact (h4 _).1 hz
        · exact h
    · rw [List.mem_append, List.mem_singleton, h4, List.mem_cons, or_comm]
def EN (cl : List Fc) (B : EngB) (b7 b9 kb fb nb : Nat) : Emt Tryz.prog 41 where
  stp := dB_ cl
  kof := eK_ cl
  St := StN cl kb fb nb
  fn := 67
  caps := [zp_ b7 0, zp_ b9 0]
  ef := rd_ (cL_ b7 (.cells #[zp_ B.g 0] 85 (0, 0))) (rd_ (cL_ b9 (.cells #[.map (some nb)] 88 (0, 0))) (cL_ B.g (.cells #[.map (some B.pb), .slice B.lad B.lps.length B.lcap, .map (some kb), .func (.func 67) #[] #[zp_ b7 0, zp_ b9 0], .map (some B.ab), .map (some B.ub), .map (some B.ob), .map (some B.ib), .map (some B.rb), .map (some B.sb), .map (some fb)] 94 (0, 0))))
  kb := kb
  fb := fb
  grows := in_ cl
  emit := fun f nw fm H hS => by
    obtain ⟨es, c1, es2, c2, q, es3, c3, rfl, h1, h2, h3, h4, h6⟩ := hS
    exact iX_ [] (qQ_ f cl nw fm B.g b7 b9 kb fb nb _ _ _ _ _ _ _ _ _ _ es es2 es3 c1 c2 c3 q h1 h2 h3 h4 h6) (fun v _ h => ⟨h.1.1, h.1.2.1, h.1.2.2, trivial⟩)
  known := fun hS => by
    obtain ⟨es, c1, es2, c2, q, es3, c3, rfl, h1, h2, h3, h4, h6⟩ := hS
    exact ⟨es, c1, by simp, h2⟩
  firm := fun hS => by
    obtain ⟨es, c1, es2, c2, q, es3, c3, rfl, h1, h2, h3, h4, h6⟩ := hS
    exact ⟨es2, c2, q, by simp, h3, h4⟩
  setf := fun {nw fm H} f hS => by
    obtain ⟨es, c1, es2, c2, q, es3, c3, rfl, h1, h2, h3, h4, h6⟩ := hS
    refine ⟨es2, c2, q, (nb, .map es3 c3) :: [(kb, .map es c1)], cl_ (c_ (c_ i_)), h3, h4, fun es' c' h5 => ⟨(nb, .map es3 c3) :: (kb, .map es c1) :: [(fb, .map es' c')], ⟨es, c1, es', c', _, es3, c3, rfl, h1, h2, h5, ?_, h6⟩, cl_ (c_ (c_ i_))⟩⟩
    intro z
    split
    · rename_i hz; rw [h4, List.mem_cons]; constructor
      · exact .inr
      · rintro (rfl | h)
        · exact (h4 _).1 hz
        · exact h
    · rw [List.mem_append, List.mem_singleton, h4, List.mem_cons, or_comm]
end Go.Proofs.YtpdbbglpbngeiaaGreatDoor
namespace Go.Proofs.YtpdbbglpbngeiaaGreatDoor
open Go Go.Sx Go.Proofs
attribute [local irreducible] Code.wp wpList wpAnyH
open Go.Vs
def fvC (v : Value) : List Value := [v]
theorem ed_ (v : Value) : (fvC v).length = 1 := rfl
theorem nM_ {P : Program} {N : Nat} {fr : Fr} {H : Hp} {Γ : List Fct} {ty : TypeId} {t e : TypeId} {n sz : Nat} {parts : List (Nat × Operand)} {vs : List (Nat × Value)} {z cs : List Value} (hz : ∀ w, (zeroValue t).run P w = .ok (.agg z.toArray) w) (hu : ∀ w, (underlying t).run P w = .ok (.array n e) w) (hs : ∀ w, (sizeOf e).run P w = .ok sz w) (hx : Fr.evp fr parts = some vs) (hf : iD_ (fun i => some (i * sz, sz)) z vs = some cs) :
    Yld P N fr H Γ (.build t parts.toArray) ty (.agg cs.toArray) :=
  jV_ (fun a h1 w => by
    have := h1.evp hx
    rw [List.map_toArray, this]
    have hf' := gH_ _ _ _ _ hf
    simp only [Instr.build, Sem.run_bind, hz, Result.andThen_ok, hu, hs, Value.cells, hf', Sem.run_pure])
def rlV (g : Nat) (k : Nat) : List Value := if k = 1 then [(Value.func (.func 100) #[zp_ g 0] #[]), (Value.func (.func 101) #[zp_ g 0] #[]), (Value.func (.func 102) #[zp_ g 0] #[]), (Value.func (.func 103) #[zp_ g 0] #[]), (Value.func (.func 104) #[zp_ g 0] #[]), (Value.func (.func 105) #[zp_ g 0] #[])] else if k = 2 then [(Value.func (.func 106) #[zp_ g 0] #[]), (Value.func (.func 107) #[zp_ g 0] #[]), (Value.func (.func 108) #[zp_ g 0] #[]), (Value.func (.func 109) #[zp_ g 0] #[])] else [(Value.func (.func 110) #[zp_ g 0] #[]), (Value.func (.func 111) #[zp_ g 0] #[])]
theorem ng_ (g : Nat) : Tri Tryz.prog 58 #[zp_ g 0] [] [] (fun y : Nat × Nat × Nat => .agg #[.slice none 0 0, .slice (some ⟨y.1, 0, none⟩) 6 6, .slice (some ⟨y.2.1, 0, none⟩) 4 4, .slice (some ⟨y.2.2, 0, none⟩) 2 2]) (fun _ => []) (fun y => [aD_ (some ⟨y.1, 0, none⟩) (List.flatMap fvC (rlV g 1)), aD_ (some ⟨y.2.1, 0, none⟩) (List.flatMap fvC (rlV g 2)), aD_ (some ⟨y.2.2, 0, none⟩) (List.flatMap fvC (rlV g 3))]) := by
  refine S_ Tryz.func58 rfl rfl Tryz.ntmps58 rfl fun v0 => ?_
  refine h_ (d_ (ar_ Tryz.zeroValue98 rfl fun b1 => ?_))
  refine e_ (b_ rfl (h_ (d_ (a_ (f_ rfl) rfl (a_ (cO_ (us := [zp_ g 0]) (vs := []) rfl rfl) rfl (a_ (f_ rfl) rfl (a_ (cO_ (us := [zp_ g 0]) (vs := []) rfl rfl) rfl (a_ (f_ rfl) rfl (a_ (cO_ (us := [zp_ g 0]) (vs := []) rfl rfl) rfl ?_)))))))))
  refine a_ (f_ rfl) rfl (a_ (cO_ (us := [zp_ g 0]) (vs := []) rfl rfl) rfl (a_ (f_ rfl) rfl (a_ (cO_ (us := [zp_ g 0]) (vs := []) rfl rfl) rfl (a_ (f_ rfl) rfl (a_ (cO_ (us := [zp_ g 0]) (vs := []) rfl rfl) rfl (aN_ by_ aT_ Tryz.zeroValue89 rfl rfl rfl rfl rfl rfl fun b2 => ?_))))))
  refine bE_ (List.flatMap fvC [(Value.func (.func 100) #[zp_ g 0] #[]), (Value.func (.func 101) #[zp_ g 0] #[]), (Value.func (.func 102) #[zp_ g 0] #[]), (Value.func (.func 103) #[zp_ g 0] #[]), (Value.func (.func 104) #[zp_ g 0] #[]), (Value.func (.func 105) #[zp_ g 0] #[])]) i_ rfl ?_
  refine a_ (f_ rfl) rfl (a_ (cO_ (us := [zp_ g 0]) (vs := []) rfl rfl) rfl (a_ (f_ rfl) rfl (a_ (cO_ (us := [zp_ g 0]) (vs := []) rfl rfl) rfl (a_ (f_ rfl) rfl (a_ (cO_ (us := [zp_ g 0]) (vs := []) rfl rfl) rfl (a_ (f_ rfl) rfl (a_ (cO_ (us := [zp_ g 0]) (vs := []) rfl rfl) rfl (aN_ by_ aT_ Tryz.zeroValue89 rfl rfl rfl rfl rfl rfl fun b3 => ?_))))))))
  refine bE_ (List.flatMap fvC [(Value.func (.func 106) #[zp_ g 0] #[]), (Value.func (.func 107) #[zp_ g 0] #[]), (Value.func (.func 108) #[zp_ g 0] #[]), (Value.func (.func 109) #[zp_ g 0] #[])]) i_ rfl ?_
  refine a_ (f_ rfl) rfl (a_ (cO_ (us := [zp_ g 0]) (vs := []) rfl rfl) rfl (a_ (f_ rfl) rfl (a_ (cO_ (us := [zp_ g 0]) (vs := []) rfl rfl) rfl (aN_ by_ aT_ Tryz.zeroValue89 rfl rfl rfl rfl rfl rfl fun b4 => ?_))))
  refine bE_ (List.flatMap fvC [(Value.func (.func 110) #[zp_ g 0] #[]), (Value.func (.func 111) #[zp_ g 0] #[])]) i_ rfl ?_
  refine a_ (nM_ Tryz.zeroValue98 dW_ hs_ rfl rfl) rfl (V_ 0 Tryz.sizeOf98 rfl rfl rfl rfl rfl rfl (e_ (b_ rfl (H_ ?_))))
  exact eI_ (b2, b3, b4) (fun aa v h1 h2 => ey_ (us := [.slice none 0 0, .slice (some ⟨b2, 0, none⟩) (List.length [(Value.func (.func 100) #[zp_ g 0] #[]), (Value.func (.func 101) #[zp_ g 0] #[]), (Value.func (.func 102) #[zp_ g 0] #[]), (Value.func (.func 103) #[zp_ g 0] #[]), (Value.func (.func 104) #[zp_ g 0] #[]), (Value.func (.func 105) #[zp_ g 0] #[])]) 6, .slice (some ⟨b3, 0, none⟩) (List.length [(Value.func (.func 106) #[zp_ g 0] #[]), (Value.func (.func 107) #[zp_ g 0] #[]), (Value.func (.func 108) #[zp_ g 0] #[]), (Value.func (.func 109) #[zp_ g 0] #[])]) 4, .slice (some ⟨b4, 0, none⟩) (List.length [(Value.func (.func 110) #[zp_ g 0] #[]), (Value.func (.func 111) #[zp_ g 0] #[])]) 2]) 0 Tryz.results58 Tryz.isAgg98 Tryz.sizeOf98 rfl rfl rfl aa v h1 h2) J_ (fun v _ h => by exact ⟨h.2.2.1, h.2.1, h.1, trivial⟩)
end Go.Proofs.YtpdbbglpbngeiaaGreatDoor
namespace Go.Proofs.YtpdbbglpbngeiaaGreatDoor
open Go Go.Sx Go.Proofs
attribute [local irreducible] Code.wp wpList wpAnyH
open Go.Vs
theorem eP_ (B : EngB) (E : Emt Tryz.prog 41) (A0 : EngA) (pm : List (Ky × Pc)) (x : Ix) (f : Fc) (nw fm : List Fc) (Hs : Hp) (hS : E.St nw fm Hs) (Ha Hu Ho Hi Hr Hm : Hp) (hI : IxO 9 41 B x ⟨Ha, Hu, Ho, Hi, Hr, Hm⟩) {n : FuncId} {args : Array Value} {ret : Hp → Prop} (hT : ∀ A : EngA, A.p = A0.p → Tri Tryz.prog n args Hs [gF B E, pF B pm A, aF B x A, uF B x A, oF B x A, iF B x A, rF B x A, sF B x A, E.ef] (fun _ : {H' : Hp // ret H'} => .tuple #[]) (fun y => y.1) (fun _ => [])) :
    Tri Tryz.prog n args ((Ha ++ (Hu ++ (Ho ++ (Hi ++ (Hr ++ Hm))))) ++ Hs) [gF B E, pF B pm A0, E.ef] (fun _ : {H' : Hp // ret H'} => .tuple #[]) (fun y => (Ha ++ (Hu ++ (Ho ++ (Hi ++ (Hr ++ Hm))))) ++ y.1) (fun _ => []) := by
  obtain ⟨ha, hu, ho, hi, hr, hm⟩ := hI
  dsimp only at ha hu ho hi hr hm
  obtain ⟨a1, k1⟩ := ha.lent (P := Tryz.prog) fH_
  obtain ⟨a2, k2⟩ := hu.lent (P := Tryz.prog) fH_
  obtain ⟨a3, k3⟩ := ho.lent (P := Tryz.prog) cU_
  obtain ⟨a4, k4⟩ := hi.lent (P := Tryz.prog) cU_
  obtain ⟨a5, k5⟩ := hr.lent (P := Tryz.prog) cU_
  obtain ⟨a6, k6⟩ := hm.lent (P := Tryz.prog) cU_
  refine iX_ _ (hT ⟨A0.p, a1, a2, a3, a4, a5, a6⟩ rfl) fun v hB h => ⟨h.1, h.2.1, k1 v fun p hp => hB p (by simp [hp]), k2 v fun p hp => hB p (by simp [hp]), k3 v fun p hp => hB p (by simp [hp]), k4 v fun p hp => hB p (by simp [hp]), k5 v fun p hp => hB p (by simp [hp]), k6 v fun p hp => hB p (by simp [hp]), h.2.2.1, trivial⟩
theorem rl10_c (B : EngB) (E : Emt Tryz.prog 41) (A0 : EngA) (pm : List (Ky × Pc)) (x : Ix) (f : Fc) (nw fm : List Fc) (Hs : Hp) (hS : E.St nw fm Hs) (Ha Hu Ho Hi Hr Hm : Hp) (hI : IxO 9 41 B x ⟨Ha, Hu, Ho, Hi, Hr, Hm⟩) (hpl : ∀ k, (lat pm k).length ≤ 1000000000) (hxl : ∀ k, (lat x.above k).length ≤ 1000000000 ∧ (lat x.under k).length ≤ 1000000000) (hyl : ∀ k, (lat x.frm k).length ≤ 1000000000 ∧ (lat x.into k).length ≤ 1000000000 ∧ (lat x.ranges k).length ≤ 1000000000 ∧ (lat x.firms k).length ≤ 1000000000) (hf : f.kind = 3 → -1099511627776 ≤ f.lo ∧ f.lo ≤ f.hi ∧ f.hi ≤ 1099511627776) (hq : f.kind = 3 → ∀ y ∈ lat pm (Ky.mk 9 (Fc.r f) []), -1099511627776 ≤ y.lo ∧ y.lo ≤ y.hi ∧ y.hi ≤ 1099511627776) (hk : f.kind = 1) : Tri Tryz.prog 100 #[zp_ B.g 0, f.val] ((Ha ++ (Hu ++ (Ho ++ (Hi ++ (Hr ++ Hm))))) ++ Hs) [gF B E, pF B pm A0, E.ef] (fun _ : {H' : Hp // E.St (rl E.stp E.kof pm x f 0 (nw, fm)).1 (rl E.stp E.kof pm x f 0 (nw, fm)).2 H'} => .tuple #[]) (fun y => (Ha ++ (Hu ++ (Ho ++ (Hi ++ (Hr ++ Hm))))) ++ y.1) (fun _ => []) := by
  refine eP_ B E A0 pm x f nw fm Hs hS Ha Hu Ho Hi Hr Hm hI fun A hA => ?_
  have h := oz_ B E A pm x f nw fm Hs hS hpl hxl hyl
  have e : rl E.stp E.kof pm x f 0 (nw, fm) = _ := if_pos hk
  rw [e]
  exact h
theorem rl11_c (B : EngB) (E : Emt Tryz.prog 41) (A0 : EngA) (pm : List (Ky × Pc)) (x : Ix) (f : Fc) (nw fm : List Fc) (Hs : Hp) (hS : E.St nw fm Hs) (Ha Hu Ho Hi Hr Hm : Hp) (hI : IxO 9 41 B x ⟨Ha, Hu, Ho, Hi, Hr, Hm⟩) (hpl : ∀ k, (lat pm k).length ≤ 1000000000) (hxl : ∀ k, (lat x.above k).length ≤ 1000000000 ∧ (lat x.under k).length ≤ 1000000000) (hyl : ∀ k, (lat x.frm k).length ≤ 1000000000 ∧ (lat x.into k).length ≤ 1000000000 ∧ (lat x.ranges k).length ≤ 1000000000 ∧ (lat x.firms k).length ≤ 1000000000) (hf : f.kind = 3 → -1099511627776 ≤ f.lo ∧ f.lo ≤ f.hi ∧ f.hi ≤ 1099511627776) (hq : f.kind = 3 → ∀ y ∈ lat pm (Ky.mk 9 (Fc.r f) []), -1099511627776 ≤ y.lo ∧ y.lo ≤ y.hi ∧ y.hi ≤ 1099511627776) (hk : f.kind = 1) : Tri Tryz.prog 101 #[zp_ B.g 0, f.val] ((Ha ++ (Hu ++ (Ho ++ (Hi ++ (Hr ++ Hm))))) ++ Hs) [gF B E, pF B pm A0, E.ef] (fun _ : {H' : Hp // E.St (rl E.stp E.kof pm x f 1 (nw, fm)).1 (rl E.stp E.kof pm x f 1 (nw, fm)).2 H'} => .tuple #[]) (fun y => (Ha ++ (Hu ++ (Ho ++ (Hi ++ (Hr ++ Hm))))) ++ y.1) (fun _ => []) := by
  refine eP_ B E A0 pm x f nw fm Hs hS Ha Hu Ho Hi Hr Hm hI fun A hA => ?_
  have h := both_c B E A pm x f nw fm Hs hS hpl hxl hyl
  have e : rl E.stp E.kof pm x f 1 (nw, fm) = _ := if_pos hk
  rw [e]
  exact h
theorem rl12_c (B : EngB) (E : Emt Tryz.prog 41) (A0 : EngA) (pm : List (Ky × Pc)) (x : Ix) (f : Fc) (nw fm : List Fc) (Hs : Hp) (hS : E.St nw fm Hs) (Ha Hu Ho Hi Hr Hm : Hp) (hI : IxO 9 41 B x ⟨Ha, Hu, Ho, Hi, Hr, Hm⟩) (hpl : ∀ k, (lat pm k).length ≤ 1000000000) (hxl : ∀ k, (lat x.above k).length ≤ 1000000000 ∧ (lat x.under k).length ≤ 1000000000) (hyl : ∀ k, (lat x.frm k).length ≤ 1000000000 ∧ (lat x.into k).length ≤ 1000000000 ∧ (lat x.ranges k).length ≤ 1000000000 ∧ (lat x.firms k).length ≤ 1000000000) (hf : f.kind = 3 → -1099511627776 ≤ f.lo ∧ f.lo ≤ f.hi ∧ f.hi ≤ 1099511627776) (hq : f.kind = 3 → ∀ y ∈ lat pm (Ky.mk 9 (Fc.r f) []), -1099511627776 ≤ y.lo ∧ y.lo ≤ y.hi ∧ y.hi ≤ 1099511627776) (hk : f.kind = 1) : Tri Tryz.prog 102 #[zp_ B.g 0, f.val] ((Ha ++ (Hu ++ (Ho ++ (Hi ++ (Hr ++ Hm))))) ++ Hs) [gF B E, pF B pm A0, E.ef] (fun _ : {H' : Hp // E.St (rl E.stp E.kof pm x f 2 (nw, fm)).1 (rl E.stp E.kof pm x f 2 (nw, fm)).2 H'} => .tuple #[]) (fun y => (Ha ++ (Hu ++ (Ho ++ (Hi ++ (Hr ++ Hm))))) ++ y.1) (fun _ => []) := by
  refine eP_ B E A0 pm x f nw fm Hs hS Ha Hu Ho Hi Hr Hm hI fun A hA => ?_
  have h := some_c B E A pm x f nw fm Hs hS hpl hxl hyl
  have e : rl E.stp E.kof pm x f 2 (nw, fm) = _ := if_pos hk
  rw [e]
  exact h
theorem rl13_c (B : EngB) (E : Emt Tryz.prog 41) (A0 : EngA) (pm : List (Ky × Pc)) (x : Ix) (f : Fc) (nw fm : List Fc) (Hs : Hp) (hS : E.St nw fm Hs) (Ha Hu Ho Hi Hr Hm : Hp) (hI : IxO 9 41 B x ⟨Ha, Hu, Ho, Hi, Hr, Hm⟩) (hpl : ∀ k, (lat pm k).length ≤ 1000000000) (hxl : ∀ k, (lat x.above k).length ≤ 1000000000 ∧ (lat x.under k).length ≤ 1000000000) (hyl : ∀ k, (lat x.frm k).length ≤ 1000000000 ∧ (lat x.into k).length ≤ 1000000000 ∧ (lat x.ranges k).length ≤ 1000000000 ∧ (lat x.firms k).length ≤ 1000000000) (hf : f.kind = 3 → -1099511627776 ≤ f.lo ∧ f.lo ≤ f.hi ∧ f.hi ≤ 1099511627776) (hq : f.kind = 3 → ∀ y ∈ lat pm (Ky.mk 9 (Fc.r f) []), -1099511627776 ≤ y.lo ∧ y.lo ≤ y.hi ∧ y.hi ≤ 1099511627776) (hk : f.kind = 1) : Tri Tryz.prog 103 #[zp_ B.g 0, f.val] ((Ha ++ (Hu ++ (Ho ++ (Hi ++ (Hr ++ Hm))))) ++ Hs) [gF B E, pF B pm A0, E.ef] (fun _ : {H' : Hp // E.St (rl E.stp E.kof pm x f 3 (nw, fm)).1 (rl E.stp E.kof pm x f 3 (nw, fm)).2 H'} => .tuple #[]) (fun y => (Ha ++ (Hu ++ (Ho ++ (Hi ++ (Hr ++ Hm))))) ++ y.1) (fun _ => []) := by
  refine eP_ B E A0 pm x f nw fm Hs hS Ha Hu Ho Hi Hr Hm hI fun A hA => ?_
  have h := mS_ B E A pm x f nw fm Hs hS hpl hxl hyl
  have e : rl E.stp E.kof pm x f 3 (nw, fm) = _ := if_pos hk
  rw [e]
  exact h
theorem rl14_c (B : EngB) (E : Emt Tryz.prog 41) (A0 : EngA) (pm : List (Ky × Pc)) (x : Ix) (f : Fc) (nw fm : List Fc) (Hs : Hp) (hS : E.St nw fm Hs) (Ha Hu Ho Hi Hr Hm : Hp) (hI : IxO 9 41 B x ⟨Ha, Hu, Ho, Hi, Hr, Hm⟩) (hpl : ∀ k, (lat pm k).length ≤ 1000000000) (hxl : ∀ k, (lat x.above k).length ≤ 1000000000 ∧ (lat x.under k).length ≤ 1000000000) (hyl : ∀ k, (lat x.frm k).length ≤ 1000000000 ∧ (lat x.into k).length ≤ 1000000000 ∧ (lat x.ranges k).length ≤ 1000000000 ∧ (lat x.firms k).length ≤ 1000000000) (hf : f.kind = 3 → -1099511627776 ≤ f.lo ∧ f.lo ≤ f.hi ∧ f.hi ≤ 1099511627776) (hq : f.kind = 3 → ∀ y ∈ lat pm (Ky.mk 9 (Fc.r f) []), -1099511627776 ≤ y.lo ∧ y.lo ≤ y.hi ∧ y.hi ≤ 1099511627776) (hk : f.kind = 1) : Tri Tryz.prog 104 #[zp_ B.g 0, f.val] ((Ha ++ (Hu ++ (Ho ++ (Hi ++ (Hr ++ Hm))))) ++ Hs) [gF B E, pF B pm A0, E.ef] (fun _ : {H' : Hp // E.St (rl E.stp E.kof pm x f 4 (nw, fm)).1 (rl E.stp E.kof pm x f 4 (nw, fm)).2 H'} => .tuple #[]) (fun y => (Ha ++ (Hu ++ (Ho ++ (Hi ++ (Hr ++ Hm))))) ++ y.1) (fun _ => []) := by
  refine eP_ B E A0 pm x f nw fm Hs hS Ha Hu Ho Hi Hr Hm hI fun A hA => ?_
  have h := md_ B E A pm x f nw fm Hs hS hpl hxl hyl
  have e : rl E.stp E.kof pm x f 4 (nw, fm) = _ := if_pos hk
  rw [e]
  exact h
theorem rl15_c (B : EngB) (E : Emt Tryz.prog 41) (A0 : EngA) (pm : List (Ky × Pc)) (x : Ix) (f : Fc) (nw fm : List Fc) (Hs : Hp) (hS : E.St nw fm Hs) (Ha Hu Ho Hi Hr Hm : Hp) (hI : IxO 9 41 B x ⟨Ha, Hu, Ho, Hi, Hr, Hm⟩) (hpl : ∀ k, (lat pm k).length ≤ 1000000000) (hxl : ∀ k, (lat x.above k).length ≤ 1000000000 ∧ (lat x.under k).length ≤ 1000000000) (hyl : ∀ k, (lat x.frm k).length ≤ 1000000000 ∧ (lat x.into k).length ≤ 1000000000 ∧ (lat x.ranges k).length ≤ 1000000000 ∧ (lat x.firms k).length ≤ 1000000000) (hf : f.kind = 3 → -1099511627776 ≤ f.lo ∧ f.lo ≤ f.hi ∧ f.hi ≤ 1099511627776) (hq : f.kind = 3 → ∀ y ∈ lat pm (Ky.mk 9 (Fc.r f) []), -1099511627776 ≤ y.lo ∧ y.lo ≤ y.hi ∧ y.hi ≤ 1099511627776) (hk : f.kind = 1) : Tri Tryz.prog 105 #[zp_ B.g 0, f.val] ((Ha ++ (Hu ++ (Ho ++ (Hi ++ (Hr ++ Hm))))) ++ Hs) [gF B E, pF B pm A0, E.ef] (fun _ : {H' : Hp // E.St (rl E.stp E.kof pm x f 5 (nw, fm)).1 (rl E.stp E.kof pm x f 5 (nw, fm)).2 H'} => .tuple #[]) (fun y => (Ha ++ (Hu ++ (Ho ++ (Hi ++ (Hr ++ Hm))))) ++ y.1) (fun _ => []) := by
  refine eP_ B E A0 pm x f nw fm Hs hS Ha Hu Ho Hi Hr Hm hI fun A hA => ?_
  have h := ql_ B E A pm x f nw fm Hs hS hpl hxl hyl
  have e : rl E.stp E.kof pm x f 5 (nw, fm) = _ := if_pos hk
  rw [e]
  exact h
theorem rl20_c (B : EngB) (E : Emt Tryz.prog 41) (A0 : EngA) (pm : List (Ky × Pc)) (x : Ix) (f : Fc) (nw fm : List Fc) (Hs : Hp) (hS : E.St nw fm Hs) (Ha Hu Ho Hi Hr Hm : Hp) (hI : IxO 9 41 B x ⟨Ha, Hu, Ho, Hi, Hr, Hm⟩) (hpl : ∀ k, (lat pm k).length ≤ 1000000000) (hxl : ∀ k, (lat x.above k).length ≤ 1000000000 ∧ (lat x.under k).length ≤ 1000000000) (hyl : ∀ k, (lat x.frm k).length ≤ 1000000000 ∧ (lat x.into k).length ≤ 1000000000 ∧ (lat x.ranges k).length ≤ 1000000000 ∧ (lat x.firms k).length ≤ 1000000000) (hf : f.kind = 3 → -1099511627776 ≤ f.lo ∧ f.lo ≤ f.hi ∧ f.hi ≤ 1099511627776) (hq : f.kind = 3 → ∀ y ∈ lat pm (Ky.mk 9 (Fc.r f) []), -1099511627776 ≤ y.lo ∧ y.lo ≤ y.hi ∧ y.hi ≤ 1099511627776) (hk : f.kind = 2) : Tri Tryz.prog 106 #[zp_ B.g 0, f.val] ((Ha ++ (Hu ++ (Ho ++ (Hi ++ (Hr ++ Hm))))) ++ Hs) [gF B E, pF B pm A0, E.ef] (fun _ : {H' : Hp // E.St (rl E.stp E.kof pm x f 0 (nw, fm)).1 (rl E.stp E.kof pm x f 0 (nw, fm)).2 H'} => .tuple #[]) (fun y => (Ha ++ (Hu ++ (Ho ++ (Hi ++ (Hr ++ Hm))))) ++ y.1) (fun _ => []) := by
  refine eP_ B E A0 pm x f nw fm Hs hS Ha Hu Ho Hi Hr Hm hI fun A hA => ?_
  have h := ov_ B E A pm x f nw fm Hs hS hpl hxl hyl
  have e : rl E.stp E.kof pm x f 0 (nw, fm) = _ := (if_neg (by rw [hk]; decide)).trans (if_pos hk)
  rw [e]
  exact h
theorem rl21_c (B : EngB) (E : Emt Tryz.prog 41) (A0 : EngA) (pm : List (Ky × Pc)) (x : Ix) (f : Fc) (nw fm : List Fc) (Hs : Hp) (hS : E.St nw fm Hs) (Ha Hu Ho Hi Hr Hm : Hp) (hI : IxO 9 41 B x ⟨Ha, Hu, Ho, Hi, Hr, Hm⟩) (hpl : ∀ k, (lat pm k).length ≤ 1000000000) (hxl : ∀ k, (lat x.above k).length ≤ 1000000000 ∧ (lat x.under k).length ≤ 1000000000) (hyl : ∀ k, (lat x.frm k).length ≤ 1000000000 ∧ (lat x.into k).length ≤ 1000000000 ∧ (lat x.ranges k).length ≤ 1000000000 ∧ (lat x.firms k).length ≤ 1000000000) (hf : f.kind = 3 → -1099511627776 ≤ f.lo ∧ f.lo ≤ f.hi ∧ f.hi ≤ 1099511627776) (hq : f.kind = 3 → ∀ y ∈ lat pm (Ky.mk 9 (Fc.r f) []), -1099511627776 ≤ y.lo ∧ y.lo ≤ y.hi ∧ y.hi ≤ 1099511627776) (hk : f.kind = 2) : Tri Tryz.prog 107 #[zp_ B.g 0, f.val] ((Ha ++ (Hu ++ (Ho ++ (Hi ++ (Hr ++ Hm))))) ++ Hs) [gF B E, pF B pm A0, E.ef] (fun _ : {H' : Hp // E.St (rl E.stp E.kof pm x f 1 (nw, fm)).1 (rl E.stp E.kof pm x f 1 (nw, fm)).2 H'} => .tuple #[]) (fun y => (Ha ++ (Hu ++ (Ho ++ (Hi ++ (Hr ++ Hm))))) ++ y.1) (fun _ => []) := by
  refine eP_ B E A0 pm x f nw fm Hs hS Ha Hu Ho Hi Hr Hm hI fun A hA => ?_
  have h := qW_ B E A pm x f nw fm Hs hS hpl hxl hyl
  have e : rl E.stp E.kof pm x f 1 (nw, fm) = _ := (if_neg (by rw [hk]; decide)).trans (if_pos hk)
  rw [e]
  exact h
theorem rl22_c (B : EngB) (E : Emt Tryz.prog 41) (A0 : EngA) (pm : List (Ky × Pc)) (x : Ix) (f : Fc) (nw fm : List Fc) (Hs : Hp) (hS : E.St nw fm Hs) (Ha Hu Ho Hi Hr Hm : Hp) (hI : IxO 9 41 B x ⟨Ha, Hu, Ho, Hi, Hr, Hm⟩) (hpl : ∀ k, (lat pm k).length ≤ 1000000000) (hxl : ∀ k, (lat x.above k).length ≤ 1000000000 ∧ (lat x.under k).length ≤ 1000000000) (hyl : ∀ k, (lat x.frm k).length ≤ 1000000000 ∧ (lat x.into k).length ≤ 1000000000 ∧ (lat x.ranges k).length ≤ 1000000000 ∧ (lat x.firms k).length ≤ 1000000000) (hf : f.kind = 3 → -1099511627776 ≤ f.lo ∧ f.lo ≤ f.hi ∧ f.hi ≤ 1099511627776) (hq : f.kind = 3 → ∀ y ∈ lat pm (Ky.mk 9 (Fc.r f) []), -1099511627776 ≤ y.lo ∧ y.lo ≤ y.hi ∧ y.hi ≤ 1099511627776) (hk : f.kind = 2) : Tri Tryz.prog 108 #[zp_ B.g 0, f.val] ((Ha ++ (Hu ++ (Ho ++ (Hi ++ (Hr ++ Hm))))) ++ Hs) [gF B E, pF B pm A0, E.ef] (fun _ : {H' : Hp // E.St (rl E.stp E.kof pm x f 2 (nw, fm)).1 (rl E.stp E.kof pm x f 2 (nw, fm)).2 H'} => .tuple #[]) (fun y => (Ha ++ (Hu ++ (Ho ++ (Hi ++ (Hr ++ Hm))))) ++ y.1) (fun _ => []) := by
  refine eP_ B E A0 pm x f nw fm Hs hS Ha Hu Ho Hi Hr Hm hI fun A hA => ?_
  have h := mR_ B E A pm x f nw fm Hs hS hpl hxl hyl
  have e : rl E.stp E.kof pm x f 2 (nw, fm) = _ := (if_neg (by rw [hk]; decide)).trans (if_pos hk)
  rw [e]
  exact h
theorem rl23_c (B : EngB) (E : Emt Tryz.prog 41) (A0 : EngA) (pm : List (Ky × Pc)) (x : Ix) (f : Fc) (nw fm : List Fc) (Hs : Hp) (hS : E.St nw fm Hs) (Ha Hu Ho Hi Hr Hm : Hp) (hI : IxO 9 41 B x ⟨Ha, Hu, Ho, Hi, Hr, Hm⟩) (hpl : ∀ k, (lat pm k).length ≤ 1000000000) (hxl : ∀ k, (lat x.above k).length ≤ 1000000000 ∧ (lat x.under k).length ≤ 1000000000) (hyl : ∀ k, (lat x.frm k).length ≤ 1000000000 ∧ (lat x.into k).length ≤ 1000000000 ∧ (lat x.ranges k).length ≤ 1000000000 ∧ (lat x.firms k).length ≤ 1000000000) (hf : f.kind = 3 → -1099511627776 ≤ f.lo ∧ f.lo ≤ f.hi ∧ f.hi ≤ 1099511627776) (hq : f.kind = 3 → ∀ y ∈ lat pm (Ky.mk 9 (Fc.r f) []), -1099511627776 ≤ y.lo ∧ y.lo ≤ y.hi ∧ y.hi ≤ 1099511627776) (hk : f.kind = 2) : Tri Tryz.prog 109 #[zp_ B.g 0, f.val] ((Ha ++ (Hu ++ (Ho ++ (Hi ++ (Hr ++ Hm))))) ++ Hs) [gF B E, pF B pm A0, E.ef] (fun _ : {H' : Hp // E.St (rl E.stp E.kof pm x f 3 (nw, fm)).1 (rl E.stp E.kof pm x f 3 (nw, fm)).2 H'} => .tuple #[]) (fun y => (Ha ++ (Hu ++ (Ho ++ (Hi ++ (Hr ++ Hm))))) ++ y.1) (fun _ => []) := by
  refine eP_ B E A0 pm x f nw fm Hs hS Ha Hu Ho Hi Hr Hm hI fun A hA => ?_
  have h := mc_ B E A pm x f nw fm Hs hS hpl hxl hyl
  have e : rl E.stp E.kof pm x f 3 (nw, fm) = _ := (if_neg (by rw [hk]; decide)).trans (if_pos hk)
  rw [e]
  exact h
theorem rl30_c (B : EngB) (E : Emt Tryz.prog 41) (A0 : EngA) (pm : List (Ky × Pc)) (x : Ix) (f : Fc) (nw fm : List Fc) (Hs : Hp) (hS : E.St nw fm Hs) (Ha Hu Ho Hi Hr Hm : Hp) (hI : IxO 9 41 B x ⟨Ha, Hu, Ho, Hi, Hr, Hm⟩) (hpl : ∀ k, (lat pm k).length ≤ 1000000000) (hxl : ∀ k, (lat x.above k).length ≤ 1000000000 ∧ (lat x.under k).length ≤ 1000000000) (hyl : ∀ k, (lat x.frm k).length ≤ 1000000000 ∧ (lat x.into k).length ≤ 1000000000 ∧ (lat x.ranges k).length ≤ 1000000000 ∧ (lat x.firms k).length ≤ 1000000000) (hf : f.kind = 3 → -1099511627776 ≤ f.lo ∧ f.lo ≤ f.hi ∧ f.hi ≤ 1099511627776) (hq : f.kind = 3 → ∀ y ∈ lat pm (Ky.mk 9 (Fc.r f) []), -1099511627776 ≤ y.lo ∧ y.lo ≤ y.hi ∧ y.hi ≤ 1099511627776) (hk : f.kind = 3) : Tri Tryz.prog 110 #[zp_ B.g 0, f.val] ((Ha ++ (Hu ++ (Ho ++ (Hi ++ (Hr ++ Hm))))) ++ Hs) [gF B E, pF B pm A0, E.ef] (fun _ : {H' : Hp // E.St (rl E.stp E.kof pm x f 0 (nw, fm)).1 (rl E.stp E.kof pm x f 0 (nw, fm)).2 H'} => .tuple #[]) (fun y => (Ha ++ (Hu ++ (Ho ++ (Hi ++ (Hr ++ Hm))))) ++ y.1) (fun _ => []) := by
  refine eP_ B E A0 pm x f nw fm Hs hS Ha Hu Ho Hi Hr Hm hI fun A hA => ?_
  have h := meet_c B E A pm x f nw fm Hs hS hpl hxl hyl
  have e : rl E.stp E.kof pm x f 0 (nw, fm) = _ := (if_neg (by rw [hk]; decide)).trans (if_neg (by rw [hk]; decide))
  rw [e]
  exact h
theorem rl31_c (B : EngB) (E : Emt Tryz.prog 41) (A0 : EngA) (pm : List (Ky × Pc)) (x : Ix) (f : Fc) (nw fm : List Fc) (Hs : Hp) (hS : E.St nw fm Hs) (Ha Hu Ho Hi Hr Hm : Hp) (hI : IxO 9 41 B x ⟨Ha, Hu, Ho, Hi, Hr, Hm⟩) (hpl : ∀ k, (lat pm k).length ≤ 1000000000) (hxl : ∀ k, (lat x.above k).length ≤ 1000000000 ∧ (lat x.under k).length ≤ 1000000000) (hyl : ∀ k, (lat x.frm k).length ≤ 1000000000 ∧ (lat x.into k).length ≤ 1000000000 ∧ (lat x.ranges k).length ≤ 1000000000 ∧ (lat x.firms k).length ≤ 1000000000) (hf : f.kind = 3 → -1099511627776 ≤ f.lo ∧ f.lo ≤ f.hi ∧ f.hi ≤ 1099511627776) (hq : f.kind = 3 → ∀ y ∈ lat pm (Ky.mk 9 (Fc.r f) []), -1099511627776 ≤ y.lo ∧ y.lo ≤ y.hi ∧ y.hi ≤ 1099511627776) (hk : f.kind = 3) : Tri Tryz.prog 111 #[zp_ B.g 0, f.val] ((Ha ++ (Hu ++ (Ho ++ (Hi ++ (Hr ++ Hm))))) ++ Hs) [gF B E, pF B pm A0, E.ef] (fun _ : {H' : Hp // E.St (rl E.stp E.kof pm x f 1 (nw, fm)).1 (rl E.stp E.kof pm x f 1 (nw, fm)).2 H'} => .tuple #[]) (fun y => (Ha ++ (Hu ++ (Ho ++ (Hi ++ (Hr ++ Hm))))) ++ y.1) (fun _ => []) := by
  refine eP_ B E A0 pm x f nw fm Hs hS Ha Hu Ho Hi Hr Hm hI fun A hA => ?_
  have h := out_c B E A pm x f nw fm Hs hS hpl hxl hyl (hf hk) (hq hk)
  have e : rl E.stp E.kof pm x f 1 (nw, fm) = _ := (if_neg (by rw [hk]; decide)).trans (if_neg (by rw [hk]; decide))
  rw [e]
  exact h
end Go.Proofs.YtpdbbglpbngeiaaGreatDoor
namespace Go.Proofs.YtpdbbglpbngeiaaGreatDoor
open Go Go.Sx Go.Proofs
attribute [local irreducible] Code.wp wpList wpAnyH
open Go.Vs
section
variable {N : Nat} {v0 : Vw} {H0 : Hp} {fr : Fr}
theorem lL_ {k : Act → World → Prop} {F : Hp} : ∀ (B : Hp) {H : Hp} {Γ : List Fct}, H.Perm (B ++ F) → Ok N v0 H0 k fr F (B.reverse.map (fun p => cL_ p.1 p.2) ++ Γ) → Ok N v0 H0 k fr H Γ
  | [], H, Γ, hH, h => am_ hH h
  | (b, o) :: B, H, Γ, hH, h => by
    refine eV_ (cL_ b o) (F := B ++ F) hH (fun _ h1 h2 _ => ⟨h1, h2⟩) ?_
    refine lL_ B (.refl _) ?_
    simpa using h
end
end Go.Proofs.YtpdbbglpbngeiaaGreatDoor
namespace Go.Proofs.YtpdbbglpbngeiaaGreatDoor
open Go Go.Sx Go.Proofs
attribute [local irreducible] Code.wp wpList wpAnyH
open Go.Vs
theorem ow_ {P : Program} (w : World) (d : Nat) (t e : TypeId) (a : Option Addr) (l c : Nat) (h : P.underlying t = some (.slice e)) : (Op.equalIn (d + 1) t (.slice a l c) (.slice none 0 0)).run P w = .ok a.isNone w := by
  cases a <;> simp [Op.equalIn, run_underlying h]
theorem qP_ {P : Program} (w : World) (t e : TypeId) (a : Option Addr) (l c : Nat) (h : P.underlying t = some (.slice e)) : (Op.equal t (.slice a l c) (.slice none 0 0)).run P w = .ok a.isNone w := ow_ w 9999 t e a l c h
theorem oK_ {P : Program} {N : Nat} {fr : Fr} {H : Hp} {Γ : List Fct} {ty t t' e : TypeId} {x y : Operand} {ad : Option Addr} {m c : Nat} (hu : P.underlying t = some (.slice e)) (hx : Fr.ev fr x = some (.slice ad m c)) (hy : Fr.ev fr y = some (.slice none 0 0)) : Yld P N fr H Γ (.binOp .eql t x y t') ty (.bool (decide (ad = none))) :=
  fun a v h1 _ _ _ _ _ => by
    have he : decide (ad = none) = ad.isNone := by cases ad <;> simp
    simp [execOp, h1.ev hx, h1.ev hy, eqGuard, binOp, qP_ v.w t e ad m c hu, he]
theorem pf_ {v : Vw} {cs : List Value} (h : bv_ v none cs) : cs = [] := by
  rcases h with h | ⟨b, off, arr, T, fz, h1, _⟩
  · exact h
  · cases h1
theorem eq_ (b : Nat) (e : TypeId) (sz : Nat) : aR_ e sz (.slice (some ⟨b, 0, none⟩) 0 0) 0 [] [(b, .cells #[] e (0, 0))] := ⟨by simp, .inr ⟨b, 0, #[], rfl, rfl, Nat.le_refl _, by simp [maxLen], by simp, by simp⟩⟩
theorem pY_ (l : List Str) (ad : Option Addr) (cap : Nat) (hc : l.length ≤ cap) (hl : l.length ≤ 1000000000) : Tri Tryz.prog 97 #[.slice ad (List.length l) cap] [] [aD_ ad (List.flatMap aJ_ l)] (fun y : {y : Value × Hp // aR_ 9 1 y.1 (List.length l) (List.flatMap aJ_ l) y.2} => y.1.1) (fun y => y.1.2) (fun _ => []) := by
  refine S_ Tryz.func97 rfl rfl Tryz.ntmps97 rfl fun v0 => ?_
  refine h_ (d_ (a_ (g_ rfl) rfl (e_ (b_ rfl (h_ (h_ (d_ (a_ (f_ rfl) rfl (y_ (oK_ jZ_ rfl rfl) rfl fun r1 hr1 => ?_)))))))))
  refine e_ (b_ rfl ?_)
  cases r1
  · skip
    replace hr1 := of_decide_eq_false hr1
    refine v_ rfl (E_ (b_ rfl (h_ (d_ (dy_ D_ j_ rfl fun b1 => ?_)))))
    refine am_ i_ (a_ (f_ rfl) rfl (aL_ (news := List.flatMap aJ_ l) cH_ (eq_ b1 9 1) rfl rfl (fun q => absurd q hr1) hc aA_ (by rw [bo_ aJ_ 1 aq_]) (fun v _ h => by exact h.1) (fun u hu => aO_ cj_ hu) (by simp only [maxLen]; omega) (by omega) rfl fun sv1 Hr1 hr1 => ?_))
    refine am_ List.perm_append_comm ?_
    have hq1 : aR_ 9 1 sv1 (List.length (([] : List Str) ++ l)) (List.flatMap aJ_ (([] : List Str) ++ l)) Hr1 := by rw [List.length_append, List.flatMap_append]; exact hr1
    refine a_ (g_ rfl) rfl (e_ (b_ rfl (H_ ?_)))
    exact at_ Tryz.results97 ⟨(sv1, Hr1), by simpa using hq1⟩ rfl aA_ (fun _ _ _ => trivial)
  · skip
    replace hr1 := of_decide_eq_true hr1
    refine u_ rfl (h_ (d_ (a_ (g_ rfl) rfl (e_ (b_ rfl (H_ (ok_get (p := List.flatMap aJ_ l = []) (fun v _ h => by have q := h.1; subst hr1; exact pf_ q) fun hz => ?_)))))))
    have hz2 : l = [] := List.eq_nil_of_length_eq_zero (by have := congrArg List.length hz; rwa [bo_ aJ_ 1 aq_, Nat.mul_one] at this)
    exact at_ Tryz.results97 ⟨(.slice none 0 0, []), by subst hz2; exact aR_.nil _ _⟩ rfl J_ (fun _ _ _ => trivial)
def atS (p : List Pc) : List Str := Lib.compact ((dA_ p ++ [[42], [33]]).mergeSort fun x y => decide (x ≤ y))
theorem hR_ (p : List Pc) : (atS p).length ≤ 3 * p.length + 2 := by
  have := gJ_ ((dA_ p ++ [[42], [33]]).mergeSort fun x y => decide (x ≤ y))
  have h2 := eD_ p
  rw [List.length_mergeSort, List.length_append] at this
  simp only [List.length_cons, List.length_nil] at this
  unfold atS; omega
theorem it_ (p : List Pc) : (atS p).Pairwise fun x y => x < y := jG_ (lq_ _)
theorem gk_ (p : List Pc) (x : Str) : x ∈ atS p ↔ x ∈ dA_ p ∨ x = [42] ∨ x = [33] := by
  unfold atS
  rw [iE_, List.mem_mergeSort, List.mem_append]
  simp
theorem rr_ (p : List Pc) (pad : Option Addr) (pcap : Nat) (hp : p.length ≤ 100000000) : Tri Tryz.prog 56 #[.slice pad (List.length p) pcap] [] [aD_ pad (List.flatMap Pc.cells p)] (fun y : {y : Option Addr × Nat // (atS p).length ≤ y.2 ∧ y.2 ≤ maxLen ∧ (y.1 = none → y.2 = 0)} => .slice y.1.1 (atS p).length y.1.2) (fun _ => []) (fun y => [aD_ y.1.1 ((atS p).flatMap aJ_)]) := by
  refine S_ Tryz.func56 rfl rfl Tryz.ntmps56 rfl fun v0 => ?_
  refine h_ (d_ (a_ (g_ rfl) rfl (e_ (b_ rfl (h_ (d_ (a_ (f_ rfl) rfl (W_ (qY_ p pad pcap (by omega)) rfl J_ (fun v _ h => by exact ⟨h.1, trivial⟩) rfl fun ⟨⟨aad, acap⟩, hac, ham⟩ => ?_))))))))
  dsimp only
  refine W_ (pY_ (dA_ p) aad acap hac (by have := eD_ p; omega)) rfl J_ (fun v _ h => by exact ⟨h.1, trivial⟩) rfl fun ⟨⟨svc, Hcl⟩, hcl⟩ => ?_
  dsimp only
  refine am_ gd_ (aN_ D_ j_ bf_ rfl rfl rfl rfl rfl rfl fun b1 => ?_)
  refine bt_ (news := List.flatMap aJ_ [[42], [33]]) cH_ hcl rfl rfl Q_ rfl (cP_ 0 rfl) (fun u hu => aO_ cj_ hu) (by simp only [maxLen]; (have := eD_ p; (try simp only [List.length_append, List.length_cons, List.length_nil]); omega)) (by (have := eD_ p; (try simp only [List.length_append, List.length_cons, List.length_nil]); omega)) rfl fun sv1 Hr1 hr1 => ?_
  refine am_ List.perm_append_comm ?_
  have hq1 : aR_ 9 1 sv1 (List.length ((dA_ p) ++ [[42], [33]])) (List.flatMap aJ_ ((dA_ p) ++ [[42], [33]])) Hr1 := by rw [List.length_append, List.flatMap_append]; exact hr1
  refine a_ (g_ rfl) rfl (e_ (b_ rfl (h_ (d_ (a_ (f_ rfl) rfl (W_ (nd_ hq1 (by (have := eD_ p; (try simp only [List.length_append, List.length_cons, List.length_nil]); omega))) rfl Q_ (fun _ _ _ => by exact trivial) rfl fun ⟨Hso1, hs1⟩ => ?_))))))
  dsimp only
  have hso1 : aR_ 9 1 sv1 (List.length ((((dA_ p) ++ [[42], [33]])).mergeSort fun x y => decide (x ≤ y))) (List.flatMap aJ_ ((((dA_ p) ++ [[42], [33]])).mergeSort fun x y => decide (x ≤ y))) Hso1 := by rw [List.length_mergeSort]; exact hs1
  refine e_ (b_ rfl (am_ (cl_ ba_) (h_ (d_ (a_ (f_ rfl) rfl (W_ (jH_ hso1 (by rw [List.length_mergeSort]; (have := eD_ p; (try simp only [List.length_append, List.length_cons, List.length_nil]); omega))) rfl Q_ (fun _ _ _ => by exact trivial) rfl fun ⟨⟨svk2, Hk2⟩, hk2⟩ => ?_))))))
  dsimp only
  refine a_ (g_ rfl) rfl (e_ (b_ rfl (H_ (bF_ hk2 w_ fun ad2 cp2 had2 hcad2 hmad2 hzad2 => ?_))))
  exact at_ Tryz.results56 ⟨(ad2, cp2), hcad2, hmad2, hzad2⟩ (cd_ rfl had2) J_ (fun v _ h => ⟨h.1, trivial⟩)
end Go.Proofs.YtpdbbglpbngeiaaGreatDoor
namespace Go.Proofs
open Go.Shelf
def Tryz.sortFc_ren : Go.Shelf.Ren := ⟨fun | 6 => 60 | 15 => 113 | 14 => 112 | 28 => 152 | 29 => 153 | 20 => 144 | 21 => 145 | 22 => 146 | 23 => 147 | 24 => 148 | 25 => 149 | 26 => 150 | 27 => 151 | 46 => 185 | 47 => 186 | 48 => 187 | 49 => 188 | 50 => 189 | 57 => 207 | n => n, fun | 22 => 26 | 24 => 41 | 25 => 101 | 3 => 3 | 39 => 45 | 0 => 0 | 53 => 65 | 55 => 186 | 4 => 4 | 46 => 178 | 45 => 177 | 50 => 182 | 5 => 5 | 9 => 9 | 66 => 205 | 70 => 199 | 76 => 227 | 77 => 228 | n => n, fun | n => n⟩
theorem Tryz.sortFc : Go.Proofs.SlLaysF0.n6 Tryz.prog Tryz.sortFc_ren := {
 mixed := by kernel_rfl
 f6 := ⟨Tryz.f60.name, by decide, Tryz.func60.trans (congrArg some (by kernel_rfl))⟩
 f14 := ⟨Tryz.f112.name, by decide, Tryz.func112.trans (congrArg some (by kernel_rfl))⟩
 f15 := Tryz.func113.trans (congrArg some (by kernel_rfl))
 f20 := ⟨Tryz.f144.name, by decide, Tryz.func144.trans (congrArg some (by kernel_rfl))⟩
 f21 := ⟨Tryz.f145.name, by decide, Tryz.func145.trans (congrArg some (by kernel_rfl))⟩
 f22 := ⟨Tryz.f146.name, by decide, Tryz.func146.trans (congrArg some (by kernel_rfl))⟩
 f23 := ⟨Tryz.f147.name, by decide, Tryz.func147.trans (congrArg some (by kernel_rfl))⟩
 f24 := ⟨Tryz.f148.name, by decide, Tryz.func148.trans (congrArg some (by kernel_rfl))⟩
 f25 := ⟨Tryz.f149.name, by decide, Tryz.func149.trans (congrArg some (by kernel_rfl))⟩
 f26 := ⟨Tryz.f150.name, by decide, Tryz.func150.trans (congrArg some (by kernel_rfl))⟩
 f27 := ⟨Tryz.f151.name, by decide, Tryz.func151.trans (congrArg some (by kernel_rfl))⟩
 f28 := Tryz.func152.trans (congrArg some (by kernel_rfl))
 f29 := Tryz.func153.trans (congrArg some (by kernel_rfl))
 f46 := ⟨Tryz.f185.name, by decide, Tryz.func185.trans (congrArg some (by kernel_rfl))⟩
 f47 := Tryz.func186.trans (congrArg some (by kernel_rfl))
 f48 := Tryz.func187.trans (congrArg some (by kernel_rfl))
 f49 := ⟨Tryz.f188.name, by decide, Tryz.func188.trans (congrArg some (by kernel_rfl))⟩
 f50 := ⟨Tryz.f189.name, by decide, Tryz.func189.trans (congrArg some (by kernel_rfl))⟩
 f57 := ⟨Tryz.f207.name, by decide, Tryz.func207.trans (congrArg some (by kernel_rfl))⟩
 t0 := Tryz.underlying0
 a0 := Tryz.isAgg0
 z0 := Tryz.sizeOf0
 v0 := Tryz.zeroValue0
 t3 := Tryz.underlying3
 a3 := Tryz.isAgg3
 z3 := Tryz.sizeOf3
 v3 := Tryz.zeroValue3
 t4 := Tryz.underlying4
 a4 := Tryz.isAgg4
 z4 := Tryz.sizeOf4
 v4 := Tryz.zeroValue4
 t5 := Tryz.underlying5
 a5 := Tryz.isAgg5
 z5 := Tryz.sizeOf5
 v5 := Tryz.zeroValue5
 t9 := Tryz.underlying9
 a9 := Tryz.isAgg9
 z9 := Tryz.sizeOf9
 v9 := Tryz.zeroValue9
 t22 := Tryz.underlying26
 a22 := Tryz.isAgg26
 z22 := Tryz.sizeOf26
 v22 := Tryz.zeroValue26
 t25 := Tryz.underlying101
 a25 := Tryz.isAgg101
 z25 := Tryz.sizeOf101
 v25 := Tryz.zeroValue101
 t39 := Tryz.underlying45
 a39 := Tryz.isAgg45
 z39 := Tryz.sizeOf45
 v39 := Tryz.zeroValue45
 t45 := Tryz.underlying177
 a45 := Tryz.isAgg177
 z45 := Tryz.sizeOf177
 v45 := Tryz.zeroValue177
 t46 := Tryz.underlying178
 a46 := Tryz.isAgg178
 z46 := Tryz.sizeOf178
 v46 := Tryz.zeroValue178
 t50 := Tryz.underlying182
 a50 := Tryz.isAgg182
 z50 := Tryz.sizeOf182
 v50 := Tryz.zeroValue182
 t53 := Tryz.underlying65
 a53 := Tryz.isAgg65
 z53 := Tryz.sizeOf65
 v53 := Tryz.zeroValue65
 t55 := Tryz.underlying186
 a55 := Tryz.isAgg186
 z55 := Tryz.sizeOf186
 v55 := Tryz.zeroValue186
 t66 := Tryz.underlying205
 a66 := Tryz.isAgg205
 z66 := Tryz.sizeOf205
 v66 := Tryz.zeroValue205
 t70 := Tryz.underlying199
 a70 := Tryz.isAgg199
 z70 := Tryz.sizeOf199
 v70 := Tryz.zeroValue199
 t76 := Tryz.underlying227
 a76 := Tryz.isAgg227
 z76 := Tryz.sizeOf227
 v76 := Tryz.zeroValue227
 t77 := Tryz.underlying228
 a77 := Tryz.isAgg228
 z77 := Tryz.sizeOf228
 v77 := Tryz.zeroValue228 }
end Go.Proofs
namespace Go.Proofs.YtpdbbglpbngeiaaGreatDoor
open Go Go.Sx Go.Proofs
attribute [local irreducible] Code.wp wpList wpAnyH
open Go.Vs
instance : Inhabited Fc := ⟨⟨0, [], [], [], 0, 0⟩⟩
theorem jJ_ (x y : Int) : Fn0 Tryz.prog 115 #[.int .i64 x, .int .i64 y] (.int .i64 (Lib.compareInt x y)) :=
  en_ (callable Tryz.func115 rfl rfl) fun v _ _ => (Tryz.cmp_Compare_int x y v.w).mono (by rintro e w' ⟨rfl, rfl⟩; exact ⟨rfl, ⟨rfl, rfl, rfl, Nat.le_refl _, fun _ _ => rfl⟩, .inr (Nat.le_refl _)⟩)
theorem hO_ (x y : Str) : Fn0 Tryz.prog 71 #[str x, str y] (.int .i64 (Lib.compareBytes x y)) :=
  en_ (callable Tryz.func71 rfl rfl) fun v _ _ => (Tryz.strings_Compare ⟨x.toArray⟩ ⟨y.toArray⟩ v.w).mono (by rintro e w' ⟨rfl, rfl⟩; exact ⟨rfl, ⟨rfl, rfl, rfl, Nat.le_refl _, fun _ _ => rfl⟩, .inr (Nat.le_refl _)⟩)
def orF : List Int → Int
  | [] => 0
  | x :: l => if x = 0 then orF l else x
theorem pt_ : ∀ {l : List Int} {i : Nat} {x : Int}, (∀ y ∈ l.take i, y = 0) → l[i]? = some x → x ≠ 0 → orF l = x
  | [], _, _, _, h, _ => by simp at h
  | y :: l, 0, x, _, h, hx => by simp at h; subst h; simp [orF, hx]
  | y :: l, i + 1, x, h0, h, hx => by
    have hy : y = 0 := h0 y (by simp)
    rw [orF, if_pos hy]
    exact pt_ (i := i) (fun z hz => h0 z (by rw [List.take_succ_cons]; exact List.mem_cons_of_mem _ hz)) (by simpa using h) hx
theorem lH_ : ∀ {l : List Int}, (∀ y ∈ l, y = 0) → orF l = 0
  | [], _ => rfl
  | y :: l, h => by rw [orF, if_pos (h y (by simp))]; exact lH_ fun z hz => h z (by simp [hz])
theorem cI_neg (x y : Int) : Lib.compareInt x y < 0 ↔ x < y := by unfold Lib.compareInt; (repeat' split) <;> omega
theorem qX_ (x y : Int) : Lib.compareInt x y = 0 ↔ x = y := by unfold Lib.compareInt; (repeat' split) <;> omega
theorem mV_ : ∀ (x y : Str), Lib.compareBytes x y < 0 ↔ x < y
  | [], [] => by simp [Lib.compareBytes]
  | [], b :: y => by simp [Lib.compareBytes]
  | a :: x, [] => by simp [Lib.compareBytes]
  | a :: x, b :: y => by
    rw [Lib.compareBytes, List.cons_lt_cons_iff]
    by_cases h1 : a < b
    · rw [if_pos h1]; simp [h1]
    · by_cases h2 : b < a
      · rw [if_neg h1, if_pos h2]
        have : a ≠ b := fun e => by subst e; exact h1 h2
        simp [h1, this]
      · have e : a = b := UInt8.le_antisymm (UInt8.not_lt.1 h2) (UInt8.not_lt.1 h1)
        rw [if_neg h1, if_neg h2, mV_ x y]; simp [e]
theorem nH_ : ∀ (x y : Str), Lib.compareBytes x y = 0 ↔ x = y
  | [], [] => by simp [Lib.compareBytes]
  | [], b :: y => by simp [Lib.compareBytes]
  | a :: x, [] => by simp [Lib.compareBytes]
  | a :: x, b :: y => by
    rw [Lib.compareBytes]
    by_cases h1 : a < b
    · rw [if_pos h1]
      have : a ≠ b := fun e => by subst e; exact absurd h1 (UInt8.lt_irrefl a)
      simp [this]
    · by_cases h2 : b < a
      · rw [if_neg h1, if_pos h2]
        have : a ≠ b := fun e => by subst e; exact h1 h2
        simp [this]
      · have e : a = b := UInt8.le_antisymm (UInt8.not_lt.1 h2) (UInt8.not_lt.1 h1)
        rw [if_neg h1, if_neg h2, nH_ x y]; simp [e]
def hP_ (x y : Fc) : Int := orF [Lib.compareInt x.kind y.kind, Lib.compareBytes x.a y.a, Lib.compareBytes x.b y.b, Lib.compareBytes x.r y.r, Lib.compareInt x.lo y.lo, Lib.compareInt x.hi y.hi]
theorem gW_ (x : Int) (l : List Int) : orF (x :: l) < 0 ↔ x < 0 ∨ x = 0 ∧ orF l < 0 := by
  rw [orF]; split <;> omega
theorem mf_ (x y : Fc) : hP_ x y < 0 ↔ x.lt y := by
  unfold hP_ Fc.lt
  rw [gW_, gW_, gW_, gW_, gW_, gW_]
  simp only [cI_neg, qX_, mV_, nH_, orF, Int.lt_irrefl, and_false, or_false]
theorem orF_c (l : List Int) (ad : Option Addr) (cap : Nat) (hl : l.length ≤ 1000) : Tri Tryz.prog 114 #[.slice ad (List.length l) cap] [] [aD_ ad (List.flatMap qN_ l)] (fun _ : Unit => .int .i64 (orF l)) (fun _ => []) (fun _ => []) := by
  refine S_ Tryz.func114 rfl rfl Tryz.ntmps114 rfl fun v0 => ?_
  refine h_ (d_ (a_ (g_ rfl) rfl (e_ (b_ rfl (h_ (d_ (a_ (g_ rfl) rfl (e_ (b_ rfl ?_)))))))))
  refine h_ (h_ (d_ (a_ (f_ rfl) rfl (a_ (as_ Tryz.runUnderlying58 rfl) rfl (a_ (f_ rfl) rfl (e_ (b_ rfl (P_ ?_))))))))
  refine aE_ (ι := {y : Nat // y ≤ l.length ∧ ∀ z ∈ l.take y, z = 0}) (fun y => [(3, .int .i64 0), (6, .slice ad (List.length l) cap), (7, .int .i64 (List.length l : Int)), (8, .int .i64 (y.1 : Int))]) (fun y => ([])) (fun y => [aD_ ad (List.flatMap qN_ l)]) (fun y => l.length - y.1) ⟨(0 : Nat), by simp, by simp⟩ ⟨rfl, rfl, rfl, rfl, trivial⟩ J_ (fun _ _ h => h) ?_
  rintro ⟨i, hi, h0⟩
  dsimp only at hi h0 ⊢
  refine h_ (d_ (y_ (ay_ rfl rfl) rfl fun r1 hr1 => ?_))
  refine e_ (b_ rfl (h_ ?_))
  cases r1
  · skip
    replace hr1 := of_decide_eq_false hr1
    refine v_ rfl (aw_ rfl (b_ rfl (h_ (d_ (a_ (f_ rfl) rfl (a_ (g_ rfl) rfl (e_ (b_ rfl (H_ ?_)))))))))
    exact at_ Tryz.results114 () (bN_ rfl (lH_ fun y hy => h0 y (by rw [List.take_of_length_le (by omega)]; exact hy)).symm) J_ (fun _ _ _ => trivial)
  · skip
    replace hr1 := of_decide_eq_true hr1
    have hlx1 : i < List.length l := by omega
    obtain ⟨x1, hx1⟩ : ∃ e0, l[i]? = some e0 := ⟨_, List.getElem?_eq_getElem hlx1⟩
    have hmx1 : x1 ∈ l := List.mem_of_getElem? hx1
    refine u_ rfl (E_ (b_ rfl (h_ (P_ (h_ (d_ (a_ (ae_ Tryz.runUnderlying58 K_ rfl rfl (fun v _ h => az_ (n := 1) lZ_ (by decide) (by exact h.1) hx1) (by omega) (by first | omega | (simp; done))) rfl (a_ (aH_ (ad := ad) L_ rfl (fun v _ h => by exact h.1) (ai_ lZ_ hx1 0 _ rfl)) rfl (a_ (g_ rfl) rfl ?_)))))))))
    refine e_ (b_ rfl (h_ (d_ (a_ (f_ rfl) rfl (a_ (f_ rfl) rfl (y_ (cz_ rfl rfl) rfl fun r2 hr2 => ?_))))))
    refine e_ (b_ rfl ?_)
    cases r2
    · skip
      replace hr2 := br_ hr2
      refine v_ rfl (E_ (b_ rfl (d_ (a_ (M_ rfl rfl rfl (al_ (by omega) (by omega))) rfl (a_ (f_ rfl) rfl (e_ (x_ rfl ?_)))))))
      exact Z_ ⟨i + 1, hlx1, fun y hy => by rw [List.take_add_one, hx1] at hy; simp only [Option.toList_some, List.mem_append, List.mem_singleton] at hy; rcases hy with hy | rfl; exact h0 y hy; omega⟩ (by dsimp only; omega) ⟨rfl, rfl, rfl, rfl, trivial⟩ J_ (fun _ _ h => h)
    · skip
      replace hr2 := bq_ hr2
      refine u_ rfl (h_ (d_ (a_ (f_ rfl) rfl (a_ (g_ rfl) rfl (e_ (b_ rfl (H_ ?_)))))))
      exact at_ Tryz.results114 () (bN_ rfl (pt_ h0 hx1 (by assumption)).symm) J_ (fun _ _ _ => trivial)
theorem pX_ (x y : Fc) : Fn0 Tryz.prog 61 #[Fc.val x, Fc.val y] (.int .i64 (hP_ x y)) := by
  refine S_ Tryz.func61 rfl rfl Tryz.ntmps61 rfl fun v0 => ?_
  refine h_ (d_ (bl_ rfl rfl fun b1 => ?_))
  refine bl_ rfl rfl fun b2 => ?_
  refine a_ (g_ rfl) rfl (e_ (b_ rfl (h_ ?_)))
  refine aC_ (by kernel_rfl) ?_
  refine ad_ 9 [0, 1, 2, 3, 5, 6, 7, 8, 10, 11, 12, 13, 15, 16, 17, 18, 20, 21, 22, 23, 25, 26, 27, 28] (by kernel_rfl) (fun _ a b => ⟨a, b⟩) (o_ rfl (n_ k_ rfl rfl rfl K_) rfl (o_ rfl (s_ 1 L_ rfl rfl rfl) rfl (o_ rfl (n_ k_ rfl rfl rfl K_) rfl (o_ rfl (s_ 0 L_ rfl rfl rfl) rfl (o_ rfl (n_ k_ rfl rfl rfl j_) rfl (o_ rfl (s_ 1 p_ rfl rfl rfl) rfl (o_ rfl (n_ k_ rfl rfl rfl j_) rfl (o_ rfl (s_ 0 p_ rfl rfl rfl) rfl (o_ rfl (n_ k_ rfl rfl rfl j_) rfl ?_)))))))))
  refine o_ rfl (s_ 1 p_ rfl rfl rfl) rfl (o_ rfl (n_ k_ rfl rfl rfl j_) rfl (o_ rfl (s_ 0 p_ rfl rfl rfl) rfl (o_ rfl (n_ k_ rfl rfl rfl j_) rfl (o_ rfl (s_ 1 p_ rfl rfl rfl) rfl (o_ rfl (n_ k_ rfl rfl rfl j_) rfl (o_ rfl (s_ 0 p_ rfl rfl rfl) rfl (o_ rfl (n_ k_ rfl rfl rfl K_) rfl (o_ rfl (s_ 1 L_ rfl rfl rfl) rfl (o_ rfl (n_ k_ rfl rfl rfl K_) rfl ?_)))))))))
  refine o_ rfl (s_ 0 L_ rfl rfl rfl) rfl (o_ rfl (n_ k_ rfl rfl rfl K_) rfl (o_ rfl (s_ 1 L_ rfl rfl rfl) rfl (o_ rfl (n_ k_ rfl rfl rfl K_) rfl (o_ rfl (s_ 0 L_ rfl rfl rfl) rfl (ac_ (X_ 4 rfl (by kernel_rfl) (W_ (jJ_ (Fc.kind x) (Fc.kind y)) rfl J_ (fun _ _ _ => by exact trivial) rfl fun _ => ?_)))))))
  refine e_ (x_ rfl (O_ (fun _ a b => ⟨a, b⟩) (X_ 9 rfl (by kernel_rfl) (W_ (hO_ (Fc.a x) (Fc.a y)) rfl J_ (fun _ _ _ => by exact trivial) rfl fun _ => ?_))))
  refine e_ (x_ rfl (O_ (fun _ a b => ⟨a, b⟩) (X_ 14 rfl (by kernel_rfl) (W_ (hO_ (Fc.b x) (Fc.b y)) rfl J_ (fun _ _ _ => by exact trivial) rfl fun _ => ?_))))
  refine e_ (x_ rfl (O_ (fun _ a b => ⟨a, b⟩) (X_ 19 rfl (by kernel_rfl) (W_ (hO_ (Fc.r x) (Fc.r y)) rfl J_ (fun _ _ _ => by exact trivial) rfl fun _ => ?_))))
  refine e_ (x_ rfl (O_ (fun _ a b => ⟨a, b⟩) (X_ 24 rfl (by kernel_rfl) (W_ (jJ_ (Fc.lo x) (Fc.lo y)) rfl J_ (fun _ _ _ => by exact trivial) rfl fun _ => ?_))))
  refine e_ (x_ rfl (O_ (fun _ a b => ⟨a, b⟩) (X_ 29 rfl (by kernel_rfl) (W_ (jJ_ (Fc.hi x) (Fc.hi y)) rfl J_ (fun _ _ _ => by exact trivial) rfl fun _ => ?_))))
  refine e_ (x_ rfl (O_ (fun _ a b => ⟨a, b⟩) (X_ 30 rfl (by kernel_rfl) (aN_ Tryz.runUnderlying58 K_ Tryz.zeroValue3 rfl rfl rfl rfl rfl rfl fun b3 => ?_))))
  refine bE_ (List.flatMap qN_ [(Lib.compareInt (Fc.kind x) (Fc.kind y)), (Lib.compareBytes (Fc.a x) (Fc.a y)), (Lib.compareBytes (Fc.b x) (Fc.b y)), (Lib.compareBytes (Fc.r x) (Fc.r y)), (Lib.compareInt (Fc.lo x) (Fc.lo y)), (Lib.compareInt (Fc.hi x) (Fc.hi y))]) i_ rfl ?_
  refine e_ (x_ rfl (O_ (fun _ a b => ⟨a, b.2⟩) (X_ 31 rfl (by kernel_rfl) (W_ (orF_c [(Lib.compareInt (Fc.kind x) (Fc.kind y)), (Lib.compareBytes (Fc.a x) (Fc.a y)), (Lib.compareBytes (Fc.b x) (Fc.b y)), (Lib.compareBytes (Fc.r x) (Fc.r y)), (Lib.compareInt (Fc.lo x) (Fc.lo y)), (Lib.compareInt (Fc.hi x) (Fc.hi y))] (some ⟨b3, 0, none⟩) 6 (by simp)) rfl J_ (fun v _ h => by exact ⟨h.1, trivial⟩) rfl fun _ => ?_))))
  refine e_ (x_ rfl (O_ (fun _ a b => ⟨a, b.2⟩) (ad_ 0 [32] (by kernel_rfl) (fun _ a b => ⟨a, b.2⟩) (o_ rfl (g_ rfl) rfl (ac_ (aa_ (by kernel_rfl) (b_ rfl (H_ ?_))))))))
  exact at_ Tryz.results61 () (bN_ rfl (by rfl)) J_ (fun _ _ _ => trivial)
end Go.Proofs.YtpdbbglpbngeiaaGreatDoor
namespace Go.Proofs.YtpdbbglpbngeiaaGreatDoor
open Go Go.Sx Go.Proofs
attribute [local irreducible] Code.wp wpList wpAnyH
open Go.Vs
theorem dT {p : Prop} {i : Decidable p} (h : @decide p i = true) : p := of_decide_eq_true h
theorem dF {p : Prop} {i : Decidable p} (h : @decide p i = false) : ¬ p := of_decide_eq_false h
structure Cl where
  atoms : List Str
  aad : Option Addr
  acap : Nat
  facts : List Fc
  fad : Option Addr
  fcap : Nat
def Cl.cells (c : Cl) : List Value := [.slice c.aad c.atoms.length c.acap, .slice c.fad c.facts.length c.fcap]
theorem Cl.cells_len (c : Cl) : c.cells.length = 2 := rfl
def Cl.val (c : Cl) : Value := .agg c.cells.toArray
def Cl.row (c : Cl) : List Fct := [aD_ c.aad (List.flatMap aJ_ c.atoms), aD_ c.fad (List.flatMap Fc.cells c.facts)]
def Cl.no : Cl := Cl.mk [] none 0 [] none 0
structure Cl.ok (c : Cl) : Prop where
  al : c.atoms.length ≤ c.acap
  am : c.acap ≤ maxLen
  az : c.aad = none → c.acap = 0
  fl : c.facts.length ≤ c.fcap
  fm : c.fcap ≤ maxLen
  fz : c.fad = none → c.fcap = 0
theorem Cl.no_ok : Cl.no.ok := ⟨Nat.le_refl _, by simp [Cl.no], fun _ => rfl, Nat.le_refl _, by simp [Cl.no], fun _ => rfl⟩
theorem qt_ {s : Str} (h : bX_ s = true) : s ≠ [] := fun e => by subst e; revert h; decide
theorem oe_ {s : Str} (h : bd_ s = true) : s ≠ [] := fun e => by subst e; revert h; decide
theorem jW_ {p : Pc} (h : p.valid = true) : p.vok := by
  unfold Pc.valid at h
  split at h
  · simp at h
  rename_i h1
  split at h
  · simp at h
  rename_i h2
  split at h
  · simp at h
  have hk : p.kind = 1 ∨ p.kind = 2 ∨ p.kind = 3 ∨ p.kind = 4 ∨ p.kind = 5 ∨ p.kind = 6 ∨ p.kind = 7 ∨ p.kind = 8 ∨ p.kind = 9 := by omega
  have hn : ∀ {b : Bool} {s : Str}, ch_ b s bX_ = true → b = true → s ≠ [] := fun h1 h2 => by
    subst h2; simp [ch_] at h1; exact qt_ h1
  have hn' : ∀ {b : Bool} {s : Str}, ch_ b s bd_ = true → b = true → s ≠ [] := fun h1 h2 => by
    subst h2; simp [ch_] at h1; exact oe_ h1
  simp only [Bool.and_eq_true] at h
  obtain ⟨⟨⟨⟨⟨_, _⟩, _⟩, hr⟩, hs⟩, ht⟩ := h
  unfold Pc.rok at *
  refine ⟨⟨fun q => ?_, fun q => ?_, fun q => ?_⟩, fun q => ?_⟩
  · rcases q with q | q | q | q | q | q | q <;> rw [q] at hr
    · exact hn hr (by decide)
    · exact hn hr (by decide)
    · exact hn hr (by decide)
    · exact hn' hr (by decide)
    · exact hn hr (by decide)
    · exact hn hr (by decide)
    · exact hn' hr (by decide)
  · rw [q] at hs ht; exact ⟨hn hs (by decide), hn ht (by decide)⟩
  · rw [q] at ht; exact hn ht (by decide)
  · rcases q with q | q <;> rw [q] at h2 <;> have : (nus 8).numbers = true ∧ (nus 9).numbers = true := by decide
    all_goals simp only [this.1, this.2, true_and] at h2; omega
theorem mi_ {p : List Pc} (h : bM_ p = 0) : p.length ≤ 16384 ∧ p.all Pc.valid = true := by
  unfold bM_ at h
  split at h
  · simp at h
  · split at h
    · exact ⟨by omega, by assumption⟩
    · simp at h
theorem fP_ {p : List Pc} (h : bM_ p = 0) : ∀ x ∈ p, x.vok := fun x hx => jW_ (List.all_eq_true.1 (mi_ h).2 x hx)
section
variable {P : Program} {N : Nat} {v0 : Vw} {H0 : Hp} {fr : Fr} {H F Ha Hu Ho Hi Hr Hm Hs : Hp} {Γ : List Fct}
theorem dE_ {fn : Func} {t s b n : Nat} {ty T : TypeId} {us : List Value} {u : Value} (i : Nat) (hr : fn.results = #[.cell t ty, .tmp s]) (ha : ∀ w, (isAgg ty).run P w = .ok true w) (hs : ∀ w, (sizeOf ty).run P w = .ok n w) (hn : us.length = n) (hx : Fr.get fr t = some (zp_ b 0)) (hu : Fr.get fr s = some u)
    (hi : H[i]? = some (b, .cells us.toArray T (0, 0))) (a : Act) (v : Vw) (h1 : Fr.sat N fr a) (h2 : v.sat H) : (results fn a.tmps).run P v.w = .ok (.tuple #[.agg us.toArray, u]) v.w := by
  have e := h1.val t _ hx
  have e2 := h1.val s _ hu
  have hl := dG_ (t := ty) (w := v.w) (b := b) (off := 0) ha hs hn (fun j y hj => by rw [Nat.zero_add, gz_ h2 hi]; simpa using hj)
  simp [results, hr, e, e2, asAddr, hl]
theorem ie_ (h : H.Perm ((Ha ++ (Hu ++ (Ho ++ (Hi ++ (Hr ++ (Hm ++ Hs)))))) ++ F)) : H.Perm (((Ha ++ (Hu ++ (Ho ++ (Hi ++ (Hr ++ Hm))))) ++ Hs) ++ F) := by simpa [List.append_assoc] using h
theorem gV_ : (((Ha ++ (Hu ++ (Ho ++ (Hi ++ (Hr ++ Hm))))) ++ Hs) ++ F).Perm (Ha ++ (Hu ++ (Ho ++ (Hi ++ (Hr ++ (Hm ++ (Hs ++ F))))))) := by simp [List.append_assoc]
theorem qx_ {a b c : Nat × Obj} {Hq : Hp} : ((Ha ++ (Hu ++ (Ho ++ (Hi ++ (Hr ++ (Hm ++ (a :: b :: ([c] ++ Hq)))))))) ++ F).Perm (Ha ++ (Hu ++ (Ho ++ (Hi ++ (Hr ++ (Hm ++ (a :: b :: ([c] ++ (Hq ++ F))))))))) := by simp [List.append_assoc]
end
theorem eo_ : mo_ Tryz.prog 28 [(0, 1), (1, 1)] [.slice none 0 0, .slice none 0 0] := ⟨_, cn_, aB_, fun w => by simp [cx_, bp_]⟩
end Go.Proofs.YtpdbbglpbngeiaaGreatDoor
namespace Go.Proofs.YtpdbbglpbngeiaaGreatDoor
open Go Go.Sx Go.Proofs
attribute [local irreducible] Code.wp wpList wpAnyH
open Go.Vs Go.ChangeShapes Go.WideShapes Go.ChangeAt Go.RowKit
theorem own : ownKnob Tryz.prog.godebug = none := by kernel_rfl
def ju_ : List (String × DataW Unit) := [("unicode/utf8.acceptRanges", Rows.laid_unicode_utf8_acceptRanges), ("veilstone/normal.uses", Rows.laid_veilstone_normal_uses), ("unicode/utf8.first", Rows.laid_unicode_utf8_first)]
theorem kids : Kids Tryz.prog (· < Tryz.prog.types.size) := kids_rows (by kernel_rfl) (by kernel_rfl)
theorem full : ∀ t e, t < Tryz.prog.types.size → Tryz.prog.underlying t = some (.slice e) → 0 < Tryz.prog.cellsOf e := slices_full_of _ (by kernel_rfl)
theorem pD_ : Tryz.prog.types.size = 292 := by kernel_rfl
theorem tysX : Tys Tryz.prog 3 4 9 25 132 130 134 75 47 22 where
  i := co_
  b := Tryz.underlying4
  s := bw_
  ss := jZ_
  c := ⟨_, Tryz.underlying132, rfl⟩
  cs := Tryz.underlying130
  a := ⟨_, Tryz.underlying134, rfl⟩
  axs := Tryz.underlying75
  p := ⟨_, jY_, rfl⟩
  ps := Tryz.underlying22
  ci := by kernel_rfl
  cb := by kernel_rfl
  cs1 := by kernel_rfl
  css := by kernel_rfl
  cc := by kernel_rfl
  ccs := by kernel_rfl
  ca := by kernel_rfl
  cp := by kernel_rfl
  bs := by kernel_rfl
  bc := by kernel_rfl
  ba := by kernel_rfl
  bp := by kernel_rfl
theorem iH_ {W : World} (h : laidMetH Tryz.prog ju_ W) : ∃ T fz, W.heap[0]? = some (.cells (gb_ (H := Unit) Rows.laid_veilstone_normal_uses).toArray T fz) := by
  rw [MakeChecks.laidMetH_plain _ _ _ (by kernel_rfl)] at h
  exact oS_ kids (name := "veilstone/normal.uses") h (by simp [ju_]) (g := 0) (t := 153) (by kernel_rfl) (by kernel_rfl) (by rw [pD_]; decide) (m := 4) (by kernel_rfl)
theorem qs_ {W : World} {g : Nat} {l : List Value} {d : List Value} (h : ∃ T fz, W.heap[g]? = some (.cells l.toArray T fz)) (e : l = d) : bv_ (vw W) (some ⟨g, 0, none⟩) d := by
  obtain ⟨T, fz, h⟩ := h
  subst e
  exact .inr ⟨g, 0, _, T, fz, rfl, (Array.getElem?_eq_some_iff.1 h).1, h, fun j x hj => by rw [Nat.zero_add]; simpa using hj⟩
theorem qn_ {W : World} (h : laidMetH Tryz.prog ju_ W) : hc_.p (vw W) := qs_ (iH_ h) (by kernel_rfl)
end Go.Proofs.YtpdbbglpbngeiaaGreatDoor
namespace Go.Proofs.YtpdbbglpbngeiaaGreatDoor
open Go Go.Sx Go.Proofs
attribute [local irreducible] Code.wp wpList wpAnyH
open Go.Vs Go.Shelf Go.RowKit
theorem li_ {v v' : Vw} (h : v.to [] v' []) (hs : ¬ v.sl) : ∃ q os, v'.w = Sort.grow (v.w.drewN q) os := by
  have hd : v.w.drawn ≤ v'.w.drawn := h.dr.resolve_left hs
  refine ⟨v'.w.drawn - v.w.drawn, v'.w.heap.extract v.w.heap.size v'.w.heap.size, ?_⟩
  have hh : v'.w.heap = v.w.heap ++ v'.w.heap.extract v.w.heap.size v'.w.heap.size := by
    apply Array.ext_getElem?
    intro i
    have hsz := h.size
    rw [Array.getElem?_append]
    split
    · rename_i hi; exact h.block i hi (by simp)
    · rename_i hi
      rw [Array.getElem?_extract]
      split
      · congr 1; omega
      · rw [Array.getElem?_eq_none (by omega)]
  have e1 := h.os; have e2 := h.tape; have e3 := h.output
  obtain ⟨im', ⟨hp, tp, dn, os', ou⟩, sl'⟩ := v'
  simp only at e1 e2 e3 hh hd
  simp only [Sort.grow, World.drewN, World.mk.injEq]
  exact ⟨hh, e2, by omega, e1, e3⟩
theorem qT_ (blk off size : Nat) (w : World) : CmpLays Tryz.prog 61 #[] Fc.cells 6 hP_ blk off size w := fun m os dk _ x y => by
  have h := (pX_ x y).run ⟨fun _ => False, sortWorldK Fc.cells 6 w blk off m dk os, False⟩ ⟨by simp, by simp, fun _ h => h.elim⟩ trivial
  refine h.mono ?_
  rintro e w' ⟨_, v', rfl, rfl, _, _, ht⟩
  obtain ⟨q, os', hw⟩ := li_ ht (fun h => h)
  exact ⟨rfl, q, os', hw⟩
theorem ltF (x y : Fc) : ltOf hP_ x y = decide (x.lt y) := by unfold ltOf; rw [decide_eq_decide]; exact mf_ x y
theorem swoF : Sort.SWO (ltOf hP_) where
  irrefl x := by rw [ltF]; exact decide_eq_false (Fc.lt_irr x)
  trans x y z h1 h2 := by rw [ltF, decide_eq_true_eq] at *; exact Fc.lt_trans h1 h2
  ntrans x y z h1 h2 := by
    rw [ltF, decide_eq_false_iff_not] at *
    intro h
    rcases Fc.lt_tri x y with g | g | g
    · exact h1 g
    · subst g; exact h2 h
    · exact h2 (Fc.lt_trans g h)
theorem totF (x y : Fc) (h1 : ltOf hP_ x y = false) (h2 : ltOf hP_ y x = false) : x = y := by
  rw [ltF, decide_eq_false_iff_not] at h1 h2
  rcases Fc.lt_tri x y with g | g | g
  · exact absurd g h1
  · exact g
  · exact absurd g h2
theorem jC_ (xs : List Fc) : Sort.flatK Fc.cells 6 xs.toArray = (xs.flatMap Fc.cells).toArray := by
  apply Array.ext_getElem?
  intro t
  have e0 : (xs.flatMap Fc.cells).toArray[t]? = (xs.flatMap Fc.cells)[t]? := by simp
  rw [e0]
  by_cases ht : t < xs.length * 6
  · have hd : t / 6 < xs.length := by omega
    have := kR_ Fc.cells 6 Fc.cells_len xs (t / 6) (t % 6) xs[t / 6] (List.getElem?_eq_getElem hd) (Nat.mod_lt _ (by decide))
    rw [show t / 6 * 6 + t % 6 = t by omega] at this
    rw [this]
    simp only [Sort.flatK, Array.getElem?_map, List.size_toArray]
    rw [Array.getElem?_eq_getElem (by simpa using ht)]
    simp only [Array.getElem_range, Option.map_some]
    rw [getElem!_pos xs.toArray (t / 6) (by simpa using hd)]
    have hl : t % 6 < (Fc.cells xs[t / 6]).length := by rw [Fc.cells_len]; omega
    rw [List.getElem?_eq_getElem hl]
    simp only [List.getElem_toArray]
    rw [getElem!_pos (Fc.cells xs[t / 6]) (t % 6) hl]
  · rw [List.getElem?_eq_none (by rw [bo_ Fc.cells 6 Fc.cells_len]; omega), Array.getElem?_eq_none (by simp [Sort.flatK]; omega)]
theorem lm_ {P : Program} {Γ : List Fct} {f : FuncId} {args : Array Value} {r : Value} {g : Nat} {cur : Array Value} {T : TypeId} {d : Array Value} (hc : fS_ P f)
    (h : ∀ v : Vw, v.sat [(g, .cells cur T (0, 0))] → Calls P f args v.w fun e w' => e = .returned r ∧ ∃ n os, w' = Sort.grow (Sort.putRow id (Sort.ahead v.w n) g 0 d) os) :
    Tri P f args [(g, .cells cur T (0, 0))] Γ (fun _ : Unit => r) (fun _ => [(g, .cells (Sort.putCells id 0 d cur) T (0, 0))]) (fun _ => []) :=
  ⟨hc, fun v h1 _ => (h v h1).mono fun e w' ⟨he, n, os, hw⟩ => by
    have hg := (h1.own _ List.mem_cons_self)
    have hlt : g < v.w.heap.size := (Array.getElem?_eq_some_iff.1 hg.1).1
    have hb : ∀ b, b < v.w.heap.size → w'.heap[b]? = if b = g then some (.cells (Sort.putCells id 0 d cur) T (0, 0)) else v.w.heap[b]? := fun b hb => by
      rw [hw]
      simp only [Sort.grow, Sort.putRow, Sort.mapBlock, Sort.ahead]
      rw [Array.getElem?_append_left (by simpa using hb), Array.getElem?_modify]
      by_cases e : b = g
      · subst e
        simp only [if_true, hg.1, Option.map_some, Sort.onCells]
      · rw [if_neg (fun q => e q.symm), if_neg e]
    have hsz : v.w.heap.size ≤ w'.heap.size := by rw [hw]; simp [Sort.grow, Sort.putRow, Sort.mapBlock, Sort.ahead]
    refine ⟨(), ⟨v.im, w', v.sl⟩, he, rfl, ⟨fun p hp => ?_, by simp, fun b hbb => Nat.lt_of_lt_of_le (h1.lt b hbb) hsz⟩, trivial, ⟨by rw [hw]; rfl, by rw [hw]; rfl, by rw [hw]; rfl, hsz, fun b hbb hn => ?_, fun _ h => h, fun _ h => .inl h, fun b hm => .inl (by simpa using hm), rfl, .inr (by rw [hw]; exact Nat.le_add_right _ _)⟩⟩
    · simp only [List.mem_singleton] at hp
      subst hp
      exact ⟨by show w'.heap[g]? = _; rw [hb g hlt, if_pos rfl], hg.2⟩
    · have hn' : b ≠ g := by simpa using hn
      show w'.heap[b]? = _
      rw [hb b hbb, if_neg hn']⟩
theorem nX_ {cur : Array Value} {d : List Value} (hs : d.length ≤ cur.size) : (Sort.putCells id 0 d.toArray cur).toList.take d.length = d := by
  apply List.ext_getElem?
  intro j
  rw [List.getElem?_take]
  split
  · rename_i hj
    simp only [Sort.putCells, Array.getElem?_toList, Array.getElem?_mapIdx]
    rw [Array.getElem?_eq_getElem (by omega)]
    simp only [Option.map_some, Nat.zero_le, true_and, Nat.zero_add, List.size_toArray, hj, if_true, Nat.sub_zero]
    rw [List.getElem?_eq_getElem hj, getElem!_pos d.toArray j (by simpa using hj)]
    rfl
  · rename_i hj
    rw [List.getElem?_eq_none (by omega)]
theorem nY_ {cur d : Array Value} : (Sort.putCells id 0 d cur).size = cur.size := by simp [Sort.putCells]
theorem holdsV {g : Nat} {cur : Array Value} {T : TypeId} {xs : List Value} {v : Vw} (hs : v.sat [(g, .cells cur T (0, 0))]) (ht : cur.toList.take xs.length = xs) : Sort.Holds id v.w g 0 xs.toArray := by
  intro j hj
  have hb := (hs.own _ List.mem_cons_self).1
  simp only [List.size_toArray] at hj
  have hc : cur[j]? = some xs[j] := by
    have := congrArg (fun l => l[j]?) ht
    simp only [List.getElem?_take, hj, if_true, Array.getElem?_toList] at this
    rw [this, List.getElem?_eq_getElem hj]
  refine ⟨?_, ?_⟩
  · simp only [World.cell?, Nat.zero_add, hb, Option.isSome_none, Bool.false_eq_true, if_false]
    rw [hc, getElem!_pos xs.toArray j (by simpa using hj)]
    rfl
  · simp [World.frozen?, hb]
def fj_ (xs : List Fc) : List Fc := xs.mergeSort fun x y => !(ltOf hP_) y x
theorem fB_ (xs : List Fc) : (fj_ xs).length = xs.length := List.length_mergeSort _
theorem hz_ (xs : List Fc) (x : Fc) : x ∈ fj_ xs ↔ x ∈ xs := List.mem_mergeSort
theorem hy_ {xs : List Fc} (h : xs.Nodup) : Srt (fj_ xs) := by
  have h1 : (fj_ xs).Pairwise fun x y => (!(ltOf hP_) y x) = true := List.pairwise_mergeSort
    (fun a b c h1 h2 => by simp only [Bool.not_eq_true'] at *; exact swoF.ntrans c b a h2 h1)
    (fun a b => by
      simp only [Bool.or_eq_true, Bool.not_eq_true']
      rw [ltF, ltF, decide_eq_false_iff_not, decide_eq_false_iff_not]
      rcases Fc.lt_tri a b with g | g | g
      · exact .inl fun q => Fc.lt_irr a (Fc.lt_trans g q)
      · subst g; exact .inl (Fc.lt_irr a)
      · exact .inr fun q => Fc.lt_irr a (Fc.lt_trans q g)) xs
  have h2 : (fj_ xs).Nodup := (List.mergeSort_perm xs _).nodup_iff.2 h
  refine (h1.and h2).imp ?_
  rintro x y ⟨a, b⟩
  simp only [Bool.not_eq_true', ltF, decide_eq_false_iff_not] at a
  rcases Fc.lt_tri x y with g | g | g
  · exact g
  · exact absurd g b
  · exact absurd g a
theorem ne_ {sv : Value} {xs : List Fc} {Hr : Hp} (h : aR_ 41 6 sv xs.length (xs.flatMap Fc.cells) Hr) (hl : xs.length ≤ 1000000000000) :
    Tri Tryz.prog 60 #[sv, .func (.func 61) #[] #[]] Hr [] (fun _ : {y : Hp // aR_ 41 6 sv (fj_ xs).length ((fj_ xs).flatMap Fc.cells) y} => .tuple #[]) (fun y => y.1) (fun _ => []) := by
  rcases h.2 with ⟨rfl, h2, rfl⟩ | ⟨g, cap, cur, rfl, rfl, h3, h4, h5, h6⟩
  · obtain rfl : xs = [] := List.eq_nil_of_length_eq_zero h2
    have T := en_ (P := Tryz.prog) (H := []) (Γ := []) (callable Tryz.func60 rfl rfl) (fun v _ _ => (AnyF.slices_SortFunc_none Tryz.sortFc none 0 (.func (.func 61) #[] #[]) v.w).mono (by rintro e w' ⟨rfl, rfl⟩; exact ⟨rfl, ⟨rfl, rfl, rfl, Nat.le_refl _, fun _ _ => rfl⟩, .inr (Nat.le_refl _)⟩))
    exact ⟨T.callable, fun v a b => (T.run v a b).mono (by rintro e w' ⟨x, v', e1, e2, e3, e4, e5⟩; exact ⟨⟨[], by simpa [fj_] using aR_.nil _ _⟩, v', e1, e2, e3, e4, e5⟩)⟩
  · have hx : (xs.flatMap Fc.cells).length = xs.length * 6 := bo_ Fc.cells 6 Fc.cells_len xs
    have T := lm_ (P := Tryz.prog) (Γ := []) (r := .tuple #[]) (g := g) (cur := cur) (T := 41) (d := ((fj_ xs).flatMap Fc.cells).toArray) (f := 60) (args := #[.slice (some ⟨g, 0, none⟩) xs.length cap, .func (.func 61) #[] #[]]) (callable Tryz.func60 rfl rfl) (fun v hs => by
      have hh := AnyQ.slices_SortFunc_total Tryz.sortFc 6 U_ A_ Fc.cells Fc.cells_len (fun x u hu => List.all_eq_true.1 (Fc.cells_one x) u hu) hP_ swoF 61 #[] g 0 cap xs.toArray v.w (fun args w => (callable Tryz.func61 rfl rfl) args w) (qT_ g 0 _ v.w) (by unfold Sort.HoldsK; rw [jC_]; exact holdsV hs (by rw [hx]; exact h6)) (Array.getElem?_eq_some_iff.1 (hs.own _ List.mem_cons_self).1).1 (by simp; omega) totF
      refine hh.mono ?_
      rintro e w' ⟨rfl, n, os, rfl⟩
      refine ⟨rfl, n, os, ?_⟩
      unfold sortWorldK Sort.putRowK
      rw [show ((xs.toArray.toList.mergeSort fun x y => !(ltOf hP_) y x)) = fj_ xs from rfl, jC_])
    refine ⟨T.callable, fun v a b => (T.run v a b).mono ?_⟩
    rintro e w' ⟨x, v', e1, e2, e3, e4, e5⟩
    have hy : ((fj_ xs).flatMap Fc.cells).length = xs.length * 6 := by rw [bo_ Fc.cells 6 Fc.cells_len, fB_]
    refine ⟨⟨_, by rw [hy, fB_], .inr ⟨g, cap, _, by rw [fB_], rfl, by rw [fB_]; exact h3, h4, by rw [nY_]; exact h5, ?_⟩⟩, v', e1, e2, e3, e4, e5⟩
    have := nX_ (cur := cur) (d := (fj_ xs).flatMap Fc.cells) (by rw [hy, h5]; omega)
    rw [hy] at this
    rw [fB_]; exact this
end Go.Proofs.YtpdbbglpbngeiaaGreatDoor
namespace Go.Proofs.YtpdbbglpbngeiaaGreatDoor
open Go Go.Sx Go.Proofs
attribute [local irreducible] Code.wp wpList wpAnyH
open Go.Vs
section
variable {P : Program} {N : Nat} {v0 : Vw} {H0 : Hp} {fr : Fr} {H F : Hp} {Γ : List Fct} {K D : Type} [DecidableEq K]
theorem jz_ : ∀ (B : Hp) {v : Vw}, aQ_ (B.map fun p => cL_ p.1 p.2) v → ∀ p ∈ B, v.im p.1 ∧ v.w.heap[p.1]? = some p.2
  | [], _, _, _, h => by simp at h
  | q :: B, v, h, p, hp => by
    rcases List.mem_cons.1 hp with rfl | hp
    · exact h.1
    · exact jz_ B h.2 p hp
theorem lK_ {k : Act → World → Prop} {kv : K → Value} {cells : D → List Value} {kt e : TypeId} {sz mb : Nat} {l : List (K × D)} {Hm : Hp} (hK : KeyT P kt kv) (hm : dn_ kv cells e sz l mb Hm) (hH : H.Perm (Hm ++ F))
    (h : ∀ adr, Ok N v0 H0 k fr F (mlF P kt kv cells mb l adr :: Γ)) : Ok N v0 H0 k fr H Γ := by
  obtain ⟨adr, ha⟩ := hm.lent hK
  refine lL_ Hm hH (gB_ (fun v _ hv => ?_) (h adr))
  rw [gh_] at hv
  refine ⟨ha v fun p hp => ?_, hv.2⟩
  have := hv.1
  exact jz_ Hm.reverse (by rw [List.map_reverse] at *; exact this) p (List.mem_reverse.2 hp)
theorem fc_ {tF : TypeId} {E : Emt P tF} {nw fm : List Fc} {Hs : Hp} {ty t kt et : TypeId} {x : Operand} (hS : E.St nw fm Hs) (hu : ∀ w, (underlying t).run P w = .ok (.map kt et) w) (hx : Fr.ev fr x = some (.map (some E.kb))) (hp : H.Perm (Hs ++ F)) :
    Yld P N fr H Γ (.call ⟨.builtin .len, #[x], #[t]⟩) ty (.int .i64 ((E.kof nw).length : Int)) := by
  obtain ⟨es, c, g1, g2⟩ := E.known hS
  exact iT_ g2 hu hx fun v h _ => jl_ hp g1 h
end
def lU_ (x : Ix) (n : Nat) : Prop := x.above.length ≤ n ∧ x.under.length ≤ n ∧ x.frm.length ≤ n ∧ x.into.length ≤ n ∧ x.ranges.length ≤ n ∧ x.firms.length ≤ n
theorem lT_ : lU_ Ix.nil 0 := by simp [lU_, Ix.nil]
theorem gE_ {x : Ix} {n : Nat} (h : lU_ x n) (b : Bool) (f : Fc) : lU_ (x.add b f) (n + 1) := by
  obtain ⟨h1, h2, h3, h4, h5, h6⟩ := h
  unfold Ix.add lU_
  split
  · simp; omega
  · split
    · simp; omega
    · split
      · cases b <;> simp <;> omega
      · omega
theorem hG_ {x : Ix} {n : Nat} (h : lU_ x n) (hn : n ≤ 1000000000) : (∀ k, (lat x.above k).length ≤ 1000000000 ∧ (lat x.under k).length ≤ 1000000000) ∧ (∀ k, (lat x.frm k).length ≤ 1000000000 ∧ (lat x.into k).length ≤ 1000000000 ∧ (lat x.ranges k).length ≤ 1000000000 ∧ (lat x.firms k).length ≤ 1000000000) := by
  obtain ⟨h1, h2, h3, h4, h5, h6⟩ := h
  refine ⟨fun k => ⟨?_, ?_⟩, fun k => ⟨?_, ?_, ?_, ?_⟩⟩
  · have := eW_ x.above k; omega
  · have := eW_ x.under k; omega
  · have := eW_ x.frm k; omega
  · have := eW_ x.into k; omega
  · have := eW_ x.ranges k; omega
  · have := eW_ x.firms k; omega
theorem nj_ (B : EngB) (E : Emt Tryz.prog 41) (A0 : EngA) (pm : List (Ky × Pc)) (x : Ix) (f : Fc) (nw fm : List Fc) (Hs : Hp) (hS : E.St nw fm Hs) (Ha Hu Ho Hi Hr Hm : Hp) (hI : IxO 9 41 B x ⟨Ha, Hu, Ho, Hi, Hr, Hm⟩) (hpl : ∀ k, (lat pm k).length ≤ 1000000000) (hxl : ∀ k, (lat x.above k).length ≤ 1000000000 ∧ (lat x.under k).length ≤ 1000000000) (hyl : ∀ k, (lat x.frm k).length ≤ 1000000000 ∧ (lat x.into k).length ≤ 1000000000 ∧ (lat x.ranges k).length ≤ 1000000000 ∧ (lat x.firms k).length ≤ 1000000000) (hf : f.kind = 3 → -1099511627776 ≤ f.lo ∧ f.lo ≤ f.hi ∧ f.hi ≤ 1099511627776) (hq : f.kind = 3 → ∀ y ∈ lat pm (Ky.mk 9 (Fc.r f) []), -1099511627776 ≤ y.lo ∧ y.lo ≤ y.hi ∧ y.hi ≤ 1099511627776) (hk : f.kind = 1) : ∀ (j : Nat) {fv : Value}, (rlV B.g 1)[j]? = some fv → ∃ n : Nat, fv = .func (.func n) #[zp_ B.g 0] #[] ∧ Tri Tryz.prog n #[zp_ B.g 0, f.val] ((Ha ++ (Hu ++ (Ho ++ (Hi ++ (Hr ++ Hm))))) ++ Hs) [gF B E, pF B pm A0, E.ef] (fun _ : {H' : Hp // E.St (rl E.stp E.kof pm x f j (nw, fm)).1 (rl E.stp E.kof pm x f j (nw, fm)).2 H'} => .tuple #[]) (fun y => (Ha ++ (Hu ++ (Ho ++ (Hi ++ (Hr ++ Hm))))) ++ y.1) (fun _ => [])
  | 0, _, h => ⟨100, (Option.some.inj h).symm, rl10_c B E A0 pm x f nw fm Hs hS Ha Hu Ho Hi Hr Hm hI hpl hxl hyl hf hq hk⟩
  | 1, _, h => ⟨101, (Option.some.inj h).symm, rl11_c B E A0 pm x f nw fm Hs hS Ha Hu Ho Hi Hr Hm hI hpl hxl hyl hf hq hk⟩
  | 2, _, h => ⟨102, (Option.some.inj h).symm, rl12_c B E A0 pm x f nw fm Hs hS Ha Hu Ho Hi Hr Hm hI hpl hxl hyl hf hq hk⟩
  | 3, _, h => ⟨103, (Option.some.inj h).symm, rl13_c B E A0 pm x f nw fm Hs hS Ha Hu Ho Hi Hr Hm hI hpl hxl hyl hf hq hk⟩
  | 4, _, h => ⟨104, (Option.some.inj h).symm, rl14_c B E A0 pm x f nw fm Hs hS Ha Hu Ho Hi Hr Hm hI hpl hxl hyl hf hq hk⟩
  | 5, _, h => ⟨105, (Option.some.inj h).symm, rl15_c B E A0 pm x f nw fm Hs hS Ha Hu Ho Hi Hr Hm hI hpl hxl hyl hf hq hk⟩
  | j + 6, _, h => by simp [rlV] at h
theorem ni_ (B : EngB) (E : Emt Tryz.prog 41) (A0 : EngA) (pm : List (Ky × Pc)) (x : Ix) (f : Fc) (nw fm : List Fc) (Hs : Hp) (hS : E.St nw fm Hs) (Ha Hu Ho Hi Hr Hm : Hp) (hI : IxO 9 41 B x ⟨Ha, Hu, Ho, Hi, Hr, Hm⟩) (hpl : ∀ k, (lat pm k).length ≤ 1000000000) (hxl : ∀ k, (lat x.above k).length ≤ 1000000000 ∧ (lat x.under k).length ≤ 1000000000) (hyl : ∀ k, (lat x.frm k).length ≤ 1000000000 ∧ (lat x.into k).length ≤ 1000000000 ∧ (lat x.ranges k).length ≤ 1000000000 ∧ (lat x.firms k).length ≤ 1000000000) (hf : f.kind = 3 → -1099511627776 ≤ f.lo ∧ f.lo ≤ f.hi ∧ f.hi ≤ 1099511627776) (hq : f.kind = 3 → ∀ y ∈ lat pm (Ky.mk 9 (Fc.r f) []), -1099511627776 ≤ y.lo ∧ y.lo ≤ y.hi ∧ y.hi ≤ 1099511627776) (hk : f.kind = 2) : ∀ (j : Nat) {fv : Value}, (rlV B.g 2)[j]? = some fv → ∃ n : Nat, fv = .func (.func n) #[zp_ B.g 0] #[] ∧ Tri Tryz.prog n #[zp_ B.g 0, f.val] ((Ha ++ (Hu ++ (Ho ++ (Hi ++ (Hr ++ Hm))))) ++ Hs) [gF B E, pF B pm A0, E.ef] (fun _ : {H' : Hp // E.St (rl E.stp E.kof pm x f j (nw, fm)).1 (rl E.stp E.kof pm x f j (nw, fm)).2 H'} => .tuple #[]) (fun y => (Ha ++ (Hu ++ (Ho ++ (Hi ++ (Hr ++ Hm))))) ++ y.1) (fun _ => [])
  | 0, _, h => ⟨106, (Option.some.inj h).symm, rl20_c B E A0 pm x f nw fm Hs hS Ha Hu Ho Hi Hr Hm hI hpl hxl hyl hf hq hk⟩
  | 1, _, h => ⟨107, (Option.some.inj h).symm, rl21_c B E A0 pm x f nw fm Hs hS Ha Hu Ho Hi Hr Hm hI hpl hxl hyl hf hq hk⟩
  | 2, _, h => ⟨108, (Option.some.inj h).symm, rl22_c B E A0 pm x f nw fm Hs hS Ha Hu Ho Hi Hr Hm hI hpl hxl hyl hf hq hk⟩
  | 3, _, h => ⟨109, (Option.some.inj h).symm, rl23_c B E A0 pm x f nw fm Hs hS Ha Hu Ho Hi Hr Hm hI hpl hxl hyl hf hq hk⟩
  | j + 4, _, h => by simp [rlV] at h
theorem nh_ (B : EngB) (E : Emt Tryz.prog 41) (A0 : EngA) (pm : List (Ky × Pc)) (x : Ix) (f : Fc) (nw fm : List Fc) (Hs : Hp) (hS : E.St nw fm Hs) (Ha Hu Ho Hi Hr Hm : Hp) (hI : IxO 9 41 B x ⟨Ha, Hu, Ho, Hi, Hr, Hm⟩) (hpl : ∀ k, (lat pm k).length ≤ 1000000000) (hxl : ∀ k, (lat x.above k).length ≤ 1000000000 ∧ (lat x.under k).length ≤ 1000000000) (hyl : ∀ k, (lat x.frm k).length ≤ 1000000000 ∧ (lat x.into k).length ≤ 1000000000 ∧ (lat x.ranges k).length ≤ 1000000000 ∧ (lat x.firms k).length ≤ 1000000000) (hf : f.kind = 3 → -1099511627776 ≤ f.lo ∧ f.lo ≤ f.hi ∧ f.hi ≤ 1099511627776) (hq : f.kind = 3 → ∀ y ∈ lat pm (Ky.mk 9 (Fc.r f) []), -1099511627776 ≤ y.lo ∧ y.lo ≤ y.hi ∧ y.hi ≤ 1099511627776) (hk : f.kind = 3) : ∀ (j : Nat) {fv : Value}, (rlV B.g 3)[j]? = some fv → ∃ n : Nat, fv = .func (.func n) #[zp_ B.g 0] #[] ∧ Tri Tryz.prog n #[zp_ B.g 0, f.val] ((Ha ++ (Hu ++ (Ho ++ (Hi ++ (Hr ++ Hm))))) ++ Hs) [gF B E, pF B pm A0, E.ef] (fun _ : {H' : Hp // E.St (rl E.stp E.kof pm x f j (nw, fm)).1 (rl E.stp E.kof pm x f j (nw, fm)).2 H'} => .tuple #[]) (fun y => (Ha ++ (Hu ++ (Ho ++ (Hi ++ (Hr ++ Hm))))) ++ y.1) (fun _ => [])
  | 0, _, h => ⟨110, (Option.some.inj h).symm, rl30_c B E A0 pm x f nw fm Hs hS Ha Hu Ho Hi Hr Hm hI hpl hxl hyl hf hq hk⟩
  | 1, _, h => ⟨111, (Option.some.inj h).symm, rl31_c B E A0 pm x f nw fm Hs hS Ha Hu Ho Hi Hr Hm hI hpl hxl hyl hf hq hk⟩
  | j + 2, _, h => by simp [rlV] at h
def dF_ (p : List Pc) (bu : Int) (c : Cl) (e : Int) : Prop :=
  if bM_ p ≠ 0 then c = Cl.no ∧ e = bM_ p
  else if bu < 0 ∨ 1073741824 < bu then c = Cl.no ∧ e = 1
  else (e = 0 ∧ c.ok ∧ c.atoms = atS p ∧ dp_ p (atS p) (min bu 65536).toNat (some c.facts)) ∨ (c = Cl.no ∧ e = (if bu < 65536 then 3 else 2) ∧ dp_ p (atS p) (min bu 65536).toNat none)
theorem mn_ {p : List Pc} {bu : Int} (h : bM_ p ≠ 0) : dF_ p bu Cl.no (bM_ p) := by unfold dF_; rw [if_pos h]; exact ⟨rfl, rfl⟩
theorem hV_ {p : List Pc} {bu : Int} (h : bM_ p = 0) (hb : bu < 0 ∨ 1073741824 < bu) : dF_ p bu Cl.no 1 := by unfold dF_; rw [if_neg (by simp [h]), if_pos hb]; exact ⟨rfl, rfl⟩
theorem re_ {p : List Pc} {bu : Int} {m n : Nat} {c : Cl} {q fm : List Fc} {x : Ix} (hc : bM_ p = 0) (h1 : ¬ bu < 0) (h2 : ¬ 1073741824 < bu) (hm : min bu 65536 = (m : Int)) (hk : c.ok) (ha : c.atoms = atS p) (hL : LoopA (uniq [] p) (atS p) m n q fm x) (hn : q.length ≤ n) (hl : q.length ≤ m) (hf : c.facts = fj_ q) : dF_ p bu c 0 := by
  unfold dF_
  rw [if_neg (by simp [hc]), if_neg (by omega)]
  have e : n = q.length := Nat.le_antisymm hL.le hn
  subst e
  refine .inl ⟨rfl, hk, ha, ?_⟩
  rw [hm, hf]
  exact ⟨hy_ hL.nd, fun y => by rw [hz_, ← mH_ hL hl, ll_], by rw [fB_]; simpa using hl⟩
theorem em_ {p : List Pc} {bu : Int} {m : Nat} {e : Int} {M : List Fc} (hc : bM_ p = 0) (h1 : ¬ bu < 0) (h2 : ¬ 1073741824 < bu) (hm : min bu 65536 = (m : Int)) (he : e = if bu < 65536 then 3 else 2) (nd : M.Nodup) (hd : ∀ y ∈ M, Der (uniq [] p) (atS p) y) (hl : m < M.length) : dF_ p bu Cl.no e := by
  unfold dF_
  rw [if_neg (by simp [hc]), if_neg (by omega)]
  exact .inr ⟨rfl, he, M, nd, fun y hy => ll_.1 (hd y hy), by rw [hm]; simpa using hl⟩
end Go.Proofs.YtpdbbglpbngeiaaGreatDoor
namespace Go.Proofs.YtpdbbglpbngeiaaGreatDoor
open Go Go.Sx Go.Proofs
attribute [local irreducible] Code.wp wpList wpAnyH
open Go.Vs
set_option maxHeartbeats 4000000 in
theorem mm_ (p : List Pc) (pad : Option Addr) (pcap : Nat) (bu : Int) (hsm : ∀ x ∈ p, x.sm) (hp : p.length ≤ 100000000) : Tri Tryz.prog 18 #[.slice pad (List.length p) pcap, .int .i64 bu] [] [aD_ pad (List.flatMap Pc.cells p), hc_] (fun y : {y : Cl × Int // dF_ p bu y.1 y.2} => .tuple #[y.1.1.val, .int .i64 y.1.2]) (fun _ => []) (fun y => y.1.1.row) := by
 refine S_ Tryz.func18 rfl rfl Tryz.ntmps18 rfl fun v0 => ?_
 refine h_ (d_ (ar_ cn_ rfl fun b1 => ?_))
 refine a_ (g_ rfl) rfl (e_ (b_ rfl (nS_ (h_ (h_ (d_ (a_ (f_ rfl) rfl (W_ (nG_ p pad pcap (by omega) hsm) rfl J_ (fun v _ h => by exact ⟨h.1, h.2.1, trivial⟩) rfl fun _ => ?_))))))))
 refine a_ (g_ rfl) rfl (e_ (b_ rfl (h_ (d_ (a_ (f_ rfl) rfl (y_ (cz_ rfl rfl) rfl fun r1 hr1 => ?_))))))
 refine e_ (b_ rfl ?_)
 cases r1
 ·
  replace hr1 := br_ hr1
  have hchk := hr1
  refine v_ rfl (E_ (b_ rfl (h_ (h_ (d_ (a_ (f_ rfl) rfl (y_ (ay_ rfl rfl) rfl fun r2 hr2 => ?_)))))))
  refine a_ (f_ rfl) rfl ?_
  cases r2
  ·
   replace hr2 := of_decide_eq_false hr2
   have hb0 := hr2
   refine r_ rfl rfl (a_ (f_ rfl) rfl (r_ rfl rfl (y_ (cg_ rfl rfl) rfl fun r3 hr3 => ?_)))
   refine a_ (C_ rfl rfl) rfl (e_ (b_ rfl ?_))
   cases r3
   ·
    replace hr3 := of_decide_eq_false hr3
    have hb1 := hr3
    refine v_ rfl (E_ (b_ rfl (h_ ?_)))
    obtain ⟨m, hm0'⟩ : ∃ m : Nat, min bu 65536 = (m : Int) := ⟨(min bu 65536).toNat, by omega⟩
    have hm : m ≤ 65536 := by omega
    have hvk := lj_ (fP_ hchk)
    have hpl : ∀ k, (lat (aS_ (uniq [] p)) k).length ≤ 1000000000 := fun k => by have h1 := eW_ (aS_ (uniq [] p)) k; have h2 := hD_ (uniq [] p); have h3 := fA_ p []; simp only [List.length_nil] at h3; omega
    refine d_ (a_ (f_ rfl) rfl (W_ (iA_ p pad pcap (by omega)) rfl J_ (fun v _ h => by exact ⟨h.1, trivial⟩) rfl fun ⟨⟨g, pb, kb, ab, ub, ob, ib, rb, sb, fb, lv, hm0, hl0⟩, hy⟩ => ?_))
    dsimp only
    dsimp only [NewE.own, NewE.ok] at hy ⊢
    obtain ⟨hym, hyl⟩ := hy
    simp only [List.cons_append, List.append_assoc]
    refine bF_ hyl (c_ (c_ (c_ (c_ (c_ (c_ (c_ (c_ (c_ (q_ w_)))))))))) fun lad lcap hlad hclad hmlad hzlad => ?_
    subst hlad
    refine ar_ Tryz.zeroValue85 rfl fun b2 => ?_
    refine am_ (bc_ i_ (bc_ i_ (bc_ i_ (bc_ i_ (bc_ i_ (bc_ i_ (bc_ i_ (bc_ i_ (bc_ i_ (bc_ i_ (cl_ ba_))))))))))) (V_ 0 Tryz.sizeOf85 rfl rfl rfl rfl rfl rfl (e_ (b_ rfl (h_ (d_ (a_ (f_ rfl) rfl (a_ (bx_ (gs_ rfl rfl) (congrArg (Value.int .i64) hm0')) rfl (ar_ Tryz.zeroValue3 rfl fun b3 => ?_))))))))
    refine V_ 0 K_ rfl rfl rfl rfl rfl rfl (e_ (b_ rfl (h_ (d_ (ar_ lf_ rfl fun b4 => ?_)))))
    refine e_ (b_ rfl (h_ (d_ (a_ (s_ 2 bB_ rfl rfl rfl) rfl (a_ (cO_ rfl rfl) rfl (a_ (ao_ rfl) rfl (a_ (n_ I_ rfl rfl rfl aT_) rfl (V_ 3 aT_ rfl rfl rfl rfl rfl rfl (e_ ?_)))))))))
    refine b_ rfl (h_ (eV_ (cL_ b2 (.cells #[zp_ g 0] 85 (0, 0))) (cl_ (c_ (c_ i_))) (fun _ h1 h2 _ => ⟨h1, h2⟩) ?_))
    refine eV_ (cL_ b3 (.cells #[.int .i64 (m : Int)] 3 (0, 0))) (cl_ (c_ i_)) (fun _ h1 h2 _ => ⟨h1, h2⟩) ?_
    refine eV_ (cL_ g (.cells #[.map (some pb), .slice lad (List.length (an_ (uniq [] p))) lcap, .map (some kb), .func (.func 55) #[] #[zp_ b2 0, zp_ b3 0, zp_ b4 0], .map (some ab), .map (some ub), .map (some ob), .map (some ib), .map (some rb), .map (some sb), .map (some fb)] 94 (0, 0))) (cl_ (c_ i_)) (fun _ h1 h2 _ => ⟨h1, h2⟩) ?_
    refine lK_ fI_ hym (c_ (c_ (c_ (c_ (c_ (c_ (c_ (c_ (c_ Q_))))))))) fun adr => ?_
    refine d_ (a_ (f_ rfl) rfl (W_ (rr_ p pad pcap (by omega)) rfl J_ (fun v _ h => by exact ⟨h.2.2.2.2.2.1, trivial⟩) rfl fun ⟨⟨aad, acap⟩, hac, ham, haz⟩ => ?_))
    dsimp only
    refine a_ (g_ rfl) rfl (e_ (b_ rfl (h_ (d_ (a_ (ah_ bB_ rfl (fun v _ h => by exact h.2.2.2.2.1) rfl) rfl (a_ (f_ rfl) rfl (W_ (nI_ (EngB.mk g pb ab ub ob ib rb sb lad lcap (an_ (uniq [] p))) (EA m hm (EngB.mk g pb ab ub ob ib rb sb lad lcap (an_ (uniq [] p))) b2 b3 b4 kb fb) [] [] [(b4, .cells #[.slice none 0 0] 26 (0, 0)), (kb, .map #[] 0), (fb, .map #[] 0)] ⟨.slice none 0 0, #[], 0, #[], 0, [], [], rfl, aR_.nil _ _, SetE.nil, SetE.nil, by simp⟩ (atS p) aad acap (by have := hR_ p; omega) (by have := gD_ (uniq [] p); have h3 := fA_ p []; simp only [List.length_nil] at h3; show (an_ (uniq [] p)).length ≤ _; omega)) rfl (m_ i_ (m_ i_ (c_ (c_ (c_ (c_ (c_ (c_ i_)))))))) (fun v _ h => by exact ⟨h.2.2.1, h.2.2.2.2.2.1, h.1, ⟨h.2.2.2.2.1, h.2.2.2.1, h.2.2.1⟩, trivial⟩) rfl fun ⟨Hs1, hS1⟩ => ?_)))))))
    dsimp only
    refine e_ (b_ rfl (am_ (bc_ (q_ i_) (bc_ (q_ i_) (bc_ (q_ i_) (bc_ (q_ i_) (bc_ (q_ i_) (bc_ (q_ i_) (cl_ ba_))))))) (h_ (d_ (a_ (ah_ bB_ rfl (fun v _ h => by exact h.2.2.2.2.1) rfl) rfl (W_ (ng_ g) rfl J_ (fun _ _ _ => by exact trivial) rfl fun ⟨r1, r2, r3⟩ => ?_))))))
    dsimp only
    refine ar_ Tryz.zeroValue98 rfl fun b5 => ?_
    refine V_ 0 Tryz.sizeOf98 rfl rfl rfl rfl rfl rfl (e_ (b_ rfl (h_ (nT_ (b_ rfl (h_ (h_ (d_ (a_ (g_ rfl) rfl ?_)))))))))
    refine e_ (b_ rfl (P_ ?_))
    refine aE_ (ι := {y : Nat × List Fc × List Fc × Ix × Hp × Hp × Hp × Hp × Hp × Hp × Hp // LoopA (uniq [] p) (atS p) m y.1 y.2.1 y.2.2.1 y.2.2.2.1 ∧ ((EA m hm (EngB.mk g pb ab ub ob ib rb sb lad lcap (an_ (uniq [] p))) b2 b3 b4 kb fb)).St y.2.1 y.2.2.1 y.2.2.2.2.2.2.2.2.2.2 ∧ IxO 9 41 (EngB.mk g pb ab ub ob ib rb sb lad lcap (an_ (uniq [] p))) y.2.2.2.1 ⟨y.2.2.2.2.1, y.2.2.2.2.2.1, y.2.2.2.2.2.2.1, y.2.2.2.2.2.2.2.1, y.2.2.2.2.2.2.2.2.1, y.2.2.2.2.2.2.2.2.2.1⟩ ∧ lU_ y.2.2.2.1 y.1}) (fun y => [(0, .slice pad (List.length p) pcap), (1, .int .i64 bu), (4, zp_ b1 0), (7, zp_ b2 0), (8, zp_ b3 0), (9, zp_ b4 0), (10, .slice aad (List.length (atS p)) acap), (11, zp_ b5 0), (12, .int .i64 (y.1.1 : Int))]) (fun y => ((b1, .cells #[.slice none 0 0, .slice none 0 0] 28 (0, 0)) :: ((b5, .cells #[.slice none 0 0, .slice (some ⟨r1, 0, none⟩) 6 6, .slice (some ⟨r2, 0, none⟩) 4 4, .slice (some ⟨r3, 0, none⟩) 2 2] 98 (0, 0)) :: (y.1.2.2.2.2.1 ++ (y.1.2.2.2.2.2.1 ++ (y.1.2.2.2.2.2.2.1 ++ (y.1.2.2.2.2.2.2.2.1 ++ (y.1.2.2.2.2.2.2.2.2.1 ++ (y.1.2.2.2.2.2.2.2.2.2.1 ++ y.1.2.2.2.2.2.2.2.2.2.2))))))))) (fun y => [aD_ (some ⟨r1, 0, none⟩) (List.flatMap fvC (rlV g 1)), aD_ (some ⟨r2, 0, none⟩) (List.flatMap fvC (rlV g 2)), aD_ (some ⟨r3, 0, none⟩) (List.flatMap fvC (rlV g 3)), aD_ aad (List.flatMap aJ_ (atS p)), mlF Tryz.prog 171 Ky.val Pc.cells pb (aS_ (uniq [] p)) adr, cL_ g (.cells #[.map (some pb), .slice lad (List.length (an_ (uniq [] p))) lcap, .map (some kb), .func (.func 55) #[] #[zp_ b2 0, zp_ b3 0, zp_ b4 0], .map (some ab), .map (some ub), .map (some ob), .map (some ib), .map (some rb), .map (some sb), .map (some fb)] 94 (0, 0)), cL_ b3 (.cells #[.int .i64 (m : Int)] 3 (0, 0)), cL_ b2 (.cells #[zp_ g 0] 85 (0, 0)), aD_ lad (List.flatMap aJ_ (an_ (uniq [] p))), aD_ pad (List.flatMap Pc.cells p), hc_]) (fun y => m + 1 - y.1.1) ⟨((0 : Nat), (emits (bG_ m) (dP_ (an_ (uniq [] p)) (atS p)) []), ([] : List Fc), Ix.nil, [(ab, .map #[] 0)], [(ub, .map #[] 0)], [(ob, .map #[] 0)], [(ib, .map #[] 0)], [(rb, .map #[] 0)], [(sb, .map #[] 0)], Hs1), lR_ hvk rfl, by exact hS1, ⟨dn_.nil _ _, dn_.nil _ _, dn_.nil _ _, dn_.nil _ _, dn_.nil _ _, dn_.nil _ _⟩, lT_⟩ ⟨rfl, rfl, rfl, rfl, rfl, rfl, rfl, rfl, rfl, trivial⟩ (m_ (c_ (c_ (c_ (c_ (c_ (c_ (c_ i_))))))) (m_ i_ (m_ i_ (m_ i_ (m_ i_ (m_ i_ (m_ i_ (m_ i_ aA_)))))))) (fun _ _ h => h) ?_
    rintro ⟨⟨n, q, fm, x, Ha, Hu, Ho, Hi, Hr, Hm, Hs⟩, hL, hS, hI, hz⟩
    dsimp only at hL hS hI hz ⊢
    obtain ⟨sv1, es1, ce1, ef1, cf1, qf1, Hq1, hHs1, hrQ1, hEk1, hEf1, hqf1⟩ := hS
    subst hHs1
    have hqm := hL.len
    have hnq := hL.le
    obtain ⟨hxl, hyl⟩ := hG_ hz (by omega)
    refine h_ (am_ (bc_ i_ (bc_ i_ (bc_ (q_ (q_ (q_ (q_ (q_ (q_ i_)))))) (cl_ (q_ (q_ (q_ (q_ (q_ (q_ i_)))))))))) (h_ (d_ (a_ (f_ rfl) rfl (a_ (s_ 2 bC_ rfl rfl rfl) rfl (a_ (mq_ hrQ1 G_ rfl) rfl (y_ (ay_ rfl rfl) rfl fun r4 hr4 => ?_)))))))
    refine e_ (b_ rfl ?_)
    cases r4
    ·
     replace hr4 := of_decide_eq_false hr4
     refine v_ rfl (aw_ rfl (b_ rfl (h_ (h_ ?_))))
     refine aC_ (by kernel_rfl) ?_
     refine ad_ 0 [0, 1, 2, 3, 4, 5, 6] (by kernel_rfl) (fun _ a b => ⟨a, b⟩) (o_ rfl (ah_ bB_ rfl (fun v _ h => by exact h.2.2.2.2.2.2.2.1) rfl) rfl (o_ rfl (ao_ rfl) rfl (o_ rfl (n_ I_ rfl rfl rfl bA_) rfl (o_ rfl (ah_ bI_ rfl (fun v _ h => by exact h.2.2.2.2.2.1) rfl) rfl (o_ rfl (bx_ (fc_ (E := (EA m hm (EngB.mk g pb ab ub ob ib rb sb lad lcap (an_ (uniq [] p))) b2 b3 b4 kb fb)) (nw := q) (Hs := ((b4, .cells #[sv1] 26 (0, 0)) :: (kb, .map es1 ce1) :: ([(fb, .map ef1 cf1)] ++ Hq1))) ⟨sv1, es1, ce1, ef1, cf1, qf1, Hq1, rfl, hrQ1, hEk1, hEf1, hqf1⟩ aU_ rfl (m_ (c_ (c_ i_)) (m_ (c_ (c_ i_)) (B_ (c_ (c_ (q_ (q_ (q_ (q_ (q_ (q_ w_)))))))) (c_ (c_ (q_ (q_ (q_ (q_ (q_ ba_))))))))))) (show _ = Value.int .i64 (List.length q : Int) from rfl)) rfl (o_ rfl (ah_ L_ rfl (fun v _ h => by exact h.2.2.2.2.2.2.1) rfl) rfl ?_))))))
     refine bT_ rfl (cg_ rfl rfl) rfl fun r5 hr5 => ?_
     refine ac_ (aa_ (by kernel_rfl) (b_ rfl ?_))
     cases r5
     ·
      replace hr5 := of_decide_eq_false hr5
      refine v_ rfl (E_ (b_ rfl (h_ (d_ (a_ (s_ 2 bC_ rfl rfl rfl) rfl (W_ (ne_ hrQ1 (by omega)) rfl (c_ (c_ (c_ (c_ (q_ (q_ (q_ (q_ (q_ (q_ ba_)))))))))) (fun _ _ _ => by exact trivial) rfl fun ⟨Hq9, hq9⟩ => ?_))))))
      dsimp only
      refine e_ (b_ rfl (am_ (bc_ (q_ i_) (bc_ (q_ i_) (bc_ (q_ i_) (cl_ (q_ i_))))) (h_ (bF_ hq9 (c_ (c_ (c_ (c_ w_)))) fun fad fcap hfad hcfad hmfad hzfad => ?_))))
      subst hfad
      refine d_ (a_ (f_ rfl) rfl (a_ (s_ 2 bC_ rfl rfl rfl) rfl (a_ (aI_ eo_ rfl rfl) rfl (V_ 0 ak_ rfl rfl rfl rfl rfl rfl (a_ (g_ rfl) rfl (e_ (b_ rfl (H_ ?_))))))))
      exact eI_ ⟨((Cl.mk (atS p) aad acap (fj_ q) fad fcap), 0), re_ hchk hb0 hb1 hm0' ⟨hac, ham, haz, hcfad, hmfad, hzfad⟩ rfl hL (by omega) (by omega) rfl⟩ (fun aa v h1 h2 => dE_ (us := Cl.cells (Cl.mk (atS p) aad acap (fj_ q) fad fcap)) 0 cY_ aX_ ak_ rfl rfl rfl rfl aa v h1 h2) J_ (fun v _ h => by exact ⟨h.2.2.2.2.1, h.1, trivial⟩)
     ·
      replace hr5 := of_decide_eq_true hr5
      refine u_ rfl (h_ (h_ (d_ (a_ (f_ rfl) rfl (y_ (ay_ rfl rfl) rfl fun r6 hr6 => ?_)))))
      refine e_ (b_ rfl ?_)
      cases r6
      ·
       replace hr6 := of_decide_eq_false hr6
       refine v_ rfl (E_ (b_ rfl (h_ (d_ (a_ (aI_ eo_ rfl rfl) rfl (V_ 0 ak_ rfl rfl rfl rfl rfl rfl (a_ (g_ rfl) rfl (e_ (b_ rfl ?_)))))))))
       refine H_ ?_
       exact eI_ ⟨((Cl.mk [] none 0 [] none 0), 2), em_ hchk hb0 hb1 hm0' (by rw [if_neg (by assumption)]) hL.nd hL.der (by omega)⟩ (fun aa v h1 h2 => dE_ (us := Cl.cells (Cl.mk [] none 0 [] none 0)) 0 cY_ aX_ ak_ rfl rfl rfl rfl aa v h1 h2) J_ (fun v _ h => by exact ⟨.inl rfl, .inl rfl, trivial⟩)
      ·
       replace hr6 := of_decide_eq_true hr6
       refine u_ rfl (h_ (d_ (a_ (aI_ eo_ rfl rfl) rfl (V_ 0 ak_ rfl rfl rfl rfl rfl rfl (a_ (g_ rfl) rfl (e_ (b_ rfl (H_ ?_))))))))
       exact eI_ ⟨((Cl.mk [] none 0 [] none 0), 3), em_ hchk hb0 hb1 hm0' (by rw [if_pos (by assumption)]) hL.nd hL.der (by omega)⟩ (fun aa v h1 h2 => dE_ (us := Cl.cells (Cl.mk [] none 0 [] none 0)) 0 cY_ aX_ ak_ rfl rfl rfl rfl aa v h1 h2) J_ (fun v _ h => by exact ⟨.inl rfl, .inl rfl, trivial⟩)
    ·
     replace hr4 := of_decide_eq_true hr4
     have hlf : n < List.length q := by omega
     obtain ⟨f, hf⟩ : ∃ e0, q[n]? = some e0 := ⟨_, List.getElem?_eq_getElem hlf⟩
     have hmf : f ∈ q := List.mem_of_getElem? hf
     have hfd := hL.der f hmf
     have hform := hfd.form hvk
     obtain ⟨hxl1, hyl1⟩ := hG_ (gE_ hz (decide (f ∈ fm)) f) (by omega)
     refine u_ rfl (E_ (b_ rfl (h_ (P_ (h_ (d_ (a_ (s_ 2 bC_ rfl rfl rfl) rfl (a_ (f_ rfl) rfl (a_ (jU_ hrQ1 G_ A_ rfl rfl (by omega) (by omega)) rfl ?_)))))))))
     refine a_ (hX_ hrQ1 (c_ (c_ (c_ (c_ (q_ (q_ (q_ (q_ (q_ (q_ ba_)))))))))) U_ A_ rfl (Fc.cells_len _) (by decide) (ai_ Fc.cells_len hf)) rfl (ar_ ag_ rfl fun b6 => ?_)
     refine V_ 0 A_ rfl rfl rfl rfl rfl rfl (e_ (b_ rfl (h_ (d_ (a_ (ah_ bB_ rfl (fun v _ h => by exact h.2.2.2.2.2.2.2.1) rfl) rfl (a_ (Y_ 0 U_ A_ rfl rfl rfl) rfl (W_ (ny_ (EngB.mk g pb ab ub ob ib rb sb lad lcap (an_ (uniq [] p))) (EA m hm (EngB.mk g pb ab ub ob ib rb sb lad lcap (an_ (uniq [] p))) b2 b3 b4 kb fb) x f q fm ((b4, .cells #[sv1] 26 (0, 0)) :: (kb, .map es1 ce1) :: ([(fb, .map ef1 cf1)] ++ Hq1)) ⟨sv1, es1, ce1, ef1, cf1, qf1, Hq1, rfl, hrQ1, hEk1, hEf1, hqf1⟩ Ha Hu Ho Hi Hr Hm hI hxl hyl) rfl (B_ (c_ (c_ (c_ (c_ (c_ w_))))) (B_ (c_ (c_ (c_ (c_ (c_ w_))))) (B_ (c_ (c_ (c_ (c_ (c_ w_))))) (B_ (c_ (c_ (c_ (c_ (c_ w_))))) (B_ (c_ (c_ (c_ (c_ (c_ w_))))) (B_ (c_ (c_ (c_ (c_ (c_ w_))))) (m_ (c_ (c_ (c_ i_))) (m_ (c_ (c_ (c_ i_))) (B_ (c_ (c_ (c_ w_))) (c_ (c_ Q_))))))))))) (fun v _ h => by exact ⟨h.2.2.2.2.2.1, trivial⟩) rfl fun ⟨⟨Ha1, Hu1, Ho1, Hi1, Hr1, Hm1⟩, hI1⟩ => ?_)))))))
     dsimp only
     refine am_ qx_ (e_ (b_ rfl (am_ (bc_ (q_ (q_ (q_ (q_ (q_ (q_ i_)))))) (bc_ (q_ (q_ (q_ (q_ (q_ (q_ i_)))))) (bc_ (q_ (q_ (q_ (q_ (q_ (q_ (q_ (q_ i_)))))))) (bc_ (q_ (q_ (q_ (q_ (q_ (q_ (q_ (q_ i_)))))))) (cl_ (q_ (q_ (q_ (q_ (q_ (q_ (q_ ba_)))))))))))) (h_ (d_ (a_ (n_ k_ rfl rfl rfl K_) rfl (a_ (s_ 2 L_ rfl rfl rfl) rfl ?_)))))))
     rcases eZ_ hform with hk | hk | hk
     ·
      refine a_ (bx_ (ef_ dW_ hs_ rfl rfl (by omega) (by omega)) (show _ = zp_ b5 1 from by rw [hk]; rfl)) rfl (a_ (s_ 4 mL_ rfl rfl rfl) rfl (a_ (as_ by_ rfl) rfl (a_ (f_ rfl) rfl (e_ (b_ rfl (P_ (eE_ (H' := ((b1, .cells #[.slice none 0 0, .slice none 0 0] 28 (0, 0)) :: ((b5, .cells #[.slice none 0 0, .slice (some ⟨r1, 0, none⟩) 6 6, .slice (some ⟨r2, 0, none⟩) 4 4, .slice (some ⟨r3, 0, none⟩) 2 2] 98 (0, 0)) :: ((b6, .cells (Fc.cells f).toArray 41 (0, 0)) :: (Ha1 ++ (Hu1 ++ (Ho1 ++ (Hi1 ++ (Hr1 ++ (Hm1 ++ ((b4, .cells #[sv1] 26 (0, 0)) :: (kb, .map es1 ce1) :: ([(fb, .map ef1 cf1)] ++ Hq1)))))))))))) (m_ (c_ (c_ (c_ i_))) (m_ (c_ (c_ (c_ i_))) (m_ (c_ (c_ i_)) (B_ (c_ (c_ w_)) (B_ (c_ (c_ w_)) (B_ (c_ (c_ w_)) (B_ (c_ (c_ w_)) (B_ (c_ (c_ w_)) (B_ (c_ (c_ w_)) (m_ i_ (m_ i_ (B_ w_ aA_)))))))))))) (fun v _ h => h) ?_)))))))
      refine aE_ (ι := {y : Nat × Hp // y.1 ≤ 6 ∧ ((EA m hm (EngB.mk g pb ab ub ob ib rb sb lad lcap (an_ (uniq [] p))) b2 b3 b4 kb fb)).St (rls (bG_ m) idk (aS_ (uniq [] p)) (Ix.add x (decide (f ∈ fm)) f) f y.1 (q, fm)).1 (rls (bG_ m) idk (aS_ (uniq [] p)) (Ix.add x (decide (f ∈ fm)) f) f y.1 (q, fm)).2 y.2 ∧ (y.1 = 0 ∨ ((rls (bG_ m) idk (aS_ (uniq [] p)) (Ix.add x (decide (f ∈ fm)) f) f y.1 (q, fm)).1).length ≤ m)}) (fun y => [(0, .slice pad (List.length p) pcap), (1, .int .i64 bu), (4, zp_ b1 0), (7, zp_ b2 0), (8, zp_ b3 0), (9, zp_ b4 0), (10, .slice aad (List.length (atS p)) acap), (11, zp_ b5 0), (12, .int .i64 (n : Int)), (13, zp_ b6 0), (60, .slice (some ⟨r1, 0, none⟩) 6 6), (61, .int .i64 6), (62, .int .i64 (y.1.1 : Int))]) (fun y => ((b1, .cells #[.slice none 0 0, .slice none 0 0] 28 (0, 0)) :: ((b5, .cells #[.slice none 0 0, .slice (some ⟨r1, 0, none⟩) 6 6, .slice (some ⟨r2, 0, none⟩) 4 4, .slice (some ⟨r3, 0, none⟩) 2 2] 98 (0, 0)) :: ((b6, .cells (Fc.cells f).toArray 41 (0, 0)) :: (Ha1 ++ (Hu1 ++ (Ho1 ++ (Hi1 ++ (Hr1 ++ (Hm1 ++ y.1.2)))))))))) (fun y => [aD_ (some ⟨r1, 0, none⟩) (List.flatMap fvC (rlV g 1)), aD_ (some ⟨r2, 0, none⟩) (List.flatMap fvC (rlV g 2)), aD_ (some ⟨r3, 0, none⟩) (List.flatMap fvC (rlV g 3)), aD_ aad (List.flatMap aJ_ (atS p)), mlF Tryz.prog 171 Ky.val Pc.cells pb (aS_ (uniq [] p)) adr, cL_ g (.cells #[.map (some pb), .slice lad (List.length (an_ (uniq [] p))) lcap, .map (some kb), .func (.func 55) #[] #[zp_ b2 0, zp_ b3 0, zp_ b4 0], .map (some ab), .map (some ub), .map (some ob), .map (some ib), .map (some rb), .map (some sb), .map (some fb)] 94 (0, 0)), cL_ b3 (.cells #[.int .i64 (m : Int)] 3 (0, 0)), cL_ b2 (.cells #[zp_ g 0] 85 (0, 0)), aD_ lad (List.flatMap aJ_ (an_ (uniq [] p))), aD_ pad (List.flatMap Pc.cells p), hc_]) (fun y => 6 - y.1.1) ⟨((0 : Nat), ((b4, .cells #[sv1] 26 (0, 0)) :: (kb, .map es1 ce1) :: ([(fb, .map ef1 cf1)] ++ Hq1))), by omega, by exact ⟨sv1, es1, ce1, ef1, cf1, qf1, Hq1, rfl, hrQ1, hEk1, hEf1, hqf1⟩, .inl rfl⟩ ⟨rfl, rfl, rfl, rfl, rfl, rfl, rfl, rfl, rfl, rfl, rfl, rfl, rfl, trivial⟩ (m_ i_ (m_ i_ (m_ i_ (B_ w_ (B_ w_ (B_ w_ (B_ w_ (B_ w_ (B_ w_ aA_))))))))) (fun _ _ h => h) ?_
      rintro ⟨⟨j, Hs⟩, hj, hS2, hjm⟩
      dsimp only at hj hS2 hjm ⊢
      refine h_ (d_ (y_ (ay_ rfl rfl) rfl fun r7 hr7 => ?_))
      refine e_ (b_ rfl (h_ ?_))
      cases r7
      ·
       replace hr7 := of_decide_eq_false hr7
       have ej : j = 6 := by omega
       have hjl : ((rls (bG_ m) idk (aS_ (uniq [] p)) (Ix.add x (decide (f ∈ fm)) f) f j (q, fm)).1).length ≤ m := hjm.resolve_left (by omega)
       rw [ej] at hjl hS2
       refine v_ rfl (aw_ rfl (b_ rfl (d_ (a_ (f_ rfl) rfl (a_ (M_ rfl rfl rfl (al_ (by omega) (by omega))) rfl (a_ (g_ rfl) rfl (e_ (x_ rfl ?_))))))))
       exact Z_ ⟨(n + 1, (rls (bG_ m) idk (aS_ (uniq [] p)) (Ix.add x (decide (f ∈ fm)) f) f 6 (q, fm)).1, (rls (bG_ m) idk (aS_ (uniq [] p)) (Ix.add x (decide (f ∈ fm)) f) f 6 (q, fm)).2, (Ix.add x (decide (f ∈ fm)) f), Ha1, Hu1, Ho1, Hi1, Hr1, Hm1, Hs), (hm_ hvk hL hf (by have e : nrl f = 6 := (by unfold nrl; simp [hk]); rw [e]) (by omega)), (by exact hS2), hI1, (gE_ hz _ f)⟩ (by dsimp only; omega) ⟨rfl, rfl, rfl, rfl, rfl, rfl, rfl, rfl, rfl, trivial⟩ (m_ i_ (m_ i_ (B_ (c_ w_) (B_ (c_ w_) (B_ (c_ w_) (B_ (c_ w_) (B_ (c_ w_) (B_ (c_ w_) Q_)))))))) (fun _ _ h => h)
      ·
       replace hr7 := of_decide_eq_true hr7
       have hlfv : j < List.length (rlV g 1) := by show j < 6; omega
       obtain ⟨fv, hfv⟩ : ∃ e0, (rlV g 1)[j]? = some e0 := ⟨_, List.getElem?_eq_getElem hlfv⟩
       have hmfv : fv ∈ (rlV g 1) := List.mem_of_getElem? hfv
       refine u_ rfl (E_ (b_ rfl (h_ (P_ (h_ (d_ (a_ (ae_ by_ aT_ rfl rfl (fun v _ h => az_ (n := 1) ed_ (by decide) (by exact h.1) hfv) (by omega) (by omega)) rfl (a_ (aH_ (ad := (some ⟨r1, 0, none⟩)) bu_ rfl (fun v _ h => by exact h.1) (ai_ ed_ hfv 0 _ rfl)) rfl (a_ (g_ rfl) rfl ?_)))))))))
       refine e_ (b_ rfl (h_ (d_ (a_ (f_ rfl) rfl (a_ (Y_ 2 U_ A_ rfl rfl rfl) rfl ?_)))))
       obtain ⟨nr, rfl, hT⟩ := nj_ (EngB.mk g pb ab ub ob ib rb sb lad lcap (an_ (uniq [] p))) (EA m hm (EngB.mk g pb ab ub ob ib rb sb lad lcap (an_ (uniq [] p))) b2 b3 b4 kb fb) (EngA.mk adr (fun _ => (none, 0)) (fun _ => (none, 0)) (fun _ => (none, 0)) (fun _ => (none, 0)) (fun _ => (none, 0)) (fun _ => (none, 0))) (aS_ (uniq [] p)) (Ix.add x (decide (f ∈ fm)) f) f (rls (bG_ m) idk (aS_ (uniq [] p)) (Ix.add x (decide (f ∈ fm)) f) f j (q, fm)).1 (rls (bG_ m) idk (aS_ (uniq [] p)) (Ix.add x (decide (f ∈ fm)) f) f j (q, fm)).2 Hs hS2 Ha1 Hu1 Ho1 Hi1 Hr1 Hm1 hI1 hpl hxl1 hyl1 (fun hk => (fi_ hform hk).2.2) (fun _ y hy => (hvk y (pm9.1 hy).1).num (.inr (pm9.1 hy).2.1)) hk j hfv
       refine bb_ (first := [zp_ g 0]) (vs := [Fc.val f]) (cap := []) hT rfl rfl (ie_ (B_ (c_ (c_ (c_ w_))) (B_ (c_ (c_ (c_ w_))) (B_ (c_ (c_ (c_ w_))) (B_ (c_ (c_ (c_ w_))) (B_ (c_ (c_ (c_ w_))) (B_ (c_ (c_ (c_ w_))) (c_ (c_ Q_))))))))) (fun v _ h => by exact ⟨h.2.2.2.2.2.1, h.2.2.2.2.1, ⟨h.2.2.2.2.2.2.2.1, h.2.2.2.2.2.2.1, h.2.2.2.2.2.1⟩, trivial⟩) rfl fun ⟨Hs3, hS3⟩ => ?_
       refine am_ gV_ (e_ (b_ rfl (am_ (bc_ (q_ (q_ (q_ (q_ (q_ (q_ (q_ i_))))))) (bc_ (q_ (q_ (q_ (q_ (q_ (q_ (q_ i_))))))) (cl_ (q_ (q_ (q_ (q_ (q_ (q_ ba_))))))))) (h_ ?_))))
       refine aC_ (by kernel_rfl) ?_
       refine ad_ 0 [0, 1, 2, 3, 4, 5, 6] (by kernel_rfl) (fun _ a b => ⟨a, b⟩) (o_ rfl (ah_ bB_ rfl (fun v _ h => by exact h.2.2.2.2.2.2.2.1) rfl) rfl (o_ rfl (ao_ rfl) rfl (o_ rfl (n_ I_ rfl rfl rfl bA_) rfl (o_ rfl (ah_ bI_ rfl (fun v _ h => by exact h.2.2.2.2.2.1) rfl) rfl (o_ rfl (bx_ (fc_ (E := (EA m hm (EngB.mk g pb ab ub ob ib rb sb lad lcap (an_ (uniq [] p))) b2 b3 b4 kb fb)) (nw := (rls (bG_ m) idk (aS_ (uniq [] p)) (Ix.add x (decide (f ∈ fm)) f) f (j + 1) (q, fm)).1) (Hs := Hs3) hS3 aU_ rfl (c_ (c_ (c_ (q_ (q_ (q_ (q_ (q_ ba_))))))))) (show _ = Value.int .i64 (List.length (rls (bG_ m) idk (aS_ (uniq [] p)) (Ix.add x (decide (f ∈ fm)) f) f (j + 1) (q, fm)).1 : Int) from rfl)) rfl (o_ rfl (ah_ L_ rfl (fun v _ h => by exact h.2.2.2.2.2.2.1) rfl) rfl ?_))))))
       refine bT_ rfl (cg_ rfl rfl) rfl fun r8 hr8 => ?_
       refine ac_ (aa_ (by kernel_rfl) (b_ rfl ?_))
       cases r8
       ·
        replace hr8 := of_decide_eq_false hr8
        refine v_ rfl (E_ (b_ rfl (d_ (a_ (M_ rfl rfl rfl (al_ (by omega) (by omega))) rfl (a_ (f_ rfl) rfl (e_ (x_ rfl ?_)))))))
        exact Z_ ⟨(j + 1, Hs3), hlfv, by exact hS3, .inr (by dsimp only; omega)⟩ (by dsimp only; omega) ⟨rfl, rfl, rfl, rfl, rfl, rfl, rfl, rfl, rfl, rfl, rfl, rfl, rfl, trivial⟩ (m_ i_ (m_ i_ (m_ i_ (B_ w_ (B_ w_ (B_ w_ (B_ w_ (B_ w_ (B_ w_ aA_))))))))) (fun _ _ h => h)
       ·
        replace hr8 := of_decide_eq_true hr8
        refine u_ rfl (aw_ rfl (b_ rfl (h_ (h_ ?_))))
        refine aC_ (by kernel_rfl) ?_
        refine ad_ 0 [0, 1, 2, 3, 4, 5, 6] (by kernel_rfl) (fun _ a b => ⟨a, b⟩) (o_ rfl (ah_ bB_ rfl (fun v _ h => by exact h.2.2.2.2.2.2.2.1) rfl) rfl (o_ rfl (ao_ rfl) rfl (o_ rfl (n_ I_ rfl rfl rfl bA_) rfl (o_ rfl (ah_ bI_ rfl (fun v _ h => by exact h.2.2.2.2.2.1) rfl) rfl (o_ rfl (bx_ (fc_ (E := (EA m hm (EngB.mk g pb ab ub ob ib rb sb lad lcap (an_ (uniq [] p))) b2 b3 b4 kb fb)) (nw := (rls (bG_ m) idk (aS_ (uniq [] p)) (Ix.add x (decide (f ∈ fm)) f) f (j + 1) (q, fm)).1) (Hs := Hs3) hS3 aU_ rfl (c_ (c_ (c_ (q_ (q_ (q_ (q_ (q_ ba_))))))))) (show _ = Value.int .i64 (List.length (rls (bG_ m) idk (aS_ (uniq [] p)) (Ix.add x (decide (f ∈ fm)) f) f (j + 1) (q, fm)).1 : Int) from rfl)) rfl (o_ rfl (ah_ L_ rfl (fun v _ h => by exact h.2.2.2.2.2.2.1) rfl) rfl ?_))))))
        refine bT_ rfl (cg_ rfl rfl) rfl fun r9 hr9 => ?_
        refine ac_ (aa_ (by kernel_rfl) (b_ rfl ?_))
        cases r9
        ·
         replace hr9 := of_decide_eq_false hr9
         omega
        ·
         replace hr9 := of_decide_eq_true hr9
         refine u_ rfl (h_ (h_ (d_ (a_ (f_ rfl) rfl (y_ (ay_ rfl rfl) rfl fun r10 hr10 => ?_)))))
         refine e_ (b_ rfl ?_)
         cases r10
         ·
          replace hr10 := of_decide_eq_false hr10
          refine v_ rfl (E_ (b_ rfl (h_ (d_ (a_ (aI_ eo_ rfl rfl) rfl (V_ 0 ak_ rfl rfl rfl rfl rfl rfl (a_ (g_ rfl) rfl (e_ (b_ rfl ?_)))))))))
          refine H_ ?_
          exact eI_ ⟨((Cl.mk [] none 0 [] none 0), 2), em_ hchk hb0 hb1 hm0' (by rw [if_neg (by assumption)]) (cC_ hvk hL hf (j + 1) rfl).1 (cC_ hvk hL hf (j + 1) rfl).2.2.1 (by omega)⟩ (fun aa v h1 h2 => dE_ (us := Cl.cells (Cl.mk [] none 0 [] none 0)) 0 cY_ aX_ ak_ rfl rfl rfl rfl aa v h1 h2) J_ (fun v _ h => by exact ⟨.inl rfl, .inl rfl, trivial⟩)
         ·
          replace hr10 := of_decide_eq_true hr10
          refine u_ rfl (h_ (d_ (a_ (aI_ eo_ rfl rfl) rfl (V_ 0 ak_ rfl rfl rfl rfl rfl rfl (a_ (g_ rfl) rfl (e_ (b_ rfl (H_ ?_))))))))
          exact eI_ ⟨((Cl.mk [] none 0 [] none 0), 3), em_ hchk hb0 hb1 hm0' (by rw [if_pos (by assumption)]) (cC_ hvk hL hf (j + 1) rfl).1 (cC_ hvk hL hf (j + 1) rfl).2.2.1 (by omega)⟩ (fun aa v h1 h2 => dE_ (us := Cl.cells (Cl.mk [] none 0 [] none 0)) 0 cY_ aX_ ak_ rfl rfl rfl rfl aa v h1 h2) J_ (fun v _ h => by exact ⟨.inl rfl, .inl rfl, trivial⟩)
     ·
      refine a_ (bx_ (ef_ dW_ hs_ rfl rfl (by omega) (by omega)) (show _ = zp_ b5 2 from by rw [hk]; rfl)) rfl (a_ (s_ 4 mL_ rfl rfl rfl) rfl (a_ (as_ by_ rfl) rfl (a_ (f_ rfl) rfl (e_ (b_ rfl (P_ (eE_ (H' := ((b1, .cells #[.slice none 0 0, .slice none 0 0] 28 (0, 0)) :: ((b5, .cells #[.slice none 0 0, .slice (some ⟨r1, 0, none⟩) 6 6, .slice (some ⟨r2, 0, none⟩) 4 4, .slice (some ⟨r3, 0, none⟩) 2 2] 98 (0, 0)) :: ((b6, .cells (Fc.cells f).toArray 41 (0, 0)) :: (Ha1 ++ (Hu1 ++ (Ho1 ++ (Hi1 ++ (Hr1 ++ (Hm1 ++ ((b4, .cells #[sv1] 26 (0, 0)) :: (kb, .map es1 ce1) :: ([(fb, .map ef1 cf1)] ++ Hq1)))))))))))) (m_ (c_ (c_ (c_ i_))) (m_ (c_ (c_ (c_ i_))) (m_ (c_ (c_ i_)) (B_ (c_ (c_ w_)) (B_ (c_ (c_ w_)) (B_ (c_ (c_ w_)) (B_ (c_ (c_ w_)) (B_ (c_ (c_ w_)) (B_ (c_ (c_ w_)) (m_ i_ (m_ i_ (B_ w_ aA_)))))))))))) (fun v _ h => h) ?_)))))))
      refine aE_ (ι := {y : Nat × Hp // y.1 ≤ 4 ∧ ((EA m hm (EngB.mk g pb ab ub ob ib rb sb lad lcap (an_ (uniq [] p))) b2 b3 b4 kb fb)).St (rls (bG_ m) idk (aS_ (uniq [] p)) (Ix.add x (decide (f ∈ fm)) f) f y.1 (q, fm)).1 (rls (bG_ m) idk (aS_ (uniq [] p)) (Ix.add x (decide (f ∈ fm)) f) f y.1 (q, fm)).2 y.2 ∧ (y.1 = 0 ∨ ((rls (bG_ m) idk (aS_ (uniq [] p)) (Ix.add x (decide (f ∈ fm)) f) f y.1 (q, fm)).1).length ≤ m)}) (fun y => [(0, .slice pad (List.length p) pcap), (1, .int .i64 bu), (4, zp_ b1 0), (7, zp_ b2 0), (8, zp_ b3 0), (9, zp_ b4 0), (10, .slice aad (List.length (atS p)) acap), (11, zp_ b5 0), (12, .int .i64 (n : Int)), (13, zp_ b6 0), (60, .slice (some ⟨r2, 0, none⟩) 4 4), (61, .int .i64 4), (62, .int .i64 (y.1.1 : Int))]) (fun y => ((b1, .cells #[.slice none 0 0, .slice none 0 0] 28 (0, 0)) :: ((b5, .cells #[.slice none 0 0, .slice (some ⟨r1, 0, none⟩) 6 6, .slice (some ⟨r2, 0, none⟩) 4 4, .slice (some ⟨r3, 0, none⟩) 2 2] 98 (0, 0)) :: ((b6, .cells (Fc.cells f).toArray 41 (0, 0)) :: (Ha1 ++ (Hu1 ++ (Ho1 ++ (Hi1 ++ (Hr1 ++ (Hm1 ++ y.1.2)))))))))) (fun y => [aD_ (some ⟨r1, 0, none⟩) (List.flatMap fvC (rlV g 1)), aD_ (some ⟨r2, 0, none⟩) (List.flatMap fvC (rlV g 2)), aD_ (some ⟨r3, 0, none⟩) (List.flatMap fvC (rlV g 3)), aD_ aad (List.flatMap aJ_ (atS p)), mlF Tryz.prog 171 Ky.val Pc.cells pb (aS_ (uniq [] p)) adr, cL_ g (.cells #[.map (some pb), .slice lad (List.length (an_ (uniq [] p))) lcap, .map (some kb), .func (.func 55) #[] #[zp_ b2 0, zp_ b3 0, zp_ b4 0], .map (some ab), .map (some ub), .map (some ob), .map (some ib), .map (some rb), .map (some sb), .map (some fb)] 94 (0, 0)), cL_ b3 (.cells #[.int .i64 (m : Int)] 3 (0, 0)), cL_ b2 (.cells #[zp_ g 0] 85 (0, 0)), aD_ lad (List.flatMap aJ_ (an_ (uniq [] p))), aD_ pad (List.flatMap Pc.cells p), hc_]) (fun y => 4 - y.1.1) ⟨((0 : Nat), ((b4, .cells #[sv1] 26 (0, 0)) :: (kb, .map es1 ce1) :: ([(fb, .map ef1 cf1)] ++ Hq1))), by omega, by exact ⟨sv1, es1, ce1, ef1, cf1, qf1, Hq1, rfl, hrQ1, hEk1, hEf1, hqf1⟩, .inl rfl⟩ ⟨rfl, rfl, rfl, rfl, rfl, rfl, rfl, rfl, rfl, rfl, rfl, rfl, rfl, trivial⟩ (m_ i_ (m_ i_ (m_ i_ (B_ w_ (B_ w_ (B_ w_ (B_ w_ (B_ w_ (B_ w_ aA_))))))))) (fun _ _ h => h) ?_
      rintro ⟨⟨j, Hs⟩, hj, hS2, hjm⟩
      dsimp only at hj hS2 hjm ⊢
      refine h_ (d_ (y_ (ay_ rfl rfl) rfl fun r11 hr11 => ?_))
      refine e_ (b_ rfl (h_ ?_))
      cases r11
      ·
       replace hr11 := of_decide_eq_false hr11
       have ej : j = 4 := by omega
       have hjl : ((rls (bG_ m) idk (aS_ (uniq [] p)) (Ix.add x (decide (f ∈ fm)) f) f j (q, fm)).1).length ≤ m := hjm.resolve_left (by omega)
       rw [ej] at hjl hS2
       refine v_ rfl (aw_ rfl (b_ rfl (d_ (a_ (f_ rfl) rfl (a_ (M_ rfl rfl rfl (al_ (by omega) (by omega))) rfl (a_ (g_ rfl) rfl (e_ (x_ rfl ?_))))))))
       exact Z_ ⟨(n + 1, (rls (bG_ m) idk (aS_ (uniq [] p)) (Ix.add x (decide (f ∈ fm)) f) f 4 (q, fm)).1, (rls (bG_ m) idk (aS_ (uniq [] p)) (Ix.add x (decide (f ∈ fm)) f) f 4 (q, fm)).2, (Ix.add x (decide (f ∈ fm)) f), Ha1, Hu1, Ho1, Hi1, Hr1, Hm1, Hs), (hm_ hvk hL hf (by have e : nrl f = 4 := (by unfold nrl; simp [hk]); rw [e]) (by omega)), (by exact hS2), hI1, (gE_ hz _ f)⟩ (by dsimp only; omega) ⟨rfl, rfl, rfl, rfl, rfl, rfl, rfl, rfl, rfl, trivial⟩ (m_ i_ (m_ i_ (B_ (c_ w_) (B_ (c_ w_) (B_ (c_ w_) (B_ (c_ w_) (B_ (c_ w_) (B_ (c_ w_) Q_)))))))) (fun _ _ h => h)
      ·
       replace hr11 := of_decide_eq_true hr11
       have hlfv : j < List.length (rlV g 2) := by show j < 4; omega
       obtain ⟨fv, hfv⟩ : ∃ e0, (rlV g 2)[j]? = some e0 := ⟨_, List.getElem?_eq_getElem hlfv⟩
       have hmfv : fv ∈ (rlV g 2) := List.mem_of_getElem? hfv
       refine u_ rfl (E_ (b_ rfl (h_ (P_ (h_ (d_ (a_ (ae_ by_ aT_ rfl rfl (fun v _ h => az_ (n := 1) ed_ (by decide) (by exact h.2.1) hfv) (by omega) (by omega)) rfl (a_ (aH_ (ad := (some ⟨r2, 0, none⟩)) bu_ rfl (fun v _ h => by exact h.2.1) (ai_ ed_ hfv 0 _ rfl)) rfl (a_ (g_ rfl) rfl ?_)))))))))
       refine e_ (b_ rfl (h_ (d_ (a_ (f_ rfl) rfl (a_ (Y_ 2 U_ A_ rfl rfl rfl) rfl ?_)))))
       obtain ⟨nr, rfl, hT⟩ := ni_ (EngB.mk g pb ab ub ob ib rb sb lad lcap (an_ (uniq [] p))) (EA m hm (EngB.mk g pb ab ub ob ib rb sb lad lcap (an_ (uniq [] p))) b2 b3 b4 kb fb) (EngA.mk adr (fun _ => (none, 0)) (fun _ => (none, 0)) (fun _ => (none, 0)) (fun _ => (none, 0)) (fun _ => (none, 0)) (fun _ => (none, 0))) (aS_ (uniq [] p)) (Ix.add x (decide (f ∈ fm)) f) f (rls (bG_ m) idk (aS_ (uniq [] p)) (Ix.add x (decide (f ∈ fm)) f) f j (q, fm)).1 (rls (bG_ m) idk (aS_ (uniq [] p)) (Ix.add x (decide (f ∈ fm)) f) f j (q, fm)).2 Hs hS2 Ha1 Hu1 Ho1 Hi1 Hr1 Hm1 hI1 hpl hxl1 hyl1 (fun hk => (fi_ hform hk).2.2) (fun _ y hy => (hvk y (pm9.1 hy).1).num (.inr (pm9.1 hy).2.1)) hk j hfv
       refine bb_ (first := [zp_ g 0]) (vs := [Fc.val f]) (cap := []) hT rfl rfl (ie_ (B_ (c_ (c_ (c_ w_))) (B_ (c_ (c_ (c_ w_))) (B_ (c_ (c_ (c_ w_))) (B_ (c_ (c_ (c_ w_))) (B_ (c_ (c_ (c_ w_))) (B_ (c_ (c_ (c_ w_))) (c_ (c_ Q_))))))))) (fun v _ h => by exact ⟨h.2.2.2.2.2.1, h.2.2.2.2.1, ⟨h.2.2.2.2.2.2.2.1, h.2.2.2.2.2.2.1, h.2.2.2.2.2.1⟩, trivial⟩) rfl fun ⟨Hs3, hS3⟩ => ?_
       refine am_ gV_ (e_ (b_ rfl (am_ (bc_ (q_ (q_ (q_ (q_ (q_ (q_ (q_ i_))))))) (bc_ (q_ (q_ (q_ (q_ (q_ (q_ (q_ i_))))))) (cl_ (q_ (q_ (q_ (q_ (q_ (q_ ba_))))))))) (h_ ?_))))
       refine aC_ (by kernel_rfl) ?_
       refine ad_ 0 [0, 1, 2, 3, 4, 5, 6] (by kernel_rfl) (fun _ a b => ⟨a, b⟩) (o_ rfl (ah_ bB_ rfl (fun v _ h => by exact h.2.2.2.2.2.2.2.1) rfl) rfl (o_ rfl (ao_ rfl) rfl (o_ rfl (n_ I_ rfl rfl rfl bA_) rfl (o_ rfl (ah_ bI_ rfl (fun v _ h => by exact h.2.2.2.2.2.1) rfl) rfl (o_ rfl (bx_ (fc_ (E := (EA m hm (EngB.mk g pb ab ub ob ib rb sb lad lcap (an_ (uniq [] p))) b2 b3 b4 kb fb)) (nw := (rls (bG_ m) idk (aS_ (uniq [] p)) (Ix.add x (decide (f ∈ fm)) f) f (j + 1) (q, fm)).1) (Hs := Hs3) hS3 aU_ rfl (c_ (c_ (c_ (q_ (q_ (q_ (q_ (q_ ba_))))))))) (show _ = Value.int .i64 (List.length (rls (bG_ m) idk (aS_ (uniq [] p)) (Ix.add x (decide (f ∈ fm)) f) f (j + 1) (q, fm)).1 : Int) from rfl)) rfl (o_ rfl (ah_ L_ rfl (fun v _ h => by exact h.2.2.2.2.2.2.1) rfl) rfl ?_))))))
       refine bT_ rfl (cg_ rfl rfl) rfl fun r12 hr12 => ?_
       refine ac_ (aa_ (by kernel_rfl) (b_ rfl ?_))
       cases r12
       ·
        replace hr12 := of_decide_eq_false hr12
        refine v_ rfl (E_ (b_ rfl (d_ (a_ (M_ rfl rfl rfl (al_ (by omega) (by omega))) rfl (a_ (f_ rfl) rfl (e_ (x_ rfl ?_)))))))
        exact Z_ ⟨(j + 1, Hs3), hlfv, by exact hS3, .inr (by dsimp only; omega)⟩ (by dsimp only; omega) ⟨rfl, rfl, rfl, rfl, rfl, rfl, rfl, rfl, rfl, rfl, rfl, rfl, rfl, trivial⟩ (m_ i_ (m_ i_ (m_ i_ (B_ w_ (B_ w_ (B_ w_ (B_ w_ (B_ w_ (B_ w_ aA_))))))))) (fun _ _ h => h)
       ·
        replace hr12 := of_decide_eq_true hr12
        refine u_ rfl (aw_ rfl (b_ rfl (h_ (h_ ?_))))
        refine aC_ (by kernel_rfl) ?_
        refine ad_ 0 [0, 1, 2, 3, 4, 5, 6] (by kernel_rfl) (fun _ a b => ⟨a, b⟩) (o_ rfl (ah_ bB_ rfl (fun v _ h => by exact h.2.2.2.2.2.2.2.1) rfl) rfl (o_ rfl (ao_ rfl) rfl (o_ rfl (n_ I_ rfl rfl rfl bA_) rfl (o_ rfl (ah_ bI_ rfl (fun v _ h => by exact h.2.2.2.2.2.1) rfl) rfl (o_ rfl (bx_ (fc_ (E := (EA m hm (EngB.mk g pb ab ub ob ib rb sb lad lcap (an_ (uniq [] p))) b2 b3 b4 kb fb)) (nw := (rls (bG_ m) idk (aS_ (uniq [] p)) (Ix.add x (decide (f ∈ fm)) f) f (j + 1) (q, fm)).1) (Hs := Hs3) hS3 aU_ rfl (c_ (c_ (c_ (q_ (q_ (q_ (q_ (q_ ba_))))))))) (show _ = Value.int .i64 (List.length (rls (bG_ m) idk (aS_ (uniq [] p)) (Ix.add x (decide (f ∈ fm)) f) f (j + 1) (q, fm)).1 : Int) from rfl)) rfl (o_ rfl (ah_ L_ rfl (fun v _ h => by exact h.2.2.2.2.2.2.1) rfl) rfl ?_))))))
        refine bT_ rfl (cg_ rfl rfl) rfl fun r13 hr13 => ?_
        refine ac_ (aa_ (by kernel_rfl) (b_ rfl ?_))
        cases r13
        ·
         replace hr13 := of_decide_eq_false hr13
         omega
        ·
         replace hr13 := of_decide_eq_true hr13
         refine u_ rfl (h_ (h_ (d_ (a_ (f_ rfl) rfl (y_ (ay_ rfl rfl) rfl fun r14 hr14 => ?_)))))
         refine e_ (b_ rfl ?_)
         cases r14
         ·
          replace hr14 := of_decide_eq_false hr14
          refine v_ rfl (E_ (b_ rfl (h_ (d_ (a_ (aI_ eo_ rfl rfl) rfl (V_ 0 ak_ rfl rfl rfl rfl rfl rfl (a_ (g_ rfl) rfl (e_ (b_ rfl ?_)))))))))
          refine H_ ?_
          exact eI_ ⟨((Cl.mk [] none 0 [] none 0), 2), em_ hchk hb0 hb1 hm0' (by rw [if_neg (by assumption)]) (cC_ hvk hL hf (j + 1) rfl).1 (cC_ hvk hL hf (j + 1) rfl).2.2.1 (by omega)⟩ (fun aa v h1 h2 => dE_ (us := Cl.cells (Cl.mk [] none 0 [] none 0)) 0 cY_ aX_ ak_ rfl rfl rfl rfl aa v h1 h2) J_ (fun v _ h => by exact ⟨.inl rfl, .inl rfl, trivial⟩)
         ·
          replace hr14 := of_decide_eq_true hr14
          refine u_ rfl (h_ (d_ (a_ (aI_ eo_ rfl rfl) rfl (V_ 0 ak_ rfl rfl rfl rfl rfl rfl (a_ (g_ rfl) rfl (e_ (b_ rfl (H_ ?_))))))))
          exact eI_ ⟨((Cl.mk [] none 0 [] none 0), 3), em_ hchk hb0 hb1 hm0' (by rw [if_pos (by assumption)]) (cC_ hvk hL hf (j + 1) rfl).1 (cC_ hvk hL hf (j + 1) rfl).2.2.1 (by omega)⟩ (fun aa v h1 h2 => dE_ (us := Cl.cells (Cl.mk [] none 0 [] none 0)) 0 cY_ aX_ ak_ rfl rfl rfl rfl aa v h1 h2) J_ (fun v _ h => by exact ⟨.inl rfl, .inl rfl, trivial⟩)
     ·
      refine a_ (bx_ (ef_ dW_ hs_ rfl rfl (by omega) (by omega)) (show _ = zp_ b5 3 from by rw [hk]; rfl)) rfl (a_ (s_ 4 mL_ rfl rfl rfl) rfl (a_ (as_ by_ rfl) rfl (a_ (f_ rfl) rfl (e_ (b_ rfl (P_ (eE_ (H' := ((b1, .cells #[.slice none 0 0, .slice none 0 0] 28 (0, 0)) :: ((b5, .cells #[.slice none 0 0, .slice (some ⟨r1, 0, none⟩) 6 6, .slice (some ⟨r2, 0, none⟩) 4 4, .slice (some ⟨r3, 0, none⟩) 2 2] 98 (0, 0)) :: ((b6, .cells (Fc.cells f).toArray 41 (0, 0)) :: (Ha1 ++ (Hu1 ++ (Ho1 ++ (Hi1 ++ (Hr1 ++ (Hm1 ++ ((b4, .cells #[sv1] 26 (0, 0)) :: (kb, .map es1 ce1) :: ([(fb, .map ef1 cf1)] ++ Hq1)))))))))))) (m_ (c_ (c_ (c_ i_))) (m_ (c_ (c_ (c_ i_))) (m_ (c_ (c_ i_)) (B_ (c_ (c_ w_)) (B_ (c_ (c_ w_)) (B_ (c_ (c_ w_)) (B_ (c_ (c_ w_)) (B_ (c_ (c_ w_)) (B_ (c_ (c_ w_)) (m_ i_ (m_ i_ (B_ w_ aA_)))))))))))) (fun v _ h => h) ?_)))))))
      refine aE_ (ι := {y : Nat × Hp // y.1 ≤ 2 ∧ ((EA m hm (EngB.mk g pb ab ub ob ib rb sb lad lcap (an_ (uniq [] p))) b2 b3 b4 kb fb)).St (rls (bG_ m) idk (aS_ (uniq [] p)) (Ix.add x (decide (f ∈ fm)) f) f y.1 (q, fm)).1 (rls (bG_ m) idk (aS_ (uniq [] p)) (Ix.add x (decide (f ∈ fm)) f) f y.1 (q, fm)).2 y.2 ∧ (y.1 = 0 ∨ ((rls (bG_ m) idk (aS_ (uniq [] p)) (Ix.add x (decide (f ∈ fm)) f) f y.1 (q, fm)).1).length ≤ m)}) (fun y => [(0, .slice pad (List.length p) pcap), (1, .int .i64 bu), (4, zp_ b1 0), (7, zp_ b2 0), (8, zp_ b3 0), (9, zp_ b4 0), (10, .slice aad (List.length (atS p)) acap), (11, zp_ b5 0), (12, .int .i64 (n : Int)), (13, zp_ b6 0), (60, .slice (some ⟨r3, 0, none⟩) 2 2), (61, .int .i64 2), (62, .int .i64 (y.1.1 : Int))]) (fun y => ((b1, .cells #[.slice none 0 0, .slice none 0 0] 28 (0, 0)) :: ((b5, .cells #[.slice none 0 0, .slice (some ⟨r1, 0, none⟩) 6 6, .slice (some ⟨r2, 0, none⟩) 4 4, .slice (some ⟨r3, 0, none⟩) 2 2] 98 (0, 0)) :: ((b6, .cells (Fc.cells f).toArray 41 (0, 0)) :: (Ha1 ++ (Hu1 ++ (Ho1 ++ (Hi1 ++ (Hr1 ++ (Hm1 ++ y.1.2)))))))))) (fun y => [aD_ (some ⟨r1, 0, none⟩) (List.flatMap fvC (rlV g 1)), aD_ (some ⟨r2, 0, none⟩) (List.flatMap fvC (rlV g 2)), aD_ (some ⟨r3, 0, none⟩) (List.flatMap fvC (rlV g 3)), aD_ aad (List.flatMap aJ_ (atS p)), mlF Tryz.prog 171 Ky.val Pc.cells pb (aS_ (uniq [] p)) adr, cL_ g (.cells #[.map (some pb), .slice lad (List.length (an_ (uniq [] p))) lcap, .map (some kb), .func (.func 55) #[] #[zp_ b2 0, zp_ b3 0, zp_ b4 0], .map (some ab), .map (some ub), .map (some ob), .map (some ib), .map (some rb), .map (some sb), .map (some fb)] 94 (0, 0)), cL_ b3 (.cells #[.int .i64 (m : Int)] 3 (0, 0)), cL_ b2 (.cells #[zp_ g 0] 85 (0, 0)), aD_ lad (List.flatMap aJ_ (an_ (uniq [] p))), aD_ pad (List.flatMap Pc.cells p), hc_]) (fun y => 2 - y.1.1) ⟨((0 : Nat), ((b4, .cells #[sv1] 26 (0, 0)) :: (kb, .map es1 ce1) :: ([(fb, .map ef1 cf1)] ++ Hq1))), by omega, by exact ⟨sv1, es1, ce1, ef1, cf1, qf1, Hq1, rfl, hrQ1, hEk1, hEf1, hqf1⟩, .inl rfl⟩ ⟨rfl, rfl, rfl, rfl, rfl, rfl, rfl, rfl, rfl, rfl, rfl, rfl, rfl, trivial⟩ (m_ i_ (m_ i_ (m_ i_ (B_ w_ (B_ w_ (B_ w_ (B_ w_ (B_ w_ (B_ w_ aA_))))))))) (fun _ _ h => h) ?_
      rintro ⟨⟨j, Hs⟩, hj, hS2, hjm⟩
      dsimp only at hj hS2 hjm ⊢
      refine h_ (d_ (y_ (ay_ rfl rfl) rfl fun r15 hr15 => ?_))
      refine e_ (b_ rfl (h_ ?_))
      cases r15
      ·
       replace hr15 := of_decide_eq_false hr15
       have ej : j = 2 := by omega
       have hjl : ((rls (bG_ m) idk (aS_ (uniq [] p)) (Ix.add x (decide (f ∈ fm)) f) f j (q, fm)).1).length ≤ m := hjm.resolve_left (by omega)
       rw [ej] at hjl hS2
       refine v_ rfl (aw_ rfl (b_ rfl (d_ (a_ (f_ rfl) rfl (a_ (M_ rfl rfl rfl (al_ (by omega) (by omega))) rfl (a_ (g_ rfl) rfl (e_ (x_ rfl ?_))))))))
       exact Z_ ⟨(n + 1, (rls (bG_ m) idk (aS_ (uniq [] p)) (Ix.add x (decide (f ∈ fm)) f) f 2 (q, fm)).1, (rls (bG_ m) idk (aS_ (uniq [] p)) (Ix.add x (decide (f ∈ fm)) f) f 2 (q, fm)).2, (Ix.add x (decide (f ∈ fm)) f), Ha1, Hu1, Ho1, Hi1, Hr1, Hm1, Hs), (hm_ hvk hL hf (by have e : nrl f = 2 := (by unfold nrl; simp [hk]); rw [e]) (by omega)), (by exact hS2), hI1, (gE_ hz _ f)⟩ (by dsimp only; omega) ⟨rfl, rfl, rfl, rfl, rfl, rfl, rfl, rfl, rfl, trivial⟩ (m_ i_ (m_ i_ (B_ (c_ w_) (B_ (c_ w_) (B_ (c_ w_) (B_ (c_ w_) (B_ (c_ w_) (B_ (c_ w_) Q_)))))))) (fun _ _ h => h)
      ·
       replace hr15 := of_decide_eq_true hr15
       have hlfv : j < List.length (rlV g 3) := by show j < 2; omega
       obtain ⟨fv, hfv⟩ : ∃ e0, (rlV g 3)[j]? = some e0 := ⟨_, List.getElem?_eq_getElem hlfv⟩
       have hmfv : fv ∈ (rlV g 3) := List.mem_of_getElem? hfv
       refine u_ rfl (E_ (b_ rfl (h_ (P_ (h_ (d_ (a_ (ae_ by_ aT_ rfl rfl (fun v _ h => az_ (n := 1) ed_ (by decide) (by exact h.2.2.1) hfv) (by omega) (by omega)) rfl (a_ (aH_ (ad := (some ⟨r3, 0, none⟩)) bu_ rfl (fun v _ h => by exact h.2.2.1) (ai_ ed_ hfv 0 _ rfl)) rfl (a_ (g_ rfl) rfl ?_)))))))))
       refine e_ (b_ rfl (h_ (d_ (a_ (f_ rfl) rfl (a_ (Y_ 2 U_ A_ rfl rfl rfl) rfl ?_)))))
       obtain ⟨nr, rfl, hT⟩ := nh_ (EngB.mk g pb ab ub ob ib rb sb lad lcap (an_ (uniq [] p))) (EA m hm (EngB.mk g pb ab ub ob ib rb sb lad lcap (an_ (uniq [] p))) b2 b3 b4 kb fb) (EngA.mk adr (fun _ => (none, 0)) (fun _ => (none, 0)) (fun _ => (none, 0)) (fun _ => (none, 0)) (fun _ => (none, 0)) (fun _ => (none, 0))) (aS_ (uniq [] p)) (Ix.add x (decide (f ∈ fm)) f) f (rls (bG_ m) idk (aS_ (uniq [] p)) (Ix.add x (decide (f ∈ fm)) f) f j (q, fm)).1 (rls (bG_ m) idk (aS_ (uniq [] p)) (Ix.add x (decide (f ∈ fm)) f) f j (q, fm)).2 Hs hS2 Ha1 Hu1 Ho1 Hi1 Hr1 Hm1 hI1 hpl hxl1 hyl1 (fun hk => (fi_ hform hk).2.2) (fun _ y hy => (hvk y (pm9.1 hy).1).num (.inr (pm9.1 hy).2.1)) hk j hfv
       refine bb_ (first := [zp_ g 0]) (vs := [Fc.val f]) (cap := []) hT rfl rfl (ie_ (B_ (c_ (c_ (c_ w_))) (B_ (c_ (c_ (c_ w_))) (B_ (c_ (c_ (c_ w_))) (B_ (c_ (c_ (c_ w_))) (B_ (c_ (c_ (c_ w_))) (B_ (c_ (c_ (c_ w_))) (c_ (c_ Q_))))))))) (fun v _ h => by exact ⟨h.2.2.2.2.2.1, h.2.2.2.2.1, ⟨h.2.2.2.2.2.2.2.1, h.2.2.2.2.2.2.1, h.2.2.2.2.2.1⟩, trivial⟩) rfl fun ⟨Hs3, hS3⟩ => ?_
       refine am_ gV_ (e_ (b_ rfl (am_ (bc_ (q_ (q_ (q_ (q_ (q_ (q_ (q_ i_))))))) (bc_ (q_ (q_ (q_ (q_ (q_ (q_ (q_ i_))))))) (cl_ (q_ (q_ (q_ (q_ (q_ (q_ ba_))))))))) (h_ ?_))))
       refine aC_ (by kernel_rfl) ?_
       refine ad_ 0 [0, 1, 2, 3, 4, 5, 6] (by kernel_rfl) (fun _ a b => ⟨a, b⟩) (o_ rfl (ah_ bB_ rfl (fun v _ h => by exact h.2.2.2.2.2.2.2.1) rfl) rfl (o_ rfl (ao_ rfl) rfl (o_ rfl (n_ I_ rfl rfl rfl bA_) rfl (o_ rfl (ah_ bI_ rfl (fun v _ h => by exact h.2.2.2.2.2.1) rfl) rfl (o_ rfl (bx_ (fc_ (E := (EA m hm (EngB.mk g pb ab ub ob ib rb sb lad lcap (an_ (uniq [] p))) b2 b3 b4 kb fb)) (nw := (rls (bG_ m) idk (aS_ (uniq [] p)) (Ix.add x (decide (f ∈ fm)) f) f (j + 1) (q, fm)).1) (Hs := Hs3) hS3 aU_ rfl (c_ (c_ (c_ (q_ (q_ (q_ (q_ (q_ ba_))))))))) (show _ = Value.int .i64 (List.length (rls (bG_ m) idk (aS_ (uniq [] p)) (Ix.add x (decide (f ∈ fm)) f) f (j + 1) (q, fm)).1 : Int) from rfl)) rfl (o_ rfl (ah_ L_ rfl (fun v _ h => by exact h.2.2.2.2.2.2.1) rfl) rfl ?_))))))
       refine bT_ rfl (cg_ rfl rfl) rfl fun r16 hr16 => ?_
       refine ac_ (aa_ (by kernel_rfl) (b_ rfl ?_))
       cases r16
       ·
        replace hr16 := of_decide_eq_false hr16
        refine v_ rfl (E_ (b_ rfl (d_ (a_ (M_ rfl rfl rfl (al_ (by omega) (by omega))) rfl (a_ (f_ rfl) rfl (e_ (x_ rfl ?_)))))))
        exact Z_ ⟨(j + 1, Hs3), hlfv, by exact hS3, .inr (by dsimp only; omega)⟩ (by dsimp only; omega) ⟨rfl, rfl, rfl, rfl, rfl, rfl, rfl, rfl, rfl, rfl, rfl, rfl, rfl, trivial⟩ (m_ i_ (m_ i_ (m_ i_ (B_ w_ (B_ w_ (B_ w_ (B_ w_ (B_ w_ (B_ w_ aA_))))))))) (fun _ _ h => h)
       ·
        replace hr16 := of_decide_eq_true hr16
        refine u_ rfl (aw_ rfl (b_ rfl (h_ (h_ ?_))))
        refine aC_ (by kernel_rfl) ?_
        refine ad_ 0 [0, 1, 2, 3, 4, 5, 6] (by kernel_rfl) (fun _ a b => ⟨a, b⟩) (o_ rfl (ah_ bB_ rfl (fun v _ h => by exact h.2.2.2.2.2.2.2.1) rfl) rfl (o_ rfl (ao_ rfl) rfl (o_ rfl (n_ I_ rfl rfl rfl bA_) rfl (o_ rfl (ah_ bI_ rfl (fun v _ h => by exact h.2.2.2.2.2.1) rfl) rfl (o_ rfl (bx_ (fc_ (E := (EA m hm (EngB.mk g pb ab ub ob ib rb sb lad lcap (an_ (uniq [] p))) b2 b3 b4 kb fb)) (nw := (rls (bG_ m) idk (aS_ (uniq [] p)) (Ix.add x (decide (f ∈ fm)) f) f (j + 1) (q, fm)).1) (Hs := Hs3) hS3 aU_ rfl (c_ (c_ (c_ (q_ (q_ (q_ (q_ (q_ ba_))))))))) (show _ = Value.int .i64 (List.length (rls (bG_ m) idk (aS_ (uniq [] p)) (Ix.add x (decide (f ∈ fm)) f) f (j + 1) (q, fm)).1 : Int) from rfl)) rfl (o_ rfl (ah_ L_ rfl (fun v _ h => by exact h.2.2.2.2.2.2.1) rfl) rfl ?_))))))
        refine bT_ rfl (cg_ rfl rfl) rfl fun r17 hr17 => ?_
        refine ac_ (aa_ (by kernel_rfl) (b_ rfl ?_))
        cases r17
        ·
         replace hr17 := of_decide_eq_false hr17
         omega
        ·
         replace hr17 := of_decide_eq_true hr17
         refine u_ rfl (h_ (h_ (d_ (a_ (f_ rfl) rfl (y_ (ay_ rfl rfl) rfl fun r18 hr18 => ?_)))))
         refine e_ (b_ rfl ?_)
         cases r18
         ·
          replace hr18 := of_decide_eq_false hr18
          refine v_ rfl (E_ (b_ rfl (h_ (d_ (a_ (aI_ eo_ rfl rfl) rfl (V_ 0 ak_ rfl rfl rfl rfl rfl rfl (a_ (g_ rfl) rfl (e_ (b_ rfl ?_)))))))))
          refine H_ ?_
          exact eI_ ⟨((Cl.mk [] none 0 [] none 0), 2), em_ hchk hb0 hb1 hm0' (by rw [if_neg (by assumption)]) (cC_ hvk hL hf (j + 1) rfl).1 (cC_ hvk hL hf (j + 1) rfl).2.2.1 (by omega)⟩ (fun aa v h1 h2 => dE_ (us := Cl.cells (Cl.mk [] none 0 [] none 0)) 0 cY_ aX_ ak_ rfl rfl rfl rfl aa v h1 h2) J_ (fun v _ h => by exact ⟨.inl rfl, .inl rfl, trivial⟩)
         ·
          replace hr18 := of_decide_eq_true hr18
          refine u_ rfl (h_ (d_ (a_ (aI_ eo_ rfl rfl) rfl (V_ 0 ak_ rfl rfl rfl rfl rfl rfl (a_ (g_ rfl) rfl (e_ (b_ rfl (H_ ?_))))))))
          exact eI_ ⟨((Cl.mk [] none 0 [] none 0), 3), em_ hchk hb0 hb1 hm0' (by rw [if_pos (by assumption)]) (cC_ hvk hL hf (j + 1) rfl).1 (cC_ hvk hL hf (j + 1) rfl).2.2.1 (by omega)⟩ (fun aa v h1 h2 => dE_ (us := Cl.cells (Cl.mk [] none 0 [] none 0)) 0 cY_ aX_ ak_ rfl rfl rfl rfl aa v h1 h2) J_ (fun v _ h => by exact ⟨.inl rfl, .inl rfl, trivial⟩)
   ·
    replace hr3 := of_decide_eq_true hr3
    refine u_ rfl (h_ (d_ (a_ (aI_ eo_ rfl rfl) rfl (V_ 0 ak_ rfl rfl rfl rfl rfl rfl (a_ (g_ rfl) rfl (e_ (b_ rfl (H_ ?_))))))))
    exact eI_ ⟨((Cl.mk [] none 0 [] none 0), 1), hV_ (by assumption) (by omega)⟩ (fun aa v h1 h2 => dE_ (us := Cl.cells (Cl.mk [] none 0 [] none 0)) 0 cY_ aX_ ak_ rfl rfl rfl rfl aa v h1 h2) J_ (fun v _ h => by exact ⟨.inl rfl, .inl rfl, trivial⟩)
  ·
   replace hr2 := of_decide_eq_true hr2
   refine t_ rfl rfl rfl rfl (t_ rfl rfl rfl rfl (a_ (F_ rfl rfl) rfl (e_ (b_ rfl (u_ rfl (h_ (d_ (a_ (aI_ eo_ rfl rfl) rfl (V_ 0 ak_ rfl rfl rfl rfl rfl rfl ?_)))))))))
   refine a_ (g_ rfl) rfl (e_ (b_ rfl (H_ ?_)))
   exact eI_ ⟨((Cl.mk [] none 0 [] none 0), 1), hV_ (by assumption) (by omega)⟩ (fun aa v h1 h2 => dE_ (us := Cl.cells (Cl.mk [] none 0 [] none 0)) 0 cY_ aX_ ak_ rfl rfl rfl rfl aa v h1 h2) J_ (fun v _ h => by exact ⟨.inl rfl, .inl rfl, trivial⟩)
 ·
  replace hr1 := bq_ hr1
  refine u_ rfl (h_ (d_ (a_ (aI_ eo_ rfl rfl) rfl (a_ (f_ rfl) rfl (V_ 0 ak_ rfl rfl rfl rfl rfl rfl (a_ (g_ rfl) rfl (e_ (b_ rfl (H_ ?_)))))))))
  exact eI_ ⟨((Cl.mk [] none 0 [] none 0), (bM_ p)), mn_ (by assumption)⟩ (fun aa v h1 h2 => dE_ (us := Cl.cells (Cl.mk [] none 0 [] none 0)) 0 cY_ aX_ ak_ rfl rfl rfl rfl aa v h1 h2) J_ (fun v _ h => by exact ⟨.inl rfl, .inl rfl, trivial⟩)
end Go.Proofs.YtpdbbglpbngeiaaGreatDoor
namespace Go.Proofs.YtpdbbglpbngeiaaGreatDoor
open Go Go.Sx Go.Proofs
attribute [local irreducible] Code.wp wpList wpAnyH
open Go.Vs
def dT_ (f : Fc) : Bool := decide (f = aj_ f.a f.b)
def cD_ (A : List Str) (f : Fc) : Bool :=
  decide (f.a ∈ A) && (if f.kind = 1 then decide (f.b ∈ A) && dT_ f
    else if f.kind = 2 then decide (f.b ∈ A) && (decide (f.r ≠ []) && decide (f = au_ f.a f.r f.b))
    else if f.kind = 3 then decide (f.r ≠ []) && (decide (f = aF_ f.a f.r f.lo f.hi) && (decide (-1099511627776 ≤ f.lo) && (decide (f.lo ≤ f.hi) && decide (f.hi ≤ 1099511627776))))
    else false)
abbrev mp_ (l : List Str) : Prop := l.Pairwise fun x y => x < y
structure ChkC (at' : List Str) (fs : List Fc) : Prop where
  sa : mp_ at'
  sf : Srt fs
  top : [42] ∈ at'
  bot : [33] ∈ at'
  ok : ∀ f ∈ fs, cD_ at' f = true
def rh_ (at' : List Str) (fs : List Fc) : Prop := mp_ at' ∧ Srt fs ∧ [42] ∈ at' ∧ [33] ∈ at' ∧ ∀ f ∈ fs, cD_ at' f = true
instance (at' : List Str) (fs : List Fc) : Decidable (rh_ at' fs) := by unfold rh_; exact inferInstance
theorem iQ_ {at' : List Str} {fs : List Fc} : rh_ at' fs ↔ ChkC at' fs := ⟨fun ⟨a, b, c, d, e⟩ => ⟨a, b, c, d, e⟩, fun h => ⟨h.sa, h.sf, h.top, h.bot, h.ok⟩⟩
def dO_ (at' : List Str) (fs : List Fc) : Int := if rh_ at' fs then if 65536 < fs.length then 2 else 0 else 1
theorem nq_ {α : Type} {lt : α → α → Prop} (ht : ∀ {x y z}, lt x y → lt y z → lt x z) {l : List α} {k : Nat} {a b : α} (h : (l.take (k + 1)).Pairwise lt) (ha : l[k]? = some a) (hb : l[k + 1]? = some b) (hab : lt a b) : (l.take (k + 2)).Pairwise lt := by
  rw [List.take_add_one, hb, Option.toList_some, List.pairwise_append]
  refine ⟨h, by simp, fun x hx y hy => ?_⟩
  rw [List.mem_singleton] at hy
  subst hy
  rw [List.take_add_one, ha, Option.toList_some] at h hx
  rcases List.mem_append.1 hx with hx | hx
  · exact ht ((List.pairwise_append.1 h).2.2 x hx a (by simp)) hab
  · rw [List.mem_singleton] at hx; subst hx; exact hab
theorem po_ {α : Type} {lt : α → α → Prop} {l : List α} {k : Nat} {a b : α} (ha : l[k]? = some a) (hb : l[k + 1]? = some b) (hab : ¬ lt a b) : ¬ l.Pairwise lt := fun h => by
  obtain ⟨h1, h2⟩ := List.getElem?_eq_some_iff.1 ha
  obtain ⟨h3, h4⟩ := List.getElem?_eq_some_iff.1 hb
  have := List.pairwise_iff_getElem.1 h k (k + 1) h1 h3 (by omega)
  rw [h2, h4] at this
  exact hab this
theorem pn_ {α : Type} {lt : α → α → Prop} (l : List α) : (l.take 1).Pairwise lt := by
  cases l <;> simp
theorem nD_ {x y : Fc} : 0 ≤ hP_ x y ↔ ¬ x.lt y := by rw [← mf_]; omega
theorem qU_ {x y : Fc} (h : ¬ 0 ≤ hP_ x y) : x.lt y := Decidable.byContradiction fun q => h (nD_.2 q)
theorem rq_ {x y : Str} : 0 ≤ Lib.compareBytes x y ↔ ¬ x < y := by rw [← mV_]; omega
theorem cS_lt {x y : Str} (h : ¬ 0 ≤ Lib.compareBytes x y) : x < y := Decidable.byContradiction fun q => h (rq_.2 q)
theorem qM_ (f : Fc) : Fn0 Tryz.prog 86 #[Fc.val f] (.bool (dT_ f)) := by
  refine S_ Tryz.func86 rfl rfl Tryz.ntmps86 rfl fun v0 => ?_
  refine h_ (d_ (bl_ rfl rfl fun b1 => ?_))
  refine a_ (g_ rfl) rfl (e_ (b_ rfl (h_ ?_)))
  refine aC_ (by kernel_rfl) ?_
  refine ad_ 3 [0, 1, 2, 3, 4] (by kernel_rfl) (fun _ a b => ⟨a, b⟩) (o_ rfl (Y_ 0 U_ A_ rfl rfl rfl) rfl (o_ rfl (n_ k_ rfl rfl rfl j_) rfl (o_ rfl (s_ 0 p_ rfl rfl rfl) rfl (o_ rfl (n_ k_ rfl rfl rfl j_) rfl (o_ rfl (s_ 0 p_ rfl rfl rfl) rfl (ac_ (X_ 5 rfl (by kernel_rfl) (W_ (eS_ (Fc.a f) (Fc.b f)) rfl J_ (fun _ _ _ => by exact trivial) rfl fun _ => ?_))))))))
  refine e_ (x_ rfl (O_ (fun _ a b => ⟨a, b⟩) (ad_ 0 [6, 7] (by kernel_rfl) (fun _ a b => ⟨a, b⟩) ?_)))
  refine bT_ rfl (dv_ (p := f) (q := (aj_ (Fc.a f) (Fc.b f))) rfl rfl) rfl fun r1 hr1 => ?_
  refine o_ rfl (g_ rfl) rfl (ac_ (aa_ (by kernel_rfl) (b_ rfl (H_ ?_))))
  exact at_ Tryz.results86 () (z_ rfl (by unfold dT_; exact hr1.symm)) J_ (fun _ _ _ => trivial)
theorem pN_ (f : Fc) (A : List Str) (mb : Nat) (es : Array MapEntry) (c : Nat) (hE : SetE str es A) : Tri Tryz.prog 73 #[Fc.val f, .map (some mb)] [(mb, .map es c)] [] (fun _ : Unit => .bool (cD_ A f)) (fun _ => [(mb, .map es c)]) (fun _ => []) := by
 refine S_ Tryz.func73 rfl rfl Tryz.ntmps73 rfl fun v0 => ?_
 refine h_ (d_ (bl_ rfl rfl fun b1 => ?_))
 refine a_ (g_ rfl) rfl (e_ (b_ rfl (h_ (h_ (d_ (a_ (f_ rfl) rfl (a_ (n_ k_ rfl rfl rfl j_) rfl (a_ (s_ 0 p_ rfl rfl rfl) rfl (y_ (cV_ (k := (Fc.a f)) fH_ eO_ ci_ rfl rfl hE (fun v h _ => (h.own _ (List.mem_of_getElem? (i := 1) rfl)).1)) rfl fun r1 hr1 => ?_)))))))))
 refine a_ (bV_ rfl) rfl (e_ (b_ rfl ?_))
 cases r1
 ·
  replace hr1 := dF hr1
  refine u_ rfl (h_ (d_ (a_ (g_ rfl) rfl (e_ (b_ rfl (H_ ?_))))))
  exact at_ cX_ () (z_ rfl (by have p1 := eq_false hr1; simp only [cD_, dT_, p1, if_true, if_false, decide_true, decide_false, Bool.and_true, Bool.and_false, Bool.true_and, Bool.false_and, Bool.or_true, Bool.or_false, Bool.true_or, Bool.false_or, Bool.not_true, Bool.not_false, ne_eq, not_true_eq_false, not_false_eq_true, true_and, and_true, false_and, and_false, true_or, or_true, false_or, or_false, ite_true, ite_false, Bool.false_eq_true])) (c_ i_) (fun _ _ _ => trivial)
 ·
  replace hr1 := dT hr1
  refine v_ rfl (E_ (b_ rfl (h_ (h_ (d_ (a_ (n_ k_ rfl rfl rfl K_) rfl (a_ (s_ 0 L_ rfl rfl rfl) rfl (e_ (b_ rfl ?_)))))))))
  refine P_ (h_ (d_ (y_ (aG_ rfl rfl) rfl fun r2 hr2 => ?_)))
  refine a_ (g_ rfl) rfl (e_ (b_ rfl ?_))
  cases r2
  ·
   replace hr2 := ne_of_beq_false hr2
   refine v_ rfl (h_ (d_ (y_ (aG_ rfl rfl) rfl fun r3 hr3 => ?_)))
   refine a_ (g_ rfl) rfl (e_ (b_ rfl ?_))
   cases r3
   ·
    replace hr3 := ne_of_beq_false hr3
    refine v_ rfl (h_ (d_ (y_ (aG_ rfl rfl) rfl fun r4 hr4 => ?_)))
    refine a_ (g_ rfl) rfl (e_ (b_ rfl ?_))
    cases r4
    ·
     replace hr4 := ne_of_beq_false hr4
     refine v_ rfl (E_ (b_ rfl (h_ (d_ (a_ (g_ rfl) rfl (e_ (b_ rfl (H_ ?_))))))))
     exact at_ cX_ () (z_ rfl (by have p1 := eq_true hr1; have p2 := eq_false hr2; have p3 := eq_false hr3; have p4 := eq_false hr4; simp only [cD_, dT_, p1, p2, p3, p4, if_true, if_false, decide_true, decide_false, Bool.and_true, Bool.and_false, Bool.true_and, Bool.false_and, Bool.or_true, Bool.or_false, Bool.true_or, Bool.false_or, Bool.not_true, Bool.not_false, ne_eq, not_true_eq_false, not_false_eq_true, true_and, and_true, false_and, and_false, true_or, or_true, false_or, or_false, ite_true, ite_false, Bool.false_eq_true])) (c_ i_) (fun _ _ _ => trivial)
    ·
     replace hr4 := eq_of_beq hr4
     refine u_ rfl (h_ ?_)
     refine aC_ (by kernel_rfl) ?_
     refine ad_ 30 [0, 1, 2, 3] (by kernel_rfl) (fun _ a b => ⟨a, b⟩) (o_ rfl (n_ k_ rfl rfl rfl j_) rfl (o_ rfl (s_ 0 p_ rfl rfl rfl) rfl ?_))
     refine bT_ rfl (du_ rfl rfl) rfl fun r5 hr5 => ?_
     refine o_ rfl (f_ rfl) rfl (ac_ ?_)
     cases r5
     ·
      replace hr5 := br_ hr5
      refine ad_ 0 [4, 5, 6, 7, 8, 9, 10, 11, 12, 13, 14, 15, 16, 17, 18, 19, 20, 21, 22, 23, 24, 25, 26, 27, 28, 29, 30, 31, 32, 33] (by kernel_rfl) (fun _ a b => ⟨a, b⟩) (af_ rfl rfl rfl rfl rfl (af_ rfl rfl rfl rfl rfl (af_ rfl rfl rfl rfl rfl (af_ rfl rfl rfl rfl rfl (af_ rfl rfl rfl rfl rfl (af_ rfl rfl rfl rfl rfl (af_ rfl rfl rfl rfl rfl (af_ rfl rfl rfl rfl rfl (af_ rfl rfl rfl rfl rfl ?_)))))))))
      refine af_ rfl rfl rfl rfl rfl (af_ rfl rfl rfl rfl rfl (o_ rfl (C_ rfl rfl) rfl (o_ rfl (f_ rfl) rfl (af_ rfl rfl rfl rfl rfl (af_ rfl rfl rfl rfl rfl (af_ rfl rfl rfl rfl rfl (o_ rfl (C_ rfl rfl) rfl (o_ rfl (f_ rfl) rfl (af_ rfl rfl rfl rfl rfl ?_)))))))))
      refine af_ rfl rfl rfl rfl rfl (af_ rfl rfl rfl rfl rfl (af_ rfl rfl rfl rfl rfl (af_ rfl rfl rfl rfl rfl (o_ rfl (C_ rfl rfl) rfl (o_ rfl (f_ rfl) rfl (af_ rfl rfl rfl rfl rfl (af_ rfl rfl rfl rfl rfl (af_ rfl rfl rfl rfl rfl (o_ rfl (C_ rfl rfl) rfl ?_)))))))))
      refine o_ rfl (g_ rfl) rfl (ac_ (aa_ (by kernel_rfl) (b_ rfl (H_ ?_))))
      exact at_ cX_ () (z_ rfl (by have p1 := eq_true hr1; have p2 := eq_false hr2; have p3 := eq_false hr3; have p4 := eq_true hr4; have p5 := eq_true hr5; simp only [cD_, dT_, p1, p2, p3, p4, p5, if_true, if_false, decide_true, decide_false, Bool.and_true, Bool.and_false, Bool.true_and, Bool.false_and, Bool.or_true, Bool.or_false, Bool.true_or, Bool.false_or, Bool.not_true, Bool.not_false, ne_eq, not_true_eq_false, not_false_eq_true, true_and, and_true, false_and, and_false, true_or, or_true, false_or, or_false, ite_true, ite_false, Bool.false_eq_true])) (c_ i_) (fun _ _ _ => trivial)
     ·
      replace hr5 := bq_ hr5
      refine ad_ 21 [4, 5, 6, 7, 8, 9, 10, 11, 12] (by kernel_rfl) (fun _ a b => ⟨a, b⟩) (ab_ rfl rfl rfl (Y_ 0 U_ A_ rfl rfl rfl) rfl (ab_ rfl rfl rfl (n_ k_ rfl rfl rfl j_) rfl (ab_ rfl rfl rfl (s_ 0 p_ rfl rfl rfl) rfl (ab_ rfl rfl rfl (n_ k_ rfl rfl rfl j_) rfl (ab_ rfl rfl rfl (s_ 0 p_ rfl rfl rfl) rfl (ab_ rfl rfl rfl (n_ k_ rfl rfl rfl K_) rfl (ab_ rfl rfl rfl (s_ 0 L_ rfl rfl rfl) rfl (ab_ rfl rfl rfl (n_ k_ rfl rfl rfl K_) rfl (ab_ rfl rfl rfl (s_ 0 L_ rfl rfl rfl) rfl ?_)))))))))
      refine ac_ (X_ 13 rfl (by kernel_rfl) (r_ rfl rfl (W_ (ib_ (Fc.a f) (Fc.r f) (Fc.lo f) (Fc.hi f)) rfl J_ (fun _ _ _ => by exact trivial) rfl fun _ => ?_)))
      refine e_ (x_ rfl (O_ (fun _ a b => ⟨a, b⟩) (ad_ 17 [14, 15, 16] (by kernel_rfl) (fun _ a b => ⟨a, b⟩) ?_)))
      refine bR_ rfl rfl rfl (dv_ (p := f) (q := (aF_ (Fc.a f) (Fc.r f) (Fc.lo f) (Fc.hi f))) rfl rfl) rfl fun r6 hr6 => ?_
      refine o_ rfl (F_ rfl rfl) rfl (o_ rfl (f_ rfl) rfl (ac_ ?_))
      cases r6
      ·
       replace hr6 := of_decide_eq_false hr6
       refine ad_ 0 [17, 18, 19, 20, 21, 22, 23, 24, 25, 26, 27, 28, 29, 30, 31, 32, 33] (by kernel_rfl) (fun _ a b => ⟨a, b⟩) (af_ rfl rfl rfl rfl rfl (af_ rfl rfl rfl rfl rfl (af_ rfl rfl rfl rfl rfl (o_ rfl (C_ rfl rfl) rfl (o_ rfl (f_ rfl) rfl (af_ rfl rfl rfl rfl rfl (af_ rfl rfl rfl rfl rfl (af_ rfl rfl rfl rfl rfl (af_ rfl rfl rfl rfl rfl ?_)))))))))
       refine af_ rfl rfl rfl rfl rfl (o_ rfl (C_ rfl rfl) rfl (o_ rfl (f_ rfl) rfl (af_ rfl rfl rfl rfl rfl (af_ rfl rfl rfl rfl rfl (af_ rfl rfl rfl rfl rfl (o_ rfl (C_ rfl rfl) rfl (o_ rfl (g_ rfl) rfl (ac_ (aa_ (by kernel_rfl) ?_)))))))))
       refine b_ rfl (H_ ?_)
       exact at_ cX_ () (z_ rfl (by have p1 := eq_true hr1; have p2 := eq_false hr2; have p3 := eq_false hr3; have p4 := eq_true hr4; have p5 := eq_false hr5; have p6 := eq_false hr6; simp only [cD_, dT_, p1, p2, p3, p4, p5, p6, if_true, if_false, decide_true, decide_false, Bool.and_true, Bool.and_false, Bool.true_and, Bool.false_and, Bool.or_true, Bool.or_false, Bool.true_or, Bool.false_or, Bool.not_true, Bool.not_false, ne_eq, not_true_eq_false, not_false_eq_true, true_and, and_true, false_and, and_false, true_or, or_true, false_or, or_false, ite_true, ite_false, Bool.false_eq_true])) (c_ i_) (fun _ _ _ => trivial)
      ·
       replace hr6 := of_decide_eq_true hr6
       refine ad_ 12 [17, 18, 19, 20, 21] (by kernel_rfl) (fun _ a b => ⟨a, b⟩) (ab_ rfl rfl rfl (n_ k_ rfl rfl rfl K_) rfl (ab_ rfl rfl rfl (s_ 0 L_ rfl rfl rfl) rfl ?_))
       refine bR_ rfl rfl rfl (bS_ rfl rfl) rfl fun r7 hr7 => ?_
       refine o_ rfl (F_ rfl rfl) rfl (o_ rfl (f_ rfl) rfl (ac_ ?_))
       cases r7
       ·
        replace hr7 := of_decide_eq_false hr7
        refine ad_ 0 [22, 23, 24, 25, 26, 27, 28, 29, 30, 31, 32, 33] (by kernel_rfl) (fun _ a b => ⟨a, b⟩) (af_ rfl rfl rfl rfl rfl (af_ rfl rfl rfl rfl rfl (af_ rfl rfl rfl rfl rfl (af_ rfl rfl rfl rfl rfl (af_ rfl rfl rfl rfl rfl (o_ rfl (C_ rfl rfl) rfl (o_ rfl (f_ rfl) rfl (af_ rfl rfl rfl rfl rfl (af_ rfl rfl rfl rfl rfl ?_)))))))))
        refine af_ rfl rfl rfl rfl rfl (o_ rfl (C_ rfl rfl) rfl (o_ rfl (g_ rfl) rfl (ac_ (aa_ (by kernel_rfl) (b_ rfl (H_ ?_))))))
        exact at_ cX_ () (z_ rfl (by have p1 := eq_true hr1; have p2 := eq_false hr2; have p3 := eq_false hr3; have p4 := eq_true hr4; have p5 := eq_false hr5; have p6 := eq_true hr6; have p7 := eq_false hr7; simp only [cD_, dT_, p1, p2, p3, p4, p5, p6, p7, if_true, if_false, decide_true, decide_false, Bool.and_true, Bool.and_false, Bool.true_and, Bool.false_and, Bool.or_true, Bool.or_false, Bool.true_or, Bool.false_or, Bool.not_true, Bool.not_false, ne_eq, not_true_eq_false, not_false_eq_true, true_and, and_true, false_and, and_false, true_or, or_true, false_or, or_false, ite_true, ite_false, Bool.false_eq_true])) (c_ i_) (fun _ _ _ => trivial)
       ·
        replace hr7 := of_decide_eq_true hr7
        refine ad_ 5 [22, 23, 24, 25, 26, 27, 28] (by kernel_rfl) (fun _ a b => ⟨a, b⟩) (ab_ rfl rfl rfl (n_ k_ rfl rfl rfl K_) rfl (ab_ rfl rfl rfl (s_ 0 L_ rfl rfl rfl) rfl (ab_ rfl rfl rfl (n_ k_ rfl rfl rfl K_) rfl (ab_ rfl rfl rfl (s_ 0 L_ rfl rfl rfl) rfl ?_))))
        refine bR_ rfl rfl rfl (bS_ rfl rfl) rfl fun r8 hr8 => ?_
        refine o_ rfl (F_ rfl rfl) rfl (o_ rfl (f_ rfl) rfl (ac_ ?_))
        cases r8
        ·
         replace hr8 := of_decide_eq_false hr8
         refine ad_ 0 [29, 30, 31, 32, 33] (by kernel_rfl) (fun _ a b => ⟨a, b⟩) (af_ rfl rfl rfl rfl rfl (af_ rfl rfl rfl rfl rfl (af_ rfl rfl rfl rfl rfl (o_ rfl (C_ rfl rfl) rfl (o_ rfl (g_ rfl) rfl (ac_ (aa_ (by kernel_rfl) (b_ rfl (H_ ?_)))))))))
         exact at_ cX_ () (z_ rfl (by have p1 := eq_true hr1; have p2 := eq_false hr2; have p3 := eq_false hr3; have p4 := eq_true hr4; have p5 := eq_false hr5; have p6 := eq_true hr6; have p7 := eq_true hr7; have p8 := eq_false hr8; simp only [cD_, dT_, p1, p2, p3, p4, p5, p6, p7, p8, if_true, if_false, decide_true, decide_false, Bool.and_true, Bool.and_false, Bool.true_and, Bool.false_and, Bool.or_true, Bool.or_false, Bool.true_or, Bool.false_or, Bool.not_true, Bool.not_false, ne_eq, not_true_eq_false, not_false_eq_true, true_and, and_true, false_and, and_false, true_or, or_true, false_or, or_false, ite_true, ite_false, Bool.false_eq_true])) (c_ i_) (fun _ _ _ => trivial)
        ·
         replace hr8 := of_decide_eq_true hr8
         refine ad_ 0 [29, 30, 31, 32, 33] (by kernel_rfl) (fun _ a b => ⟨a, b⟩) (ab_ rfl rfl rfl (n_ k_ rfl rfl rfl K_) rfl (ab_ rfl rfl rfl (s_ 0 L_ rfl rfl rfl) rfl ?_))
         refine bR_ rfl rfl rfl (bS_ rfl rfl) rfl fun r9 hr9 => ?_
         refine o_ rfl (F_ rfl rfl) rfl (o_ rfl (g_ rfl) rfl (ac_ (aa_ (by kernel_rfl) (b_ rfl (H_ ?_)))))
         exact at_ cX_ () (z_ rfl (by have p1 := eq_true hr1; have p2 := eq_false hr2; have p3 := eq_false hr3; have p4 := eq_true hr4; have p5 := eq_false hr5; have p6 := eq_true hr6; have p7 := eq_true hr7; have p8 := eq_true hr8; rw [← hr9]; simp only [cD_, dT_, p1, p2, p3, p4, p5, p6, p7, p8, if_true, if_false, decide_true, decide_false, Bool.and_true, Bool.and_false, Bool.true_and, Bool.false_and, Bool.or_true, Bool.or_false, Bool.true_or, Bool.false_or, Bool.not_true, Bool.not_false, ne_eq, not_true_eq_false, not_false_eq_true, true_and, and_true, false_and, and_false, true_or, or_true, false_or, or_false, ite_true, ite_false, Bool.false_eq_true])) (c_ i_) (fun _ _ _ => trivial)
   ·
    replace hr3 := eq_of_beq hr3
    refine u_ rfl (h_ ?_)
    refine aC_ (by kernel_rfl) ?_
    refine ad_ 16 [0, 1, 2, 3, 4] (by kernel_rfl) (fun _ a b => ⟨a, b⟩) (o_ rfl (f_ rfl) rfl (o_ rfl (n_ k_ rfl rfl rfl j_) rfl (o_ rfl (s_ 0 p_ rfl rfl rfl) rfl ?_)))
    refine bT_ rfl (cV_ (k := (Fc.b f)) fH_ eO_ ci_ rfl rfl hE (fun v h _ => (h.own _ (List.mem_of_getElem? (i := 1) rfl)).1)) rfl fun r10 hr10 => ?_
    refine o_ rfl (f_ rfl) rfl (ac_ ?_)
    cases r10
    ·
     replace hr10 := dF hr10
     refine ad_ 0 [5, 6, 7, 8, 9, 10, 11, 12, 13, 14, 15, 16, 17, 18, 19, 20] (by kernel_rfl) (fun _ a b => ⟨a, b⟩) (af_ rfl rfl rfl rfl rfl (af_ rfl rfl rfl rfl rfl (af_ rfl rfl rfl rfl rfl (o_ rfl (C_ rfl rfl) rfl (o_ rfl (f_ rfl) rfl (af_ rfl rfl rfl rfl rfl (af_ rfl rfl rfl rfl rfl (af_ rfl rfl rfl rfl rfl (af_ rfl rfl rfl rfl rfl ?_)))))))))
     refine af_ rfl rfl rfl rfl rfl (af_ rfl rfl rfl rfl rfl (af_ rfl rfl rfl rfl rfl (af_ rfl rfl rfl rfl rfl (af_ rfl rfl rfl rfl rfl (o_ rfl (C_ rfl rfl) rfl (o_ rfl (g_ rfl) rfl (ac_ (aa_ (by kernel_rfl) (b_ rfl ?_)))))))))
     refine H_ ?_
     exact at_ cX_ () (z_ rfl (by have p1 := eq_true hr1; have p2 := eq_false hr2; have p3 := eq_true hr3; have p4 := eq_false hr10; simp only [cD_, dT_, p1, p2, p3, p4, if_true, if_false, decide_true, decide_false, Bool.and_true, Bool.and_false, Bool.true_and, Bool.false_and, Bool.or_true, Bool.or_false, Bool.true_or, Bool.false_or, Bool.not_true, Bool.not_false, ne_eq, not_true_eq_false, not_false_eq_true, true_and, and_true, false_and, and_false, true_or, or_true, false_or, or_false, ite_true, ite_false, Bool.false_eq_true])) (c_ i_) (fun _ _ _ => trivial)
    ·
     replace hr10 := dT hr10
     refine ad_ 11 [5, 6, 7, 8, 9] (by kernel_rfl) (fun _ a b => ⟨a, b⟩) (ab_ rfl rfl rfl (n_ k_ rfl rfl rfl j_) rfl (ab_ rfl rfl rfl (s_ 0 p_ rfl rfl rfl) rfl ?_))
     refine bR_ rfl rfl rfl (du_ rfl rfl) rfl fun r11 hr11 => ?_
     refine o_ rfl (F_ rfl rfl) rfl (o_ rfl (f_ rfl) rfl (ac_ ?_))
     cases r11
     ·
      replace hr11 := br_ hr11
      refine ad_ 0 [10, 11, 12, 13, 14, 15, 16, 17, 18, 19, 20] (by kernel_rfl) (fun _ a b => ⟨a, b⟩) (af_ rfl rfl rfl rfl rfl (af_ rfl rfl rfl rfl rfl (af_ rfl rfl rfl rfl rfl (af_ rfl rfl rfl rfl rfl (af_ rfl rfl rfl rfl rfl (af_ rfl rfl rfl rfl rfl (af_ rfl rfl rfl rfl rfl (af_ rfl rfl rfl rfl rfl (af_ rfl rfl rfl rfl rfl ?_)))))))))
      refine o_ rfl (C_ rfl rfl) rfl (o_ rfl (g_ rfl) rfl (ac_ (aa_ (by kernel_rfl) (b_ rfl (H_ ?_)))))
      exact at_ cX_ () (z_ rfl (by have p1 := eq_true hr1; have p2 := eq_false hr2; have p3 := eq_true hr3; have p4 := eq_true hr10; have p5 := eq_true hr11; simp only [cD_, dT_, p1, p2, p3, p4, p5, if_true, if_false, decide_true, decide_false, Bool.and_true, Bool.and_false, Bool.true_and, Bool.false_and, Bool.or_true, Bool.or_false, Bool.true_or, Bool.false_or, Bool.not_true, Bool.not_false, ne_eq, not_true_eq_false, not_false_eq_true, true_and, and_true, false_and, and_false, true_or, or_true, false_or, or_false, ite_true, ite_false, Bool.false_eq_true])) (c_ i_) (fun _ _ _ => trivial)
     ·
      replace hr11 := bq_ hr11
      refine ad_ 4 [10, 11, 12, 13, 14, 15, 16] (by kernel_rfl) (fun _ a b => ⟨a, b⟩) (ab_ rfl rfl rfl (Y_ 0 U_ A_ rfl rfl rfl) rfl (ab_ rfl rfl rfl (n_ k_ rfl rfl rfl j_) rfl (ab_ rfl rfl rfl (s_ 0 p_ rfl rfl rfl) rfl (ab_ rfl rfl rfl (n_ k_ rfl rfl rfl j_) rfl (ab_ rfl rfl rfl (s_ 0 p_ rfl rfl rfl) rfl (ab_ rfl rfl rfl (n_ k_ rfl rfl rfl j_) rfl (ab_ rfl rfl rfl (s_ 0 p_ rfl rfl rfl) rfl (ac_ (X_ 17 rfl (by kernel_rfl) ?_)))))))))
      refine r_ rfl rfl (W_ (ih_ (Fc.a f) (Fc.r f) (Fc.b f)) rfl J_ (fun _ _ _ => by exact trivial) rfl fun _ => ?_)
      refine e_ (x_ rfl (O_ (fun _ a b => ⟨a, b⟩) (ad_ 0 [18, 19, 20] (by kernel_rfl) (fun _ a b => ⟨a, b⟩) ?_)))
      refine bR_ rfl rfl rfl (dv_ (p := f) (q := (au_ (Fc.a f) (Fc.r f) (Fc.b f))) rfl rfl) rfl fun r12 hr12 => ?_
      refine o_ rfl (F_ rfl rfl) rfl (o_ rfl (g_ rfl) rfl (ac_ (aa_ (by kernel_rfl) (b_ rfl (H_ ?_)))))
      exact at_ cX_ () (z_ rfl (by have p1 := eq_true hr1; have p2 := eq_false hr2; have p3 := eq_true hr3; have p4 := eq_true hr10; have p5 := eq_false hr11; rw [← hr12]; simp only [cD_, dT_, p1, p2, p3, p4, p5, if_true, if_false, decide_true, decide_false, Bool.and_true, Bool.and_false, Bool.true_and, Bool.false_and, Bool.or_true, Bool.or_false, Bool.true_or, Bool.false_or, Bool.not_true, Bool.not_false, ne_eq, not_true_eq_false, not_false_eq_true, true_and, and_true, false_and, and_false, true_or, or_true, false_or, or_false, ite_true, ite_false, Bool.false_eq_true])) (c_ i_) (fun _ _ _ => trivial)
  ·
   replace hr2 := eq_of_beq hr2
   refine u_ rfl (h_ (d_ (a_ (f_ rfl) rfl (a_ (n_ k_ rfl rfl rfl j_) rfl (a_ (s_ 0 p_ rfl rfl rfl) rfl (y_ (cV_ (k := (Fc.b f)) fH_ eO_ ci_ rfl rfl hE (fun v h _ => (h.own _ (List.mem_of_getElem? (i := 1) rfl)).1)) rfl fun r13 hr13 => ?_))))))
   refine a_ (f_ rfl) rfl ?_
   cases r13
   ·
    replace hr13 := dF hr13
    refine t_ rfl rfl rfl rfl (t_ rfl rfl rfl rfl (a_ (C_ rfl rfl) rfl (a_ (g_ rfl) rfl (e_ (b_ rfl (H_ ?_))))))
    exact at_ cX_ () (z_ rfl (by have p1 := eq_true hr1; have p2 := eq_true hr2; have p3 := eq_false hr13; simp only [cD_, dT_, p1, p2, p3, if_true, if_false, decide_true, decide_false, Bool.and_true, Bool.and_false, Bool.true_and, Bool.false_and, Bool.or_true, Bool.or_false, Bool.true_or, Bool.false_or, Bool.not_true, Bool.not_false, ne_eq, not_true_eq_false, not_false_eq_true, true_and, and_true, false_and, and_false, true_or, or_true, false_or, or_false, ite_true, ite_false, Bool.false_eq_true])) (c_ i_) (fun _ _ _ => trivial)
   ·
    replace hr13 := dT hr13
    refine r_ rfl rfl (a_ (Y_ 0 U_ A_ rfl rfl rfl) rfl (r_ rfl rfl (ax_ (qM_ f) rfl J_ (fun _ _ _ => by exact trivial) rfl fun r14 hr14 => ?_)))
    refine a_ (F_ rfl rfl) rfl (a_ (g_ rfl) rfl (e_ (b_ rfl (H_ ?_))))
    exact at_ cX_ () (z_ rfl (by have p1 := eq_true hr1; have p2 := eq_true hr2; have p3 := eq_true hr13; rw [← hr14]; simp only [cD_, p1, p2, p3, if_true, if_false, decide_true, decide_false, Bool.and_true, Bool.and_false, Bool.true_and, Bool.false_and, Bool.or_true, Bool.or_false, Bool.true_or, Bool.false_or, Bool.not_true, Bool.not_false, ne_eq, not_true_eq_false, not_false_eq_true, true_and, and_true, false_and, and_false, true_or, or_true, false_or, or_false, ite_true, ite_false, Bool.false_eq_true])) (c_ i_) (fun _ _ _ => trivial)
theorem incS_c (l : List Str) (ad : Option Addr) (cap : Nat) (hl : l.length ≤ 1000000000000) : Tri Tryz.prog 70 #[.slice ad (List.length l) cap, .func (.func 71) #[] #[]] [] [aD_ ad (List.flatMap aJ_ l)] (fun _ : Unit => .bool (decide (l.Pairwise (fun x y => x < y)))) (fun _ => []) (fun _ => []) := by
  refine S_ Tryz.func70 rfl rfl Tryz.ntmps70 rfl fun v0 => ?_
  refine h_ (d_ (a_ (g_ rfl) rfl (e_ (b_ rfl (h_ (h_ (d_ (a_ (g_ rfl) rfl (e_ ?_)))))))))
  refine b_ rfl (P_ ?_)
  refine aE_ (ι := {y : Nat // (l.take (y + 1)).Pairwise (fun x y => x < y)}) (fun y => [(0, .slice ad (List.length l) cap), (1, .func (.func 71) #[] #[]), (5, .int .i64 ((y.1 + 1 : Nat) : Int))]) (fun y => ([])) (fun y => [aD_ ad (List.flatMap aJ_ l)]) (fun y => l.length - y.1) ⟨(0 : Nat), pn_ l⟩ ⟨rfl, rfl, rfl, trivial⟩ J_ (fun _ _ h => h) ?_
  rintro ⟨k, hk⟩
  dsimp only at hk ⊢
  refine h_ (h_ (d_ (a_ (f_ rfl) rfl (a_ (f_ rfl) rfl (a_ (as_ D_ rfl) rfl (y_ (ay_ rfl rfl) rfl fun r1 hr1 => ?_))))))
  refine e_ (b_ rfl ?_)
  cases r1
  · skip
    replace hr1 := of_decide_eq_false hr1
    refine v_ rfl (aw_ rfl (b_ rfl (h_ (d_ (a_ (g_ rfl) rfl (e_ (b_ rfl (H_ ?_))))))))
    exact at_ Tryz.results70 () (z_ rfl (by symm; apply decide_eq_true; rwa [List.take_of_length_le (by omega)] at hk)) J_ (fun _ _ _ => trivial)
  · skip
    replace hr1 := of_decide_eq_true hr1
    have hlx1 : k < List.length l := by omega
    obtain ⟨x1, hx1⟩ : ∃ e0, l[k]? = some e0 := ⟨_, List.getElem?_eq_getElem hlx1⟩
    have hmx1 : x1 ∈ l := List.mem_of_getElem? hx1
    have hlx2 : (k + 1 : Nat) < List.length l := by omega
    obtain ⟨x2, hx2⟩ : ∃ e0, l[(k + 1 : Nat)]? = some e0 := ⟨_, List.getElem?_eq_getElem hlx2⟩
    have hmx2 : x2 ∈ l := List.mem_of_getElem? hx2
    refine u_ rfl (E_ (b_ rfl (h_ (P_ (h_ ?_)))))
    refine aC_ (by kernel_rfl) ?_
    refine ad_ 2 [0, 1, 2, 3, 4, 5, 6, 7, 8, 9] (by kernel_rfl) (fun _ a b => ⟨bz_ a, b⟩) (o_ rfl (f_ rfl) rfl (o_ rfl (f_ rfl) rfl (o_ rfl (f_ rfl) rfl (o_ rfl (bx_ (M_ rfl rfl rfl (al_ (by omega) (by omega))) (show Value.int .i64 (((k + 1 : Nat) : Int) - 1) = Value.int .i64 (k : Int) from congrArg _ (by omega))) rfl (o_ rfl (ae_ D_ j_ rfl rfl (fun v _ h => az_ (n := 1) aq_ (by decide) (by exact h.1) hx1) (by omega) (by first | omega | (simp; done))) rfl (o_ rfl (aH_ (ad := ad) p_ rfl (fun v _ h => by exact h.1) (ai_ aq_ hx1 0 _ rfl)) rfl (o_ rfl (f_ rfl) rfl (o_ rfl (f_ rfl) rfl (o_ rfl (ae_ D_ j_ rfl rfl (fun v _ h => az_ (n := 1) aq_ (by decide) (by exact h.1) hx2) (by omega) (by first | omega | (simp; done))) rfl ?_)))))))))
    refine o_ rfl (aH_ (ad := ad) p_ rfl (fun v _ h => by exact h.1) (ai_ aq_ hx2 0 _ rfl)) rfl (ac_ (X_ 10 rfl (by kernel_rfl) (bb_ (hO_ x1 x2) rfl rfl J_ (fun _ _ _ => by exact trivial) rfl fun _ => ?_)))
    refine e_ (x_ rfl (O_ (fun _ a b => ⟨bz_ a, b⟩) (ad_ 0 [11] (by kernel_rfl) (fun _ a b => ⟨bz_ a, b⟩) ?_)))
    refine bT_ rfl (cA_ rfl rfl) rfl fun r2 hr2 => ?_
    refine ac_ (aa_ (by kernel_rfl) (b_ rfl ?_))
    cases r2
    · skip
      replace hr2 := of_decide_eq_false hr2
      refine v_ rfl (E_ (b_ rfl (d_ (a_ (f_ rfl) rfl (a_ (M_ rfl rfl rfl (al_ (by omega) (by omega))) rfl (a_ (g_ rfl) rfl (e_ (x_ rfl ?_))))))))
      exact Z_ ⟨k + 1, nq_ (lt := (fun x y => x < y)) List.lt_trans hk hx1 hx2 (cS_lt (x := x1) (y := x2) (by omega))⟩ (by dsimp only; omega) ⟨rfl, rfl, rfl, trivial⟩ J_ (fun _ _ h => h)
    · skip
      replace hr2 := of_decide_eq_true hr2
      refine u_ rfl (h_ (d_ (a_ (g_ rfl) rfl (e_ (b_ rfl (H_ ?_))))))
      exact at_ Tryz.results70 () (z_ rfl (by symm; apply decide_eq_false; exact po_ hx1 hx2 (rq_.1 (by omega)))) J_ (fun _ _ _ => trivial)
theorem incF_c (l : List Fc) (ad : Option Addr) (cap : Nat) (hl : l.length ≤ 1000000000000) : Tri Tryz.prog 72 #[.slice ad (List.length l) cap, .func (.func 61) #[] #[]] [] [aD_ ad (List.flatMap Fc.cells l)] (fun _ : Unit => .bool (decide (l.Pairwise Fc.lt))) (fun _ => []) (fun _ => []) := by
  refine S_ Tryz.func72 rfl rfl Tryz.ntmps72 rfl fun v0 => ?_
  refine h_ (d_ (a_ (g_ rfl) rfl (e_ (b_ rfl (h_ (h_ (d_ (a_ (g_ rfl) rfl (e_ ?_)))))))))
  refine b_ rfl (P_ ?_)
  refine aE_ (ι := {y : Nat // (l.take (y + 1)).Pairwise Fc.lt}) (fun y => [(0, .slice ad (List.length l) cap), (1, .func (.func 61) #[] #[]), (5, .int .i64 ((y.1 + 1 : Nat) : Int))]) (fun y => ([])) (fun y => [aD_ ad (List.flatMap Fc.cells l)]) (fun y => l.length - y.1) ⟨(0 : Nat), pn_ l⟩ ⟨rfl, rfl, rfl, trivial⟩ J_ (fun _ _ h => h) ?_
  rintro ⟨k, hk⟩
  dsimp only at hk ⊢
  refine h_ (h_ (d_ (a_ (f_ rfl) rfl (a_ (f_ rfl) rfl (a_ (as_ G_ rfl) rfl (y_ (ay_ rfl rfl) rfl fun r1 hr1 => ?_))))))
  refine e_ (b_ rfl ?_)
  cases r1
  · skip
    replace hr1 := of_decide_eq_false hr1
    refine v_ rfl (aw_ rfl (b_ rfl (h_ (d_ (a_ (g_ rfl) rfl (e_ (b_ rfl (H_ ?_))))))))
    exact at_ Tryz.results72 () (z_ rfl (by symm; apply decide_eq_true; rwa [List.take_of_length_le (by omega)] at hk)) J_ (fun _ _ _ => trivial)
  · skip
    replace hr1 := of_decide_eq_true hr1
    have hlx1 : k < List.length l := by omega
    obtain ⟨x1, hx1⟩ : ∃ e0, l[k]? = some e0 := ⟨_, List.getElem?_eq_getElem hlx1⟩
    have hmx1 : x1 ∈ l := List.mem_of_getElem? hx1
    have hlx2 : (k + 1 : Nat) < List.length l := by omega
    obtain ⟨x2, hx2⟩ : ∃ e0, l[(k + 1 : Nat)]? = some e0 := ⟨_, List.getElem?_eq_getElem hlx2⟩
    have hmx2 : x2 ∈ l := List.mem_of_getElem? hx2
    refine u_ rfl (E_ (b_ rfl (h_ (P_ (h_ ?_)))))
    refine aC_ (by kernel_rfl) ?_
    refine ad_ 2 [0, 1, 2, 3, 4, 5, 6, 7, 8, 9] (by kernel_rfl) (fun _ a b => ⟨bz_ a, b⟩) (o_ rfl (f_ rfl) rfl (o_ rfl (f_ rfl) rfl (o_ rfl (f_ rfl) rfl (o_ rfl (bx_ (M_ rfl rfl rfl (al_ (by omega) (by omega))) (show Value.int .i64 (((k + 1 : Nat) : Int) - 1) = Value.int .i64 (k : Int) from congrArg _ (by omega))) rfl (o_ rfl (ae_ G_ A_ rfl rfl (fun v _ h => az_ (n := 6) Fc.cells_len (by decide) (by exact h.1) hx1) (by omega) (by first | omega | (simp; done))) rfl (o_ rfl (aV_ (ad := ad) (us := Fc.cells x1) U_ A_ rfl (fun v _ h => by exact h.1) (Fc.cells_len _) (ai_ Fc.cells_len hx1)) rfl (o_ rfl (f_ rfl) rfl (o_ rfl (f_ rfl) rfl (o_ rfl (ae_ G_ A_ rfl rfl (fun v _ h => az_ (n := 6) Fc.cells_len (by decide) (by exact h.1) hx2) (by omega) (by first | omega | (simp; done))) rfl ?_)))))))))
    refine o_ rfl (aV_ (ad := ad) (us := Fc.cells x2) U_ A_ rfl (fun v _ h => by exact h.1) (Fc.cells_len _) (ai_ Fc.cells_len hx2)) rfl (ac_ (X_ 10 rfl (by kernel_rfl) (bb_ (pX_ x1 x2) rfl rfl J_ (fun _ _ _ => by exact trivial) rfl fun _ => ?_)))
    refine e_ (x_ rfl (O_ (fun _ a b => ⟨bz_ a, b⟩) (ad_ 0 [11] (by kernel_rfl) (fun _ a b => ⟨bz_ a, b⟩) ?_)))
    refine bT_ rfl (cA_ rfl rfl) rfl fun r2 hr2 => ?_
    refine ac_ (aa_ (by kernel_rfl) (b_ rfl ?_))
    cases r2
    · skip
      replace hr2 := of_decide_eq_false hr2
      refine v_ rfl (E_ (b_ rfl (d_ (a_ (f_ rfl) rfl (a_ (M_ rfl rfl rfl (al_ (by omega) (by omega))) rfl (a_ (g_ rfl) rfl (e_ (x_ rfl ?_))))))))
      exact Z_ ⟨k + 1, nq_ (lt := Fc.lt) Fc.lt_trans hk hx1 hx2 (qU_ (x := x1) (y := x2) (by omega))⟩ (by dsimp only; omega) ⟨rfl, rfl, rfl, trivial⟩ J_ (fun _ _ h => h)
    · skip
      replace hr2 := of_decide_eq_true hr2
      refine u_ rfl (h_ (d_ (a_ (g_ rfl) rfl (e_ (b_ rfl (H_ ?_))))))
      exact at_ Tryz.results72 () (z_ rfl (by symm; apply decide_eq_false; exact po_ hx1 hx2 (nD_.1 (by omega)))) J_ (fun _ _ _ => trivial)
end Go.Proofs.YtpdbbglpbngeiaaGreatDoor
