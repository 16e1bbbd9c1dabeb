/-
  Part of the proof of the law SaturateBase over this seat: the small logic, the data, the contracts of functions (no condition).
-/
import Derived.Test.YtpdbbglpbngeiaaGreatDoorQSaturateBase6
import Derived.Shelf.SlSortCmp.NoneTotal
import Derived.Test.YtpdbbglpbngeiaaGreatDoorProg
import Derived.Test.YtpdbbglpbngeiaaGreatDoorQSaturateBase2
set_option linter.unusedVariables false
set_option linter.unusedSimpArgs false
set_option linter.unusedSectionVars false
namespace Go.Proofs.YtpdbbglpbngeiaaGreatDoor
open Go Go.Sx Go.Proofs
attribute [local irreducible] Code.wp wpList wpAnyH
open Go.Vs
theorem oF_ (B : EngB) (E : Emt Tryz.prog 41) (x : Ix) (f : Fc) (nw fm : List Fc) (Hs : Hp) (hS : E.St nw fm Hs) (Ha Hu Ho Hi Hr Hm : Hp) (hI : IxO 9 41 B x ⟨Ha, Hu, Ho, Hi, Hr, Hm⟩) (hxl : ∀ k, (lat x.above k).length ≤ 1000000000 ∧ (lat x.under k).length ≤ 1000000000) (hyl : ∀ k, (lat x.frm k).length ≤ 1000000000 ∧ (lat x.into k).length ≤ 1000000000 ∧ (lat x.ranges k).length ≤ 1000000000 ∧ (lat x.firms k).length ≤ 1000000000) : Tri Tryz.prog 59 #[zp_ B.g 0, Fc.val f] (Ha ++ (Hu ++ (Ho ++ (Hi ++ (Hr ++ (Hm ++ Hs)))))) [gF B E] (fun _ : {y : IxH // IxO 9 41 B (x.add (decide (f ∈ fm)) f) y} => .tuple #[]) (fun y => y.1.a ++ (y.1.u ++ (y.1.o ++ (y.1.i ++ (y.1.r ++ (y.1.s ++ Hs)))))) (fun _ => []) := by
 refine R_ Tryz.func59 rfl rfl Tryz.ntmps59 rfl fun v0 => ?_
 obtain ⟨ha, hu, ho, hi, hr, hm⟩ := hI
 dsimp only at ha hu ho hi hr hm
 refine f_ (d_ (aI_ rfl rfl fun b1 => ?_))
 refine e_ (b_ rfl (f_ (d_ (a_ (k_ s_ rfl rfl rfl I_) rfl (a_ (o_ 0 J_ rfl rfl rfl) rfl (e_ (b_ rfl (S_ (f_ ?_)))))))))
 refine d_ (z_ (aA_ rfl rfl) rfl fun r1 hr1 => ?_)
 refine a_ (h_ rfl) rfl (e_ (b_ rfl ?_))
 cases r1
 ·
  replace hr1 := ne_of_beq_false hr1
  refine r_ rfl (f_ (d_ (z_ (aA_ rfl rfl) rfl fun r2 hr2 => ?_)))
  refine a_ (h_ rfl) rfl (e_ (b_ rfl ?_))
  cases r2
  ·
   replace hr2 := ne_of_beq_false hr2
   refine r_ rfl (f_ (d_ (z_ (aA_ rfl rfl) rfl fun r3 hr3 => ?_)))
   refine a_ (h_ rfl) rfl (e_ (b_ rfl ?_))
   cases r3
   ·
    replace hr3 := ne_of_beq_false hr3
    refine r_ rfl (B_ (aQ_ rfl ?_))
    exact ch_ ep_ ⟨IxH.mk Ha Hu Ho Hi Hr Hm, by unfold Ix.add; rw [if_neg (by assumption), if_neg (by assumption), if_neg (by assumption)]; exact ⟨ha, hu, ho, hi, hr, hm⟩⟩ rfl (y_ (c_ q_) (y_ (c_ q_) (y_ (c_ q_) (y_ (c_ q_) (y_ (c_ q_) (y_ (c_ q_) ad_)))))) (fun _ _ _ => trivial)
   ·
    replace hr3 := eq_of_beq hr3
    refine n_ rfl (f_ (d_ (a_ (k_ s_ rfl rfl rfl p_) rfl (a_ (o_ 0 v_ rfl rfl rfl) rfl (a_ (k_ s_ rfl rfl rfl p_) rfl (a_ (o_ 0 v_ rfl rfl rfl) rfl (a_ (ao_ eZ_ rfl rfl) rfl (al_ cA_ rfl fun b2 => ?_))))))))
    refine ae_ 0 bi_ rfl rfl rfl rfl rfl rfl (e_ (b_ rfl (f_ ?_)))
    refine aD_ ((b2, .cells #[str (Fc.a f), str (Fc.r f)] 145 (0, 0)) :: ((b1, .cells (Fc.cells f).toArray 41 (0, 0)) :: [])) (by kernel_rfl) ?_
    refine ab_ 6 [0, 1, 2, 3, 4, 5] (by kernel_rfl) (fun _ a b => ⟨Vw.sat.sub (a.perm (l_ i_ i_)), b⟩) (j_ rfl (g_ rfl) rfl (j_ rfl (ag_ rfl) rfl (j_ rfl (k_ F_ rfl rfl rfl sJ_) rfl (j_ rfl (Z_ Tryz.isAgg92 rfl (fun v _ h => by exact h.1) rfl) rfl (j_ rfl (K_ 0 dp_ bi_ rfl rfl rfl) rfl (j_ rfl (K_ 1 af_ M_ rfl rfl rfl) rfl (aa_ (N_ 6 rfl (by kernel_rfl) (aW_ az_ M_ aT_ rfl rfl rfl rfl rfl rfl fun b3 => ?_)))))))))
    refine e_ (t_ rfl (E_ (fun _ a b => ⟨Vw.sat.sub (a.perm (l_ (c_ i_) (c_ i_))), b⟩) (N_ 7 rfl (by kernel_rfl) ?_)))
    have hbb1 := (hyl ((Fc.a f), (Fc.r f))).2.2.1
    refine dv_ (k := ((Fc.a f), (Fc.r f))) cO_ hr qw_ mc_ rfl rfl (c_ (c_ (c_ (m_ (m_ (m_ (m_ q_))))))) rfl fun es1 ce1 ie1 se1 ve1 Hk1 Hx1 ho1 hw1 => ?_
    refine e_ (t_ rfl (E_ (fun _ a b => ⟨Vw.sat.sub (a.perm (l_ (c_ (m_ (m_ (c_ i_)))) (c_ (m_ (m_ (c_ i_)))))), b⟩) (ab_ 2 [8, 10] (by kernel_rfl) (fun _ a b => ⟨Vw.sat.sub (a.perm (l_ (c_ (m_ (m_ (c_ i_)))) (c_ (m_ (m_ (c_ i_)))))), b⟩) (j_ rfl (aq_ rfl rfl) rfl (j_ rfl (aq_ rfl rfl) rfl (aa_ (N_ 9 rfl (by kernel_rfl) (bp_ (news := List.flatMap Fc.cells [f]) lO_ hw1 rfl rfl (c_ q_) rfl (dt_ (c_ (m_ (m_ i_)))) (fun u hu => cf_ Fc.cells_one hu) (by simp only [maxLen]; omega) (by omega) rfl fun sv1 Hr1 hr1 => ?_))))))))
    have hq1 : bt_ 41 6 sv1 (List.length ((lat x.ranges ((Fc.a f), (Fc.r f))) ++ [f])) (List.flatMap Fc.cells ((lat x.ranges ((Fc.a f), (Fc.r f))) ++ [f])) Hr1 := by rw [List.length_append, List.flatMap_append]; exact hr1
    refine e_ (t_ rfl (E_ (fun _ a b => ⟨Vw.sat.sub (a.perm (l_ (m_ (c_ (m_ (c_ i_)))) (m_ (c_ (m_ (c_ i_)))))), b⟩) (N_ 11 rfl (by kernel_rfl) (bW_ (k := ((Fc.a f), (Fc.r f))) (dd := f) ho1 (by rw [cW_]; exact hq1) rfl rfl rfl (cV_ (l_ (m_ i_) (y_ q_ q_))) fun H2 hM2 => ?_))))
    refine e_ (t_ rfl (E_ (fun _ a b => ⟨Vw.sat.sub (a.perm (l_ (m_ (c_ i_)) (m_ (c_ i_)))), b⟩) (Y_ (by kernel_rfl) (b_ rfl (ap_ (aY_ (m_ i_) (aY_ (m_ i_) (cn_ (m_ i_)))) (f_ ?_))))))
    refine aE_ (by kernel_rfl) ?_
    refine ab_ 0 [0, 1, 2, 3, 4, 5] (by kernel_rfl) (fun _ a b => ⟨a, b⟩) (j_ rfl (g_ rfl) rfl (j_ rfl (ag_ rfl) rfl (j_ rfl (k_ F_ rfl rfl rfl bv_) rfl (j_ rfl (Z_ bD_ rfl (fun v _ h => by exact h.1) rfl) rfl (j_ rfl (K_ 2 af_ M_ rfl rfl rfl) rfl ?_)))))
    refine cK_ rfl (mf_ (f := f) hS fW_ aS_ bV_ rfl rfl (c_ (c_ (c_ (m_ (m_ (m_ (m_ (m_ ba_))))))))) rfl fun r4 hr4 => ?_
    refine aa_ (Y_ (by kernel_rfl) (b_ rfl ?_))
    cases r4
    ·
     replace hr4 := of_decide_eq_false hr4
     refine r_ rfl (B_ (aQ_ rfl ?_))
     exact ch_ ep_ ⟨IxH.mk Ha Hu Ho Hi H2 Hm, by have e0 : x.add (decide (f ∈ fm)) f = { x with ranges := (x.ranges ++ [(((Fc.a f), (Fc.r f)), f)]) } := (by unfold Ix.add; rw [if_neg (by omega), if_neg (by omega), if_pos (by assumption), decide_eq_false (by assumption)]; rfl); rw [e0]; exact ⟨ha, hu, ho, hi, hM2, hm⟩⟩ rfl (y_ (c_ (c_ (c_ (m_ q_)))) (y_ (c_ (c_ (c_ (m_ q_)))) (y_ (c_ (c_ (c_ (m_ q_)))) (y_ (c_ (c_ (c_ (m_ q_)))) (y_ (c_ (c_ (c_ q_))) (y_ (c_ (c_ (c_ q_))) (c_ (c_ ad_)))))))) (fun _ _ _ => trivial)
    ·
     replace hr4 := of_decide_eq_true hr4
     refine n_ rfl ?_
     refine aD_ ((b3, .cells (Fc.cells f).toArray 41 (0, 0)) :: ((b2, .cells #[str (Fc.a f), str (Fc.r f)] 145 (0, 0)) :: ((b1, .cells (Fc.cells f).toArray 41 (0, 0)) :: []))) (by kernel_rfl) ?_
     refine ab_ 6 [0, 1, 2, 3, 4, 5] (by kernel_rfl) (fun _ a b => ⟨Vw.sat.sub (a.perm (l_ i_ (l_ i_ i_))), b⟩) (j_ rfl (g_ rfl) rfl (j_ rfl (ag_ rfl) rfl (j_ rfl (k_ F_ rfl rfl rfl sJ_) rfl (j_ rfl (Z_ Tryz.isAgg92 rfl (fun v _ h => by exact h.1) rfl) rfl (j_ rfl (K_ 1 dp_ bi_ rfl rfl rfl) rfl (j_ rfl (K_ 2 af_ M_ rfl rfl rfl) rfl (aa_ (N_ 6 rfl (by kernel_rfl) (aW_ az_ M_ aT_ rfl rfl rfl rfl rfl rfl fun b4 => ?_)))))))))
     refine e_ (t_ rfl (E_ (fun _ a b => ⟨Vw.sat.sub (a.perm (l_ (c_ i_) (l_ (c_ i_) (c_ i_)))), b⟩) (N_ 7 rfl (by kernel_rfl) ?_)))
     have hbb3 := (hyl ((Fc.a f), (Fc.r f))).2.2.2
     refine dv_ (k := ((Fc.a f), (Fc.r f))) cO_ hm qw_ mc_ rfl rfl (c_ (c_ (c_ (c_ (m_ (m_ (m_ (m_ (m_ q_))))))))) rfl fun es3 ce3 ie3 se3 ve3 Hk3 Hx3 ho3 hw3 => ?_
     refine e_ (t_ rfl (E_ (fun _ a b => ⟨Vw.sat.sub (a.perm (l_ (c_ (m_ (m_ (c_ i_)))) (l_ (c_ (m_ (m_ (c_ i_)))) (c_ (m_ (m_ (c_ i_))))))), b⟩) (ab_ 2 [8, 10] (by kernel_rfl) (fun _ a b => ⟨Vw.sat.sub (a.perm (l_ (c_ (m_ (m_ (c_ i_)))) (l_ (c_ (m_ (m_ (c_ i_)))) (c_ (m_ (m_ (c_ i_))))))), b⟩) (j_ rfl (aq_ rfl rfl) rfl (j_ rfl (aq_ rfl rfl) rfl (aa_ (N_ 9 rfl (by kernel_rfl) (bp_ (news := List.flatMap Fc.cells [f]) lO_ hw3 rfl rfl (c_ q_) rfl (dt_ (c_ (m_ (m_ i_)))) (fun u hu => cf_ Fc.cells_one hu) (by simp only [maxLen]; omega) (by omega) rfl fun sv2 Hr2 hr2 => ?_))))))))
     have hq2 : bt_ 41 6 sv2 (List.length ((lat x.firms ((Fc.a f), (Fc.r f))) ++ [f])) (List.flatMap Fc.cells ((lat x.firms ((Fc.a f), (Fc.r f))) ++ [f])) Hr2 := by rw [List.length_append, List.flatMap_append]; exact hr2
     refine e_ (t_ rfl (E_ (fun _ a b => ⟨Vw.sat.sub (a.perm (l_ (m_ (c_ (m_ (c_ i_)))) (l_ (m_ (c_ (m_ (c_ i_)))) (m_ (c_ (m_ (c_ i_))))))), b⟩) (N_ 11 rfl (by kernel_rfl) (bW_ (k := ((Fc.a f), (Fc.r f))) (dd := f) ho3 (by rw [cW_]; exact hq2) rfl rfl rfl (cV_ (l_ (m_ i_) (y_ q_ q_))) fun H4 hM4 => ?_))))
     refine e_ (t_ rfl (E_ (fun _ a b => ⟨Vw.sat.sub (a.perm (l_ (m_ (c_ i_)) (l_ (m_ (c_ i_)) (m_ (c_ i_))))), b⟩) (Y_ (by kernel_rfl) (aQ_ rfl ?_))))
     exact ch_ ep_ ⟨IxH.mk Ha Hu Ho Hi H2 H4, by have e0 : x.add (decide (f ∈ fm)) f = { x with ranges := (x.ranges ++ [(((Fc.a f), (Fc.r f)), f)]), firms := (x.firms ++ [(((Fc.a f), (Fc.r f)), f)]) } := (by unfold Ix.add; rw [if_neg (by omega), if_neg (by omega), if_pos (by assumption), decide_eq_true (by assumption)]; rfl); rw [e0]; exact ⟨ha, hu, ho, hi, hM2, hM4⟩⟩ rfl (y_ (m_ (c_ (c_ (c_ (c_ (m_ q_)))))) (y_ (m_ (c_ (c_ (c_ (c_ (m_ q_)))))) (y_ (m_ (c_ (c_ (c_ (c_ (m_ q_)))))) (y_ (m_ (c_ (c_ (c_ (c_ (m_ q_)))))) (y_ (m_ (c_ (c_ (c_ (c_ q_))))) (y_ q_ (c_ (c_ (c_ ad_))))))))) (fun _ _ _ => trivial)
  ·
   replace hr2 := eq_of_beq hr2
   refine n_ rfl ?_
   have hbb5 := (hxl (Fc.b f)).2
   refine oy_ fU_ (Fc.b f) hu (c_ (m_ q_)) fun es5 ce5 ve5 Hk5 Hx5 hw5 ho5 => ?_
   refine ap_ (aY_ i_ (cn_ (m_ (m_ i_)))) (f_ ?_)
   refine aD_ ((b1, .cells (Fc.cells f).toArray 41 (0, 0)) :: []) (by kernel_rfl) ?_
   refine ab_ 4 [0, 1, 2, 3, 4, 5, 6, 7, 8, 9, 10, 11, 13, 14] (by kernel_rfl) (fun _ a b => ⟨Vw.sat.sub (a.perm (c_ i_)), b⟩) (j_ rfl (g_ rfl) rfl (j_ rfl (ag_ rfl) rfl (j_ rfl (k_ F_ rfl rfl rfl hQ_) rfl (j_ rfl (Z_ nO_ rfl (fun v _ h => by exact h.1) rfl) rfl (j_ rfl (k_ s_ rfl rfl rfl p_) rfl (j_ rfl (o_ 0 v_ rfl rfl rfl) rfl (j_ rfl (g_ rfl) rfl (j_ rfl (ag_ rfl) rfl (j_ rfl (k_ F_ rfl rfl rfl hQ_) rfl ?_)))))))))
   refine j_ rfl (Z_ nO_ rfl (fun v _ h => by exact h.1) rfl) rfl (j_ rfl (k_ s_ rfl rfl rfl p_) rfl (j_ rfl (o_ 0 v_ rfl rfl rfl) rfl (j_ rfl (k_ s_ rfl rfl rfl p_) rfl (j_ rfl (o_ 0 v_ rfl rfl rfl) rfl (aa_ ?_)))))
   refine hv_ 12 15 rfl rfl (by kernel_rfl) ?_ ?_
   ·
    refine a_ (hh_ (k := (Fc.b f)) fU_ ho5 cr_ bC_ rfl rfl 0 rfl) rfl (e_ (t_ rfl (E_ (fun _ a b => ⟨Vw.sat.sub (a.perm (c_ i_)), b⟩) (N_ 15 rfl (by kernel_rfl) (aW_ L_ p_ bm_ rfl rfl rfl rfl rfl rfl fun b5 => ?_)))))
    refine e_ (t_ rfl (E_ (fun _ a b => ⟨Vw.sat.sub (a.perm (c_ (c_ i_))), b⟩) (N_ 16 rfl (by kernel_rfl) (bp_ (news := List.flatMap bf_ [(Fc.a f)]) dq_ hw5 rfl rfl (c_ (c_ (c_ q_))) rfl (df_ 0 rfl) (fun u hu => cf_ cN_ hu) (by simp only [maxLen]; omega) (by omega) rfl fun sv3 Hr3 hr3 => ?_))))
    have hq3 : bt_ 9 1 sv3 (List.length ((lat x.under (Fc.b f)) ++ [(Fc.a f)])) (List.flatMap bf_ ((lat x.under (Fc.b f)) ++ [(Fc.a f)])) Hr3 := by rw [List.length_append, List.flatMap_append]; exact hr3
    refine e_ (t_ rfl (E_ (fun _ a b => ⟨Vw.sat.sub (a.perm (m_ (c_ (c_ i_)))), b⟩) (N_ 17 rfl (by kernel_rfl) (gr_ (k := (Fc.b f)) (dd := (Fc.a f)) fU_ ho5 (by rw [cW_]; exact hq3) (.inr rfl) cr_ rfl rfl rfl (cV_ (l_ (m_ (c_ i_)) (y_ q_ (c_ (c_ q_))))) fun H6 hM6 => ?_))))
    refine e_ (t_ rfl (E_ (fun _ a b => ⟨Vw.sat.sub (a.perm (m_ (c_ i_))), b⟩) (Y_ (by kernel_rfl) (b_ rfl (ap_ (aY_ (m_ i_) (cn_ (m_ i_))) (f_ ?_))))))
    refine aE_ (by kernel_rfl) ?_
    refine ab_ 4 [0, 1, 2, 3, 4, 5, 6, 7, 8, 9] (by kernel_rfl) (fun _ a b => ⟨a, b⟩) (j_ rfl (k_ s_ rfl rfl rfl p_) rfl (j_ rfl (o_ 1 v_ rfl rfl rfl) rfl (j_ rfl (k_ s_ rfl rfl rfl p_) rfl (j_ rfl (o_ 1 v_ rfl rfl rfl) rfl (j_ rfl (ao_ eZ_ rfl rfl) rfl (j_ rfl (k_ s_ rfl rfl rfl p_) rfl (j_ rfl (o_ 1 v_ rfl rfl rfl) rfl (j_ rfl (k_ s_ rfl rfl rfl p_) rfl (j_ rfl (o_ 1 v_ rfl rfl rfl) rfl ?_)))))))))
    refine j_ rfl (ao_ eZ_ rfl rfl) rfl (aa_ ?_)
    refine hv_ 10 11 rfl rfl (by kernel_rfl) ?_ ?_
    ·
     refine al_ cA_ rfl fun b6 => ?_
     refine e_ (t_ rfl (E_ (fun _ a b => ⟨a.tail, b⟩) (N_ 11 rfl (by kernel_rfl) (al_ cA_ rfl fun b7 => ?_))))
     refine e_ (t_ rfl (E_ (fun _ a b => ⟨a.tail.tail, b⟩) (N_ 12 rfl (by kernel_rfl) (ae_ 1 bi_ rfl rfl rfl rfl rfl rfl (e_ (t_ rfl (E_ (fun _ a b => ⟨a.tail.tail, b⟩) (N_ 13 rfl (by kernel_rfl) (ae_ 0 bi_ rfl rfl rfl rfl rfl rfl ?_)))))))))
     refine e_ (t_ rfl (E_ (fun _ a b => ⟨a.tail.tail, b⟩) (Y_ (by kernel_rfl) (b_ rfl (f_ ?_)))))
     refine aD_ ((b7, .cells #[str (Fc.b f), str (Fc.r f)] 145 (0, 0)) :: ((b6, .cells #[str (Fc.a f), str (Fc.r f)] 145 (0, 0)) :: ((b5, .cells #[str (Fc.a f)] 9 (0, 0)) :: ((b1, .cells (Fc.cells f).toArray 41 (0, 0)) :: [])))) (by kernel_rfl) ?_
     refine ab_ 6 [0, 1, 2, 3, 4, 5, 6] (by kernel_rfl) (fun _ a b => ⟨Vw.sat.sub (a.perm (l_ i_ (l_ i_ (l_ i_ i_)))), b⟩) (j_ rfl (g_ rfl) rfl (j_ rfl (ag_ rfl) rfl (j_ rfl (k_ F_ rfl rfl rfl dn_) rfl (j_ rfl (Z_ dY_ rfl (fun v _ h => by exact h.1) rfl) rfl (j_ rfl (K_ 1 dp_ bi_ rfl rfl rfl) rfl (j_ rfl (k_ s_ rfl rfl rfl p_) rfl (j_ rfl (o_ 3 v_ rfl rfl rfl) rfl (aa_ (N_ 7 rfl (by kernel_rfl) ?_)))))))))
     refine aW_ L_ p_ bm_ rfl rfl rfl rfl rfl rfl fun b8 => ?_
     refine e_ (t_ rfl (E_ (fun _ a b => ⟨Vw.sat.sub (a.perm (l_ (c_ i_) (l_ (c_ i_) (l_ (c_ i_) (c_ i_))))), b⟩) (N_ 8 rfl (by kernel_rfl) ?_)))
     have hbb7 := (hyl ((Fc.a f), (Fc.r f))).1
     refine dv_ (k := ((Fc.a f), (Fc.r f))) cO_ ho ca_ bC_ rfl rfl (c_ (c_ (c_ (c_ (c_ (m_ (m_ q_))))))) rfl fun es7 ce7 ie7 se7 ve7 Hk7 Hx7 ho7 hw7 => ?_
     refine e_ (t_ rfl (E_ (fun _ a b => ⟨Vw.sat.sub (a.perm (l_ (c_ (m_ (m_ (c_ i_)))) (l_ (c_ (m_ (m_ (c_ i_)))) (l_ (c_ (m_ (m_ (c_ i_)))) (c_ (m_ (m_ (c_ i_)))))))), b⟩) (ab_ 2 [9, 11] (by kernel_rfl) (fun _ a b => ⟨Vw.sat.sub (a.perm (l_ (c_ (m_ (m_ (c_ i_)))) (l_ (c_ (m_ (m_ (c_ i_)))) (l_ (c_ (m_ (m_ (c_ i_)))) (c_ (m_ (m_ (c_ i_)))))))), b⟩) (j_ rfl (aq_ rfl rfl) rfl (j_ rfl (aq_ rfl rfl) rfl (aa_ (N_ 10 rfl (by kernel_rfl) (bp_ (news := List.flatMap bf_ [(Fc.b f)]) dq_ hw7 rfl rfl (c_ q_) rfl (dt_ (c_ (m_ (m_ i_)))) (fun u hu => cf_ cN_ hu) (by simp only [maxLen]; omega) (by omega) rfl fun sv4 Hr4 hr4 => ?_))))))))
     have hq4 : bt_ 9 1 sv4 (List.length ((lat x.frm ((Fc.a f), (Fc.r f))) ++ [(Fc.b f)])) (List.flatMap bf_ ((lat x.frm ((Fc.a f), (Fc.r f))) ++ [(Fc.b f)])) Hr4 := by rw [List.length_append, List.flatMap_append]; exact hr4
     refine e_ (t_ rfl (E_ (fun _ a b => ⟨Vw.sat.sub (a.perm (l_ (m_ (c_ (m_ (c_ i_)))) (l_ (m_ (c_ (m_ (c_ i_)))) (l_ (m_ (c_ (m_ (c_ i_)))) (m_ (c_ (m_ (c_ i_)))))))), b⟩) (N_ 12 rfl (by kernel_rfl) (bW_ (k := ((Fc.a f), (Fc.r f))) (dd := (Fc.b f)) ho7 (by rw [cW_]; exact hq4) rfl rfl rfl (cV_ (l_ (m_ i_) (y_ q_ q_))) fun H8 hM8 => ?_))))
     refine e_ (t_ rfl (E_ (fun _ a b => ⟨Vw.sat.sub (a.perm (l_ (m_ (c_ i_)) (l_ (m_ (c_ i_)) (l_ (m_ (c_ i_)) (m_ (c_ i_)))))), b⟩) (Y_ (by kernel_rfl) (b_ rfl (ap_ (aY_ (m_ i_) (aY_ (m_ i_) (aY_ (m_ i_) (aY_ (m_ i_) (cn_ (m_ i_)))))) ?_)))))
     refine aD_ ((b8, .cells #[str (Fc.b f)] 9 (0, 0)) :: ((b7, .cells #[str (Fc.b f), str (Fc.r f)] 145 (0, 0)) :: ((b6, .cells #[str (Fc.a f), str (Fc.r f)] 145 (0, 0)) :: ((b5, .cells #[str (Fc.a f)] 9 (0, 0)) :: ((b1, .cells (Fc.cells f).toArray 41 (0, 0)) :: []))))) (by kernel_rfl) ?_
     refine ab_ 6 [0, 1, 2, 3, 4, 5, 6] (by kernel_rfl) (fun _ a b => ⟨Vw.sat.sub (a.perm (l_ i_ (l_ i_ (l_ i_ (l_ i_ i_))))), b⟩) (j_ rfl (g_ rfl) rfl (j_ rfl (ag_ rfl) rfl (j_ rfl (k_ F_ rfl rfl rfl dn_) rfl (j_ rfl (Z_ dY_ rfl (fun v _ h => by exact h.1) rfl) rfl (j_ rfl (K_ 1 dp_ bi_ rfl rfl rfl) rfl (j_ rfl (k_ s_ rfl rfl rfl p_) rfl (j_ rfl (o_ 4 v_ rfl rfl rfl) rfl (aa_ (N_ 7 rfl (by kernel_rfl) ?_)))))))))
     refine aW_ L_ p_ bm_ rfl rfl rfl rfl rfl rfl fun b9 => ?_
     refine e_ (t_ rfl (E_ (fun _ a b => ⟨Vw.sat.sub (a.perm (l_ (c_ i_) (l_ (c_ i_) (l_ (c_ i_) (l_ (c_ i_) (c_ i_)))))), b⟩) (N_ 8 rfl (by kernel_rfl) ?_)))
     have hbb9 := (hyl ((Fc.b f), (Fc.r f))).2.1
     refine dv_ (k := ((Fc.b f), (Fc.r f))) cO_ hi ca_ bC_ rfl rfl (c_ (c_ (c_ (c_ (c_ (c_ (m_ (m_ (m_ q_))))))))) rfl fun es9 ce9 ie9 se9 ve9 Hk9 Hx9 ho9 hw9 => ?_
     refine e_ (t_ rfl (E_ (fun _ a b => ⟨Vw.sat.sub (a.perm (l_ (c_ (m_ (m_ (c_ i_)))) (l_ (c_ (m_ (m_ (c_ i_)))) (l_ (c_ (m_ (m_ (c_ i_)))) (l_ (c_ (m_ (m_ (c_ i_)))) (c_ (m_ (m_ (c_ i_))))))))), b⟩) (ab_ 2 [9, 11] (by kernel_rfl) (fun _ a b => ⟨Vw.sat.sub (a.perm (l_ (c_ (m_ (m_ (c_ i_)))) (l_ (c_ (m_ (m_ (c_ i_)))) (l_ (c_ (m_ (m_ (c_ i_)))) (l_ (c_ (m_ (m_ (c_ i_)))) (c_ (m_ (m_ (c_ i_))))))))), b⟩) (j_ rfl (aq_ rfl rfl) rfl (j_ rfl (aq_ rfl rfl) rfl (aa_ (N_ 10 rfl (by kernel_rfl) (bp_ (news := List.flatMap bf_ [(Fc.a f)]) dq_ hw9 rfl rfl (c_ q_) rfl (dt_ (c_ (m_ (m_ i_)))) (fun u hu => cf_ cN_ hu) (by simp only [maxLen]; omega) (by omega) rfl fun sv5 Hr5 hr5 => ?_))))))))
     have hq5 : bt_ 9 1 sv5 (List.length ((lat x.into ((Fc.b f), (Fc.r f))) ++ [(Fc.a f)])) (List.flatMap bf_ ((lat x.into ((Fc.b f), (Fc.r f))) ++ [(Fc.a f)])) Hr5 := by rw [List.length_append, List.flatMap_append]; exact hr5
     refine e_ (t_ rfl (E_ (fun _ a b => ⟨Vw.sat.sub (a.perm (l_ (m_ (c_ (m_ (c_ i_)))) (l_ (m_ (c_ (m_ (c_ i_)))) (l_ (m_ (c_ (m_ (c_ i_)))) (l_ (m_ (c_ (m_ (c_ i_)))) (m_ (c_ (m_ (c_ i_))))))))), b⟩) (N_ 12 rfl (by kernel_rfl) (bW_ (k := ((Fc.b f), (Fc.r f))) (dd := (Fc.a f)) ho9 (by rw [cW_]; exact hq5) rfl rfl rfl (cV_ (l_ (m_ i_) (y_ q_ q_))) fun H10 hM10 => ?_))))
     refine e_ (t_ rfl (E_ (fun _ a b => ⟨Vw.sat.sub (a.perm (l_ (m_ (c_ i_)) (l_ (m_ (c_ i_)) (l_ (m_ (c_ i_)) (l_ (m_ (c_ i_)) (m_ (c_ i_))))))), b⟩) (Y_ (by kernel_rfl) (aQ_ rfl ?_))))
     exact ch_ ep_ ⟨IxH.mk Ha H6 H8 H10 Hr Hm, by have e0 : x.add (decide (f ∈ fm)) f = { x with under := (x.under ++ [((Fc.b f), (Fc.a f))]), frm := (x.frm ++ [(((Fc.a f), (Fc.r f)), (Fc.b f))]), into := (x.into ++ [(((Fc.b f), (Fc.r f)), (Fc.a f))]) } := (by unfold Ix.add; rw [if_neg (by omega), if_pos (by assumption)]); rw [e0]; exact ⟨ha, hM6, hM8, hM10, hr, hm⟩⟩ rfl (y_ (m_ (c_ (c_ (c_ (c_ (c_ (c_ (m_ (m_ q_))))))))) (y_ (m_ (c_ (c_ (c_ (c_ (c_ (c_ (m_ q_)))))))) (y_ (m_ (c_ (c_ (c_ (c_ (c_ (c_ q_))))))) (y_ q_ (y_ (c_ (c_ (c_ (c_ (c_ (c_ q_)))))) (y_ (c_ (c_ (c_ (c_ (c_ (c_ q_)))))) (c_ (c_ (c_ (c_ (c_ ad_))))))))))) (fun _ _ _ => trivial)
    ·
     refine al_ cA_ rfl fun b10 => ?_
     refine e_ (t_ rfl (E_ (fun _ a b => ⟨a.tail, b⟩) (N_ 10 rfl (by kernel_rfl) (al_ cA_ rfl fun b11 => ?_))))
     refine e_ (t_ rfl (E_ (fun _ a b => ⟨a.tail.tail, b⟩) (N_ 12 rfl (by kernel_rfl) (ae_ 0 bi_ rfl rfl rfl rfl rfl rfl (e_ (t_ rfl (E_ (fun _ a b => ⟨a.tail.tail, b⟩) (N_ 13 rfl (by kernel_rfl) (ae_ 1 bi_ rfl rfl rfl rfl rfl rfl ?_)))))))))
     refine e_ (t_ rfl (E_ (fun _ a b => ⟨a.tail.tail, b⟩) (Y_ (by kernel_rfl) (b_ rfl (f_ ?_)))))
     refine aD_ ((b11, .cells #[str (Fc.a f), str (Fc.r f)] 145 (0, 0)) :: ((b10, .cells #[str (Fc.b f), str (Fc.r f)] 145 (0, 0)) :: ((b5, .cells #[str (Fc.a f)] 9 (0, 0)) :: ((b1, .cells (Fc.cells f).toArray 41 (0, 0)) :: [])))) (by kernel_rfl) ?_
     refine ab_ 6 [0, 1, 2, 3, 4, 5, 6] (by kernel_rfl) (fun _ a b => ⟨Vw.sat.sub (a.perm (l_ i_ (l_ i_ (l_ i_ i_)))), b⟩) (j_ rfl (g_ rfl) rfl (j_ rfl (ag_ rfl) rfl (j_ rfl (k_ F_ rfl rfl rfl dn_) rfl (j_ rfl (Z_ dY_ rfl (fun v _ h => by exact h.1) rfl) rfl (j_ rfl (K_ 0 dp_ bi_ rfl rfl rfl) rfl (j_ rfl (k_ s_ rfl rfl rfl p_) rfl (j_ rfl (o_ 3 v_ rfl rfl rfl) rfl (aa_ (N_ 7 rfl (by kernel_rfl) ?_)))))))))
     refine aW_ L_ p_ bm_ rfl rfl rfl rfl rfl rfl fun b12 => ?_
     refine e_ (t_ rfl (E_ (fun _ a b => ⟨Vw.sat.sub (a.perm (l_ (c_ i_) (l_ (c_ i_) (l_ (c_ i_) (c_ i_))))), b⟩) (N_ 8 rfl (by kernel_rfl) ?_)))
     have hbb11 := (hyl ((Fc.a f), (Fc.r f))).1
     refine dv_ (k := ((Fc.a f), (Fc.r f))) cO_ ho ca_ bC_ rfl rfl (c_ (c_ (c_ (c_ (c_ (m_ (m_ q_))))))) rfl fun es11 ce11 ie11 se11 ve11 Hk11 Hx11 ho11 hw11 => ?_
     refine e_ (t_ rfl (E_ (fun _ a b => ⟨Vw.sat.sub (a.perm (l_ (c_ (m_ (m_ (c_ i_)))) (l_ (c_ (m_ (m_ (c_ i_)))) (l_ (c_ (m_ (m_ (c_ i_)))) (c_ (m_ (m_ (c_ i_)))))))), b⟩) (ab_ 2 [9, 11] (by kernel_rfl) (fun _ a b => ⟨Vw.sat.sub (a.perm (l_ (c_ (m_ (m_ (c_ i_)))) (l_ (c_ (m_ (m_ (c_ i_)))) (l_ (c_ (m_ (m_ (c_ i_)))) (c_ (m_ (m_ (c_ i_)))))))), b⟩) (j_ rfl (aq_ rfl rfl) rfl (j_ rfl (aq_ rfl rfl) rfl (aa_ (N_ 10 rfl (by kernel_rfl) (bp_ (news := List.flatMap bf_ [(Fc.b f)]) dq_ hw11 rfl rfl (c_ q_) rfl (dt_ (c_ (m_ (m_ i_)))) (fun u hu => cf_ cN_ hu) (by simp only [maxLen]; omega) (by omega) rfl fun sv6 Hr6 hr6 => ?_))))))))
     have hq6 : bt_ 9 1 sv6 (List.length ((lat x.frm ((Fc.a f), (Fc.r f))) ++ [(Fc.b f)])) (List.flatMap bf_ ((lat x.frm ((Fc.a f), (Fc.r f))) ++ [(Fc.b f)])) Hr6 := by rw [List.length_append, List.flatMap_append]; exact hr6
     refine e_ (t_ rfl (E_ (fun _ a b => ⟨Vw.sat.sub (a.perm (l_ (m_ (c_ (m_ (c_ i_)))) (l_ (m_ (c_ (m_ (c_ i_)))) (l_ (m_ (c_ (m_ (c_ i_)))) (m_ (c_ (m_ (c_ i_)))))))), b⟩) (N_ 12 rfl (by kernel_rfl) (bW_ (k := ((Fc.a f), (Fc.r f))) (dd := (Fc.b f)) ho11 (by rw [cW_]; exact hq6) rfl rfl rfl (cV_ (l_ (m_ i_) (y_ q_ q_))) fun H12 hM12 => ?_))))
     refine e_ (t_ rfl (E_ (fun _ a b => ⟨Vw.sat.sub (a.perm (l_ (m_ (c_ i_)) (l_ (m_ (c_ i_)) (l_ (m_ (c_ i_)) (m_ (c_ i_)))))), b⟩) (Y_ (by kernel_rfl) (b_ rfl (ap_ (aY_ (m_ i_) (aY_ (m_ i_) (aY_ (m_ i_) (aY_ (m_ i_) (cn_ (m_ i_)))))) ?_)))))
     refine aD_ ((b12, .cells #[str (Fc.b f)] 9 (0, 0)) :: ((b11, .cells #[str (Fc.a f), str (Fc.r f)] 145 (0, 0)) :: ((b10, .cells #[str (Fc.b f), str (Fc.r f)] 145 (0, 0)) :: ((b5, .cells #[str (Fc.a f)] 9 (0, 0)) :: ((b1, .cells (Fc.cells f).toArray 41 (0, 0)) :: []))))) (by kernel_rfl) ?_
     refine ab_ 6 [0, 1, 2, 3, 4, 5, 6] (by kernel_rfl) (fun _ a b => ⟨Vw.sat.sub (a.perm (l_ i_ (l_ i_ (l_ i_ (l_ i_ i_))))), b⟩) (j_ rfl (g_ rfl) rfl (j_ rfl (ag_ rfl) rfl (j_ rfl (k_ F_ rfl rfl rfl dn_) rfl (j_ rfl (Z_ dY_ rfl (fun v _ h => by exact h.1) rfl) rfl (j_ rfl (K_ 2 dp_ bi_ rfl rfl rfl) rfl (j_ rfl (k_ s_ rfl rfl rfl p_) rfl (j_ rfl (o_ 4 v_ rfl rfl rfl) rfl (aa_ (N_ 7 rfl (by kernel_rfl) ?_)))))))))
     refine aW_ L_ p_ bm_ rfl rfl rfl rfl rfl rfl fun b13 => ?_
     refine e_ (t_ rfl (E_ (fun _ a b => ⟨Vw.sat.sub (a.perm (l_ (c_ i_) (l_ (c_ i_) (l_ (c_ i_) (l_ (c_ i_) (c_ i_)))))), b⟩) (N_ 8 rfl (by kernel_rfl) ?_)))
     have hbb13 := (hyl ((Fc.b f), (Fc.r f))).2.1
     refine dv_ (k := ((Fc.b f), (Fc.r f))) cO_ hi ca_ bC_ rfl rfl (c_ (c_ (c_ (c_ (c_ (c_ (m_ (m_ (m_ q_))))))))) rfl fun es13 ce13 ie13 se13 ve13 Hk13 Hx13 ho13 hw13 => ?_
     refine e_ (t_ rfl (E_ (fun _ a b => ⟨Vw.sat.sub (a.perm (l_ (c_ (m_ (m_ (c_ i_)))) (l_ (c_ (m_ (m_ (c_ i_)))) (l_ (c_ (m_ (m_ (c_ i_)))) (l_ (c_ (m_ (m_ (c_ i_)))) (c_ (m_ (m_ (c_ i_))))))))), b⟩) (ab_ 2 [9, 11] (by kernel_rfl) (fun _ a b => ⟨Vw.sat.sub (a.perm (l_ (c_ (m_ (m_ (c_ i_)))) (l_ (c_ (m_ (m_ (c_ i_)))) (l_ (c_ (m_ (m_ (c_ i_)))) (l_ (c_ (m_ (m_ (c_ i_)))) (c_ (m_ (m_ (c_ i_))))))))), b⟩) (j_ rfl (aq_ rfl rfl) rfl (j_ rfl (aq_ rfl rfl) rfl (aa_ (N_ 10 rfl (by kernel_rfl) (bp_ (news := List.flatMap bf_ [(Fc.a f)]) dq_ hw13 rfl rfl (c_ q_) rfl (dt_ (c_ (m_ (m_ i_)))) (fun u hu => cf_ cN_ hu) (by simp only [maxLen]; omega) (by omega) rfl fun sv7 Hr7 hr7 => ?_))))))))
     have hq7 : bt_ 9 1 sv7 (List.length ((lat x.into ((Fc.b f), (Fc.r f))) ++ [(Fc.a f)])) (List.flatMap bf_ ((lat x.into ((Fc.b f), (Fc.r f))) ++ [(Fc.a f)])) Hr7 := by rw [List.length_append, List.flatMap_append]; exact hr7
     refine e_ (t_ rfl (E_ (fun _ a b => ⟨Vw.sat.sub (a.perm (l_ (m_ (c_ (m_ (c_ i_)))) (l_ (m_ (c_ (m_ (c_ i_)))) (l_ (m_ (c_ (m_ (c_ i_)))) (l_ (m_ (c_ (m_ (c_ i_)))) (m_ (c_ (m_ (c_ i_))))))))), b⟩) (N_ 12 rfl (by kernel_rfl) (bW_ (k := ((Fc.b f), (Fc.r f))) (dd := (Fc.a f)) ho13 (by rw [cW_]; exact hq7) rfl rfl rfl (cV_ (l_ (m_ i_) (y_ q_ q_))) fun H14 hM14 => ?_))))
     refine e_ (t_ rfl (E_ (fun _ a b => ⟨Vw.sat.sub (a.perm (l_ (m_ (c_ i_)) (l_ (m_ (c_ i_)) (l_ (m_ (c_ i_)) (l_ (m_ (c_ i_)) (m_ (c_ i_))))))), b⟩) (Y_ (by kernel_rfl) (aQ_ rfl ?_))))
     exact ch_ ep_ ⟨IxH.mk Ha H6 H12 H14 Hr Hm, by have e0 : x.add (decide (f ∈ fm)) f = { x with under := (x.under ++ [((Fc.b f), (Fc.a f))]), frm := (x.frm ++ [(((Fc.a f), (Fc.r f)), (Fc.b f))]), into := (x.into ++ [(((Fc.b f), (Fc.r f)), (Fc.a f))]) } := (by unfold Ix.add; rw [if_neg (by omega), if_pos (by assumption)]); rw [e0]; exact ⟨ha, hM6, hM12, hM14, hr, hm⟩⟩ rfl (y_ (m_ (c_ (c_ (c_ (c_ (c_ (c_ (m_ (m_ q_))))))))) (y_ (m_ (c_ (c_ (c_ (c_ (c_ (c_ (m_ q_)))))))) (y_ (m_ (c_ (c_ (c_ (c_ (c_ (c_ q_))))))) (y_ q_ (y_ (c_ (c_ (c_ (c_ (c_ (c_ q_)))))) (y_ (c_ (c_ (c_ (c_ (c_ (c_ q_)))))) (c_ (c_ (c_ (c_ (c_ ad_))))))))))) (fun _ _ _ => trivial)
   ·
    refine aW_ L_ p_ bm_ rfl rfl rfl rfl rfl rfl fun b14 => ?_
    refine e_ (t_ rfl (E_ (fun _ a b => ⟨Vw.sat.sub (a.perm (c_ (c_ i_))), b⟩) (N_ 12 rfl (by kernel_rfl) (a_ (hh_ (k := (Fc.b f)) fU_ ho5 cr_ bC_ rfl rfl 1 rfl) rfl (e_ (t_ rfl (E_ (fun _ a b => ⟨Vw.sat.sub (a.perm (c_ (c_ i_))), b⟩) (N_ 16 rfl (by kernel_rfl) (bp_ (news := List.flatMap bf_ [(Fc.a f)]) dq_ hw5 rfl rfl (c_ (c_ (c_ q_))) rfl (df_ 0 rfl) (fun u hu => cf_ cN_ hu) (by simp only [maxLen]; omega) (by omega) rfl fun sv8 Hr8 hr8 => ?_)))))))))
    have hq8 : bt_ 9 1 sv8 (List.length ((lat x.under (Fc.b f)) ++ [(Fc.a f)])) (List.flatMap bf_ ((lat x.under (Fc.b f)) ++ [(Fc.a f)])) Hr8 := by rw [List.length_append, List.flatMap_append]; exact hr8
    refine e_ (t_ rfl (E_ (fun _ a b => ⟨Vw.sat.sub (a.perm (m_ (c_ (c_ i_)))), b⟩) (N_ 17 rfl (by kernel_rfl) (gr_ (k := (Fc.b f)) (dd := (Fc.a f)) fU_ ho5 (by rw [cW_]; exact hq8) (.inr rfl) cr_ rfl rfl rfl (cV_ (l_ (m_ (c_ i_)) (y_ q_ (c_ (c_ q_))))) fun H15 hM15 => ?_))))
    refine e_ (t_ rfl (E_ (fun _ a b => ⟨Vw.sat.sub (a.perm (m_ (c_ i_))), b⟩) (Y_ (by kernel_rfl) (b_ rfl (ap_ (aY_ (m_ i_) (cn_ (m_ i_))) (f_ ?_))))))
    refine aE_ (by kernel_rfl) ?_
    refine ab_ 4 [0, 1, 2, 3, 4, 5, 6, 7, 8, 9] (by kernel_rfl) (fun _ a b => ⟨a, b⟩) (j_ rfl (k_ s_ rfl rfl rfl p_) rfl (j_ rfl (o_ 1 v_ rfl rfl rfl) rfl (j_ rfl (k_ s_ rfl rfl rfl p_) rfl (j_ rfl (o_ 1 v_ rfl rfl rfl) rfl (j_ rfl (ao_ eZ_ rfl rfl) rfl (j_ rfl (k_ s_ rfl rfl rfl p_) rfl (j_ rfl (o_ 1 v_ rfl rfl rfl) rfl (j_ rfl (k_ s_ rfl rfl rfl p_) rfl (j_ rfl (o_ 1 v_ rfl rfl rfl) rfl ?_)))))))))
    refine j_ rfl (ao_ eZ_ rfl rfl) rfl (aa_ ?_)
    refine hv_ 10 11 rfl rfl (by kernel_rfl) ?_ ?_
    ·
     refine al_ cA_ rfl fun b15 => ?_
     refine e_ (t_ rfl (E_ (fun _ a b => ⟨a.tail, b⟩) (N_ 11 rfl (by kernel_rfl) (al_ cA_ rfl fun b16 => ?_))))
     refine e_ (t_ rfl (E_ (fun _ a b => ⟨a.tail.tail, b⟩) (N_ 12 rfl (by kernel_rfl) (ae_ 1 bi_ rfl rfl rfl rfl rfl rfl (e_ (t_ rfl (E_ (fun _ a b => ⟨a.tail.tail, b⟩) (N_ 13 rfl (by kernel_rfl) (ae_ 0 bi_ rfl rfl rfl rfl rfl rfl ?_)))))))))
     refine e_ (t_ rfl (E_ (fun _ a b => ⟨a.tail.tail, b⟩) (Y_ (by kernel_rfl) (b_ rfl (f_ ?_)))))
     refine aD_ ((b16, .cells #[str (Fc.b f), str (Fc.r f)] 145 (0, 0)) :: ((b15, .cells #[str (Fc.a f), str (Fc.r f)] 145 (0, 0)) :: ((b14, .cells #[str (Fc.a f)] 9 (0, 0)) :: ((b1, .cells (Fc.cells f).toArray 41 (0, 0)) :: [])))) (by kernel_rfl) ?_
     refine ab_ 6 [0, 1, 2, 3, 4, 5, 6] (by kernel_rfl) (fun _ a b => ⟨Vw.sat.sub (a.perm (l_ i_ (l_ i_ (l_ i_ i_)))), b⟩) (j_ rfl (g_ rfl) rfl (j_ rfl (ag_ rfl) rfl (j_ rfl (k_ F_ rfl rfl rfl dn_) rfl (j_ rfl (Z_ dY_ rfl (fun v _ h => by exact h.1) rfl) rfl (j_ rfl (K_ 1 dp_ bi_ rfl rfl rfl) rfl (j_ rfl (k_ s_ rfl rfl rfl p_) rfl (j_ rfl (o_ 3 v_ rfl rfl rfl) rfl (aa_ (N_ 7 rfl (by kernel_rfl) ?_)))))))))
     refine aW_ L_ p_ bm_ rfl rfl rfl rfl rfl rfl fun b17 => ?_
     refine e_ (t_ rfl (E_ (fun _ a b => ⟨Vw.sat.sub (a.perm (l_ (c_ i_) (l_ (c_ i_) (l_ (c_ i_) (c_ i_))))), b⟩) (N_ 8 rfl (by kernel_rfl) ?_)))
     have hbb16 := (hyl ((Fc.a f), (Fc.r f))).1
     refine dv_ (k := ((Fc.a f), (Fc.r f))) cO_ ho ca_ bC_ rfl rfl (c_ (c_ (c_ (c_ (c_ (m_ (m_ q_))))))) rfl fun es16 ce16 ie16 se16 ve16 Hk16 Hx16 ho16 hw16 => ?_
     refine e_ (t_ rfl (E_ (fun _ a b => ⟨Vw.sat.sub (a.perm (l_ (c_ (m_ (m_ (c_ i_)))) (l_ (c_ (m_ (m_ (c_ i_)))) (l_ (c_ (m_ (m_ (c_ i_)))) (c_ (m_ (m_ (c_ i_)))))))), b⟩) (ab_ 2 [9, 11] (by kernel_rfl) (fun _ a b => ⟨Vw.sat.sub (a.perm (l_ (c_ (m_ (m_ (c_ i_)))) (l_ (c_ (m_ (m_ (c_ i_)))) (l_ (c_ (m_ (m_ (c_ i_)))) (c_ (m_ (m_ (c_ i_)))))))), b⟩) (j_ rfl (aq_ rfl rfl) rfl (j_ rfl (aq_ rfl rfl) rfl (aa_ (N_ 10 rfl (by kernel_rfl) (bp_ (news := List.flatMap bf_ [(Fc.b f)]) dq_ hw16 rfl rfl (c_ q_) rfl (dt_ (c_ (m_ (m_ i_)))) (fun u hu => cf_ cN_ hu) (by simp only [maxLen]; omega) (by omega) rfl fun sv9 Hr9 hr9 => ?_))))))))
     have hq9 : bt_ 9 1 sv9 (List.length ((lat x.frm ((Fc.a f), (Fc.r f))) ++ [(Fc.b f)])) (List.flatMap bf_ ((lat x.frm ((Fc.a f), (Fc.r f))) ++ [(Fc.b f)])) Hr9 := by rw [List.length_append, List.flatMap_append]; exact hr9
     refine e_ (t_ rfl (E_ (fun _ a b => ⟨Vw.sat.sub (a.perm (l_ (m_ (c_ (m_ (c_ i_)))) (l_ (m_ (c_ (m_ (c_ i_)))) (l_ (m_ (c_ (m_ (c_ i_)))) (m_ (c_ (m_ (c_ i_)))))))), b⟩) (N_ 12 rfl (by kernel_rfl) (bW_ (k := ((Fc.a f), (Fc.r f))) (dd := (Fc.b f)) ho16 (by rw [cW_]; exact hq9) rfl rfl rfl (cV_ (l_ (m_ i_) (y_ q_ q_))) fun H17 hM17 => ?_))))
     refine e_ (t_ rfl (E_ (fun _ a b => ⟨Vw.sat.sub (a.perm (l_ (m_ (c_ i_)) (l_ (m_ (c_ i_)) (l_ (m_ (c_ i_)) (m_ (c_ i_)))))), b⟩) (Y_ (by kernel_rfl) (b_ rfl (ap_ (aY_ (m_ i_) (aY_ (m_ i_) (aY_ (m_ i_) (aY_ (m_ i_) (cn_ (m_ i_)))))) ?_)))))
     refine aD_ ((b17, .cells #[str (Fc.b f)] 9 (0, 0)) :: ((b16, .cells #[str (Fc.b f), str (Fc.r f)] 145 (0, 0)) :: ((b15, .cells #[str (Fc.a f), str (Fc.r f)] 145 (0, 0)) :: ((b14, .cells #[str (Fc.a f)] 9 (0, 0)) :: ((b1, .cells (Fc.cells f).toArray 41 (0, 0)) :: []))))) (by kernel_rfl) ?_
     refine ab_ 6 [0, 1, 2, 3, 4, 5, 6] (by kernel_rfl) (fun _ a b => ⟨Vw.sat.sub (a.perm (l_ i_ (l_ i_ (l_ i_ (l_ i_ i_))))), b⟩) (j_ rfl (g_ rfl) rfl (j_ rfl (ag_ rfl) rfl (j_ rfl (k_ F_ rfl rfl rfl dn_) rfl (j_ rfl (Z_ dY_ rfl (fun v _ h => by exact h.1) rfl) rfl (j_ rfl (K_ 1 dp_ bi_ rfl rfl rfl) rfl (j_ rfl (k_ s_ rfl rfl rfl p_) rfl (j_ rfl (o_ 4 v_ rfl rfl rfl) rfl (aa_ (N_ 7 rfl (by kernel_rfl) ?_)))))))))
     refine aW_ L_ p_ bm_ rfl rfl rfl rfl rfl rfl fun b18 => ?_
     refine e_ (t_ rfl (E_ (fun _ a b => ⟨Vw.sat.sub (a.perm (l_ (c_ i_) (l_ (c_ i_) (l_ (c_ i_) (l_ (c_ i_) (c_ i_)))))), b⟩) (N_ 8 rfl (by kernel_rfl) ?_)))
     have hbb18 := (hyl ((Fc.b f), (Fc.r f))).2.1
     refine dv_ (k := ((Fc.b f), (Fc.r f))) cO_ hi ca_ bC_ rfl rfl (c_ (c_ (c_ (c_ (c_ (c_ (m_ (m_ (m_ q_))))))))) rfl fun es18 ce18 ie18 se18 ve18 Hk18 Hx18 ho18 hw18 => ?_
     refine e_ (t_ rfl (E_ (fun _ a b => ⟨Vw.sat.sub (a.perm (l_ (c_ (m_ (m_ (c_ i_)))) (l_ (c_ (m_ (m_ (c_ i_)))) (l_ (c_ (m_ (m_ (c_ i_)))) (l_ (c_ (m_ (m_ (c_ i_)))) (c_ (m_ (m_ (c_ i_))))))))), b⟩) (ab_ 2 [9, 11] (by kernel_rfl) (fun _ a b => ⟨Vw.sat.sub (a.perm (l_ (c_ (m_ (m_ (c_ i_)))) (l_ (c_ (m_ (m_ (c_ i_)))) (l_ (c_ (m_ (m_ (c_ i_)))) (l_ (c_ (m_ (m_ (c_ i_)))) (c_ (m_ (m_ (c_ i_))))))))), b⟩) (j_ rfl (aq_ rfl rfl) rfl (j_ rfl (aq_ rfl rfl) rfl (aa_ (N_ 10 rfl (by kernel_rfl) (bp_ (news := List.flatMap bf_ [(Fc.a f)]) dq_ hw18 rfl rfl (c_ q_) rfl (dt_ (c_ (m_ (m_ i_)))) (fun u hu => cf_ cN_ hu) (by simp only [maxLen]; omega) (by omega) rfl fun sv10 Hr10 hr10 => ?_))))))))
     have hq10 : bt_ 9 1 sv10 (List.length ((lat x.into ((Fc.b f), (Fc.r f))) ++ [(Fc.a f)])) (List.flatMap bf_ ((lat x.into ((Fc.b f), (Fc.r f))) ++ [(Fc.a f)])) Hr10 := by rw [List.length_append, List.flatMap_append]; exact hr10
     refine e_ (t_ rfl (E_ (fun _ a b => ⟨Vw.sat.sub (a.perm (l_ (m_ (c_ (m_ (c_ i_)))) (l_ (m_ (c_ (m_ (c_ i_)))) (l_ (m_ (c_ (m_ (c_ i_)))) (l_ (m_ (c_ (m_ (c_ i_)))) (m_ (c_ (m_ (c_ i_))))))))), b⟩) (N_ 12 rfl (by kernel_rfl) (bW_ (k := ((Fc.b f), (Fc.r f))) (dd := (Fc.a f)) ho18 (by rw [cW_]; exact hq10) rfl rfl rfl (cV_ (l_ (m_ i_) (y_ q_ q_))) fun H19 hM19 => ?_))))
     refine e_ (t_ rfl (E_ (fun _ a b => ⟨Vw.sat.sub (a.perm (l_ (m_ (c_ i_)) (l_ (m_ (c_ i_)) (l_ (m_ (c_ i_)) (l_ (m_ (c_ i_)) (m_ (c_ i_))))))), b⟩) (Y_ (by kernel_rfl) (aQ_ rfl ?_))))
     exact ch_ ep_ ⟨IxH.mk Ha H15 H17 H19 Hr Hm, by have e0 : x.add (decide (f ∈ fm)) f = { x with under := (x.under ++ [((Fc.b f), (Fc.a f))]), frm := (x.frm ++ [(((Fc.a f), (Fc.r f)), (Fc.b f))]), into := (x.into ++ [(((Fc.b f), (Fc.r f)), (Fc.a f))]) } := (by unfold Ix.add; rw [if_neg (by omega), if_pos (by assumption)]); rw [e0]; exact ⟨ha, hM15, hM17, hM19, hr, hm⟩⟩ rfl (y_ (m_ (c_ (c_ (c_ (c_ (c_ (c_ (m_ (m_ q_))))))))) (y_ (m_ (c_ (c_ (c_ (c_ (c_ (c_ (m_ q_)))))))) (y_ (m_ (c_ (c_ (c_ (c_ (c_ (c_ q_))))))) (y_ q_ (y_ (c_ (c_ (c_ (c_ (c_ (c_ q_)))))) (y_ (c_ (c_ (c_ (c_ (c_ (c_ q_)))))) (c_ (c_ (c_ (c_ (c_ ad_))))))))))) (fun _ _ _ => trivial)
    ·
     refine al_ cA_ rfl fun b19 => ?_
     refine e_ (t_ rfl (E_ (fun _ a b => ⟨a.tail, b⟩) (N_ 10 rfl (by kernel_rfl) (al_ cA_ rfl fun b20 => ?_))))
     refine e_ (t_ rfl (E_ (fun _ a b => ⟨a.tail.tail, b⟩) (N_ 12 rfl (by kernel_rfl) (ae_ 0 bi_ rfl rfl rfl rfl rfl rfl (e_ (t_ rfl (E_ (fun _ a b => ⟨a.tail.tail, b⟩) (N_ 13 rfl (by kernel_rfl) (ae_ 1 bi_ rfl rfl rfl rfl rfl rfl ?_)))))))))
     refine e_ (t_ rfl (E_ (fun _ a b => ⟨a.tail.tail, b⟩) (Y_ (by kernel_rfl) (b_ rfl (f_ ?_)))))
     refine aD_ ((b20, .cells #[str (Fc.a f), str (Fc.r f)] 145 (0, 0)) :: ((b19, .cells #[str (Fc.b f), str (Fc.r f)] 145 (0, 0)) :: ((b14, .cells #[str (Fc.a f)] 9 (0, 0)) :: ((b1, .cells (Fc.cells f).toArray 41 (0, 0)) :: [])))) (by kernel_rfl) ?_
     refine ab_ 6 [0, 1, 2, 3, 4, 5, 6] (by kernel_rfl) (fun _ a b => ⟨Vw.sat.sub (a.perm (l_ i_ (l_ i_ (l_ i_ i_)))), b⟩) (j_ rfl (g_ rfl) rfl (j_ rfl (ag_ rfl) rfl (j_ rfl (k_ F_ rfl rfl rfl dn_) rfl (j_ rfl (Z_ dY_ rfl (fun v _ h => by exact h.1) rfl) rfl (j_ rfl (K_ 0 dp_ bi_ rfl rfl rfl) rfl (j_ rfl (k_ s_ rfl rfl rfl p_) rfl (j_ rfl (o_ 3 v_ rfl rfl rfl) rfl (aa_ (N_ 7 rfl (by kernel_rfl) ?_)))))))))
     refine aW_ L_ p_ bm_ rfl rfl rfl rfl rfl rfl fun b21 => ?_
     refine e_ (t_ rfl (E_ (fun _ a b => ⟨Vw.sat.sub (a.perm (l_ (c_ i_) (l_ (c_ i_) (l_ (c_ i_) (c_ i_))))), b⟩) (N_ 8 rfl (by kernel_rfl) ?_)))
     have hbb20 := (hyl ((Fc.a f), (Fc.r f))).1
     refine dv_ (k := ((Fc.a f), (Fc.r f))) cO_ ho ca_ bC_ rfl rfl (c_ (c_ (c_ (c_ (c_ (m_ (m_ q_))))))) rfl fun es20 ce20 ie20 se20 ve20 Hk20 Hx20 ho20 hw20 => ?_
     refine e_ (t_ rfl (E_ (fun _ a b => ⟨Vw.sat.sub (a.perm (l_ (c_ (m_ (m_ (c_ i_)))) (l_ (c_ (m_ (m_ (c_ i_)))) (l_ (c_ (m_ (m_ (c_ i_)))) (c_ (m_ (m_ (c_ i_)))))))), b⟩) (ab_ 2 [9, 11] (by kernel_rfl) (fun _ a b => ⟨Vw.sat.sub (a.perm (l_ (c_ (m_ (m_ (c_ i_)))) (l_ (c_ (m_ (m_ (c_ i_)))) (l_ (c_ (m_ (m_ (c_ i_)))) (c_ (m_ (m_ (c_ i_)))))))), b⟩) (j_ rfl (aq_ rfl rfl) rfl (j_ rfl (aq_ rfl rfl) rfl (aa_ (N_ 10 rfl (by kernel_rfl) (bp_ (news := List.flatMap bf_ [(Fc.b f)]) dq_ hw20 rfl rfl (c_ q_) rfl (dt_ (c_ (m_ (m_ i_)))) (fun u hu => cf_ cN_ hu) (by simp only [maxLen]; omega) (by omega) rfl fun sv11 Hr11 hr11 => ?_))))))))
     have hq11 : bt_ 9 1 sv11 (List.length ((lat x.frm ((Fc.a f), (Fc.r f))) ++ [(Fc.b f)])) (List.flatMap bf_ ((lat x.frm ((Fc.a f), (Fc.r f))) ++ [(Fc.b f)])) Hr11 := by rw [List.length_append, List.flatMap_append]; exact hr11
     refine e_ (t_ rfl (E_ (fun _ a b => ⟨Vw.sat.sub (a.perm (l_ (m_ (c_ (m_ (c_ i_)))) (l_ (m_ (c_ (m_ (c_ i_)))) (l_ (m_ (c_ (m_ (c_ i_)))) (m_ (c_ (m_ (c_ i_)))))))), b⟩) (N_ 12 rfl (by kernel_rfl) (bW_ (k := ((Fc.a f), (Fc.r f))) (dd := (Fc.b f)) ho20 (by rw [cW_]; exact hq11) rfl rfl rfl (cV_ (l_ (m_ i_) (y_ q_ q_))) fun H21 hM21 => ?_))))
     refine e_ (t_ rfl (E_ (fun _ a b => ⟨Vw.sat.sub (a.perm (l_ (m_ (c_ i_)) (l_ (m_ (c_ i_)) (l_ (m_ (c_ i_)) (m_ (c_ i_)))))), b⟩) (Y_ (by kernel_rfl) (b_ rfl (ap_ (aY_ (m_ i_) (aY_ (m_ i_) (aY_ (m_ i_) (aY_ (m_ i_) (cn_ (m_ i_)))))) ?_)))))
     refine aD_ ((b21, .cells #[str (Fc.b f)] 9 (0, 0)) :: ((b20, .cells #[str (Fc.a f), str (Fc.r f)] 145 (0, 0)) :: ((b19, .cells #[str (Fc.b f), str (Fc.r f)] 145 (0, 0)) :: ((b14, .cells #[str (Fc.a f)] 9 (0, 0)) :: ((b1, .cells (Fc.cells f).toArray 41 (0, 0)) :: []))))) (by kernel_rfl) ?_
     refine ab_ 6 [0, 1, 2, 3, 4, 5, 6] (by kernel_rfl) (fun _ a b => ⟨Vw.sat.sub (a.perm (l_ i_ (l_ i_ (l_ i_ (l_ i_ i_))))), b⟩) (j_ rfl (g_ rfl) rfl (j_ rfl (ag_ rfl) rfl (j_ rfl (k_ F_ rfl rfl rfl dn_) rfl (j_ rfl (Z_ dY_ rfl (fun v _ h => by exact h.1) rfl) rfl (j_ rfl (K_ 2 dp_ bi_ rfl rfl rfl) rfl (j_ rfl (k_ s_ rfl rfl rfl p_) rfl (j_ rfl (o_ 4 v_ rfl rfl rfl) rfl (aa_ (N_ 7 rfl (by kernel_rfl) ?_)))))))))
     refine aW_ L_ p_ bm_ rfl rfl rfl rfl rfl rfl fun b22 => ?_
     refine e_ (t_ rfl (E_ (fun _ a b => ⟨Vw.sat.sub (a.perm (l_ (c_ i_) (l_ (c_ i_) (l_ (c_ i_) (l_ (c_ i_) (c_ i_)))))), b⟩) (N_ 8 rfl (by kernel_rfl) ?_)))
     have hbb22 := (hyl ((Fc.b f), (Fc.r f))).2.1
     refine dv_ (k := ((Fc.b f), (Fc.r f))) cO_ hi ca_ bC_ rfl rfl (c_ (c_ (c_ (c_ (c_ (c_ (m_ (m_ (m_ q_))))))))) rfl fun es22 ce22 ie22 se22 ve22 Hk22 Hx22 ho22 hw22 => ?_
     refine e_ (t_ rfl (E_ (fun _ a b => ⟨Vw.sat.sub (a.perm (l_ (c_ (m_ (m_ (c_ i_)))) (l_ (c_ (m_ (m_ (c_ i_)))) (l_ (c_ (m_ (m_ (c_ i_)))) (l_ (c_ (m_ (m_ (c_ i_)))) (c_ (m_ (m_ (c_ i_))))))))), b⟩) (ab_ 2 [9, 11] (by kernel_rfl) (fun _ a b => ⟨Vw.sat.sub (a.perm (l_ (c_ (m_ (m_ (c_ i_)))) (l_ (c_ (m_ (m_ (c_ i_)))) (l_ (c_ (m_ (m_ (c_ i_)))) (l_ (c_ (m_ (m_ (c_ i_)))) (c_ (m_ (m_ (c_ i_))))))))), b⟩) (j_ rfl (aq_ rfl rfl) rfl (j_ rfl (aq_ rfl rfl) rfl (aa_ (N_ 10 rfl (by kernel_rfl) (bp_ (news := List.flatMap bf_ [(Fc.a f)]) dq_ hw22 rfl rfl (c_ q_) rfl (dt_ (c_ (m_ (m_ i_)))) (fun u hu => cf_ cN_ hu) (by simp only [maxLen]; omega) (by omega) rfl fun sv12 Hr12 hr12 => ?_))))))))
     have hq12 : bt_ 9 1 sv12 (List.length ((lat x.into ((Fc.b f), (Fc.r f))) ++ [(Fc.a f)])) (List.flatMap bf_ ((lat x.into ((Fc.b f), (Fc.r f))) ++ [(Fc.a f)])) Hr12 := by rw [List.length_append, List.flatMap_append]; exact hr12
     refine e_ (t_ rfl (E_ (fun _ a b => ⟨Vw.sat.sub (a.perm (l_ (m_ (c_ (m_ (c_ i_)))) (l_ (m_ (c_ (m_ (c_ i_)))) (l_ (m_ (c_ (m_ (c_ i_)))) (l_ (m_ (c_ (m_ (c_ i_)))) (m_ (c_ (m_ (c_ i_))))))))), b⟩) (N_ 12 rfl (by kernel_rfl) (bW_ (k := ((Fc.b f), (Fc.r f))) (dd := (Fc.a f)) ho22 (by rw [cW_]; exact hq12) rfl rfl rfl (cV_ (l_ (m_ i_) (y_ q_ q_))) fun H23 hM23 => ?_))))
     refine e_ (t_ rfl (E_ (fun _ a b => ⟨Vw.sat.sub (a.perm (l_ (m_ (c_ i_)) (l_ (m_ (c_ i_)) (l_ (m_ (c_ i_)) (l_ (m_ (c_ i_)) (m_ (c_ i_))))))), b⟩) (Y_ (by kernel_rfl) (aQ_ rfl ?_))))
     exact ch_ ep_ ⟨IxH.mk Ha H15 H21 H23 Hr Hm, by have e0 : x.add (decide (f ∈ fm)) f = { x with under := (x.under ++ [((Fc.b f), (Fc.a f))]), frm := (x.frm ++ [(((Fc.a f), (Fc.r f)), (Fc.b f))]), into := (x.into ++ [(((Fc.b f), (Fc.r f)), (Fc.a f))]) } := (by unfold Ix.add; rw [if_neg (by omega), if_pos (by assumption)]); rw [e0]; exact ⟨ha, hM15, hM21, hM23, hr, hm⟩⟩ rfl (y_ (m_ (c_ (c_ (c_ (c_ (c_ (c_ (m_ (m_ q_))))))))) (y_ (m_ (c_ (c_ (c_ (c_ (c_ (c_ (m_ q_)))))))) (y_ (m_ (c_ (c_ (c_ (c_ (c_ (c_ q_))))))) (y_ q_ (y_ (c_ (c_ (c_ (c_ (c_ (c_ q_)))))) (y_ (c_ (c_ (c_ (c_ (c_ (c_ q_)))))) (c_ (c_ (c_ (c_ (c_ ad_))))))))))) (fun _ _ _ => trivial)
 ·
  replace hr1 := eq_of_beq hr1
  refine n_ rfl ?_
  have hbb24 := (hxl (Fc.a f)).1
  refine oy_ fU_ (Fc.a f) ha (c_ q_) fun es24 ce24 ve24 Hk24 Hx24 hw24 ho24 => ?_
  refine ap_ (aY_ i_ (cn_ (m_ (m_ i_)))) ?_
  refine aD_ ((b1, .cells (Fc.cells f).toArray 41 (0, 0)) :: []) (by kernel_rfl) ?_
  refine ab_ 4 [0, 1, 2, 3, 4, 5, 6, 7, 8, 9, 10, 11, 13, 14] (by kernel_rfl) (fun _ a b => ⟨Vw.sat.sub (a.perm (c_ i_)), b⟩) (j_ rfl (g_ rfl) rfl (j_ rfl (ag_ rfl) rfl (j_ rfl (k_ F_ rfl rfl rfl hQ_) rfl (j_ rfl (Z_ nO_ rfl (fun v _ h => by exact h.1) rfl) rfl (j_ rfl (k_ s_ rfl rfl rfl p_) rfl (j_ rfl (o_ 0 v_ rfl rfl rfl) rfl (j_ rfl (g_ rfl) rfl (j_ rfl (ag_ rfl) rfl (j_ rfl (k_ F_ rfl rfl rfl hQ_) rfl ?_)))))))))
  refine j_ rfl (Z_ nO_ rfl (fun v _ h => by exact h.1) rfl) rfl (j_ rfl (k_ s_ rfl rfl rfl p_) rfl (j_ rfl (o_ 0 v_ rfl rfl rfl) rfl (j_ rfl (k_ s_ rfl rfl rfl p_) rfl (j_ rfl (o_ 0 v_ rfl rfl rfl) rfl (aa_ ?_)))))
  refine hv_ 12 15 rfl rfl (by kernel_rfl) ?_ ?_
  ·
   refine a_ (hh_ (k := (Fc.a f)) fU_ ho24 cr_ bC_ rfl rfl 0 rfl) rfl (e_ (t_ rfl (E_ (fun _ a b => ⟨Vw.sat.sub (a.perm (c_ i_)), b⟩) (N_ 15 rfl (by kernel_rfl) (aW_ L_ p_ bm_ rfl rfl rfl rfl rfl rfl fun b23 => ?_)))))
   refine e_ (t_ rfl (E_ (fun _ a b => ⟨Vw.sat.sub (a.perm (c_ (c_ i_))), b⟩) (N_ 16 rfl (by kernel_rfl) (bp_ (news := List.flatMap bf_ [(Fc.b f)]) dq_ hw24 rfl rfl (c_ (c_ (c_ q_))) rfl (df_ 0 rfl) (fun u hu => cf_ cN_ hu) (by simp only [maxLen]; omega) (by omega) rfl fun sv13 Hr13 hr13 => ?_))))
   have hq13 : bt_ 9 1 sv13 (List.length ((lat x.above (Fc.a f)) ++ [(Fc.b f)])) (List.flatMap bf_ ((lat x.above (Fc.a f)) ++ [(Fc.b f)])) Hr13 := by rw [List.length_append, List.flatMap_append]; exact hr13
   refine e_ (t_ rfl (E_ (fun _ a b => ⟨Vw.sat.sub (a.perm (m_ (c_ (c_ i_)))), b⟩) (N_ 17 rfl (by kernel_rfl) (gr_ (k := (Fc.a f)) (dd := (Fc.b f)) fU_ ho24 (by rw [cW_]; exact hq13) (.inr rfl) cr_ rfl rfl rfl (cV_ (l_ (m_ (c_ i_)) (y_ q_ (c_ (c_ q_))))) fun H25 hM25 => ?_))))
   refine e_ (t_ rfl (E_ (fun _ a b => ⟨Vw.sat.sub (a.perm (m_ (c_ i_))), b⟩) (Y_ (by kernel_rfl) (aQ_ rfl ?_))))
   exact ch_ ep_ ⟨IxH.mk H25 Hu Ho Hi Hr Hm, by have e0 : x.add (decide (f ∈ fm)) f = { x with above := (x.above ++ [((Fc.a f), (Fc.b f))]) } := (by unfold Ix.add; rw [if_pos (by assumption)]); rw [e0]; exact ⟨hM25, hu, ho, hi, hr, hm⟩⟩ rfl (y_ q_ (y_ (c_ (c_ q_)) (y_ (c_ (c_ q_)) (y_ (c_ (c_ q_)) (y_ (c_ (c_ q_)) (y_ (c_ (c_ q_)) (c_ ad_))))))) (fun _ _ _ => trivial)
  ·
   refine aW_ L_ p_ bm_ rfl rfl rfl rfl rfl rfl fun b24 => ?_
   refine e_ (t_ rfl (E_ (fun _ a b => ⟨Vw.sat.sub (a.perm (c_ (c_ i_))), b⟩) (N_ 12 rfl (by kernel_rfl) (a_ (hh_ (k := (Fc.a f)) fU_ ho24 cr_ bC_ rfl rfl 1 rfl) rfl (e_ (t_ rfl (E_ (fun _ a b => ⟨Vw.sat.sub (a.perm (c_ (c_ i_))), b⟩) (N_ 16 rfl (by kernel_rfl) (bp_ (news := List.flatMap bf_ [(Fc.b f)]) dq_ hw24 rfl rfl (c_ (c_ (c_ q_))) rfl (df_ 0 rfl) (fun u hu => cf_ cN_ hu) (by simp only [maxLen]; omega) (by omega) rfl fun sv14 Hr14 hr14 => ?_)))))))))
   have hq14 : bt_ 9 1 sv14 (List.length ((lat x.above (Fc.a f)) ++ [(Fc.b f)])) (List.flatMap bf_ ((lat x.above (Fc.a f)) ++ [(Fc.b f)])) Hr14 := by rw [List.length_append, List.flatMap_append]; exact hr14
   refine e_ (t_ rfl (E_ (fun _ a b => ⟨Vw.sat.sub (a.perm (m_ (c_ (c_ i_)))), b⟩) (N_ 17 rfl (by kernel_rfl) (gr_ (k := (Fc.a f)) (dd := (Fc.b f)) fU_ ho24 (by rw [cW_]; exact hq14) (.inr rfl) cr_ rfl rfl rfl (cV_ (l_ (m_ (c_ i_)) (y_ q_ (c_ (c_ q_))))) fun H26 hM26 => ?_))))
   refine e_ (t_ rfl (E_ (fun _ a b => ⟨Vw.sat.sub (a.perm (m_ (c_ i_))), b⟩) (Y_ (by kernel_rfl) (aQ_ rfl ?_))))
   exact ch_ ep_ ⟨IxH.mk H26 Hu Ho Hi Hr Hm, by have e0 : x.add (decide (f ∈ fm)) f = { x with above := (x.above ++ [((Fc.a f), (Fc.b f))]) } := (by unfold Ix.add; rw [if_pos (by assumption)]); rw [e0]; exact ⟨hM26, hu, ho, hi, hr, hm⟩⟩ rfl (y_ q_ (y_ (c_ (c_ q_)) (y_ (c_ (c_ q_)) (y_ (c_ (c_ q_)) (y_ (c_ (c_ q_)) (y_ (c_ (c_ q_)) (c_ ad_))))))) (fun _ _ _ => trivial)
end Go.Proofs.YtpdbbglpbngeiaaGreatDoor
namespace Go.Proofs.YtpdbbglpbngeiaaGreatDoor
open Go Go.Sx Go.Proofs
attribute [local irreducible] Code.wp wpList wpAnyH
open Go.Vs
theorem gQ_ (x : Pc) (ro at' : Str) (pm : List (Ky × Pc)) (bx bg : Nat) (g pb kb ab ub ob ib rb sb fb : Nat) (ev : Value) (lv : Value) (Hm : Hp) (hm : dm_ Ky.val Pc.cells 47 10 pm pb Hm) (hpl : pm.length ≤ 1000000000) : Tri Tryz.prog 142 #[str ro, str at', zp_ bx 0, zp_ bg 0] ((bx, .cells (Pc.cells x).toArray 47 (0, 0)) :: (bg, .cells #[zp_ g 0] 85 (0, 0)) :: (g, .cells #[.map (some pb), lv, .map (some kb), ev, .map (some ab), .map (some ub), .map (some ob), .map (some ib), .map (some rb), .map (some sb), .map (some fb)] 94 (0, 0)) :: Hm) [] (fun _ : {H : Hp // dm_ Ky.val Pc.cells 47 10 (pm ++ [((Ky.mk (Pc.kind x) ro at'), x)]) pb H} => .tuple #[]) (fun y => (bx, .cells (Pc.cells x).toArray 47 (0, 0)) :: (bg, .cells #[zp_ g 0] 85 (0, 0)) :: (g, .cells #[.map (some pb), lv, .map (some kb), ev, .map (some ab), .map (some ub), .map (some ob), .map (some ib), .map (some rb), .map (some sb), .map (some fb)] 94 (0, 0)) :: y.1) (fun _ => []) := by
  refine R_ Tryz.func142 rfl rfl Tryz.ntmps142 rfl fun v0 => ?_
  refine f_ (d_ (a_ (k_ C_ rfl rfl rfl I_) rfl (a_ (o_ 0 J_ rfl rfl rfl) rfl (a_ (g_ rfl) rfl (a_ (g_ rfl) rfl (a_ (ao_ en_ rfl rfl) rfl (al_ Tryz.zeroValue171 rfl fun b1 => ?_)))))))
  refine ae_ 0 Tryz.sizeOf171 rfl rfl rfl rfl rfl rfl (e_ (b_ rfl ?_))
  refine aD_ ((b1, .cells #[.int .i64 (Pc.kind x), str ro, str at'] 171 (0, 0)) :: ((bx, .cells (Pc.cells x).toArray 47 (0, 0)) :: ((bg, .cells #[zp_ g 0] 85 (0, 0)) :: ((g, .cells #[.map (some pb), lv, .map (some kb), ev, .map (some ab), .map (some ub), .map (some ob), .map (some ib), .map (some rb), .map (some sb), .map (some fb)] 94 (0, 0)) :: [])))) (by kernel_rfl) ?_
  refine ab_ 6 [0, 1, 2, 3, 4, 5] (by kernel_rfl) (fun _ a b => ⟨Vw.sat.sub (a.perm (l_ i_ (l_ i_ (l_ i_ i_)))), b⟩) (j_ rfl (o_ 2 bw_ rfl rfl rfl) rfl (j_ rfl (ag_ rfl) rfl (j_ rfl (k_ F_ rfl rfl rfl do_) rfl (j_ rfl (o_ 3 dZ_ rfl rfl rfl) rfl (j_ rfl (K_ 0 Tryz.isAgg171 Tryz.sizeOf171 rfl rfl rfl) rfl (j_ rfl (K_ 1 bs_ W_ rfl rfl rfl) rfl (aa_ (N_ 6 rfl (by kernel_rfl) (aW_ T_ W_ as_ rfl rfl rfl rfl rfl rfl fun b2 => ?_)))))))))
  refine e_ (t_ rfl (E_ (fun _ a b => ⟨Vw.sat.sub (a.perm (l_ (c_ i_) (l_ (c_ i_) (l_ (c_ i_) (c_ i_))))), b⟩) (N_ 7 rfl (by kernel_rfl) ?_)))
  have hbb1 := Nat.le_trans (fc_ pm (Ky.mk (Pc.kind x) ro at')) hpl
  refine dv_ (k := (Ky.mk (Pc.kind x) ro at')) fV_ hm cb_ cM_ rfl rfl (c_ (c_ (c_ (c_ ad_)))) rfl fun es1 ce1 ie1 se1 ve1 Hk1 Hx1 ho1 hw1 => ?_
  refine e_ (t_ rfl (E_ (fun _ a b => ⟨Vw.sat.sub (a.perm (l_ (c_ (m_ (m_ (c_ i_)))) (l_ (c_ (m_ (m_ (c_ i_)))) (l_ (c_ (m_ (m_ (c_ i_)))) (c_ (m_ (m_ (c_ i_)))))))), b⟩) (ab_ 2 [8, 10] (by kernel_rfl) (fun _ a b => ⟨Vw.sat.sub (a.perm (l_ (c_ (m_ (m_ (c_ i_)))) (l_ (c_ (m_ (m_ (c_ i_)))) (l_ (c_ (m_ (m_ (c_ i_)))) (c_ (m_ (m_ (c_ i_)))))))), b⟩) (j_ rfl (aq_ rfl rfl) rfl (j_ rfl (aq_ rfl rfl) rfl (aa_ (N_ 9 rfl (by kernel_rfl) (bp_ (news := List.flatMap Pc.cells [x]) elt_pc hw1 rfl rfl (c_ q_) rfl (dt_ (c_ (m_ (m_ i_)))) (fun u hu => cf_ Pc.cells_one hu) (by simp only [maxLen]; omega) (by omega) rfl fun sv1 Hr1 hr1 => ?_))))))))
  have hq1 : bt_ 47 10 sv1 (List.length ((lat pm (Ky.mk (Pc.kind x) ro at')) ++ [x])) (List.flatMap Pc.cells ((lat pm (Ky.mk (Pc.kind x) ro at')) ++ [x])) Hr1 := by rw [List.length_append, List.flatMap_append]; exact hr1
  refine e_ (t_ rfl (E_ (fun _ a b => ⟨Vw.sat.sub (a.perm (l_ (m_ (c_ (m_ (c_ i_)))) (l_ (m_ (c_ (m_ (c_ i_)))) (l_ (m_ (c_ (m_ (c_ i_)))) (m_ (c_ (m_ (c_ i_)))))))), b⟩) (N_ 11 rfl (by kernel_rfl) (bW_ (k := (Ky.mk (Pc.kind x) ro at')) (dd := x) ho1 (by rw [cW_]; exact hq1) rfl rfl rfl (cV_ (l_ (m_ i_) (y_ q_ q_))) fun H2 hM2 => ?_))))
  refine e_ (t_ rfl (E_ (fun _ a b => ⟨Vw.sat.sub (a.perm (l_ (m_ (c_ i_)) (l_ (m_ (c_ i_)) (l_ (m_ (c_ i_)) (m_ (c_ i_)))))), b⟩) (Y_ (by kernel_rfl) (aQ_ rfl ?_))))
  exact ch_ Tryz.results142 ⟨H2, hM2⟩ rfl (l_ (m_ (c_ (c_ i_))) (l_ (m_ (c_ (c_ i_))) (l_ (m_ (c_ (c_ i_))) q_))) (fun _ _ _ => trivial)
theorem qb_ (x : Pc) (pm : List (Ky × Pc)) (lps : List Str) (g pb kb ab ub ob ib rb sb fb : Nat) (ev : Value) (lv : Value) (Hm Hl : Hp) (hm : dm_ Ky.val Pc.cells 47 10 pm pb Hm) (hl : bt_ 9 1 lv (List.length lps) (List.flatMap bf_ lps) Hl) (hpl : pm.length ≤ 900000000) (hll : lps.length ≤ 900000000) : Tri Tryz.prog 96 #[zp_ g 0, Pc.val x] ((g, .cells #[.map (some pb), lv, .map (some kb), ev, .map (some ab), .map (some ub), .map (some ob), .map (some ib), .map (some rb), .map (some sb), .map (some fb)] 94 (0, 0)) :: (Hm ++ Hl)) [] (fun _ : {y : Value × Hp × Hp // dm_ Ky.val Pc.cells 47 10 (pm ++ cC_ x) pb y.2.1 ∧ bt_ 9 1 y.1 (List.length (lps ++ ak_ [x])) (List.flatMap bf_ (lps ++ ak_ [x])) y.2.2} => .tuple #[]) (fun y => (g, .cells #[.map (some pb), y.1.1, .map (some kb), ev, .map (some ab), .map (some ub), .map (some ob), .map (some ib), .map (some rb), .map (some sb), .map (some fb)] 94 (0, 0)) :: (y.1.2.1 ++ y.1.2.2)) (fun _ => []) := by
 refine R_ Tryz.func96 rfl rfl Tryz.ntmps96 rfl fun v0 => ?_
 refine f_ (d_ (aI_ rfl rfl fun b1 => ?_))
 refine aI_ rfl rfl fun b2 => ?_
 refine e_ (b_ rfl (f_ (d_ (a_ (cp_ rfl rfl) rfl (a_ (h_ rfl) rfl (e_ (b_ rfl (f_ (d_ ?_)))))))))
 refine a_ (k_ C_ rfl rfl rfl I_) rfl (a_ (o_ 0 J_ rfl rfl rfl) rfl (e_ (b_ rfl (S_ (f_ (f_ (d_ (z_ (aA_ rfl rfl) rfl fun r1 hr1 => ?_))))))))
 refine a_ (h_ rfl) rfl (e_ (b_ rfl ?_))
 cases r1
 ·
  replace hr1 := ne_of_beq_false hr1
  refine r_ rfl (f_ (d_ (z_ (aA_ rfl rfl) rfl fun r2 hr2 => ?_)))
  refine a_ (h_ rfl) rfl (e_ (b_ rfl ?_))
  cases r2
  ·
   replace hr2 := ne_of_beq_false hr2
   refine r_ rfl (d_ (z_ (aA_ rfl rfl) rfl fun r3 hr3 => ?_))
   refine a_ (h_ rfl) rfl (e_ (b_ rfl ?_))
   cases r3
   ·
    replace hr3 := ne_of_beq_false hr3
    refine r_ rfl (f_ (d_ (z_ (aA_ rfl rfl) rfl fun r4 hr4 => ?_)))
    refine a_ (h_ rfl) rfl (e_ (b_ rfl ?_))
    cases r4
    ·
     replace hr4 := ne_of_beq_false hr4
     refine r_ rfl (f_ (d_ (z_ (aA_ rfl rfl) rfl fun r5 hr5 => ?_)))
     refine a_ (h_ rfl) rfl (e_ (b_ rfl ?_))
     cases r5
     ·
      replace hr5 := ne_of_beq_false hr5
      refine r_ rfl (f_ (f_ (d_ (z_ (aA_ rfl rfl) rfl fun r6 hr6 => ?_))))
      refine a_ (h_ rfl) rfl (e_ (b_ rfl ?_))
      cases r6
      ·
       replace hr6 := ne_of_beq_false hr6
       refine r_ rfl (d_ (z_ (aA_ rfl rfl) rfl fun r7 hr7 => ?_))
       refine a_ (h_ rfl) rfl (e_ (b_ rfl ?_))
       cases r7
       ·
        replace hr7 := ne_of_beq_false hr7
        refine r_ rfl (f_ (d_ (z_ (aA_ rfl rfl) rfl fun r8 hr8 => ?_)))
        refine a_ (h_ rfl) rfl (e_ (b_ rfl ?_))
        cases r8
        ·
         replace hr8 := ne_of_beq_false hr8
         refine r_ rfl (f_ (d_ (z_ (aA_ rfl rfl) rfl fun r9 hr9 => ?_)))
         refine a_ (h_ rfl) rfl (e_ (b_ rfl ?_))
         cases r9
         ·
          replace hr9 := ne_of_beq_false hr9
          refine r_ rfl (B_ (aQ_ rfl ?_))
          have e1 : pm = pm ++ cC_ x := by simp [cC_, *]
          have e2 : lps = lps ++ ak_ [x] := by simp [ak_, *]
          exact ch_ cS_ ⟨(lv, Hm, Hl), e1 ▸ hm, e2 ▸ hl⟩ rfl (l_ (c_ (c_ i_)) (y_ (c_ (c_ q_)) (c_ ad_))) (fun _ _ _ => trivial)
         ·
          replace hr9 := eq_of_beq hr9
          refine n_ rfl ?_
          refine aD_ ((b2, .cells (Pc.cells x).toArray 47 (0, 0)) :: ((b1, .cells #[zp_ g 0] 85 (0, 0)) :: [])) (by kernel_rfl) ?_
          refine ab_ 6 [0, 1, 2, 3, 5, 6] (by kernel_rfl) (fun _ a b => ⟨Vw.sat.sub (a.perm (l_ i_ i_)), b⟩) (j_ rfl (o_ 1 bw_ rfl rfl rfl) rfl (j_ rfl (o_ 1 bw_ rfl rfl rfl) rfl (j_ rfl (ag_ rfl) rfl (j_ rfl (k_ F_ rfl rfl rfl bq_) rfl (j_ rfl (k_ C_ rfl rfl rfl p_) rfl (j_ rfl (o_ 0 v_ rfl rfl rfl) rfl (aa_ ?_)))))))
          refine hv_ 4 7 rfl rfl (by kernel_rfl) ?_ ?_
          ·
           refine a_ (o_ 2 cd_ rfl rfl rfl) rfl (e_ (t_ rfl (E_ (fun _ a b => ⟨Vw.sat.sub (a.perm (l_ i_ i_)), b⟩) (N_ 7 rfl (by kernel_rfl) (aW_ L_ p_ bm_ rfl rfl rfl rfl rfl rfl fun b3 => ?_)))))
           refine e_ (t_ rfl (E_ (fun _ a b => ⟨Vw.sat.sub (a.perm (l_ (c_ i_) (c_ i_))), b⟩) (N_ 8 rfl (by kernel_rfl) (bp_ (news := List.flatMap bf_ [(Pc.r x)]) dq_ hl rfl rfl (c_ (c_ (c_ (c_ ba_)))) rfl (df_ 0 rfl) (fun u hu => cf_ cN_ hu) (by simp only [maxLen]; first | omega | (simp; omega)) (by first | omega | (simp; omega)) rfl fun sv1 Hr1 hr1 => ?_))))
           have hq1 : bt_ 9 1 sv1 (List.length (lps ++ [(Pc.r x)])) (List.flatMap bf_ (lps ++ [(Pc.r x)])) Hr1 := by rw [List.length_append, List.flatMap_append]; exact hr1
           refine e_ (t_ rfl (E_ (fun _ a b => ⟨Vw.sat.sub (a.perm (l_ (m_ (c_ i_)) (m_ (c_ i_)))), b⟩) (ab_ 1 [9, 10] (by kernel_rfl) (fun _ a b => ⟨Vw.sat.sub (a.perm (l_ (m_ (c_ i_)) (m_ (c_ i_)))), b⟩) (j_ rfl (ag_ rfl) rfl (j_ rfl (k_ F_ rfl rfl rfl bq_) rfl (aa_ (N_ 11 rfl (by kernel_rfl) (ap_ (aY_ (m_ i_) (aY_ (m_ i_) (aY_ (m_ i_) (cn_ (m_ i_))))) (gp_ 3 hq1 bq_ rfl rfl rfl rfl ?_)))))))))
           refine e_ (t_ rfl (E_ (fun _ a b => ⟨Vw.sat.sub (a.perm (l_ (c_ i_) (c_ i_))), b⟩) (Y_ (by kernel_rfl) (aQ_ rfl ?_))))
           have e1 : pm = pm ++ cC_ x := by simp [cC_, *]
           have e2 : (lps ++ [(Pc.r x)]) = lps ++ ak_ [x] := by simp [ak_, *]
           exact ch_ cS_ ⟨(sv1, Hm, Hr1), e1 ▸ hm, e2 ▸ hq1⟩ rfl (l_ (c_ (c_ (c_ i_))) (y_ (c_ (c_ (c_ ba_))) (c_ (c_ ad_)))) (fun _ _ _ => trivial)
          ·
           refine aW_ L_ p_ bm_ rfl rfl rfl rfl rfl rfl fun b4 => ?_
           refine e_ (t_ rfl (E_ (fun _ a b => ⟨Vw.sat.sub (a.perm (l_ (c_ i_) (c_ i_))), b⟩) (N_ 4 rfl (by kernel_rfl) (a_ (o_ 3 cd_ rfl rfl rfl) rfl (e_ (t_ rfl (E_ (fun _ a b => ⟨Vw.sat.sub (a.perm (l_ (c_ i_) (c_ i_))), b⟩) (N_ 8 rfl (by kernel_rfl) (bp_ (news := List.flatMap bf_ [(Pc.r x)]) dq_ hl rfl rfl (c_ (c_ (c_ (c_ ba_)))) rfl (df_ 0 rfl) (fun u hu => cf_ cN_ hu) (by simp only [maxLen]; first | omega | (simp; omega)) (by first | omega | (simp; omega)) rfl fun sv2 Hr2 hr2 => ?_)))))))))
           have hq2 : bt_ 9 1 sv2 (List.length (lps ++ [(Pc.r x)])) (List.flatMap bf_ (lps ++ [(Pc.r x)])) Hr2 := by rw [List.length_append, List.flatMap_append]; exact hr2
           refine e_ (t_ rfl (E_ (fun _ a b => ⟨Vw.sat.sub (a.perm (l_ (m_ (c_ i_)) (m_ (c_ i_)))), b⟩) (ab_ 1 [9, 10] (by kernel_rfl) (fun _ a b => ⟨Vw.sat.sub (a.perm (l_ (m_ (c_ i_)) (m_ (c_ i_)))), b⟩) (j_ rfl (ag_ rfl) rfl (j_ rfl (k_ F_ rfl rfl rfl bq_) rfl (aa_ (N_ 11 rfl (by kernel_rfl) (ap_ (aY_ (m_ i_) (aY_ (m_ i_) (aY_ (m_ i_) (cn_ (m_ i_))))) (gp_ 3 hq2 bq_ rfl rfl rfl rfl ?_)))))))))
           refine e_ (t_ rfl (E_ (fun _ a b => ⟨Vw.sat.sub (a.perm (l_ (c_ i_) (c_ i_))), b⟩) (Y_ (by kernel_rfl) (aQ_ rfl ?_))))
           have e1 : pm = pm ++ cC_ x := by simp [cC_, *]
           have e2 : (lps ++ [(Pc.r x)]) = lps ++ ak_ [x] := by simp [ak_, *]
           exact ch_ cS_ ⟨(sv2, Hm, Hr2), e1 ▸ hm, e2 ▸ hq2⟩ rfl (l_ (c_ (c_ (c_ i_))) (y_ (c_ (c_ (c_ ba_))) (c_ (c_ ad_)))) (fun _ _ _ => trivial)
        ·
         replace hr8 := eq_of_beq hr8
         refine n_ rfl (f_ (d_ (a_ (g_ rfl) rfl (a_ (k_ C_ rfl rfl rfl p_) rfl (a_ (o_ 0 v_ rfl rfl rfl) rfl (aF_ (gQ_ x (Pc.r x) [] pm b2 b1 g pb kb ab ub ob ib rb sb fb ev lv Hm hm (by first | omega | (simp; omega))) rfl rfl (l_ i_ (l_ i_ (l_ i_ q_))) (fun _ _ _ => by exact trivial) rfl fun ⟨HP1, hP1⟩ => ?_))))))
         dsimp only
         simp only [List.cons_append]
         refine e_ (b_ rfl (d_ (a_ (g_ rfl) rfl (a_ (k_ C_ rfl rfl rfl p_) rfl (a_ (o_ 0 v_ rfl rfl rfl) rfl (aF_ (gQ_ x [] (Pc.s x) (pm ++ [((Ky.mk (Pc.kind x) (Pc.r x) []), x)]) b2 b1 g pb kb ab ub ob ib rb sb fb ev lv HP1 hP1 (by first | omega | (simp; omega))) rfl rfl (l_ i_ (l_ i_ (l_ i_ q_))) (fun _ _ _ => by exact trivial) rfl fun ⟨HP2, hP2⟩ => ?_))))))
         dsimp only
         simp only [List.cons_append]
         refine e_ (aQ_ rfl ?_)
         have e1 : ((pm ++ [((Ky.mk (Pc.kind x) (Pc.r x) []), x)]) ++ [((Ky.mk (Pc.kind x) [] (Pc.s x)), x)]) = pm ++ cC_ x := by simp [cC_, *]
         have e2 : lps = lps ++ ak_ [x] := by simp [ak_, *]
         exact ch_ cS_ ⟨(lv, HP2, Hl), e1 ▸ hP2, e2 ▸ hl⟩ rfl (l_ (c_ (c_ i_)) (y_ (c_ (c_ q_)) (c_ ad_))) (fun _ _ _ => trivial)
       ·
        replace hr7 := eq_of_beq hr7
        refine n_ rfl (d_ (a_ (g_ rfl) rfl (a_ (k_ C_ rfl rfl rfl p_) rfl (a_ (o_ 0 v_ rfl rfl rfl) rfl (aF_ (gQ_ x (Pc.r x) [] pm b2 b1 g pb kb ab ub ob ib rb sb fb ev lv Hm hm (by first | omega | (simp; omega))) rfl rfl (l_ i_ (l_ i_ (l_ i_ q_))) (fun _ _ _ => by exact trivial) rfl fun ⟨HP3, hP3⟩ => ?_)))))
        dsimp only
        simp only [List.cons_append]
        refine e_ (aQ_ rfl ?_)
        have e1 : (pm ++ [((Ky.mk (Pc.kind x) (Pc.r x) []), x)]) = pm ++ cC_ x := by simp [cC_, *]
        have e2 : lps = lps ++ ak_ [x] := by simp [ak_, *]
        exact ch_ cS_ ⟨(lv, HP3, Hl), e1 ▸ hP3, e2 ▸ hl⟩ rfl (l_ (c_ (c_ i_)) (y_ (c_ (c_ q_)) (c_ ad_))) (fun _ _ _ => trivial)
      ·
       replace hr6 := eq_of_beq hr6
       refine n_ rfl (B_ (b_ rfl (n_ rfl (d_ (a_ (g_ rfl) rfl (a_ (k_ C_ rfl rfl rfl p_) rfl (a_ (o_ 0 v_ rfl rfl rfl) rfl (aF_ (gQ_ x (Pc.r x) [] pm b2 b1 g pb kb ab ub ob ib rb sb fb ev lv Hm hm (by first | omega | (simp; omega))) rfl rfl (l_ i_ (l_ i_ (l_ i_ q_))) (fun _ _ _ => by exact trivial) rfl fun ⟨HP4, hP4⟩ => ?_))))))))
       dsimp only
       simp only [List.cons_append]
       refine e_ (aQ_ rfl ?_)
       have e1 : (pm ++ [((Ky.mk (Pc.kind x) (Pc.r x) []), x)]) = pm ++ cC_ x := by simp [cC_, *]
       have e2 : lps = lps ++ ak_ [x] := by simp [ak_, *]
       exact ch_ cS_ ⟨(lv, HP4, Hl), e1 ▸ hP4, e2 ▸ hl⟩ rfl (l_ (c_ (c_ i_)) (y_ (c_ (c_ q_)) (c_ ad_))) (fun _ _ _ => trivial)
     ·
      replace hr5 := eq_of_beq hr5
      refine n_ rfl (f_ (d_ (a_ (g_ rfl) rfl (a_ (k_ C_ rfl rfl rfl p_) rfl (a_ (o_ 0 v_ rfl rfl rfl) rfl (aF_ (gQ_ x [] (Pc.a x) pm b2 b1 g pb kb ab ub ob ib rb sb fb ev lv Hm hm (by first | omega | (simp; omega))) rfl rfl (l_ i_ (l_ i_ (l_ i_ q_))) (fun _ _ _ => by exact trivial) rfl fun ⟨HP5, hP5⟩ => ?_))))))
      dsimp only
      simp only [List.cons_append]
      refine e_ (b_ rfl (d_ (a_ (g_ rfl) rfl (a_ (k_ C_ rfl rfl rfl p_) rfl (a_ (o_ 0 v_ rfl rfl rfl) rfl (a_ (k_ C_ rfl rfl rfl p_) rfl (a_ (o_ 0 v_ rfl rfl rfl) rfl (aF_ (gQ_ x (Pc.r x) (Pc.a x) (pm ++ [((Ky.mk (Pc.kind x) [] (Pc.a x)), x)]) b2 b1 g pb kb ab ub ob ib rb sb fb ev lv HP5 hP5 (by first | omega | (simp; omega))) rfl rfl (l_ i_ (l_ i_ (l_ i_ q_))) (fun _ _ _ => by exact trivial) rfl fun ⟨HP6, hP6⟩ => ?_))))))))
      dsimp only
      simp only [List.cons_append]
      refine e_ (aQ_ rfl ?_)
      have e1 : ((pm ++ [((Ky.mk (Pc.kind x) [] (Pc.a x)), x)]) ++ [((Ky.mk (Pc.kind x) (Pc.r x) (Pc.a x)), x)]) = pm ++ cC_ x := by simp [cC_, *]
      have e2 : lps = lps ++ ak_ [x] := by simp [ak_, *]
      exact ch_ cS_ ⟨(lv, HP6, Hl), e1 ▸ hP6, e2 ▸ hl⟩ rfl (l_ (c_ (c_ i_)) (y_ (c_ (c_ q_)) (c_ ad_))) (fun _ _ _ => trivial)
    ·
     replace hr4 := eq_of_beq hr4
     refine n_ rfl (f_ (d_ (a_ (g_ rfl) rfl (a_ (k_ C_ rfl rfl rfl p_) rfl (a_ (o_ 0 v_ rfl rfl rfl) rfl (aF_ (gQ_ x [] (Pc.a x) pm b2 b1 g pb kb ab ub ob ib rb sb fb ev lv Hm hm (by first | omega | (simp; omega))) rfl rfl (l_ i_ (l_ i_ (l_ i_ q_))) (fun _ _ _ => by exact trivial) rfl fun ⟨HP7, hP7⟩ => ?_))))))
     dsimp only
     simp only [List.cons_append]
     refine e_ (b_ rfl (f_ (d_ (a_ (k_ C_ rfl rfl rfl p_) rfl (a_ (o_ 0 v_ rfl rfl rfl) rfl (a_ (k_ C_ rfl rfl rfl p_) rfl (a_ (o_ 0 v_ rfl rfl rfl) rfl (z_ (eG_ rfl rfl) rfl fun r10 hr10 => ?_))))))))
     refine e_ (b_ rfl ?_)
     cases r10
     ·
      replace hr10 := bN_ hr10
      refine r_ rfl (B_ (aQ_ rfl ?_))
      have e1 : (pm ++ [((Ky.mk (Pc.kind x) [] (Pc.a x)), x)]) = pm ++ cC_ x := by simp [cC_, *]
      have e2 : lps = lps ++ ak_ [x] := by simp [ak_, *]
      exact ch_ cS_ ⟨(lv, HP7, Hl), e1 ▸ hP7, e2 ▸ hl⟩ rfl (l_ (c_ (c_ i_)) (y_ (c_ (c_ q_)) (c_ ad_))) (fun _ _ _ => trivial)
     ·
      replace hr10 := bM_ hr10
      refine n_ rfl (d_ (a_ (g_ rfl) rfl (a_ (k_ C_ rfl rfl rfl p_) rfl (a_ (o_ 0 v_ rfl rfl rfl) rfl (aF_ (gQ_ x [] (Pc.b x) (pm ++ [((Ky.mk (Pc.kind x) [] (Pc.a x)), x)]) b2 b1 g pb kb ab ub ob ib rb sb fb ev lv HP7 hP7 (by first | omega | (simp; omega))) rfl rfl (l_ i_ (l_ i_ (l_ i_ q_))) (fun _ _ _ => by exact trivial) rfl fun ⟨HP8, hP8⟩ => ?_)))))
      dsimp only
      simp only [List.cons_append]
      refine e_ (aQ_ rfl ?_)
      have e1 : ((pm ++ [((Ky.mk (Pc.kind x) [] (Pc.a x)), x)]) ++ [((Ky.mk (Pc.kind x) [] (Pc.b x)), x)]) = pm ++ cC_ x := by simp [cC_, *]
      have e2 : lps = lps ++ ak_ [x] := by simp [ak_, *]
      exact ch_ cS_ ⟨(lv, HP8, Hl), e1 ▸ hP8, e2 ▸ hl⟩ rfl (l_ (c_ (c_ i_)) (y_ (c_ (c_ q_)) (c_ ad_))) (fun _ _ _ => trivial)
   ·
    replace hr3 := eq_of_beq hr3
    refine n_ rfl (d_ (a_ (g_ rfl) rfl (a_ (k_ C_ rfl rfl rfl p_) rfl (a_ (o_ 0 v_ rfl rfl rfl) rfl (aF_ (gQ_ x [] (Pc.a x) pm b2 b1 g pb kb ab ub ob ib rb sb fb ev lv Hm hm (by first | omega | (simp; omega))) rfl rfl (l_ i_ (l_ i_ (l_ i_ q_))) (fun _ _ _ => by exact trivial) rfl fun ⟨HP9, hP9⟩ => ?_)))))
    dsimp only
    simp only [List.cons_append]
    refine e_ (aQ_ rfl ?_)
    have e1 : (pm ++ [((Ky.mk (Pc.kind x) [] (Pc.a x)), x)]) = pm ++ cC_ x := by simp [cC_, *]
    have e2 : lps = lps ++ ak_ [x] := by simp [ak_, *]
    exact ch_ cS_ ⟨(lv, HP9, Hl), e1 ▸ hP9, e2 ▸ hl⟩ rfl (l_ (c_ (c_ i_)) (y_ (c_ (c_ q_)) (c_ ad_))) (fun _ _ _ => trivial)
  ·
   replace hr2 := eq_of_beq hr2
   refine n_ rfl (B_ (b_ rfl (n_ rfl (d_ (a_ (g_ rfl) rfl (a_ (k_ C_ rfl rfl rfl p_) rfl (a_ (o_ 0 v_ rfl rfl rfl) rfl (aF_ (gQ_ x [] (Pc.a x) pm b2 b1 g pb kb ab ub ob ib rb sb fb ev lv Hm hm (by first | omega | (simp; omega))) rfl rfl (l_ i_ (l_ i_ (l_ i_ q_))) (fun _ _ _ => by exact trivial) rfl fun ⟨HP10, hP10⟩ => ?_))))))))
   dsimp only
   simp only [List.cons_append]
   refine e_ (aQ_ rfl ?_)
   have e1 : (pm ++ [((Ky.mk (Pc.kind x) [] (Pc.a x)), x)]) = pm ++ cC_ x := by simp [cC_, *]
   have e2 : lps = lps ++ ak_ [x] := by simp [ak_, *]
   exact ch_ cS_ ⟨(lv, HP10, Hl), e1 ▸ hP10, e2 ▸ hl⟩ rfl (l_ (c_ (c_ i_)) (y_ (c_ (c_ q_)) (c_ ad_))) (fun _ _ _ => trivial)
 ·
  replace hr1 := eq_of_beq hr1
  refine n_ rfl (B_ (b_ rfl (n_ rfl (d_ (a_ (g_ rfl) rfl (a_ (k_ C_ rfl rfl rfl p_) rfl (a_ (o_ 0 v_ rfl rfl rfl) rfl (aF_ (gQ_ x [] (Pc.a x) pm b2 b1 g pb kb ab ub ob ib rb sb fb ev lv Hm hm (by first | omega | (simp; omega))) rfl rfl (l_ i_ (l_ i_ (l_ i_ q_))) (fun _ _ _ => by exact trivial) rfl fun ⟨HP11, hP11⟩ => ?_))))))))
  dsimp only
  simp only [List.cons_append]
  refine e_ (aQ_ rfl ?_)
  have e1 : (pm ++ [((Ky.mk (Pc.kind x) [] (Pc.a x)), x)]) = pm ++ cC_ x := by simp [cC_, *]
  have e2 : lps = lps ++ ak_ [x] := by simp [ak_, *]
  exact ch_ cS_ ⟨(lv, HP11, Hl), e1 ▸ hP11, e2 ▸ hl⟩ rfl (l_ (c_ (c_ i_)) (y_ (c_ (c_ q_)) (c_ ad_))) (fun _ _ _ => trivial)
structure NewE where
  g : Nat
  pb : Nat
  kb : Nat
  ab : Nat
  ub : Nat
  ob : Nat
  ib : Nat
  rb : Nat
  sb : Nat
  fb : Nat
  lv : Value
  hm : Hp
  hl : Hp
def NewE.ok (ps : List Pc) (y : NewE) : Prop := dm_ Ky.val Pc.cells 47 10 (aP_ ps) y.pb y.hm ∧ bt_ 9 1 y.lv (List.length (ak_ ps)) (List.flatMap bf_ (ak_ ps)) y.hl
def NewE.own (y : NewE) : Hp := (y.g, .cells #[.map (some y.pb), y.lv, .map (some y.kb), .nilFunc, .map (some y.ab), .map (some y.ub), .map (some y.ob), .map (some y.ib), .map (some y.rb), .map (some y.sb), .map (some y.fb)] 94 (0, 0)) :: (y.kb, .map #[] 0) :: (y.ab, .map #[] 0) :: (y.ub, .map #[] 0) :: (y.ob, .map #[] 0) :: (y.ib, .map #[] 0) :: (y.rb, .map #[] 0) :: (y.sb, .map #[] 0) :: (y.fb, .map #[] 0) :: (y.hm ++ y.hl)
theorem fg_ {p : List Pc} {i : Nat} {x : Pc} (h : p[i]? = some x) : uniq [] (List.take (i + 1) p) = if x.zf ∈ uniq [] (List.take i p) then uniq [] (List.take i p) else uniq [] (List.take i p) ++ [x.zf] := by
  have key : ∀ (l : List Pc) (r : List Pc), uniq l (r ++ [x]) = if x.zf ∈ uniq l r then uniq l r else uniq l r ++ [x.zf] := by
    intro l r
    induction r generalizing l with
    | nil => rfl
    | cons y r ih => exact ih _
  rw [List.take_add_one, h, Option.toList_some]
  exact key _ _
theorem ps_ (l : List Pc) (x : Pc) : aP_ (l ++ [x]) = aP_ l ++ cC_ x := by simp [aP_]
theorem lx_ (l : List Pc) (x : Pc) : ak_ (l ++ [x]) = ak_ l ++ ak_ [x] := by simp [ak_]
theorem qD_ (x : Pc) : (cC_ x).length ≤ 2 := by unfold cC_; (repeat' split) <;> simp
theorem id_ : ∀ l : List Pc, (aP_ l).length ≤ 2 * l.length
  | [] => by simp [aP_]
  | x :: l => by
    have := id_ l
    have h2 := qD_ x
    simp only [aP_, List.flatMap_cons, List.length_append, List.length_cons] at this ⊢
    omega
theorem gS_ (l : List Pc) : (ak_ l).length ≤ l.length := by
  simp only [ak_, List.length_map]; exact List.length_filter_le _ _
theorem iY_ (p : List Pc) (pad : Option Addr) (pcap : Nat) (hp : p.length ≤ 100000000) : Tri Tryz.prog 54 #[.slice pad (List.length p) pcap] [] [bb_ pad (List.flatMap Pc.cells p)] (fun y : {y : NewE // y.ok (uniq [] p)} => zp_ y.1.g 0) (fun y => y.1.own) (fun _ => []) := by
 refine R_ Tryz.func54 rfl rfl Tryz.ntmps54 rfl fun v0 => ?_
 refine f_ (d_ (a_ (h_ rfl) rfl (e_ (b_ rfl (f_ (d_ (cv_ rfl fun b1 => ?_)))))))
 refine cv_ rfl fun b2 => ?_
 refine cv_ rfl fun b3 => ?_
 refine cv_ rfl fun b4 => ?_
 refine cv_ rfl fun b5 => ?_
 refine cv_ rfl fun b6 => ?_
 refine cv_ rfl fun b7 => ?_
 refine cv_ rfl fun b8 => ?_
 refine cv_ rfl fun b9 => ?_
 refine a_ (ao_ strt94 rfl rfl) rfl (aI_ rfl rfl fun b10 => ?_)
 refine a_ (h_ rfl) rfl (e_ (b_ rfl (f_ (d_ (cv_ rfl fun b11 => ?_)))))
 refine a_ (h_ rfl) rfl (e_ (b_ rfl (f_ (f_ (d_ (a_ (g_ rfl) rfl (a_ (at_ T_ rfl) rfl (a_ (g_ rfl) rfl (e_ ?_)))))))))
 refine b_ rfl (S_ ?_)
 refine aV_ (ι := {y : Nat × Array MapEntry × Nat × Hp × Value × Hp // y.1 ≤ List.length p ∧ SetE Pc.val y.2.1 (uniq [] (List.take y.1 p)) ∧ dm_ Ky.val Pc.cells 47 10 (aP_ (uniq [] (List.take y.1 p))) b1 y.2.2.2.1 ∧ bt_ 9 1 y.2.2.2.2.1 (List.length (ak_ (uniq [] (List.take y.1 p)))) (List.flatMap bf_ (ak_ (uniq [] (List.take y.1 p)))) y.2.2.2.2.2}) (fun y => [(3, zp_ b10 0), (4, .map (some b11)), (19, .slice pad (List.length p) pcap), (20, .int .i64 (List.length p : Int)), (21, .int .i64 (y.1.1 : Int))]) (fun y => ((b10, .cells #[.map (some b1), y.1.2.2.2.2.1, .map (some b2), .nilFunc, .map (some b3), .map (some b4), .map (some b5), .map (some b6), .map (some b7), .map (some b8), .map (some b9)] 94 (0, 0)) :: ((b11, .map y.1.2.1 y.1.2.2.1) :: ((b2, .map #[] 0) :: ((b3, .map #[] 0) :: ((b4, .map #[] 0) :: ((b5, .map #[] 0) :: ((b6, .map #[] 0) :: ((b7, .map #[] 0) :: ((b8, .map #[] 0) :: ((b9, .map #[] 0) :: (y.1.2.2.2.1 ++ y.1.2.2.2.2.2)))))))))))) (fun y => [bb_ pad (List.flatMap Pc.cells p)]) (fun y => List.length p - y.1.1) ⟨((0 : Nat), #[], 0, [(b1, .map #[] 0)], (.slice none 0 0), []), by simp, by exact SetE.nil, by exact dm_.nil _ _, (bt_.nil 9 1)⟩ ⟨rfl, rfl, rfl, rfl, rfl, trivial⟩ (l_ (c_ i_) (l_ i_ (l_ (c_ (c_ (c_ (c_ (c_ (c_ (c_ i_))))))) (l_ (c_ (c_ (c_ (c_ (c_ (c_ i_)))))) (l_ (c_ (c_ (c_ (c_ (c_ i_))))) (l_ (c_ (c_ (c_ (c_ i_)))) (l_ (c_ (c_ (c_ i_))) (l_ (c_ (c_ i_)) (l_ (c_ i_) (l_ i_ i_)))))))))) (fun _ _ h => h) ?_
 rintro ⟨⟨i, es, cs, Hm, sv_L, H_L⟩, hi, hE, hm, hr_L⟩
 dsimp only at hi hE hm hr_L ⊢
 have hbu := fM_ (List.take i p) []
 have hbt := List.length_take_le i p
 simp only [List.length_nil] at hbu
 have hbp : (aP_ (uniq [] (List.take i p))).length ≤ 900000000 := by have := id_ (uniq [] (List.take i p)); omega
 have hbl : (ak_ (uniq [] (List.take i p))).length ≤ 900000000 := by have := gS_ (uniq [] (List.take i p)); omega
 refine f_ (d_ (z_ (aC_ rfl rfl) rfl fun r1 hr1 => ?_))
 refine e_ (b_ rfl (f_ ?_))
 cases r1
 ·
  replace hr1 := of_decide_eq_false hr1
  refine r_ rfl (ay_ rfl (b_ rfl (f_ (d_ (a_ (g_ rfl) rfl (a_ (h_ rfl) rfl (e_ (b_ rfl (D_ ?_)))))))))
  have e9 : List.take i p = p := List.take_of_length_le (by omega)
  rw [e9] at hm hr_L
  exact ar_ Tryz.results54 ⟨NewE.mk b10 b1 b2 b3 b4 b5 b6 b7 b8 b9 sv_L Hm H_L, hm, hr_L⟩ rfl (l_ i_ (l_ (c_ i_) (l_ (c_ i_) (l_ (c_ i_) (l_ (c_ i_) (l_ (c_ i_) (l_ (c_ i_) (l_ (c_ i_) (l_ (c_ i_) (y_ (c_ q_) ad_)))))))))) (fun _ _ _ => trivial)
 ·
  replace hr1 := of_decide_eq_true hr1
  have hlx1 : i < List.length p := by omega
  obtain ⟨x1, hx1⟩ : ∃ e0, p[i]? = some e0 := ⟨_, List.getElem?_eq_getElem hlx1⟩
  have hmx1 : x1 ∈ p := List.mem_of_getElem? hx1
  refine n_ rfl (B_ (b_ rfl (f_ (S_ (f_ (d_ (a_ (aj_ T_ W_ rfl rfl (fun v _ h => aO_ (n := 10) Pc.cells_len (by decide) (by exact h.1) hx1) (by omega) (by first | omega | (simp; done))) rfl (a_ (aG_ (ad := pad) (us := Pc.cells x1) bs_ W_ rfl (fun v _ h => by exact h.1) (Pc.cells_len _) (an_ Pc.cells_len hx1)) rfl (al_ as_ rfl fun b12 => ?_)))))))))
  refine ae_ 0 W_ rfl rfl rfl rfl rfl rfl (e_ (b_ rfl (f_ (d_ (a_ (k_ C_ rfl rfl rfl I_) rfl (ae_ 0 I_ rfl rfl rfl rfl rfl rfl (e_ (b_ rfl (f_ ?_)))))))))
  refine d_ (a_ (g_ rfl) rfl (a_ (K_ 0 bs_ W_ rfl rfl rfl) rfl (z_ (cP_ (k := Pc.zf x1) (q := (uniq [] (List.take i p))) qV_ hw_ bV_ rfl rfl hE (fun v h _ => (h.own _ (List.mem_of_getElem? (i := 2) rfl)).1)) rfl fun r2 hr2 => ?_)))
  refine a_ (bg_ rfl) rfl (e_ (b_ rfl ?_))
  cases r2
  ·
   replace hr2 := of_decide_eq_false hr2
   refine n_ rfl (f_ (d_ (a_ (g_ rfl) rfl (a_ (K_ 0 bs_ W_ rfl rfl rfl) rfl (fQ_ (k := Pc.zf x1) (q := (uniq [] (List.take i p))) 2 qV_ (.inr rfl) hw_ rfl rfl rfl rfl hE fun es1 c1 hE1 => ?_)))))
   refine e_ (b_ rfl (d_ (a_ (g_ rfl) rfl (a_ (K_ 0 bs_ W_ rfl rfl rfl) rfl (Q_ (qb_ (Pc.zf x1) (aP_ (uniq [] (List.take i p))) (ak_ (uniq [] (List.take i p))) b10 b1 b2 b3 b4 b5 b6 b7 b8 b9 .nilFunc sv_L Hm H_L hm hr_L  hbp hbl) rfl (l_ (c_ i_) (y_ (c_ (c_ (c_ (c_ (c_ (c_ (c_ (c_ (c_ (c_ q_)))))))))) (c_ (c_ (c_ (c_ (c_ (c_ (c_ (c_ (c_ ad_))))))))))) (fun _ _ _ => by exact trivial) rfl fun ⟨⟨lv1, HA1, HA2⟩, hA1, hA2⟩ => ?_)))))
   dsimp only
   simp only [List.cons_append, List.append_assoc]
   refine e_ (b_ rfl (ap_ (aY_ i_ (aY_ (m_ (m_ i_)) (aY_ (m_ (m_ i_)) (aY_ (m_ (m_ i_)) (aY_ (m_ (m_ i_)) (aY_ (m_ (m_ i_)) (aY_ (m_ (m_ i_)) (aY_ (m_ (m_ i_)) (aY_ (m_ (m_ i_)) (aY_ (m_ (m_ i_)) (cn_ (m_ ba_)))))))))))) (d_ (a_ (V_ rfl rfl rfl (am_ (by omega) (by omega))) rfl (a_ (g_ rfl) rfl (e_ (t_ rfl ?_)))))))
   exact ah_ ⟨(i + 1, es1, c1, HA1, lv1, HA2), hlx1, by rw [fg_ hx1]; exact hE1, by rw [fg_ hx1, if_neg (by assumption), ps_]; exact hA1, (by rw [fg_ hx1, if_neg (by assumption), lx_]; exact hA2)⟩ (by dsimp only; omega) ⟨rfl, rfl, rfl, rfl, rfl, trivial⟩ (l_ i_ (l_ (c_ i_) (l_ (c_ i_) (l_ (c_ i_) (l_ (c_ i_) (l_ (c_ i_) (l_ (c_ i_) (l_ (c_ i_) (l_ (c_ i_) (l_ (c_ i_) (y_ (c_ q_) ad_))))))))))) (fun _ _ h => h)
  ·
   replace hr2 := of_decide_eq_true hr2
   refine r_ rfl (B_ (b_ rfl (d_ (a_ (V_ rfl rfl rfl (am_ (by omega) (by omega))) rfl (a_ (g_ rfl) rfl (e_ (t_ rfl ?_)))))))
   exact ah_ ⟨(i + 1, es, cs, Hm, sv_L, H_L), hlx1, by rw [fg_ hx1, if_pos (by assumption)]; exact hE, by rw [fg_ hx1, if_pos (by assumption)]; exact hm, (by rw [fg_ hx1, if_pos (by assumption)]; exact hr_L)⟩ (by dsimp only; omega) ⟨rfl, rfl, rfl, rfl, rfl, trivial⟩ (l_ (c_ i_) (l_ (c_ i_) (l_ (c_ i_) (l_ (c_ i_) (l_ (c_ i_) (l_ (c_ i_) (l_ (c_ i_) (l_ (c_ i_) (l_ (c_ i_) (l_ (c_ i_) (y_ (c_ q_) ad_))))))))))) (fun _ _ h => h)
end Go.Proofs.YtpdbbglpbngeiaaGreatDoor
namespace Go.Proofs.YtpdbbglpbngeiaaGreatDoor
open Go Go.Sx Go.Proofs
attribute [local irreducible] Code.wp wpList wpAnyH
open Go.Vs
theorem jy_ {P : Program} {N : Nat} {fr : Fr} {H : Hp} {Γ : List Fct} {ty : TypeId} {K : Type} [DecidableEq K] {kv : K → Value} {t kt et : TypeId} {x : Operand} {mb c : Nat} {es : Array MapEntry} {q : List K} (hE : SetE kv es q) (hu : ∀ w, (underlying t).run P w = .ok (.map kt et) w) (hx : Fr.ev fr x = some (.map (some mb))) (hm : ∀ v, v.sat H → aM_ Γ v → v.w.heap[mb]? = some (.map es c)) :
    Yld P N fr H Γ (.call ⟨.builtin .len, #[x], #[t]⟩) ty (.int .i64 (q.length : Int)) := by
  rw [← hE.size]; exact qg_ hu hx hm
def sD_ (a b : Fct) : Fct where
  p v := a.p v ∧ b.p v
  mono := fun v v' h ⟨h1, h2⟩ => ⟨a.mono v v' h h1, b.mono v v' h h2⟩
def StA (b9 kb fb : Nat) (nw fm : List Fc) (H : Hp) : Prop := ∃ sv es c es' c' q Hq, H = (b9, .cells #[sv] 26 (0, 0)) :: (kb, .map es c) :: ([(fb, .map es' c')] ++ Hq) ∧ bt_ 41 6 sv nw.length (nw.flatMap Fc.cells) Hq ∧ SetE Fc.val es nw ∧ SetE Fc.val es' q ∧ ∀ f, f ∈ q ↔ f ∈ fm
def StN (c : List Fc) (kb fb nb : Nat) (nw fm : List Fc) (H : Hp) : Prop := ∃ es c1 es2 c2 q es3 c3, H = (nb, .map es3 c3) :: (kb, .map es c1) :: [(fb, .map es2 c2)] ∧ SetE Fc.val es3 nw ∧ SetE Fc.val es c ∧ SetE Fc.val es2 q ∧ (∀ f, f ∈ q ↔ f ∈ fm) ∧ Born es3 c3
theorem sn_ (f : Fc) (nw fm : List Fc) (m : Nat) (hm : m ≤ 65536) (g b7 b8 b9 kb fb : Nat) (c0 c1 c3 c4 c5 c6 c7 c8 c9 c10 sv : Value) (es es2 : Array MapEntry) (c c2 : Nat) (q : List Fc) (Hq : Hp) (hr : bt_ 41 6 sv nw.length (nw.flatMap Fc.cells) Hq) (hE : SetE Fc.val es nw) (hF : SetE Fc.val es2 q) (hq : ∀ f, f ∈ q ↔ f ∈ fm) : Tri Tryz.prog 55 #[Fc.val f, zp_ b7 0, zp_ b8 0, zp_ b9 0] ((b9, .cells #[sv] 26 (0, 0)) :: (kb, .map es c) :: ([(fb, .map es2 c2)] ++ Hq)) [ct_ b7 (.cells #[zp_ g 0] 85 (0, 0)), ct_ b8 (.cells #[.int .i64 (m : Int)] 3 (0, 0)), ct_ g (.cells #[c0, c1, .map (some kb), c3, c4, c5, c6, c7, c8, c9, c10] 94 (0, 0))] (fun _ : {H : Hp // StA b9 kb fb (bB_ m f nw) fm H} => .tuple #[]) (fun y => y.1) (fun _ => []) := by
  refine R_ Tryz.func55 rfl rfl Tryz.ntmps55 rfl fun v0 => ?_
  refine f_ (d_ (aI_ rfl rfl fun b1 => ?_))
  refine e_ (b_ rfl (f_ ?_))
  refine aE_ (by kernel_rfl) ?_
  refine ab_ 8 [0, 1, 2, 3, 4, 5, 6, 7] (by kernel_rfl) (fun _ a b => ⟨a, b⟩) (j_ rfl (Z_ bw_ rfl (fun v _ h => by exact h.1) rfl) rfl (j_ rfl (ag_ rfl) rfl (j_ rfl (k_ F_ rfl rfl rfl bv_) rfl (j_ rfl (Z_ bD_ rfl (fun v _ h => by exact h.2.2.1) rfl) rfl (j_ rfl (jy_ hE aS_ rfl (fun v h _ => (h.own _ (List.mem_of_getElem? (i := 2) rfl)).1)) rfl (j_ rfl (Z_ J_ rfl (fun v _ h => by exact h.2.1) rfl) rfl ?_))))))
  refine cK_ rfl (co_ rfl rfl) rfl fun r1 hr1 => ?_
  refine j_ rfl (g_ rfl) rfl (aa_ ?_)
  cases r1
  · skip
    replace hr1 := of_decide_eq_false hr1
    refine ab_ 0 [8, 9, 10, 11, 12, 13, 14, 15] (by kernel_rfl) (fun _ a b => ⟨a, b⟩) (aL_ rfl rfl rfl rfl rfl (aL_ rfl rfl rfl rfl rfl (aL_ rfl rfl rfl rfl rfl (aL_ rfl rfl rfl rfl rfl (aL_ rfl rfl rfl rfl rfl (aL_ rfl rfl rfl rfl rfl (aL_ rfl rfl rfl rfl rfl (j_ rfl (H_ rfl rfl) rfl (aa_ ?_)))))))))
    refine Y_ (by kernel_rfl) (b_ rfl (r_ rfl (B_ (aQ_ rfl ?_))))
    have e0 : bB_ m f nw = nw := by unfold bB_; rw [if_neg (by rintro ⟨q1, q2⟩; first | omega | exact absurd (by assumption) q2)]
    exact ch_ Tryz.results55 ⟨_, sv, es, c, es2, c2, q, Hq, rfl, by rw [e0]; exact hr, by rw [e0]; exact hE, hF, hq⟩ rfl (l_ (c_ i_) (l_ (c_ i_) (y_ (c_ q_) ad_))) (fun _ _ _ => trivial)
  · skip
    replace hr1 := of_decide_eq_true hr1
    refine ab_ 0 [8, 9, 10, 11, 12, 13, 14, 15] (by kernel_rfl) (fun _ a b => ⟨a, b⟩) (aB_ rfl rfl rfl (Z_ bw_ rfl (fun v _ h => by exact h.1) rfl) rfl (aB_ rfl rfl rfl (ag_ rfl) rfl (aB_ rfl rfl rfl (k_ F_ rfl rfl rfl bv_) rfl (aB_ rfl rfl rfl (Z_ bD_ rfl (fun v _ h => by exact h.2.2.1) rfl) rfl (aB_ rfl rfl rfl (K_ 0 af_ M_ rfl rfl rfl) rfl ?_)))))
    refine dc_ rfl rfl rfl (cP_ (k := f) fW_ aS_ bV_ rfl rfl hE (fun v h _ => (h.own _ (List.mem_of_getElem? (i := 2) rfl)).1)) rfl fun r2 hr2 => ?_
    refine aB_ rfl rfl rfl (bg_ rfl) rfl (j_ rfl (P_ rfl rfl) rfl (aa_ (Y_ (by kernel_rfl) (b_ rfl ?_))))
    cases r2
    · skip
      replace hr2 := of_decide_eq_false hr2
      refine n_ rfl (f_ ?_)
      refine aD_ ((b1, .cells (Fc.cells f).toArray 41 (0, 0)) :: ((b9, .cells #[sv] 26 (0, 0)) :: [])) (by kernel_rfl) ?_
      refine ab_ 1 [0, 1, 2, 3, 4] (by kernel_rfl) (fun _ a b => ⟨Vw.sat.sub (a.perm (l_ i_ i_)), b⟩) (j_ rfl (Z_ bw_ rfl (fun v _ h => by exact h.1) rfl) rfl (j_ rfl (ag_ rfl) rfl (j_ rfl (k_ F_ rfl rfl rfl bv_) rfl (j_ rfl (Z_ bD_ rfl (fun v _ h => by exact h.2.2.1) rfl) rfl (j_ rfl (K_ 0 af_ M_ rfl rfl rfl) rfl (aa_ (N_ 5 rfl (by kernel_rfl) (fQ_ (k := f) 2 fW_ (.inr rfl) aS_ rfl rfl rfl rfl hE fun ej1 cj1 hj1 => ?_))))))))
      refine e_ (t_ rfl (E_ (fun _ a b => ⟨Vw.sat.sub (a.perm (l_ i_ i_)), b⟩) (Y_ (by kernel_rfl) (b_ rfl (d_ (a_ (o_ 1 cI_ rfl rfl rfl) rfl (a_ (K_ 0 af_ M_ rfl rfl rfl) rfl (aW_ az_ M_ aT_ rfl rfl rfl rfl rfl rfl fun b2 => ?_))))))))
      refine bp_ (news := List.flatMap Fc.cells [f]) lO_ hr rfl rfl (c_ (c_ (c_ (c_ ba_)))) rfl (df_ 0 rfl) (fun u hu => cf_ Fc.cells_one hu) (by simp only [maxLen]; omega) (by omega) rfl fun sv1 Hr1 hr1 => ?_
      have hq1 : bt_ 41 6 sv1 (List.length (nw ++ [f])) (List.flatMap Fc.cells (nw ++ [f])) Hr1 := by rw [List.length_append, List.flatMap_append]; exact hr1
      refine ap_ (aY_ (m_ i_) (aY_ (m_ i_) (aY_ (m_ i_) (cn_ (m_ i_))))) (gp_ 2 hq1 dI_ rfl rfl rfl rfl (e_ (aQ_ rfl ?_)))
      have e0 : bB_ m f nw = nw ++ [f] := by unfold bB_; rw [if_pos ⟨by omega, by assumption⟩]
      exact ch_ Tryz.results55 ⟨_, sv1, ej1, cj1, es2, c2, q, Hr1, rfl, by rw [e0]; exact hq1, by rw [e0]; rw [if_neg (by assumption)] at hj1; exact hj1, hF, hq⟩ rfl (l_ (c_ (c_ i_)) (l_ (c_ (c_ i_)) (y_ (c_ (c_ ba_)) (c_ ad_)))) (fun _ _ _ => trivial)
    · skip
      replace hr2 := of_decide_eq_true hr2
      refine r_ rfl (B_ (aQ_ rfl ?_))
      have e0 : bB_ m f nw = nw := by unfold bB_; rw [if_neg (by rintro ⟨q1, q2⟩; first | omega | exact absurd (by assumption) q2)]
      exact ch_ Tryz.results55 ⟨_, sv, es, c, es2, c2, q, Hq, rfl, by rw [e0]; exact hr, by rw [e0]; exact hE, hF, hq⟩ rfl (l_ (c_ i_) (l_ (c_ i_) (y_ (c_ q_) ad_))) (fun _ _ _ => trivial)
theorem sm_ (f : Fc) (cl nw fm : List Fc) (g b7 b9 kb fb nb : Nat) (c0 c1' c3 c4 c5 c6 c7 c8 c9 c10 : Value) (es es2 es3 : Array MapEntry) (c1 c2 c3' : Nat) (q : List Fc) (hE : SetE Fc.val es3 nw) (hK : SetE Fc.val es cl) (hF : SetE Fc.val es2 q) (hq : ∀ f, f ∈ q ↔ f ∈ fm) (hB : Born es3 c3') : Tri Tryz.prog 67 #[Fc.val f, zp_ b7 0, zp_ b9 0] ((nb, .map es3 c3') :: (kb, .map es c1) :: [(fb, .map es2 c2)]) [ct_ b7 (.cells #[zp_ g 0] 85 (0, 0)), ct_ b9 (.cells #[.map (some nb)] 88 (0, 0)), ct_ g (.cells #[c0, c1', .map (some kb), c3, c4, c5, c6, c7, c8, c9, c10] 94 (0, 0))] (fun _ : {H : Hp // StN cl kb fb nb (dw_ cl f nw) fm H} => .tuple #[]) (fun y => y.1) (fun _ => []) := by
  refine R_ Tryz.func67 rfl rfl Tryz.ntmps67 rfl fun v0 => ?_
  refine f_ (d_ (aI_ rfl rfl fun b1 => ?_))
  refine e_ (b_ rfl (f_ ?_))
  refine aE_ (by kernel_rfl) ?_
  refine ab_ 0 [0, 1, 2, 3, 4, 5, 6] (by kernel_rfl) (fun _ a b => ⟨a, b⟩) (j_ rfl (Z_ bw_ rfl (fun v _ h => by exact h.1) rfl) rfl (j_ rfl (ag_ rfl) rfl (j_ rfl (k_ F_ rfl rfl rfl bv_) rfl (j_ rfl (Z_ bD_ rfl (fun v _ h => by exact h.2.2.1) rfl) rfl (j_ rfl (K_ 0 af_ M_ rfl rfl rfl) rfl ?_)))))
  refine cK_ rfl (cP_ (k := f) fW_ aS_ bV_ rfl rfl hK (fun v h _ => (h.own _ (List.mem_of_getElem? (i := 2) rfl)).1)) rfl fun r1 hr1 => ?_
  refine j_ rfl (bg_ rfl) rfl (aa_ (Y_ (by kernel_rfl) (b_ rfl ?_)))
  cases r1
  · skip
    replace hr1 := of_decide_eq_false hr1
    refine n_ rfl (d_ (a_ (Z_ bD_ rfl (fun v _ h => by exact h.2.1) rfl) rfl (a_ (K_ 0 af_ M_ rfl rfl rfl) rfl (pC_ (k := f) 1 fW_ (.inr rfl) aS_ rfl rfl rfl rfl hE fun ej1 cj1 hj1 hbj1 => ?_))))
    refine e_ (aQ_ rfl ?_)
    have hn0 : f ∉ cl := by assumption
    exact ch_ Tryz.results67 ⟨_, es, c1, es2, c2, q, ej1, cj1, rfl, by unfold dw_; rw [show (if f ∈ cl ∨ f ∈ nw then nw else nw ++ [f]) = (if f ∈ nw then nw else nw ++ [f]) from by simp only [hn0, false_or]]; exact hj1, hK, hF, hq, (hbj1 hB)⟩ rfl (l_ (c_ i_) (l_ (c_ i_) (c_ i_))) (fun _ _ _ => trivial)
  · skip
    replace hr1 := of_decide_eq_true hr1
    refine r_ rfl (B_ (aQ_ rfl ?_))
    exact ch_ Tryz.results67 ⟨_, es, c1, es2, c2, q, es3, c3', rfl, by unfold dw_; rw [if_pos (.inl (by assumption))]; exact hE, hK, hF, hq, hB⟩ rfl (l_ (c_ i_) (l_ (c_ i_) (c_ i_))) (fun _ _ _ => trivial)
end Go.Proofs.YtpdbbglpbngeiaaGreatDoor
namespace Go.Proofs.YtpdbbglpbngeiaaGreatDoor
open Go Go.Sx Go.Proofs
attribute [local irreducible] Code.wp wpList wpAnyH
open Go.Vs
def EA (m : Nat) (hm : m ≤ 65536) (B : EngB) (b7 b8 b9 kb fb : Nat) : Emt Tryz.prog 41 where
  stp := bB_ m
  kof := idk
  St := StA b9 kb fb
  fn := 55
  caps := [zp_ b7 0, zp_ b8 0, zp_ b9 0]
  ef := sD_ (ct_ b7 (.cells #[zp_ B.g 0] 85 (0, 0))) (sD_ (ct_ b8 (.cells #[.int .i64 (m : Int)] 3 (0, 0))) (ct_ B.g (.cells #[.map (some B.pb), .slice B.lad B.lps.length B.lcap, .map (some kb), .func (.func 55) #[] #[zp_ b7 0, zp_ b8 0, zp_ b9 0], .map (some B.ab), .map (some B.ub), .map (some B.ob), .map (some B.ib), .map (some B.rb), .map (some B.sb), .map (some fb)] 94 (0, 0))))
  kb := kb
  fb := fb
  grows := eV_ m
  emit := fun f nw fm H hS => by
    obtain ⟨sv, es, c, es2, c2, q, Hq, rfl, h1, h2, h3, h4⟩ := hS
    exact jC_ [] (sn_ f nw fm m hm B.g b7 b8 b9 kb fb _ _ _ _ _ _ _ _ _ _ sv es es2 c c2 q Hq h1 h2 h3 h4) (fun v _ h => ⟨h.1.1, h.1.2.1, h.1.2.2, trivial⟩)
  known := fun hS => by
    obtain ⟨sv, es, c, es2, c2, q, Hq, rfl, h1, h2, h3, h4⟩ := hS
    exact ⟨es, c, by simp, h2⟩
  firm := fun hS => by
    obtain ⟨sv, es, c, es2, c2, q, Hq, rfl, h1, h2, h3, h4⟩ := hS
    exact ⟨es2, c2, q, by simp, h3, h4⟩
  setf := fun {nw fm H} f hS => by
    obtain ⟨sv, es, c, es2, c2, q, Hq, rfl, h1, h2, h3, h4⟩ := hS
    refine ⟨es2, c2, q, (b9, .cells #[sv] 26 (0, 0)) :: (kb, .map es c) :: Hq, cn_ (c_ (c_ i_)), h3, h4, fun es' c' h5 => ⟨(b9, .cells #[sv] 26 (0, 0)) :: (kb, .map es c) :: ([(fb, .map es' c')] ++ Hq), ⟨sv, es, c, es', c', _, Hq, rfl, h1, h2, h5, ?_⟩, cn_ (c_ (c_ i_))⟩⟩
    intro z
    split
    · rename_i hz; rw [h4, List.mem_cons]; constructor
      · exact .inr
      · rintro (rfl | h)
        · exact (h4 _).1 hz
        · exact h
    · rw [List.mem_append, List.mem_singleton, h4, List.mem_cons, or_comm]
def EN (cl : List Fc) (B : EngB) (b7 b9 kb fb nb : Nat) : Emt Tryz.prog 41 where
  stp := dw_ cl
  kof := eN_ cl
  St := StN cl kb fb nb
  fn := 67
  caps := [zp_ b7 0, zp_ b9 0]
  ef := sD_ (ct_ b7 (.cells #[zp_ B.g 0] 85 (0, 0))) (sD_ (ct_ b9 (.cells #[.map (some nb)] 88 (0, 0))) (ct_ B.g (.cells #[.map (some B.pb), .slice B.lad B.lps.length B.lcap, .map (some kb), .func (.func 67) #[] #[zp_ b7 0, zp_ b9 0], .map (some B.ab), .map (some B.ub), .map (some B.ob), .map (some B.ib), .map (some B.rb), .map (some B.sb), .map (some fb)] 94 (0, 0))))
  kb := kb
  fb := fb
  grows := iM_ cl
  emit := fun f nw fm H hS => by
    obtain ⟨es, c1, es2, c2, q, es3, c3, rfl, h1, h2, h3, h4, h6⟩ := hS
    exact jC_ [] (sm_ f cl nw fm B.g b7 b9 kb fb nb _ _ _ _ _ _ _ _ _ _ es es2 es3 c1 c2 c3 q h1 h2 h3 h4 h6) (fun v _ h => ⟨h.1.1, h.1.2.1, h.1.2.2, trivial⟩)
  known := fun hS => by
    obtain ⟨es, c1, es2, c2, q, es3, c3, rfl, h1, h2, h3, h4, h6⟩ := hS
    exact ⟨es, c1, by simp, h2⟩
  firm := fun hS => by
    obtain ⟨es, c1, es2, c2, q, es3, c3, rfl, h1, h2, h3, h4, h6⟩ := hS
    exact ⟨es2, c2, q, by simp, h3, h4⟩
  setf := fun {nw fm H} f hS => by
    obtain ⟨es, c1, es2, c2, q, es3, c3, rfl, h1, h2, h3, h4, h6⟩ := hS
    refine ⟨es2, c2, q, (nb, .map es3 c3) :: [(kb, .map es c1)], cn_ (c_ (c_ i_)), h3, h4, fun es' c' h5 => ⟨(nb, .map es3 c3) :: (kb, .map es c1) :: [(fb, .map es' c')], ⟨es, c1, es', c', _, es3, c3, rfl, h1, h2, h5, ?_, h6⟩, cn_ (c_ (c_ i_))⟩⟩
    intro z
    split
    · rename_i hz; rw [h4, List.mem_cons]; constructor
      · exact .inr
      · rintro (rfl | h)
        · exact (h4 _).1 hz
        · exact h
    · rw [List.mem_append, List.mem_singleton, h4, List.mem_cons, or_comm]
end Go.Proofs.YtpdbbglpbngeiaaGreatDoor
namespace Go.Proofs.YtpdbbglpbngeiaaGreatDoor
open Go Go.Sx Go.Proofs
attribute [local irreducible] Code.wp wpList wpAnyH
open Go.Vs
def fvC (v : Value) : List Value := [v]
theorem ec_ (v : Value) : (fvC v).length = 1 := rfl
theorem oW_ {P : Program} {N : Nat} {fr : Fr} {H : Hp} {Γ : List Fct} {ty : TypeId} {t e : TypeId} {n sz : Nat} {parts : List (Nat × Operand)} {vs : List (Nat × Value)} {z cs : List Value} (hz : ∀ w, (zeroValue t).run P w = .ok (.agg z.toArray) w) (hu : ∀ w, (underlying t).run P w = .ok (.array n e) w) (hs : ∀ w, (sizeOf e).run P w = .ok sz w) (hx : Fr.evp fr parts = some vs) (hf : jg_ (fun i => some (i * sz, sz)) z vs = some cs) :
    Yld P N fr H Γ (.build t parts.toArray) ty (.agg cs.toArray) :=
  kM_ (fun a h1 w => by
    have := h1.evp hx
    rw [List.map_toArray, this]
    have hf' := gY_ _ _ _ _ hf
    simp only [Instr.build, Sem.run_bind, hz, Result.andThen_ok, hu, hs, Value.cells, hf', Sem.run_pure])
def rlV (g : Nat) (k : Nat) : List Value := if k = 1 then [(Value.func (.func 100) #[zp_ g 0] #[]), (Value.func (.func 101) #[zp_ g 0] #[]), (Value.func (.func 102) #[zp_ g 0] #[]), (Value.func (.func 103) #[zp_ g 0] #[]), (Value.func (.func 104) #[zp_ g 0] #[]), (Value.func (.func 105) #[zp_ g 0] #[])] else if k = 2 then [(Value.func (.func 106) #[zp_ g 0] #[]), (Value.func (.func 107) #[zp_ g 0] #[]), (Value.func (.func 108) #[zp_ g 0] #[]), (Value.func (.func 109) #[zp_ g 0] #[])] else [(Value.func (.func 110) #[zp_ g 0] #[]), (Value.func (.func 111) #[zp_ g 0] #[])]
theorem on_ (g : Nat) : Tri Tryz.prog 58 #[zp_ g 0] [] [] (fun y : Nat × Nat × Nat => .agg #[.slice none 0 0, .slice (some ⟨y.1, 0, none⟩) 6 6, .slice (some ⟨y.2.1, 0, none⟩) 4 4, .slice (some ⟨y.2.2, 0, none⟩) 2 2]) (fun _ => []) (fun y => [bb_ (some ⟨y.1, 0, none⟩) (List.flatMap fvC (rlV g 1)), bb_ (some ⟨y.2.1, 0, none⟩) (List.flatMap fvC (rlV g 2)), bb_ (some ⟨y.2.2, 0, none⟩) (List.flatMap fvC (rlV g 3))]) := by
  refine R_ Tryz.func58 rfl rfl Tryz.ntmps58 rfl fun v0 => ?_
  refine f_ (d_ (al_ Tryz.zeroValue98 rfl fun b1 => ?_))
  refine e_ (b_ rfl (f_ (d_ (a_ (g_ rfl) rfl (a_ (cp_ (us := [zp_ g 0]) (vs := []) rfl rfl) rfl (a_ (g_ rfl) rfl (a_ (cp_ (us := [zp_ g 0]) (vs := []) rfl rfl) rfl (a_ (g_ rfl) rfl (a_ (cp_ (us := [zp_ g 0]) (vs := []) rfl rfl) rfl ?_)))))))))
  refine a_ (g_ rfl) rfl (a_ (cp_ (us := [zp_ g 0]) (vs := []) rfl rfl) rfl (a_ (g_ rfl) rfl (a_ (cp_ (us := [zp_ g 0]) (vs := []) rfl rfl) rfl (a_ (g_ rfl) rfl (a_ (cp_ (us := [zp_ g 0]) (vs := []) rfl rfl) rfl (aW_ bn_ aR_ Tryz.zeroValue89 rfl rfl rfl rfl rfl rfl fun b2 => ?_))))))
  refine eM_ (List.flatMap fvC [(Value.func (.func 100) #[zp_ g 0] #[]), (Value.func (.func 101) #[zp_ g 0] #[]), (Value.func (.func 102) #[zp_ g 0] #[]), (Value.func (.func 103) #[zp_ g 0] #[]), (Value.func (.func 104) #[zp_ g 0] #[]), (Value.func (.func 105) #[zp_ g 0] #[])]) i_ rfl ?_
  refine a_ (g_ rfl) rfl (a_ (cp_ (us := [zp_ g 0]) (vs := []) rfl rfl) rfl (a_ (g_ rfl) rfl (a_ (cp_ (us := [zp_ g 0]) (vs := []) rfl rfl) rfl (a_ (g_ rfl) rfl (a_ (cp_ (us := [zp_ g 0]) (vs := []) rfl rfl) rfl (a_ (g_ rfl) rfl (a_ (cp_ (us := [zp_ g 0]) (vs := []) rfl rfl) rfl (aW_ bn_ aR_ Tryz.zeroValue89 rfl rfl rfl rfl rfl rfl fun b3 => ?_))))))))
  refine eM_ (List.flatMap fvC [(Value.func (.func 106) #[zp_ g 0] #[]), (Value.func (.func 107) #[zp_ g 0] #[]), (Value.func (.func 108) #[zp_ g 0] #[]), (Value.func (.func 109) #[zp_ g 0] #[])]) i_ rfl ?_
  refine a_ (g_ rfl) rfl (a_ (cp_ (us := [zp_ g 0]) (vs := []) rfl rfl) rfl (a_ (g_ rfl) rfl (a_ (cp_ (us := [zp_ g 0]) (vs := []) rfl rfl) rfl (aW_ bn_ aR_ Tryz.zeroValue89 rfl rfl rfl rfl rfl rfl fun b4 => ?_))))
  refine eM_ (List.flatMap fvC [(Value.func (.func 110) #[zp_ g 0] #[]), (Value.func (.func 111) #[zp_ g 0] #[])]) i_ rfl ?_
  refine a_ (oW_ Tryz.zeroValue98 dW_ hP_ rfl rfl) rfl (ae_ 0 Tryz.sizeOf98 rfl rfl rfl rfl rfl rfl (e_ (b_ rfl (D_ ?_))))
  exact fP_ (b2, b3, b4) (fun aa v h1 h2 => eh_ (us := [.slice none 0 0, .slice (some ⟨b2, 0, none⟩) (List.length [(Value.func (.func 100) #[zp_ g 0] #[]), (Value.func (.func 101) #[zp_ g 0] #[]), (Value.func (.func 102) #[zp_ g 0] #[]), (Value.func (.func 103) #[zp_ g 0] #[]), (Value.func (.func 104) #[zp_ g 0] #[]), (Value.func (.func 105) #[zp_ g 0] #[])]) 6, .slice (some ⟨b3, 0, none⟩) (List.length [(Value.func (.func 106) #[zp_ g 0] #[]), (Value.func (.func 107) #[zp_ g 0] #[]), (Value.func (.func 108) #[zp_ g 0] #[]), (Value.func (.func 109) #[zp_ g 0] #[])]) 4, .slice (some ⟨b4, 0, none⟩) (List.length [(Value.func (.func 110) #[zp_ g 0] #[]), (Value.func (.func 111) #[zp_ g 0] #[])]) 2]) 0 Tryz.results58 Tryz.isAgg98 Tryz.sizeOf98 rfl rfl rfl aa v h1 h2) X_ (fun v _ h => by exact ⟨h.2.2.1, h.2.1, h.1, trivial⟩)
end Go.Proofs.YtpdbbglpbngeiaaGreatDoor
namespace Go.Proofs.YtpdbbglpbngeiaaGreatDoor
open Go Go.Sx Go.Proofs
attribute [local irreducible] Code.wp wpList wpAnyH
open Go.Vs
theorem eT_ (B : EngB) (E : Emt Tryz.prog 41) (A0 : EngA) (pm : List (Ky × Pc)) (x : Ix) (f : Fc) (nw fm : List Fc) (Hs : Hp) (hS : E.St nw fm Hs) (Ha Hu Ho Hi Hr Hm : Hp) (hI : IxO 9 41 B x ⟨Ha, Hu, Ho, Hi, Hr, Hm⟩) {n : FuncId} {args : Array Value} {ret : Hp → Prop} (hT : ∀ A : EngA, A.p = A0.p → Tri Tryz.prog n args Hs [gF B E, pF B pm A, aF B x A, uF B x A, oF B x A, iF B x A, rF B x A, sF B x A, E.ef] (fun _ : {H' : Hp // ret H'} => .tuple #[]) (fun y => y.1) (fun _ => [])) :
    Tri Tryz.prog n args ((Ha ++ (Hu ++ (Ho ++ (Hi ++ (Hr ++ Hm))))) ++ Hs) [gF B E, pF B pm A0, E.ef] (fun _ : {H' : Hp // ret H'} => .tuple #[]) (fun y => (Ha ++ (Hu ++ (Ho ++ (Hi ++ (Hr ++ Hm))))) ++ y.1) (fun _ => []) := by
  obtain ⟨ha, hu, ho, hi, hr, hm⟩ := hI
  dsimp only at ha hu ho hi hr hm
  obtain ⟨a1, k1⟩ := ha.lent (P := Tryz.prog) fU_
  obtain ⟨a2, k2⟩ := hu.lent (P := Tryz.prog) fU_
  obtain ⟨a3, k3⟩ := ho.lent (P := Tryz.prog) cO_
  obtain ⟨a4, k4⟩ := hi.lent (P := Tryz.prog) cO_
  obtain ⟨a5, k5⟩ := hr.lent (P := Tryz.prog) cO_
  obtain ⟨a6, k6⟩ := hm.lent (P := Tryz.prog) cO_
  refine jC_ _ (hT ⟨A0.p, a1, a2, a3, a4, a5, a6⟩ rfl) fun v hB h => ⟨h.1, h.2.1, k1 v fun p hp => hB p (by simp [hp]), k2 v fun p hp => hB p (by simp [hp]), k3 v fun p hp => hB p (by simp [hp]), k4 v fun p hp => hB p (by simp [hp]), k5 v fun p hp => hB p (by simp [hp]), k6 v fun p hp => hB p (by simp [hp]), h.2.2.1, trivial⟩
theorem rl10_c (B : EngB) (E : Emt Tryz.prog 41) (A0 : EngA) (pm : List (Ky × Pc)) (x : Ix) (f : Fc) (nw fm : List Fc) (Hs : Hp) (hS : E.St nw fm Hs) (Ha Hu Ho Hi Hr Hm : Hp) (hI : IxO 9 41 B x ⟨Ha, Hu, Ho, Hi, Hr, Hm⟩) (hpl : ∀ k, (lat pm k).length ≤ 1000000000) (hxl : ∀ k, (lat x.above k).length ≤ 1000000000 ∧ (lat x.under k).length ≤ 1000000000) (hyl : ∀ k, (lat x.frm k).length ≤ 1000000000 ∧ (lat x.into k).length ≤ 1000000000 ∧ (lat x.ranges k).length ≤ 1000000000 ∧ (lat x.firms k).length ≤ 1000000000) (hf : f.kind = 3 → -1099511627776 ≤ f.lo ∧ f.lo ≤ f.hi ∧ f.hi ≤ 1099511627776) (hq : f.kind = 3 → ∀ y ∈ lat pm (Ky.mk 9 (Fc.r f) []), -1099511627776 ≤ y.lo ∧ y.lo ≤ y.hi ∧ y.hi ≤ 1099511627776) (hk : f.kind = 1) : Tri Tryz.prog 100 #[zp_ B.g 0, f.val] ((Ha ++ (Hu ++ (Ho ++ (Hi ++ (Hr ++ Hm))))) ++ Hs) [gF B E, pF B pm A0, E.ef] (fun _ : {H' : Hp // E.St (rl E.stp E.kof pm x f 0 (nw, fm)).1 (rl E.stp E.kof pm x f 0 (nw, fm)).2 H'} => .tuple #[]) (fun y => (Ha ++ (Hu ++ (Ho ++ (Hi ++ (Hr ++ Hm))))) ++ y.1) (fun _ => []) := by
  refine eT_ B E A0 pm x f nw fm Hs hS Ha Hu Ho Hi Hr Hm hI fun A hA => ?_
  have h := pW_ B E A pm x f nw fm Hs hS hpl hxl hyl
  have e : rl E.stp E.kof pm x f 0 (nw, fm) = _ := if_pos hk
  rw [e]
  exact h
theorem rl11_c (B : EngB) (E : Emt Tryz.prog 41) (A0 : EngA) (pm : List (Ky × Pc)) (x : Ix) (f : Fc) (nw fm : List Fc) (Hs : Hp) (hS : E.St nw fm Hs) (Ha Hu Ho Hi Hr Hm : Hp) (hI : IxO 9 41 B x ⟨Ha, Hu, Ho, Hi, Hr, Hm⟩) (hpl : ∀ k, (lat pm k).length ≤ 1000000000) (hxl : ∀ k, (lat x.above k).length ≤ 1000000000 ∧ (lat x.under k).length ≤ 1000000000) (hyl : ∀ k, (lat x.frm k).length ≤ 1000000000 ∧ (lat x.into k).length ≤ 1000000000 ∧ (lat x.ranges k).length ≤ 1000000000 ∧ (lat x.firms k).length ≤ 1000000000) (hf : f.kind = 3 → -1099511627776 ≤ f.lo ∧ f.lo ≤ f.hi ∧ f.hi ≤ 1099511627776) (hq : f.kind = 3 → ∀ y ∈ lat pm (Ky.mk 9 (Fc.r f) []), -1099511627776 ≤ y.lo ∧ y.lo ≤ y.hi ∧ y.hi ≤ 1099511627776) (hk : f.kind = 1) : Tri Tryz.prog 101 #[zp_ B.g 0, f.val] ((Ha ++ (Hu ++ (Ho ++ (Hi ++ (Hr ++ Hm))))) ++ Hs) [gF B E, pF B pm A0, E.ef] (fun _ : {H' : Hp // E.St (rl E.stp E.kof pm x f 1 (nw, fm)).1 (rl E.stp E.kof pm x f 1 (nw, fm)).2 H'} => .tuple #[]) (fun y => (Ha ++ (Hu ++ (Ho ++ (Hi ++ (Hr ++ Hm))))) ++ y.1) (fun _ => []) := by
  refine eT_ B E A0 pm x f nw fm Hs hS Ha Hu Ho Hi Hr Hm hI fun A hA => ?_
  have h := both_c B E A pm x f nw fm Hs hS hpl hxl hyl
  have e : rl E.stp E.kof pm x f 1 (nw, fm) = _ := if_pos hk
  rw [e]
  exact h
theorem rl12_c (B : EngB) (E : Emt Tryz.prog 41) (A0 : EngA) (pm : List (Ky × Pc)) (x : Ix) (f : Fc) (nw fm : List Fc) (Hs : Hp) (hS : E.St nw fm Hs) (Ha Hu Ho Hi Hr Hm : Hp) (hI : IxO 9 41 B x ⟨Ha, Hu, Ho, Hi, Hr, Hm⟩) (hpl : ∀ k, (lat pm k).length ≤ 1000000000) (hxl : ∀ k, (lat x.above k).length ≤ 1000000000 ∧ (lat x.under k).length ≤ 1000000000) (hyl : ∀ k, (lat x.frm k).length ≤ 1000000000 ∧ (lat x.into k).length ≤ 1000000000 ∧ (lat x.ranges k).length ≤ 1000000000 ∧ (lat x.firms k).length ≤ 1000000000) (hf : f.kind = 3 → -1099511627776 ≤ f.lo ∧ f.lo ≤ f.hi ∧ f.hi ≤ 1099511627776) (hq : f.kind = 3 → ∀ y ∈ lat pm (Ky.mk 9 (Fc.r f) []), -1099511627776 ≤ y.lo ∧ y.lo ≤ y.hi ∧ y.hi ≤ 1099511627776) (hk : f.kind = 1) : Tri Tryz.prog 102 #[zp_ B.g 0, f.val] ((Ha ++ (Hu ++ (Ho ++ (Hi ++ (Hr ++ Hm))))) ++ Hs) [gF B E, pF B pm A0, E.ef] (fun _ : {H' : Hp // E.St (rl E.stp E.kof pm x f 2 (nw, fm)).1 (rl E.stp E.kof pm x f 2 (nw, fm)).2 H'} => .tuple #[]) (fun y => (Ha ++ (Hu ++ (Ho ++ (Hi ++ (Hr ++ Hm))))) ++ y.1) (fun _ => []) := by
  refine eT_ B E A0 pm x f nw fm Hs hS Ha Hu Ho Hi Hr Hm hI fun A hA => ?_
  have h := some_c B E A pm x f nw fm Hs hS hpl hxl hyl
  have e : rl E.stp E.kof pm x f 2 (nw, fm) = _ := if_pos hk
  rw [e]
  exact h
theorem rl13_c (B : EngB) (E : Emt Tryz.prog 41) (A0 : EngA) (pm : List (Ky × Pc)) (x : Ix) (f : Fc) (nw fm : List Fc) (Hs : Hp) (hS : E.St nw fm Hs) (Ha Hu Ho Hi Hr Hm : Hp) (hI : IxO 9 41 B x ⟨Ha, Hu, Ho, Hi, Hr, Hm⟩) (hpl : ∀ k, (lat pm k).length ≤ 1000000000) (hxl : ∀ k, (lat x.above k).length ≤ 1000000000 ∧ (lat x.under k).length ≤ 1000000000) (hyl : ∀ k, (lat x.frm k).length ≤ 1000000000 ∧ (lat x.into k).length ≤ 1000000000 ∧ (lat x.ranges k).length ≤ 1000000000 ∧ (lat x.firms k).length ≤ 1000000000) (hf : f.kind = 3 → -1099511627776 ≤ f.lo ∧ f.lo ≤ f.hi ∧ f.hi ≤ 1099511627776) (hq : f.kind = 3 → ∀ y ∈ lat pm (Ky.mk 9 (Fc.r f) []), -1099511627776 ≤ y.lo ∧ y.lo ≤ y.hi ∧ y.hi ≤ 1099511627776) (hk : f.kind = 1) : Tri Tryz.prog 103 #[zp_ B.g 0, f.val] ((Ha ++ (Hu ++ (Ho ++ (Hi ++ (Hr ++ Hm))))) ++ Hs) [gF B E, pF B pm A0, E.ef] (fun _ : {H' : Hp // E.St (rl E.stp E.kof pm x f 3 (nw, fm)).1 (rl E.stp E.kof pm x f 3 (nw, fm)).2 H'} => .tuple #[]) (fun y => (Ha ++ (Hu ++ (Ho ++ (Hi ++ (Hr ++ Hm))))) ++ y.1) (fun _ => []) := by
  refine eT_ B E A0 pm x f nw fm Hs hS Ha Hu Ho Hi Hr Hm hI fun A hA => ?_
  have h := nT_ B E A pm x f nw fm Hs hS hpl hxl hyl
  have e : rl E.stp E.kof pm x f 3 (nw, fm) = _ := if_pos hk
  rw [e]
  exact h
theorem rl14_c (B : EngB) (E : Emt Tryz.prog 41) (A0 : EngA) (pm : List (Ky × Pc)) (x : Ix) (f : Fc) (nw fm : List Fc) (Hs : Hp) (hS : E.St nw fm Hs) (Ha Hu Ho Hi Hr Hm : Hp) (hI : IxO 9 41 B x ⟨Ha, Hu, Ho, Hi, Hr, Hm⟩) (hpl : ∀ k, (lat pm k).length ≤ 1000000000) (hxl : ∀ k, (lat x.above k).length ≤ 1000000000 ∧ (lat x.under k).length ≤ 1000000000) (hyl : ∀ k, (lat x.frm k).length ≤ 1000000000 ∧ (lat x.into k).length ≤ 1000000000 ∧ (lat x.ranges k).length ≤ 1000000000 ∧ (lat x.firms k).length ≤ 1000000000) (hf : f.kind = 3 → -1099511627776 ≤ f.lo ∧ f.lo ≤ f.hi ∧ f.hi ≤ 1099511627776) (hq : f.kind = 3 → ∀ y ∈ lat pm (Ky.mk 9 (Fc.r f) []), -1099511627776 ≤ y.lo ∧ y.lo ≤ y.hi ∧ y.hi ≤ 1099511627776) (hk : f.kind = 1) : Tri Tryz.prog 104 #[zp_ B.g 0, f.val] ((Ha ++ (Hu ++ (Ho ++ (Hi ++ (Hr ++ Hm))))) ++ Hs) [gF B E, pF B pm A0, E.ef] (fun _ : {H' : Hp // E.St (rl E.stp E.kof pm x f 4 (nw, fm)).1 (rl E.stp E.kof pm x f 4 (nw, fm)).2 H'} => .tuple #[]) (fun y => (Ha ++ (Hu ++ (Ho ++ (Hi ++ (Hr ++ Hm))))) ++ y.1) (fun _ => []) := by
  refine eT_ B E A0 pm x f nw fm Hs hS Ha Hu Ho Hi Hr Hm hI fun A hA => ?_
  have h := ni_ B E A pm x f nw fm Hs hS hpl hxl hyl
  have e : rl E.stp E.kof pm x f 4 (nw, fm) = _ := if_pos hk
  rw [e]
  exact h
theorem rl15_c (B : EngB) (E : Emt Tryz.prog 41) (A0 : EngA) (pm : List (Ky × Pc)) (x : Ix) (f : Fc) (nw fm : List Fc) (Hs : Hp) (hS : E.St nw fm Hs) (Ha Hu Ho Hi Hr Hm : Hp) (hI : IxO 9 41 B x ⟨Ha, Hu, Ho, Hi, Hr, Hm⟩) (hpl : ∀ k, (lat pm k).length ≤ 1000000000) (hxl : ∀ k, (lat x.above k).length ≤ 1000000000 ∧ (lat x.under k).length ≤ 1000000000) (hyl : ∀ k, (lat x.frm k).length ≤ 1000000000 ∧ (lat x.into k).length ≤ 1000000000 ∧ (lat x.ranges k).length ≤ 1000000000 ∧ (lat x.firms k).length ≤ 1000000000) (hf : f.kind = 3 → -1099511627776 ≤ f.lo ∧ f.lo ≤ f.hi ∧ f.hi ≤ 1099511627776) (hq : f.kind = 3 → ∀ y ∈ lat pm (Ky.mk 9 (Fc.r f) []), -1099511627776 ≤ y.lo ∧ y.lo ≤ y.hi ∧ y.hi ≤ 1099511627776) (hk : f.kind = 1) : Tri Tryz.prog 105 #[zp_ B.g 0, f.val] ((Ha ++ (Hu ++ (Ho ++ (Hi ++ (Hr ++ Hm))))) ++ Hs) [gF B E, pF B pm A0, E.ef] (fun _ : {H' : Hp // E.St (rl E.stp E.kof pm x f 5 (nw, fm)).1 (rl E.stp E.kof pm x f 5 (nw, fm)).2 H'} => .tuple #[]) (fun y => (Ha ++ (Hu ++ (Ho ++ (Hi ++ (Hr ++ Hm))))) ++ y.1) (fun _ => []) := by
  refine eT_ B E A0 pm x f nw fm Hs hS Ha Hu Ho Hi Hr Hm hI fun A hA => ?_
  have h := rA_ B E A pm x f nw fm Hs hS hpl hxl hyl
  have e : rl E.stp E.kof pm x f 5 (nw, fm) = _ := if_pos hk
  rw [e]
  exact h
theorem rl20_c (B : EngB) (E : Emt Tryz.prog 41) (A0 : EngA) (pm : List (Ky × Pc)) (x : Ix) (f : Fc) (nw fm : List Fc) (Hs : Hp) (hS : E.St nw fm Hs) (Ha Hu Ho Hi Hr Hm : Hp) (hI : IxO 9 41 B x ⟨Ha, Hu, Ho, Hi, Hr, Hm⟩) (hpl : ∀ k, (lat pm k).length ≤ 1000000000) (hxl : ∀ k, (lat x.above k).length ≤ 1000000000 ∧ (lat x.under k).length ≤ 1000000000) (hyl : ∀ k, (lat x.frm k).length ≤ 1000000000 ∧ (lat x.into k).length ≤ 1000000000 ∧ (lat x.ranges k).length ≤ 1000000000 ∧ (lat x.firms k).length ≤ 1000000000) (hf : f.kind = 3 → -1099511627776 ≤ f.lo ∧ f.lo ≤ f.hi ∧ f.hi ≤ 1099511627776) (hq : f.kind = 3 → ∀ y ∈ lat pm (Ky.mk 9 (Fc.r f) []), -1099511627776 ≤ y.lo ∧ y.lo ≤ y.hi ∧ y.hi ≤ 1099511627776) (hk : f.kind = 2) : Tri Tryz.prog 106 #[zp_ B.g 0, f.val] ((Ha ++ (Hu ++ (Ho ++ (Hi ++ (Hr ++ Hm))))) ++ Hs) [gF B E, pF B pm A0, E.ef] (fun _ : {H' : Hp // E.St (rl E.stp E.kof pm x f 0 (nw, fm)).1 (rl E.stp E.kof pm x f 0 (nw, fm)).2 H'} => .tuple #[]) (fun y => (Ha ++ (Hu ++ (Ho ++ (Hi ++ (Hr ++ Hm))))) ++ y.1) (fun _ => []) := by
  refine eT_ B E A0 pm x f nw fm Hs hS Ha Hu Ho Hi Hr Hm hI fun A hA => ?_
  have h := pR_ B E A pm x f nw fm Hs hS hpl hxl hyl
  have e : rl E.stp E.kof pm x f 0 (nw, fm) = _ := (if_neg (by rw [hk]; decide)).trans (if_pos hk)
  rw [e]
  exact h
theorem rl21_c (B : EngB) (E : Emt Tryz.prog 41) (A0 : EngA) (pm : List (Ky × Pc)) (x : Ix) (f : Fc) (nw fm : List Fc) (Hs : Hp) (hS : E.St nw fm Hs) (Ha Hu Ho Hi Hr Hm : Hp) (hI : IxO 9 41 B x ⟨Ha, Hu, Ho, Hi, Hr, Hm⟩) (hpl : ∀ k, (lat pm k).length ≤ 1000000000) (hxl : ∀ k, (lat x.above k).length ≤ 1000000000 ∧ (lat x.under k).length ≤ 1000000000) (hyl : ∀ k, (lat x.frm k).length ≤ 1000000000 ∧ (lat x.into k).length ≤ 1000000000 ∧ (lat x.ranges k).length ≤ 1000000000 ∧ (lat x.firms k).length ≤ 1000000000) (hf : f.kind = 3 → -1099511627776 ≤ f.lo ∧ f.lo ≤ f.hi ∧ f.hi ≤ 1099511627776) (hq : f.kind = 3 → ∀ y ∈ lat pm (Ky.mk 9 (Fc.r f) []), -1099511627776 ≤ y.lo ∧ y.lo ≤ y.hi ∧ y.hi ≤ 1099511627776) (hk : f.kind = 2) : Tri Tryz.prog 107 #[zp_ B.g 0, f.val] ((Ha ++ (Hu ++ (Ho ++ (Hi ++ (Hr ++ Hm))))) ++ Hs) [gF B E, pF B pm A0, E.ef] (fun _ : {H' : Hp // E.St (rl E.stp E.kof pm x f 1 (nw, fm)).1 (rl E.stp E.kof pm x f 1 (nw, fm)).2 H'} => .tuple #[]) (fun y => (Ha ++ (Hu ++ (Ho ++ (Hi ++ (Hr ++ Hm))))) ++ y.1) (fun _ => []) := by
  refine eT_ B E A0 pm x f nw fm Hs hS Ha Hu Ho Hi Hr Hm hI fun A hA => ?_
  have h := su_ B E A pm x f nw fm Hs hS hpl hxl hyl
  have e : rl E.stp E.kof pm x f 1 (nw, fm) = _ := (if_neg (by rw [hk]; decide)).trans (if_pos hk)
  rw [e]
  exact h
theorem rl22_c (B : EngB) (E : Emt Tryz.prog 41) (A0 : EngA) (pm : List (Ky × Pc)) (x : Ix) (f : Fc) (nw fm : List Fc) (Hs : Hp) (hS : E.St nw fm Hs) (Ha Hu Ho Hi Hr Hm : Hp) (hI : IxO 9 41 B x ⟨Ha, Hu, Ho, Hi, Hr, Hm⟩) (hpl : ∀ k, (lat pm k).length ≤ 1000000000) (hxl : ∀ k, (lat x.above k).length ≤ 1000000000 ∧ (lat x.under k).length ≤ 1000000000) (hyl : ∀ k, (lat x.frm k).length ≤ 1000000000 ∧ (lat x.into k).length ≤ 1000000000 ∧ (lat x.ranges k).length ≤ 1000000000 ∧ (lat x.firms k).length ≤ 1000000000) (hf : f.kind = 3 → -1099511627776 ≤ f.lo ∧ f.lo ≤ f.hi ∧ f.hi ≤ 1099511627776) (hq : f.kind = 3 → ∀ y ∈ lat pm (Ky.mk 9 (Fc.r f) []), -1099511627776 ≤ y.lo ∧ y.lo ≤ y.hi ∧ y.hi ≤ 1099511627776) (hk : f.kind = 2) : Tri Tryz.prog 108 #[zp_ B.g 0, f.val] ((Ha ++ (Hu ++ (Ho ++ (Hi ++ (Hr ++ Hm))))) ++ Hs) [gF B E, pF B pm A0, E.ef] (fun _ : {H' : Hp // E.St (rl E.stp E.kof pm x f 2 (nw, fm)).1 (rl E.stp E.kof pm x f 2 (nw, fm)).2 H'} => .tuple #[]) (fun y => (Ha ++ (Hu ++ (Ho ++ (Hi ++ (Hr ++ Hm))))) ++ y.1) (fun _ => []) := by
  refine eT_ B E A0 pm x f nw fm Hs hS Ha Hu Ho Hi Hr Hm hI fun A hA => ?_
  have h := nS_ B E A pm x f nw fm Hs hS hpl hxl hyl
  have e : rl E.stp E.kof pm x f 2 (nw, fm) = _ := (if_neg (by rw [hk]; decide)).trans (if_pos hk)
  rw [e]
  exact h
theorem rl23_c (B : EngB) (E : Emt Tryz.prog 41) (A0 : EngA) (pm : List (Ky × Pc)) (x : Ix) (f : Fc) (nw fm : List Fc) (Hs : Hp) (hS : E.St nw fm Hs) (Ha Hu Ho Hi Hr Hm : Hp) (hI : IxO 9 41 B x ⟨Ha, Hu, Ho, Hi, Hr, Hm⟩) (hpl : ∀ k, (lat pm k).length ≤ 1000000000) (hxl : ∀ k, (lat x.above k).length ≤ 1000000000 ∧ (lat x.under k).length ≤ 1000000000) (hyl : ∀ k, (lat x.frm k).length ≤ 1000000000 ∧ (lat x.into k).length ≤ 1000000000 ∧ (lat x.ranges k).length ≤ 1000000000 ∧ (lat x.firms k).length ≤ 1000000000) (hf : f.kind = 3 → -1099511627776 ≤ f.lo ∧ f.lo ≤ f.hi ∧ f.hi ≤ 1099511627776) (hq : f.kind = 3 → ∀ y ∈ lat pm (Ky.mk 9 (Fc.r f) []), -1099511627776 ≤ y.lo ∧ y.lo ≤ y.hi ∧ y.hi ≤ 1099511627776) (hk : f.kind = 2) : Tri Tryz.prog 109 #[zp_ B.g 0, f.val] ((Ha ++ (Hu ++ (Ho ++ (Hi ++ (Hr ++ Hm))))) ++ Hs) [gF B E, pF B pm A0, E.ef] (fun _ : {H' : Hp // E.St (rl E.stp E.kof pm x f 3 (nw, fm)).1 (rl E.stp E.kof pm x f 3 (nw, fm)).2 H'} => .tuple #[]) (fun y => (Ha ++ (Hu ++ (Ho ++ (Hi ++ (Hr ++ Hm))))) ++ y.1) (fun _ => []) := by
  refine eT_ B E A0 pm x f nw fm Hs hS Ha Hu Ho Hi Hr Hm hI fun A hA => ?_
  have h := nh_ B E A pm x f nw fm Hs hS hpl hxl hyl
  have e : rl E.stp E.kof pm x f 3 (nw, fm) = _ := (if_neg (by rw [hk]; decide)).trans (if_pos hk)
  rw [e]
  exact h
theorem rl30_c (B : EngB) (E : Emt Tryz.prog 41) (A0 : EngA) (pm : List (Ky × Pc)) (x : Ix) (f : Fc) (nw fm : List Fc) (Hs : Hp) (hS : E.St nw fm Hs) (Ha Hu Ho Hi Hr Hm : Hp) (hI : IxO 9 41 B x ⟨Ha, Hu, Ho, Hi, Hr, Hm⟩) (hpl : ∀ k, (lat pm k).length ≤ 1000000000) (hxl : ∀ k, (lat x.above k).length ≤ 1000000000 ∧ (lat x.under k).length ≤ 1000000000) (hyl : ∀ k, (lat x.frm k).length ≤ 1000000000 ∧ (lat x.into k).length ≤ 1000000000 ∧ (lat x.ranges k).length ≤ 1000000000 ∧ (lat x.firms k).length ≤ 1000000000) (hf : f.kind = 3 → -1099511627776 ≤ f.lo ∧ f.lo ≤ f.hi ∧ f.hi ≤ 1099511627776) (hq : f.kind = 3 → ∀ y ∈ lat pm (Ky.mk 9 (Fc.r f) []), -1099511627776 ≤ y.lo ∧ y.lo ≤ y.hi ∧ y.hi ≤ 1099511627776) (hk : f.kind = 3) : Tri Tryz.prog 110 #[zp_ B.g 0, f.val] ((Ha ++ (Hu ++ (Ho ++ (Hi ++ (Hr ++ Hm))))) ++ Hs) [gF B E, pF B pm A0, E.ef] (fun _ : {H' : Hp // E.St (rl E.stp E.kof pm x f 0 (nw, fm)).1 (rl E.stp E.kof pm x f 0 (nw, fm)).2 H'} => .tuple #[]) (fun y => (Ha ++ (Hu ++ (Ho ++ (Hi ++ (Hr ++ Hm))))) ++ y.1) (fun _ => []) := by
  refine eT_ B E A0 pm x f nw fm Hs hS Ha Hu Ho Hi Hr Hm hI fun A hA => ?_
  have h := meet_c B E A pm x f nw fm Hs hS hpl hxl hyl
  have e : rl E.stp E.kof pm x f 0 (nw, fm) = _ := (if_neg (by rw [hk]; decide)).trans (if_neg (by rw [hk]; decide))
  rw [e]
  exact h
theorem rl31_c (B : EngB) (E : Emt Tryz.prog 41) (A0 : EngA) (pm : List (Ky × Pc)) (x : Ix) (f : Fc) (nw fm : List Fc) (Hs : Hp) (hS : E.St nw fm Hs) (Ha Hu Ho Hi Hr Hm : Hp) (hI : IxO 9 41 B x ⟨Ha, Hu, Ho, Hi, Hr, Hm⟩) (hpl : ∀ k, (lat pm k).length ≤ 1000000000) (hxl : ∀ k, (lat x.above k).length ≤ 1000000000 ∧ (lat x.under k).length ≤ 1000000000) (hyl : ∀ k, (lat x.frm k).length ≤ 1000000000 ∧ (lat x.into k).length ≤ 1000000000 ∧ (lat x.ranges k).length ≤ 1000000000 ∧ (lat x.firms k).length ≤ 1000000000) (hf : f.kind = 3 → -1099511627776 ≤ f.lo ∧ f.lo ≤ f.hi ∧ f.hi ≤ 1099511627776) (hq : f.kind = 3 → ∀ y ∈ lat pm (Ky.mk 9 (Fc.r f) []), -1099511627776 ≤ y.lo ∧ y.lo ≤ y.hi ∧ y.hi ≤ 1099511627776) (hk : f.kind = 3) : Tri Tryz.prog 111 #[zp_ B.g 0, f.val] ((Ha ++ (Hu ++ (Ho ++ (Hi ++ (Hr ++ Hm))))) ++ Hs) [gF B E, pF B pm A0, E.ef] (fun _ : {H' : Hp // E.St (rl E.stp E.kof pm x f 1 (nw, fm)).1 (rl E.stp E.kof pm x f 1 (nw, fm)).2 H'} => .tuple #[]) (fun y => (Ha ++ (Hu ++ (Ho ++ (Hi ++ (Hr ++ Hm))))) ++ y.1) (fun _ => []) := by
  refine eT_ B E A0 pm x f nw fm Hs hS Ha Hu Ho Hi Hr Hm hI fun A hA => ?_
  have h := out_c B E A pm x f nw fm Hs hS hpl hxl hyl (hf hk) (hq hk)
  have e : rl E.stp E.kof pm x f 1 (nw, fm) = _ := (if_neg (by rw [hk]; decide)).trans (if_neg (by rw [hk]; decide))
  rw [e]
  exact h
end Go.Proofs.YtpdbbglpbngeiaaGreatDoor
namespace Go.Proofs.YtpdbbglpbngeiaaGreatDoor
open Go Go.Sx Go.Proofs
attribute [local irreducible] Code.wp wpList wpAnyH
open Go.Vs
section
variable {N : Nat} {v0 : Vw} {H0 : Hp} {fr : Fr}
theorem mM_ {k : Act → World → Prop} {F : Hp} : ∀ (B : Hp) {H : Hp} {Γ : List Fct}, H.Perm (B ++ F) → Ok N v0 H0 k fr F (B.reverse.map (fun p => ct_ p.1 p.2) ++ Γ) → Ok N v0 H0 k fr H Γ
  | [], H, Γ, hH, h => ap_ hH h
  | (b, o) :: B, H, Γ, hH, h => by
    refine eF_ (ct_ b o) (F := B ++ F) hH (fun _ h1 h2 _ => ⟨h1, h2⟩) ?_
    refine mM_ B (.refl _) ?_
    simpa using h
end
end Go.Proofs.YtpdbbglpbngeiaaGreatDoor
namespace Go.Proofs.YtpdbbglpbngeiaaGreatDoor
open Go Go.Sx Go.Proofs
attribute [local irreducible] Code.wp wpList wpAnyH
open Go.Vs
theorem pT_ {P : Program} (w : World) (d : Nat) (t e : TypeId) (a : Option Addr) (l c : Nat) (h : P.underlying t = some (.slice e)) : (Op.equalIn (d + 1) t (.slice a l c) (.slice none 0 0)).run P w = .ok a.isNone w := by
  cases a <;> simp [Op.equalIn, run_underlying h]
theorem sl_ {P : Program} (w : World) (t e : TypeId) (a : Option Addr) (l c : Nat) (h : P.underlying t = some (.slice e)) : (Op.equal t (.slice a l c) (.slice none 0 0)).run P w = .ok a.isNone w := pT_ w 9999 t e a l c h
theorem qf_ {P : Program} {N : Nat} {fr : Fr} {H : Hp} {Γ : List Fct} {ty t t' e : TypeId} {x y : Operand} {ad : Option Addr} {m c : Nat} (hu : P.underlying t = some (.slice e)) (hx : Fr.ev fr x = some (.slice ad m c)) (hy : Fr.ev fr y = some (.slice none 0 0)) : Yld P N fr H Γ (.binOp .eql t x y t') ty (.bool (decide (ad = none))) :=
  fun a v h1 _ _ _ _ _ => by
    have he : decide (ad = none) = ad.isNone := by cases ad <;> simp
    simp [execOp, h1.ev hx, h1.ev hy, eqGuard, binOp, sl_ v.w t e ad m c hu, he]
theorem qx_ {v : Vw} {cs : List Value} (h : ci_ v none cs) : cs = [] := by
  rcases h with h | ⟨b, off, arr, T, fz, h1, _⟩
  · exact h
  · cases h1
theorem qp_ (b : Nat) (e : TypeId) (sz : Nat) : bt_ e sz (.slice (some ⟨b, 0, none⟩) 0 0) 0 [] [(b, .cells #[] e (0, 0))] := ⟨by simp, .inr ⟨b, 0, #[], rfl, rfl, Nat.le_refl _, by simp [maxLen], by simp, by simp⟩⟩
theorem rn_ (l : List Str) (ad : Option Addr) (cap : Nat) (hc : l.length ≤ cap) (hl : l.length ≤ 1000000000) : Tri Tryz.prog 97 #[.slice ad (List.length l) cap] [] [bb_ ad (List.flatMap bf_ l)] (fun y : {y : Value × Hp // bt_ 9 1 y.1 (List.length l) (List.flatMap bf_ l) y.2} => y.1.1) (fun y => y.1.2) (fun _ => []) := by
  refine R_ Tryz.func97 rfl rfl Tryz.ntmps97 rfl fun v0 => ?_
  refine f_ (d_ (a_ (h_ rfl) rfl (e_ (b_ rfl (f_ (f_ (d_ (a_ (g_ rfl) rfl (z_ (qf_ gJ_ rfl rfl) rfl fun r1 hr1 => ?_)))))))))
  refine e_ (b_ rfl ?_)
  cases r1
  · skip
    replace hr1 := of_decide_eq_false hr1
    refine r_ rfl (B_ (b_ rfl (f_ (d_ (pz_ L_ p_ rfl fun b1 => ?_)))))
    refine ap_ i_ (a_ (g_ rfl) rfl (mI_ (news := List.flatMap bf_ l) dq_ (qp_ b1 9 1) rfl rfl (fun q => absurd q hr1) hc be_ (by rw [eB_ bf_ 1 aX_]) (fun v _ h => by exact h.1) (fun u hu => cf_ cN_ hu) (by simp only [maxLen]; omega) (by omega) rfl fun sv1 Hr1 hr1 => ?_))
    refine ap_ List.perm_append_comm ?_
    have hq1 : bt_ 9 1 sv1 (List.length (([] : List Str) ++ l)) (List.flatMap bf_ (([] : List Str) ++ l)) Hr1 := by rw [List.length_append, List.flatMap_append]; exact hr1
    refine a_ (h_ rfl) rfl (e_ (b_ rfl (D_ ?_)))
    exact ar_ Tryz.results97 ⟨(sv1, Hr1), by simpa using hq1⟩ rfl be_ (fun _ _ _ => trivial)
  · skip
    replace hr1 := of_decide_eq_true hr1
    refine n_ rfl (f_ (d_ (a_ (h_ rfl) rfl (e_ (b_ rfl (D_ (ok_get (p := List.flatMap bf_ l = []) (fun v _ h => by have q := h.1; subst hr1; exact qx_ q) fun hz => ?_)))))))
    have hz2 : l = [] := List.eq_nil_of_length_eq_zero (by have := congrArg List.length hz; rwa [eB_ bf_ 1 aX_, Nat.mul_one] at this)
    exact ar_ Tryz.results97 ⟨(.slice none 0 0, []), by subst hz2; exact bt_.nil _ _⟩ rfl X_ (fun _ _ _ => trivial)
def atS (p : List Pc) : List Str := Lib.compact ((eg_ p ++ [[42], [33]]).mergeSort fun x y => decide (x ≤ y))
theorem jw_ (p : List Pc) : (atS p).length ≤ 3 * p.length + 2 := by
  have := ha_ ((eg_ p ++ [[42], [33]]).mergeSort fun x y => decide (x ≤ y))
  have h2 := eD_ p
  rw [List.length_mergeSort, List.length_append] at this
  simp only [List.length_cons, List.length_nil] at this
  unfold atS; omega
theorem oc_ (p : List Pc) : (atS p).Pairwise fun x y => x < y := nV_ (qr_ _)
theorem hu_ (p : List Pc) (x : Str) : x ∈ atS p ↔ x ∈ eg_ p ∨ x = [42] ∨ x = [33] := by
  unfold atS
  rw [ji_, List.mem_mergeSort, List.mem_append]
  simp
theorem sM_ (p : List Pc) (pad : Option Addr) (pcap : Nat) (hp : p.length ≤ 100000000) : Tri Tryz.prog 56 #[.slice pad (List.length p) pcap] [] [bb_ pad (List.flatMap Pc.cells p)] (fun y : {y : Option Addr × Nat // (atS p).length ≤ y.2 ∧ y.2 ≤ maxLen ∧ (y.1 = none → y.2 = 0)} => .slice y.1.1 (atS p).length y.1.2) (fun _ => []) (fun y => [bb_ y.1.1 ((atS p).flatMap bf_)]) := by
  refine R_ Tryz.func56 rfl rfl Tryz.ntmps56 rfl fun v0 => ?_
  refine f_ (d_ (a_ (h_ rfl) rfl (e_ (b_ rfl (f_ (d_ (a_ (g_ rfl) rfl (Q_ (sA_ p pad pcap (by omega)) rfl X_ (fun v _ h => by exact ⟨h.1, trivial⟩) rfl fun ⟨⟨aad, acap⟩, hac, ham⟩ => ?_))))))))
  dsimp only
  refine Q_ (rn_ (eg_ p) aad acap hac (by have := eD_ p; omega)) rfl X_ (fun v _ h => by exact ⟨h.1, trivial⟩) rfl fun ⟨⟨svc, Hcl⟩, hcl⟩ => ?_
  dsimp only
  refine ap_ if_ (aW_ L_ p_ bm_ rfl rfl rfl rfl rfl rfl fun b1 => ?_)
  refine bp_ (news := List.flatMap bf_ [[42], [33]]) dq_ hcl rfl rfl ad_ rfl (df_ 0 rfl) (fun u hu => cf_ cN_ hu) (by simp only [maxLen]; (have := eD_ p; (try simp only [List.length_append, List.length_cons, List.length_nil]); omega)) (by (have := eD_ p; (try simp only [List.length_append, List.length_cons, List.length_nil]); omega)) rfl fun sv1 Hr1 hr1 => ?_
  refine ap_ List.perm_append_comm ?_
  have hq1 : bt_ 9 1 sv1 (List.length ((eg_ p) ++ [[42], [33]])) (List.flatMap bf_ ((eg_ p) ++ [[42], [33]])) Hr1 := by rw [List.length_append, List.flatMap_append]; exact hr1
  refine a_ (h_ rfl) rfl (e_ (b_ rfl (f_ (d_ (a_ (g_ rfl) rfl (Q_ (ol_ hq1 (by (have := eD_ p; (try simp only [List.length_append, List.length_cons, List.length_nil]); omega))) rfl ad_ (fun _ _ _ => by exact trivial) rfl fun ⟨Hso1, hs1⟩ => ?_))))))
  dsimp only
  have hso1 : bt_ 9 1 sv1 (List.length ((((eg_ p) ++ [[42], [33]])).mergeSort fun x y => decide (x ≤ y))) (List.flatMap bf_ ((((eg_ p) ++ [[42], [33]])).mergeSort fun x y => decide (x ≤ y))) Hso1 := by rw [List.length_mergeSort]; exact hs1
  refine e_ (b_ rfl (ap_ (cn_ ba_) (f_ (d_ (a_ (g_ rfl) rfl (Q_ (kw_ hso1 (by rw [List.length_mergeSort]; (have := eD_ p; (try simp only [List.length_append, List.length_cons, List.length_nil]); omega))) rfl ad_ (fun _ _ _ => by exact trivial) rfl fun ⟨⟨svk2, Hk2⟩, hk2⟩ => ?_))))))
  dsimp only
  refine a_ (h_ rfl) rfl (e_ (b_ rfl (D_ (eL_ hk2 q_ fun ad2 cp2 had2 hcad2 hmad2 hzad2 => ?_))))
  exact ar_ Tryz.results56 ⟨(ad2, cp2), hcad2, hmad2, hzad2⟩ (jt_ rfl had2) X_ (fun v _ h => ⟨h.1, trivial⟩)
end Go.Proofs.YtpdbbglpbngeiaaGreatDoor
namespace Go.Proofs
open Go.Shelf
def Tryz.sortFc_ren : Go.Shelf.Ren := ⟨fun | 6 => 60 | 15 => 113 | 14 => 112 | 28 => 152 | 29 => 153 | 20 => 144 | 21 => 145 | 22 => 146 | 23 => 147 | 24 => 148 | 25 => 149 | 26 => 150 | 27 => 151 | 46 => 185 | 47 => 186 | 48 => 187 | 49 => 188 | 50 => 189 | 57 => 207 | n => n, fun | 22 => 26 | 24 => 41 | 25 => 101 | 3 => 3 | 39 => 45 | 0 => 0 | 53 => 65 | 55 => 186 | 4 => 4 | 46 => 178 | 45 => 177 | 50 => 182 | 5 => 5 | 9 => 9 | 66 => 205 | 70 => 199 | 76 => 227 | 77 => 228 | n => n, fun | n => n⟩
theorem Tryz.sortFc : Go.Proofs.SlLaysF0.n6 Tryz.prog Tryz.sortFc_ren := {
 mixed := by kernel_rfl
 f6 := ⟨Tryz.f60.name, by decide, Tryz.func60.trans (congrArg some (by kernel_rfl))⟩
 f14 := ⟨Tryz.f112.name, by decide, Tryz.func112.trans (congrArg some (by kernel_rfl))⟩
 f15 := Tryz.func113.trans (congrArg some (by kernel_rfl))
 f20 := ⟨Tryz.f144.name, by decide, Tryz.func144.trans (congrArg some (by kernel_rfl))⟩
 f21 := ⟨Tryz.f145.name, by decide, Tryz.func145.trans (congrArg some (by kernel_rfl))⟩
 f22 := ⟨Tryz.f146.name, by decide, Tryz.func146.trans (congrArg some (by kernel_rfl))⟩
 f23 := ⟨Tryz.f147.name, by decide, Tryz.func147.trans (congrArg some (by kernel_rfl))⟩
 f24 := ⟨Tryz.f148.name, by decide, Tryz.func148.trans (congrArg some (by kernel_rfl))⟩
 f25 := ⟨Tryz.f149.name, by decide, Tryz.func149.trans (congrArg some (by kernel_rfl))⟩
 f26 := ⟨Tryz.f150.name, by decide, Tryz.func150.trans (congrArg some (by kernel_rfl))⟩
 f27 := ⟨Tryz.f151.name, by decide, Tryz.func151.trans (congrArg some (by kernel_rfl))⟩
 f28 := Tryz.func152.trans (congrArg some (by kernel_rfl))
 f29 := Tryz.func153.trans (congrArg some (by kernel_rfl))
 f46 := ⟨Tryz.f185.name, by decide, Tryz.func185.trans (congrArg some (by kernel_rfl))⟩
 f47 := Tryz.func186.trans (congrArg some (by kernel_rfl))
 f48 := Tryz.func187.trans (congrArg some (by kernel_rfl))
 f49 := ⟨Tryz.f188.name, by decide, Tryz.func188.trans (congrArg some (by kernel_rfl))⟩
 f50 := ⟨Tryz.f189.name, by decide, Tryz.func189.trans (congrArg some (by kernel_rfl))⟩
 f57 := ⟨Tryz.f207.name, by decide, Tryz.func207.trans (congrArg some (by kernel_rfl))⟩
 t0 := Tryz.underlying0
 a0 := Tryz.isAgg0
 z0 := Tryz.sizeOf0
 v0 := Tryz.zeroValue0
 t3 := Tryz.underlying3
 a3 := Tryz.isAgg3
 z3 := Tryz.sizeOf3
 v3 := Tryz.zeroValue3
 t4 := Tryz.underlying4
 a4 := Tryz.isAgg4
 z4 := Tryz.sizeOf4
 v4 := Tryz.zeroValue4
 t5 := Tryz.underlying5
 a5 := Tryz.isAgg5
 z5 := Tryz.sizeOf5
 v5 := Tryz.zeroValue5
 t9 := Tryz.underlying9
 a9 := Tryz.isAgg9
 z9 := Tryz.sizeOf9
 v9 := Tryz.zeroValue9
 t22 := Tryz.underlying26
 a22 := Tryz.isAgg26
 z22 := Tryz.sizeOf26
 v22 := Tryz.zeroValue26
 t25 := Tryz.underlying101
 a25 := Tryz.isAgg101
 z25 := Tryz.sizeOf101
 v25 := Tryz.zeroValue101
 t39 := Tryz.underlying45
 a39 := Tryz.isAgg45
 z39 := Tryz.sizeOf45
 v39 := Tryz.zeroValue45
 t45 := Tryz.underlying177
 a45 := Tryz.isAgg177
 z45 := Tryz.sizeOf177
 v45 := Tryz.zeroValue177
 t46 := Tryz.underlying178
 a46 := Tryz.isAgg178
 z46 := Tryz.sizeOf178
 v46 := Tryz.zeroValue178
 t50 := Tryz.underlying182
 a50 := Tryz.isAgg182
 z50 := Tryz.sizeOf182
 v50 := Tryz.zeroValue182
 t53 := Tryz.underlying65
 a53 := Tryz.isAgg65
 z53 := Tryz.sizeOf65
 v53 := Tryz.zeroValue65
 t55 := Tryz.underlying186
 a55 := Tryz.isAgg186
 z55 := Tryz.sizeOf186
 v55 := Tryz.zeroValue186
 t66 := Tryz.underlying205
 a66 := Tryz.isAgg205
 z66 := Tryz.sizeOf205
 v66 := Tryz.zeroValue205
 t70 := Tryz.underlying199
 a70 := Tryz.isAgg199
 z70 := Tryz.sizeOf199
 v70 := Tryz.zeroValue199
 t76 := Tryz.underlying227
 a76 := Tryz.isAgg227
 z76 := Tryz.sizeOf227
 v76 := Tryz.zeroValue227
 t77 := Tryz.underlying228
 a77 := Tryz.isAgg228
 z77 := Tryz.sizeOf228
 v77 := Tryz.zeroValue228 }
end Go.Proofs
namespace Go.Proofs.YtpdbbglpbngeiaaGreatDoor
open Go Go.Sx Go.Proofs
attribute [local irreducible] Code.wp wpList wpAnyH
open Go.Vs
instance : Inhabited Fc := ⟨⟨0, [], [], [], 0, 0⟩⟩
theorem kx_ (x y : Int) : Fn0 Tryz.prog 115 #[.int .i64 x, .int .i64 y] (.int .i64 (Lib.compareInt x y)) :=
  dz_ (callable Tryz.func115 rfl rfl) fun v _ _ => (Tryz.cmp_Compare_int x y v.w).mono (by rintro e w' ⟨rfl, rfl⟩; exact ⟨rfl, ⟨rfl, rfl, rfl, Nat.le_refl _, fun _ _ => rfl⟩, .inr (Nat.le_refl _)⟩)
theorem is_ (x y : Str) : Fn0 Tryz.prog 71 #[str x, str y] (.int .i64 (Lib.compareBytes x y)) :=
  dz_ (callable Tryz.func71 rfl rfl) fun v _ _ => (Tryz.strings_Compare ⟨x.toArray⟩ ⟨y.toArray⟩ v.w).mono (by rintro e w' ⟨rfl, rfl⟩; exact ⟨rfl, ⟨rfl, rfl, rfl, Nat.le_refl _, fun _ _ => rfl⟩, .inr (Nat.le_refl _)⟩)
def orF : List Int → Int
  | [] => 0
  | x :: l => if x = 0 then orF l else x
theorem qK_ : ∀ {l : List Int} {i : Nat} {x : Int}, (∀ y ∈ l.take i, y = 0) → l[i]? = some x → x ≠ 0 → orF l = x
  | [], _, _, _, h, _ => by simp at h
  | y :: l, 0, x, _, h, hx => by simp at h; subst h; simp [orF, hx]
  | y :: l, i + 1, x, h0, h, hx => by
    have hy : y = 0 := h0 y (by simp)
    rw [orF, if_pos hy]
    exact qK_ (i := i) (fun z hz => h0 z (by rw [List.take_succ_cons]; exact List.mem_cons_of_mem _ hz)) (by simpa using h) hx
theorem mG_ : ∀ {l : List Int}, (∀ y ∈ l, y = 0) → orF l = 0
  | [], _ => rfl
  | y :: l, h => by rw [orF, if_pos (h y (by simp))]; exact mG_ fun z hz => h z (by simp [hz])
theorem cI_neg (x y : Int) : Lib.compareInt x y < 0 ↔ x < y := by unfold Lib.compareInt; (repeat' split) <;> omega
theorem sv_ (x y : Int) : Lib.compareInt x y = 0 ↔ x = y := by unfold Lib.compareInt; (repeat' split) <;> omega
theorem nY_ : ∀ (x y : Str), Lib.compareBytes x y < 0 ↔ x < y
  | [], [] => by simp [Lib.compareBytes]
  | [], b :: y => by simp [Lib.compareBytes]
  | a :: x, [] => by simp [Lib.compareBytes]
  | a :: x, b :: y => by
    rw [Lib.compareBytes, List.cons_lt_cons_iff]
    by_cases h1 : a < b
    · rw [if_pos h1]; simp [h1]
    · by_cases h2 : b < a
      · rw [if_neg h1, if_pos h2]
        have : a ≠ b := fun e => by subst e; exact h1 h2
        simp [h1, this]
      · have e : a = b := UInt8.le_antisymm (UInt8.not_lt.1 h2) (UInt8.not_lt.1 h1)
        rw [if_neg h1, if_neg h2, nY_ x y]; simp [e]
theorem oN_ : ∀ (x y : Str), Lib.compareBytes x y = 0 ↔ x = y
  | [], [] => by simp [Lib.compareBytes]
  | [], b :: y => by simp [Lib.compareBytes]
  | a :: x, [] => by simp [Lib.compareBytes]
  | a :: x, b :: y => by
    rw [Lib.compareBytes]
    by_cases h1 : a < b
    · rw [if_pos h1]
      have : a ≠ b := fun e => by subst e; exact absurd h1 (UInt8.lt_irrefl a)
      simp [this]
    · by_cases h2 : b < a
      · rw [if_neg h1, if_pos h2]
        have : a ≠ b := fun e => by subst e; exact h1 h2
        simp [this]
      · have e : a = b := UInt8.le_antisymm (UInt8.not_lt.1 h2) (UInt8.not_lt.1 h1)
        rw [if_neg h1, if_neg h2, oN_ x y]; simp [e]
def it_ (x y : Fc) : Int := orF [Lib.compareInt x.kind y.kind, Lib.compareBytes x.a y.a, Lib.compareBytes x.b y.b, Lib.compareBytes x.r y.r, Lib.compareInt x.lo y.lo, Lib.compareInt x.hi y.hi]
theorem ho_ (x : Int) (l : List Int) : orF (x :: l) < 0 ↔ x < 0 ∨ x = 0 ∧ orF l < 0 := by
  rw [orF]; split <;> omega
theorem nl_ (x y : Fc) : it_ x y < 0 ↔ x.lt y := by
  unfold it_ Fc.lt
  rw [ho_, ho_, ho_, ho_, ho_, ho_]
  simp only [cI_neg, sv_, nY_, oN_, orF, Int.lt_irrefl, and_false, or_false]
theorem orF_c (l : List Int) (ad : Option Addr) (cap : Nat) (hl : l.length ≤ 1000) : Tri Tryz.prog 114 #[.slice ad (List.length l) cap] [] [bb_ ad (List.flatMap sj_ l)] (fun _ : Unit => .int .i64 (orF l)) (fun _ => []) (fun _ => []) := by
  refine R_ Tryz.func114 rfl rfl Tryz.ntmps114 rfl fun v0 => ?_
  refine f_ (d_ (a_ (h_ rfl) rfl (e_ (b_ rfl (f_ (d_ (a_ (h_ rfl) rfl (e_ (b_ rfl ?_)))))))))
  refine f_ (f_ (d_ (a_ (g_ rfl) rfl (a_ (at_ Tryz.runUnderlying58 rfl) rfl (a_ (g_ rfl) rfl (e_ (b_ rfl (S_ ?_))))))))
  refine aV_ (ι := {y : Nat // y ≤ l.length ∧ ∀ z ∈ l.take y, z = 0}) (fun y => [(3, .int .i64 0), (6, .slice ad (List.length l) cap), (7, .int .i64 (List.length l : Int)), (8, .int .i64 (y.1 : Int))]) (fun y => ([])) (fun y => [bb_ ad (List.flatMap sj_ l)]) (fun y => l.length - y.1) ⟨(0 : Nat), by simp, by simp⟩ ⟨rfl, rfl, rfl, rfl, trivial⟩ X_ (fun _ _ h => h) ?_
  rintro ⟨i, hi, h0⟩
  dsimp only at hi h0 ⊢
  refine f_ (d_ (z_ (aC_ rfl rfl) rfl fun r1 hr1 => ?_))
  refine e_ (b_ rfl (f_ ?_))
  cases r1
  · skip
    replace hr1 := of_decide_eq_false hr1
    refine r_ rfl (ay_ rfl (b_ rfl (f_ (d_ (a_ (g_ rfl) rfl (a_ (h_ rfl) rfl (e_ (b_ rfl (D_ ?_)))))))))
    exact ar_ Tryz.results114 () (aK_ rfl (mG_ fun y hy => h0 y (by rw [List.take_of_length_le (by omega)]; exact hy)).symm) X_ (fun _ _ _ => trivial)
  · skip
    replace hr1 := of_decide_eq_true hr1
    have hlx1 : i < List.length l := by omega
    obtain ⟨x1, hx1⟩ : ∃ e0, l[i]? = some e0 := ⟨_, List.getElem?_eq_getElem hlx1⟩
    have hmx1 : x1 ∈ l := List.mem_of_getElem? hx1
    refine n_ rfl (B_ (b_ rfl (f_ (S_ (f_ (d_ (a_ (aj_ Tryz.runUnderlying58 I_ rfl rfl (fun v _ h => aO_ (n := 1) mY_ (by decide) (by exact h.1) hx1) (by omega) (by first | omega | (simp; done))) rfl (a_ (bA_ (ad := ad) J_ rfl (fun v _ h => by exact h.1) (an_ mY_ hx1 0 _ rfl)) rfl (a_ (h_ rfl) rfl ?_)))))))))
    refine e_ (b_ rfl (f_ (d_ (a_ (g_ rfl) rfl (a_ (g_ rfl) rfl (z_ (cJ_ rfl rfl) rfl fun r2 hr2 => ?_))))))
    refine e_ (b_ rfl ?_)
    cases r2
    · skip
      replace hr2 := bN_ hr2
      refine r_ rfl (B_ (b_ rfl (d_ (a_ (V_ rfl rfl rfl (am_ (by omega) (by omega))) rfl (a_ (g_ rfl) rfl (e_ (t_ rfl ?_)))))))
      exact ah_ ⟨i + 1, hlx1, fun y hy => by rw [List.take_add_one, hx1] at hy; simp only [Option.toList_some, List.mem_append, List.mem_singleton] at hy; rcases hy with hy | rfl; exact h0 y hy; omega⟩ (by dsimp only; omega) ⟨rfl, rfl, rfl, rfl, trivial⟩ X_ (fun _ _ h => h)
    · skip
      replace hr2 := bM_ hr2
      refine n_ rfl (f_ (d_ (a_ (g_ rfl) rfl (a_ (h_ rfl) rfl (e_ (b_ rfl (D_ ?_)))))))
      exact ar_ Tryz.results114 () (aK_ rfl (qK_ h0 hx1 (by assumption)).symm) X_ (fun _ _ _ => trivial)
theorem rm_ (x y : Fc) : Fn0 Tryz.prog 61 #[Fc.val x, Fc.val y] (.int .i64 (it_ x y)) := by
  refine R_ Tryz.func61 rfl rfl Tryz.ntmps61 rfl fun v0 => ?_
  refine f_ (d_ (aI_ rfl rfl fun b1 => ?_))
  refine aI_ rfl rfl fun b2 => ?_
  refine a_ (h_ rfl) rfl (e_ (b_ rfl (f_ ?_)))
  refine aE_ (by kernel_rfl) ?_
  refine ab_ 9 [0, 1, 2, 3, 5, 6, 7, 8, 10, 11, 12, 13, 15, 16, 17, 18, 20, 21, 22, 23, 25, 26, 27, 28] (by kernel_rfl) (fun _ a b => ⟨a, b⟩) (j_ rfl (k_ s_ rfl rfl rfl I_) rfl (j_ rfl (o_ 1 J_ rfl rfl rfl) rfl (j_ rfl (k_ s_ rfl rfl rfl I_) rfl (j_ rfl (o_ 0 J_ rfl rfl rfl) rfl (j_ rfl (k_ s_ rfl rfl rfl p_) rfl (j_ rfl (o_ 1 v_ rfl rfl rfl) rfl (j_ rfl (k_ s_ rfl rfl rfl p_) rfl (j_ rfl (o_ 0 v_ rfl rfl rfl) rfl (j_ rfl (k_ s_ rfl rfl rfl p_) rfl ?_)))))))))
  refine j_ rfl (o_ 1 v_ rfl rfl rfl) rfl (j_ rfl (k_ s_ rfl rfl rfl p_) rfl (j_ rfl (o_ 0 v_ rfl rfl rfl) rfl (j_ rfl (k_ s_ rfl rfl rfl p_) rfl (j_ rfl (o_ 1 v_ rfl rfl rfl) rfl (j_ rfl (k_ s_ rfl rfl rfl p_) rfl (j_ rfl (o_ 0 v_ rfl rfl rfl) rfl (j_ rfl (k_ s_ rfl rfl rfl I_) rfl (j_ rfl (o_ 1 J_ rfl rfl rfl) rfl (j_ rfl (k_ s_ rfl rfl rfl I_) rfl ?_)))))))))
  refine j_ rfl (o_ 0 J_ rfl rfl rfl) rfl (j_ rfl (k_ s_ rfl rfl rfl I_) rfl (j_ rfl (o_ 1 J_ rfl rfl rfl) rfl (j_ rfl (k_ s_ rfl rfl rfl I_) rfl (j_ rfl (o_ 0 J_ rfl rfl rfl) rfl (aa_ (N_ 4 rfl (by kernel_rfl) (Q_ (kx_ (Fc.kind x) (Fc.kind y)) rfl X_ (fun _ _ _ => by exact trivial) rfl fun _ => ?_)))))))
  refine e_ (t_ rfl (E_ (fun _ a b => ⟨a, b⟩) (N_ 9 rfl (by kernel_rfl) (Q_ (is_ (Fc.a x) (Fc.a y)) rfl X_ (fun _ _ _ => by exact trivial) rfl fun _ => ?_))))
  refine e_ (t_ rfl (E_ (fun _ a b => ⟨a, b⟩) (N_ 14 rfl (by kernel_rfl) (Q_ (is_ (Fc.b x) (Fc.b y)) rfl X_ (fun _ _ _ => by exact trivial) rfl fun _ => ?_))))
  refine e_ (t_ rfl (E_ (fun _ a b => ⟨a, b⟩) (N_ 19 rfl (by kernel_rfl) (Q_ (is_ (Fc.r x) (Fc.r y)) rfl X_ (fun _ _ _ => by exact trivial) rfl fun _ => ?_))))
  refine e_ (t_ rfl (E_ (fun _ a b => ⟨a, b⟩) (N_ 24 rfl (by kernel_rfl) (Q_ (kx_ (Fc.lo x) (Fc.lo y)) rfl X_ (fun _ _ _ => by exact trivial) rfl fun _ => ?_))))
  refine e_ (t_ rfl (E_ (fun _ a b => ⟨a, b⟩) (N_ 29 rfl (by kernel_rfl) (Q_ (kx_ (Fc.hi x) (Fc.hi y)) rfl X_ (fun _ _ _ => by exact trivial) rfl fun _ => ?_))))
  refine e_ (t_ rfl (E_ (fun _ a b => ⟨a, b⟩) (N_ 30 rfl (by kernel_rfl) (aW_ Tryz.runUnderlying58 I_ Tryz.zeroValue3 rfl rfl rfl rfl rfl rfl fun b3 => ?_))))
  refine eM_ (List.flatMap sj_ [(Lib.compareInt (Fc.kind x) (Fc.kind y)), (Lib.compareBytes (Fc.a x) (Fc.a y)), (Lib.compareBytes (Fc.b x) (Fc.b y)), (Lib.compareBytes (Fc.r x) (Fc.r y)), (Lib.compareInt (Fc.lo x) (Fc.lo y)), (Lib.compareInt (Fc.hi x) (Fc.hi y))]) i_ rfl ?_
  refine e_ (t_ rfl (E_ (fun _ a b => ⟨a, b.2⟩) (N_ 31 rfl (by kernel_rfl) (Q_ (orF_c [(Lib.compareInt (Fc.kind x) (Fc.kind y)), (Lib.compareBytes (Fc.a x) (Fc.a y)), (Lib.compareBytes (Fc.b x) (Fc.b y)), (Lib.compareBytes (Fc.r x) (Fc.r y)), (Lib.compareInt (Fc.lo x) (Fc.lo y)), (Lib.compareInt (Fc.hi x) (Fc.hi y))] (some ⟨b3, 0, none⟩) 6 (by simp)) rfl X_ (fun v _ h => by exact ⟨h.1, trivial⟩) rfl fun _ => ?_))))
  refine e_ (t_ rfl (E_ (fun _ a b => ⟨a, b.2⟩) (ab_ 0 [32] (by kernel_rfl) (fun _ a b => ⟨a, b.2⟩) (j_ rfl (h_ rfl) rfl (aa_ (Y_ (by kernel_rfl) (b_ rfl (D_ ?_))))))))
  exact ar_ Tryz.results61 () (aK_ rfl (by rfl)) X_ (fun _ _ _ => trivial)
end Go.Proofs.YtpdbbglpbngeiaaGreatDoor
namespace Go.Proofs.YtpdbbglpbngeiaaGreatDoor
open Go Go.Sx Go.Proofs
attribute [local irreducible] Code.wp wpList wpAnyH
open Go.Vs
theorem dT {p : Prop} {i : Decidable p} (h : @decide p i = true) : p := of_decide_eq_true h
theorem dF {p : Prop} {i : Decidable p} (h : @decide p i = false) : ¬ p := of_decide_eq_false h
structure Cl where
  atoms : List Str
  aad : Option Addr
  acap : Nat
  facts : List Fc
  fad : Option Addr
  fcap : Nat
def Cl.cells (c : Cl) : List Value := [.slice c.aad c.atoms.length c.acap, .slice c.fad c.facts.length c.fcap]
theorem Cl.cells_len (c : Cl) : c.cells.length = 2 := rfl
def Cl.val (c : Cl) : Value := .agg c.cells.toArray
def Cl.row (c : Cl) : List Fct := [bb_ c.aad (List.flatMap bf_ c.atoms), bb_ c.fad (List.flatMap Fc.cells c.facts)]
def Cl.no : Cl := Cl.mk [] none 0 [] none 0
structure Cl.ok (c : Cl) : Prop where
  al : c.atoms.length ≤ c.acap
  am : c.acap ≤ maxLen
  az : c.aad = none → c.acap = 0
  fl : c.facts.length ≤ c.fcap
  fm : c.fcap ≤ maxLen
  fz : c.fad = none → c.fcap = 0
theorem Cl.no_ok : Cl.no.ok := ⟨Nat.le_refl _, by simp [Cl.no], fun _ => rfl, Nat.le_refl _, by simp [Cl.no], fun _ => rfl⟩
theorem rM_ {s : Str} (h : cB_ s = true) : s ≠ [] := fun e => by subst e; revert h; decide
theorem pv_ {s : Str} (h : bo_ s = true) : s ≠ [] := fun e => by subst e; revert h; decide
theorem kN_ {p : Pc} (h : p.valid = true) : p.vok := by
  unfold Pc.valid at h
  split at h
  · simp at h
  rename_i h1
  split at h
  · simp at h
  rename_i h2
  split at h
  · simp at h
  have hk : p.kind = 1 ∨ p.kind = 2 ∨ p.kind = 3 ∨ p.kind = 4 ∨ p.kind = 5 ∨ p.kind = 6 ∨ p.kind = 7 ∨ p.kind = 8 ∨ p.kind = 9 := by omega
  have hn : ∀ {b : Bool} {s : Str}, ce_ b s cB_ = true → b = true → s ≠ [] := fun h1 h2 => by
    subst h2; simp [ce_] at h1; exact rM_ h1
  have hn' : ∀ {b : Bool} {s : Str}, ce_ b s bo_ = true → b = true → s ≠ [] := fun h1 h2 => by
    subst h2; simp [ce_] at h1; exact pv_ h1
  simp only [Bool.and_eq_true] at h
  obtain ⟨⟨⟨⟨⟨_, _⟩, _⟩, hr⟩, hs⟩, ht⟩ := h
  unfold Pc.rok at *
  refine ⟨⟨fun q => ?_, fun q => ?_, fun q => ?_⟩, fun q => ?_⟩
  · rcases q with q | q | q | q | q | q | q <;> rw [q] at hr
    · exact hn hr (by decide)
    · exact hn hr (by decide)
    · exact hn hr (by decide)
    · exact hn' hr (by decide)
    · exact hn hr (by decide)
    · exact hn hr (by decide)
    · exact hn' hr (by decide)
  · rw [q] at hs ht; exact ⟨hn hs (by decide), hn ht (by decide)⟩
  · rw [q] at ht; exact hn ht (by decide)
  · rcases q with q | q <;> rw [q] at h2 <;> have : (nus 8).numbers = true ∧ (nus 9).numbers = true := by decide
    all_goals simp only [this.1, this.2, true_and] at h2; omega
theorem nn_ {p : List Pc} (h : bX_ p = 0) : p.length ≤ 16384 ∧ p.all Pc.valid = true := by
  unfold bX_ at h
  split at h
  · simp at h
  · split at h
    · exact ⟨by omega, by assumption⟩
    · simp at h
theorem iR_ {p : List Pc} (h : bX_ p = 0) : ∀ x ∈ p, x.vok := fun x hx => kN_ (List.all_eq_true.1 (nn_ h).2 x hx)
section
variable {P : Program} {N : Nat} {v0 : Vw} {H0 : Hp} {fr : Fr} {H F Ha Hu Ho Hi Hr Hm Hs : Hp} {Γ : List Fct}
theorem eS_ {fn : Func} {t s b n : Nat} {ty T : TypeId} {us : List Value} {u : Value} (i : Nat) (hr : fn.results = #[.cell t ty, .tmp s]) (ha : ∀ w, (isAgg ty).run P w = .ok true w) (hs : ∀ w, (sizeOf ty).run P w = .ok n w) (hn : us.length = n) (hx : Fr.get fr t = some (zp_ b 0)) (hu : Fr.get fr s = some u)
    (hi : H[i]? = some (b, .cells us.toArray T (0, 0))) (a : Act) (v : Vw) (h1 : Fr.sat N fr a) (h2 : v.sat H) : (results fn a.tmps).run P v.w = .ok (.tuple #[.agg us.toArray, u]) v.w := by
  have e := h1.val t _ hx
  have e2 := h1.val s _ hu
  have hl := dC_ (t := ty) (w := v.w) (b := b) (off := 0) ha hs hn (fun j y hj => by rw [Nat.zero_add, fp_ h2 hi]; simpa using hj)
  simp [results, hr, e, e2, asAddr, hl]
theorem iD_ (h : H.Perm ((Ha ++ (Hu ++ (Ho ++ (Hi ++ (Hr ++ (Hm ++ Hs)))))) ++ F)) : H.Perm (((Ha ++ (Hu ++ (Ho ++ (Hi ++ (Hr ++ Hm))))) ++ Hs) ++ F) := by simpa [List.append_assoc] using h
theorem hn_ : (((Ha ++ (Hu ++ (Ho ++ (Hi ++ (Hr ++ Hm))))) ++ Hs) ++ F).Perm (Ha ++ (Hu ++ (Ho ++ (Hi ++ (Hr ++ (Hm ++ (Hs ++ F))))))) := by simp [List.append_assoc]
theorem rT_ {a b c : Nat × Obj} {Hq : Hp} : ((Ha ++ (Hu ++ (Ho ++ (Hi ++ (Hr ++ (Hm ++ (a :: b :: ([c] ++ Hq)))))))) ++ F).Perm (Ha ++ (Hu ++ (Ho ++ (Hi ++ (Hr ++ (Hm ++ (a :: b :: ([c] ++ (Hq ++ F))))))))) := by simp [List.append_assoc]
end
theorem eQ_ : kE_ Tryz.prog 28 [(0, 1), (1, 1)] [.slice none 0 0, .slice none 0 0] := ⟨_, hD_, bz_, fun w => by simp [bq_, dI_]⟩
end Go.Proofs.YtpdbbglpbngeiaaGreatDoor
namespace Go.Proofs.YtpdbbglpbngeiaaGreatDoor
open Go Go.Sx Go.Proofs
attribute [local irreducible] Code.wp wpList wpAnyH
open Go.Vs Go.Shelf Go.RowKit
theorem mg_ {v v' : Vw} (h : v.to [] v' []) (hs : ¬ v.sl) : ∃ q os, v'.w = Sort.grow (v.w.drewN q) os := by
  have hd : v.w.drawn ≤ v'.w.drawn := h.dr.resolve_left hs
  refine ⟨v'.w.drawn - v.w.drawn, v'.w.heap.extract v.w.heap.size v'.w.heap.size, ?_⟩
  have hh : v'.w.heap = v.w.heap ++ v'.w.heap.extract v.w.heap.size v'.w.heap.size := by
    apply Array.ext_getElem?
    intro i
    have hsz := h.size
    rw [Array.getElem?_append]
    split
    · rename_i hi; exact h.block i hi (by simp)
    · rename_i hi
      rw [Array.getElem?_extract]
      split
      · congr 1; omega
      · rw [Array.getElem?_eq_none (by omega)]
  have e1 := h.os; have e2 := h.tape; have e3 := h.output
  obtain ⟨im', ⟨hp, tp, dn, os', ou⟩, sl'⟩ := v'
  simp only at e1 e2 e3 hh hd
  simp only [Sort.grow, World.drewN, World.mk.injEq]
  exact ⟨hh, e2, by omega, e1, e3⟩
theorem sp_ (blk off size : Nat) (w : World) : CmpLays Tryz.prog 61 #[] Fc.cells 6 it_ blk off size w := fun m os dk _ x y => by
  have h := (rm_ x y).run ⟨fun _ => False, sortWorldK Fc.cells 6 w blk off m dk os, False⟩ ⟨by simp, by simp, fun _ h => h.elim⟩ trivial
  refine h.mono ?_
  rintro e w' ⟨_, v', rfl, rfl, _, _, ht⟩
  obtain ⟨q, os', hw⟩ := mg_ ht (fun h => h)
  exact ⟨rfl, q, os', hw⟩
theorem ltF (x y : Fc) : ltOf it_ x y = decide (x.lt y) := by unfold ltOf; rw [decide_eq_decide]; exact nl_ x y
theorem swoF : Sort.SWO (ltOf it_) where
  irrefl x := by rw [ltF]; exact decide_eq_false (Fc.lt_irr x)
  trans x y z h1 h2 := by rw [ltF, decide_eq_true_eq] at *; exact Fc.lt_trans h1 h2
  ntrans x y z h1 h2 := by
    rw [ltF, decide_eq_false_iff_not] at *
    intro h
    rcases Fc.lt_tri x y with g | g | g
    · exact h1 g
    · subst g; exact h2 h
    · exact h2 (Fc.lt_trans g h)
theorem totF (x y : Fc) (h1 : ltOf it_ x y = false) (h2 : ltOf it_ y x = false) : x = y := by
  rw [ltF, decide_eq_false_iff_not] at h1 h2
  rcases Fc.lt_tri x y with g | g | g
  · exact absurd g h1
  · exact g
  · exact absurd g h2
theorem ku_ (xs : List Fc) : Sort.flatK Fc.cells 6 xs.toArray = (xs.flatMap Fc.cells).toArray := by
  apply Array.ext_getElem?
  intro t
  have e0 : (xs.flatMap Fc.cells).toArray[t]? = (xs.flatMap Fc.cells)[t]? := by simp
  rw [e0]
  by_cases ht : t < xs.length * 6
  · have hd : t / 6 < xs.length := by omega
    have := iN_ Fc.cells 6 Fc.cells_len xs (t / 6) (t % 6) xs[t / 6] (List.getElem?_eq_getElem hd) (Nat.mod_lt _ (by decide))
    rw [show t / 6 * 6 + t % 6 = t by omega] at this
    rw [this]
    simp only [Sort.flatK, Array.getElem?_map, List.size_toArray]
    rw [Array.getElem?_eq_getElem (by simpa using ht)]
    simp only [Array.getElem_range, Option.map_some]
    rw [getElem!_pos xs.toArray (t / 6) (by simpa using hd)]
    have hl : t % 6 < (Fc.cells xs[t / 6]).length := by rw [Fc.cells_len]; omega
    rw [List.getElem?_eq_getElem hl]
    simp only [List.getElem_toArray]
    rw [getElem!_pos (Fc.cells xs[t / 6]) (t % 6) hl]
  · rw [List.getElem?_eq_none (by rw [eB_ Fc.cells 6 Fc.cells_len]; omega), Array.getElem?_eq_none (by simp [Sort.flatK]; omega)]
theorem mk_ {P : Program} {Γ : List Fct} {f : FuncId} {args : Array Value} {r : Value} {g : Nat} {cur : Array Value} {T : TypeId} {d : Array Value} (hc : gg_ P f)
    (h : ∀ v : Vw, v.sat [(g, .cells cur T (0, 0))] → Calls P f args v.w fun e w' => e = .returned r ∧ ∃ n os, w' = Sort.grow (Sort.putRow id (Sort.ahead v.w n) g 0 d) os) :
    Tri P f args [(g, .cells cur T (0, 0))] Γ (fun _ : Unit => r) (fun _ => [(g, .cells (Sort.putCells id 0 d cur) T (0, 0))]) (fun _ => []) :=
  ⟨hc, fun v h1 _ => (h v h1).mono fun e w' ⟨he, n, os, hw⟩ => by
    have hg := (h1.own _ List.mem_cons_self)
    have hlt : g < v.w.heap.size := (Array.getElem?_eq_some_iff.1 hg.1).1
    have hb : ∀ b, b < v.w.heap.size → w'.heap[b]? = if b = g then some (.cells (Sort.putCells id 0 d cur) T (0, 0)) else v.w.heap[b]? := fun b hb => by
      rw [hw]
      simp only [Sort.grow, Sort.putRow, Sort.mapBlock, Sort.ahead]
      rw [Array.getElem?_append_left (by simpa using hb), Array.getElem?_modify]
      by_cases e : b = g
      · subst e
        simp only [if_true, hg.1, Option.map_some, Sort.onCells]
      · rw [if_neg (fun q => e q.symm), if_neg e]
    have hsz : v.w.heap.size ≤ w'.heap.size := by rw [hw]; simp [Sort.grow, Sort.putRow, Sort.mapBlock, Sort.ahead]
    refine ⟨(), ⟨v.im, w', v.sl⟩, he, rfl, ⟨fun p hp => ?_, by simp, fun b hbb => Nat.lt_of_lt_of_le (h1.lt b hbb) hsz⟩, trivial, ⟨by rw [hw]; rfl, by rw [hw]; rfl, by rw [hw]; rfl, hsz, fun b hbb hn => ?_, fun _ h => h, fun _ h => .inl h, fun b hm => .inl (by simpa using hm), rfl, .inr (by rw [hw]; exact Nat.le_add_right _ _)⟩⟩
    · simp only [List.mem_singleton] at hp
      subst hp
      exact ⟨by show w'.heap[g]? = _; rw [hb g hlt, if_pos rfl], hg.2⟩
    · have hn' : b ≠ g := by simpa using hn
      show w'.heap[b]? = _
      rw [hb b hbb, if_neg hn']⟩
theorem pn_ {cur : Array Value} {d : List Value} (hs : d.length ≤ cur.size) : (Sort.putCells id 0 d.toArray cur).toList.take d.length = d := by
  apply List.ext_getElem?
  intro j
  rw [List.getElem?_take]
  split
  · rename_i hj
    simp only [Sort.putCells, Array.getElem?_toList, Array.getElem?_mapIdx]
    rw [Array.getElem?_eq_getElem (by omega)]
    simp only [Option.map_some, Nat.zero_le, true_and, Nat.zero_add, List.size_toArray, hj, if_true, Nat.sub_zero]
    rw [List.getElem?_eq_getElem hj, getElem!_pos d.toArray j (by simpa using hj)]
    rfl
  · rename_i hj
    rw [List.getElem?_eq_none (by omega)]
theorem po_ {cur d : Array Value} : (Sort.putCells id 0 d cur).size = cur.size := by simp [Sort.putCells]
theorem holdsV {g : Nat} {cur : Array Value} {T : TypeId} {xs : List Value} {v : Vw} (hs : v.sat [(g, .cells cur T (0, 0))]) (ht : cur.toList.take xs.length = xs) : Sort.Holds id v.w g 0 xs.toArray := by
  intro j hj
  have hb := (hs.own _ List.mem_cons_self).1
  simp only [List.size_toArray] at hj
  have hc : cur[j]? = some xs[j] := by
    have := congrArg (fun l => l[j]?) ht
    simp only [List.getElem?_take, hj, if_true, Array.getElem?_toList] at this
    rw [this, List.getElem?_eq_getElem hj]
  refine ⟨?_, ?_⟩
  · simp only [World.cell?, Nat.zero_add, hb, Option.isSome_none, Bool.false_eq_true, if_false]
    rw [hc, getElem!_pos xs.toArray j (by simpa using hj)]
    rfl
  · simp [World.frozen?, hb]
def fv_ (xs : List Fc) : List Fc := xs.mergeSort fun x y => !(ltOf it_) y x
theorem fO_ (xs : List Fc) : (fv_ xs).length = xs.length := List.length_mergeSort _
theorem hZ_ (xs : List Fc) (x : Fc) : x ∈ fv_ xs ↔ x ∈ xs := List.mem_mergeSort
theorem hY_ {xs : List Fc} (h : xs.Nodup) : Srt (fv_ xs) := by
  have h1 : (fv_ xs).Pairwise fun x y => (!(ltOf it_) y x) = true := List.pairwise_mergeSort
    (fun a b c h1 h2 => by simp only [Bool.not_eq_true'] at *; exact swoF.ntrans c b a h2 h1)
    (fun a b => by
      simp only [Bool.or_eq_true, Bool.not_eq_true']
      rw [ltF, ltF, decide_eq_false_iff_not, decide_eq_false_iff_not]
      rcases Fc.lt_tri a b with g | g | g
      · exact .inl fun q => Fc.lt_irr a (Fc.lt_trans g q)
      · subst g; exact .inl (Fc.lt_irr a)
      · exact .inr fun q => Fc.lt_irr a (Fc.lt_trans q g)) xs
  have h2 : (fv_ xs).Nodup := (List.mergeSort_perm xs _).nodup_iff.2 h
  refine (h1.and h2).imp ?_
  rintro x y ⟨a, b⟩
  simp only [Bool.not_eq_true', ltF, decide_eq_false_iff_not] at a
  rcases Fc.lt_tri x y with g | g | g
  · exact g
  · exact absurd g b
  · exact absurd g a
theorem om_ {sv : Value} {xs : List Fc} {Hr : Hp} (h : bt_ 41 6 sv xs.length (xs.flatMap Fc.cells) Hr) (hl : xs.length ≤ 1000000000000) :
    Tri Tryz.prog 60 #[sv, .func (.func 61) #[] #[]] Hr [] (fun _ : {y : Hp // bt_ 41 6 sv (fv_ xs).length ((fv_ xs).flatMap Fc.cells) y} => .tuple #[]) (fun y => y.1) (fun _ => []) := by
  rcases h.2 with ⟨rfl, h2, rfl⟩ | ⟨g, cap, cur, rfl, rfl, h3, h4, h5, h6⟩
  · obtain rfl : xs = [] := List.eq_nil_of_length_eq_zero h2
    have T := dz_ (P := Tryz.prog) (H := []) (Γ := []) (callable Tryz.func60 rfl rfl) (fun v _ _ => (AnyF.slices_SortFunc_none Tryz.sortFc none 0 (.func (.func 61) #[] #[]) v.w).mono (by rintro e w' ⟨rfl, rfl⟩; exact ⟨rfl, ⟨rfl, rfl, rfl, Nat.le_refl _, fun _ _ => rfl⟩, .inr (Nat.le_refl _)⟩))
    exact ⟨T.callable, fun v a b => (T.run v a b).mono (by rintro e w' ⟨x, v', e1, e2, e3, e4, e5⟩; exact ⟨⟨[], by simpa [fv_] using bt_.nil _ _⟩, v', e1, e2, e3, e4, e5⟩)⟩
  · have hx : (xs.flatMap Fc.cells).length = xs.length * 6 := eB_ Fc.cells 6 Fc.cells_len xs
    have T := mk_ (P := Tryz.prog) (Γ := []) (r := .tuple #[]) (g := g) (cur := cur) (T := 41) (d := ((fv_ xs).flatMap Fc.cells).toArray) (f := 60) (args := #[.slice (some ⟨g, 0, none⟩) xs.length cap, .func (.func 61) #[] #[]]) (callable Tryz.func60 rfl rfl) (fun v hs => by
      have hh := AnyQ.slices_SortFunc_total Tryz.sortFc 6 af_ M_ Fc.cells Fc.cells_len (fun x u hu => List.all_eq_true.1 (Fc.cells_one x) u hu) it_ swoF 61 #[] g 0 cap xs.toArray v.w (fun args w => (callable Tryz.func61 rfl rfl) args w) (sp_ g 0 _ v.w) (by unfold Sort.HoldsK; rw [ku_]; exact holdsV hs (by rw [hx]; exact h6)) (Array.getElem?_eq_some_iff.1 (hs.own _ List.mem_cons_self).1).1 (by simp; omega) totF
      refine hh.mono ?_
      rintro e w' ⟨rfl, n, os, rfl⟩
      refine ⟨rfl, n, os, ?_⟩
      unfold sortWorldK Sort.putRowK
      rw [show ((xs.toArray.toList.mergeSort fun x y => !(ltOf it_) y x)) = fv_ xs from rfl, ku_])
    refine ⟨T.callable, fun v a b => (T.run v a b).mono ?_⟩
    rintro e w' ⟨x, v', e1, e2, e3, e4, e5⟩
    have hy : ((fv_ xs).flatMap Fc.cells).length = xs.length * 6 := by rw [eB_ Fc.cells 6 Fc.cells_len, fO_]
    refine ⟨⟨_, by rw [hy, fO_], .inr ⟨g, cap, _, by rw [fO_], rfl, by rw [fO_]; exact h3, h4, by rw [po_]; exact h5, ?_⟩⟩, v', e1, e2, e3, e4, e5⟩
    have := pn_ (cur := cur) (d := (fv_ xs).flatMap Fc.cells) (by rw [hy, h5]; omega)
    rw [hy] at this
    rw [fO_]; exact this
end Go.Proofs.YtpdbbglpbngeiaaGreatDoor
namespace Go.Proofs.YtpdbbglpbngeiaaGreatDoor
open Go Go.Sx Go.Proofs
attribute [local irreducible] Code.wp wpList wpAnyH
open Go.Vs
section
variable {P : Program} {N : Nat} {v0 : Vw} {H0 : Hp} {fr : Fr} {H F : Hp} {Γ : List Fct} {K D : Type} [DecidableEq K]
theorem kr_ : ∀ (B : Hp) {v : Vw}, aM_ (B.map fun p => ct_ p.1 p.2) v → ∀ p ∈ B, v.im p.1 ∧ v.w.heap[p.1]? = some p.2
  | [], _, _, _, h => by simp at h
  | q :: B, v, h, p, hp => by
    rcases List.mem_cons.1 hp with rfl | hp
    · exact h.1
    · exact kr_ B h.2 p hp
theorem mL_ {k : Act → World → Prop} {kv : K → Value} {cells : D → List Value} {kt e : TypeId} {sz mb : Nat} {l : List (K × D)} {Hm : Hp} (hK : KeyT P kt kv) (hm : dm_ kv cells e sz l mb Hm) (hH : H.Perm (Hm ++ F))
    (h : ∀ adr, Ok N v0 H0 k fr F (mlF P kt kv cells mb l adr :: Γ)) : Ok N v0 H0 k fr H Γ := by
  obtain ⟨adr, ha⟩ := hm.lent hK
  refine mM_ Hm hH (mN_ (fun v _ hv => ?_) (h adr))
  rw [fe_] at hv
  refine ⟨ha v fun p hp => ?_, hv.2⟩
  have := hv.1
  exact kr_ Hm.reverse (by rw [List.map_reverse] at *; exact this) p (List.mem_reverse.2 hp)
theorem fk_ {tF : TypeId} {E : Emt P tF} {nw fm : List Fc} {Hs : Hp} {ty t kt et : TypeId} {x : Operand} (hS : E.St nw fm Hs) (hu : ∀ w, (underlying t).run P w = .ok (.map kt et) w) (hx : Fr.ev fr x = some (.map (some E.kb))) (hp : H.Perm (Hs ++ F)) :
    Yld P N fr H Γ (.call ⟨.builtin .len, #[x], #[t]⟩) ty (.int .i64 ((E.kof nw).length : Int)) := by
  obtain ⟨es, c, g1, g2⟩ := E.known hS
  exact jy_ g2 hu hx fun v h _ => jV_ hp g1 h
end
def mV_ (x : Ix) (n : Nat) : Prop := x.above.length ≤ n ∧ x.under.length ≤ n ∧ x.frm.length ≤ n ∧ x.into.length ≤ n ∧ x.ranges.length ≤ n ∧ x.firms.length ≤ n
theorem mU_ : mV_ Ix.nil 0 := by simp [mV_, Ix.nil]
theorem gT_ {x : Ix} {n : Nat} (h : mV_ x n) (b : Bool) (f : Fc) : mV_ (x.add b f) (n + 1) := by
  obtain ⟨h1, h2, h3, h4, h5, h6⟩ := h
  unfold Ix.add mV_
  split
  · simp; omega
  · split
    · simp; omega
    · split
      · cases b <;> simp <;> omega
      · omega
theorem ik_ {x : Ix} {n : Nat} (h : mV_ x n) (hn : n ≤ 1000000000) : (∀ k, (lat x.above k).length ≤ 1000000000 ∧ (lat x.under k).length ≤ 1000000000) ∧ (∀ k, (lat x.frm k).length ≤ 1000000000 ∧ (lat x.into k).length ≤ 1000000000 ∧ (lat x.ranges k).length ≤ 1000000000 ∧ (lat x.firms k).length ≤ 1000000000) := by
  obtain ⟨h1, h2, h3, h4, h5, h6⟩ := h
  refine ⟨fun k => ⟨?_, ?_⟩, fun k => ⟨?_, ?_, ?_, ?_⟩⟩
  · have := fc_ x.above k; omega
  · have := fc_ x.under k; omega
  · have := fc_ x.frm k; omega
  · have := fc_ x.into k; omega
  · have := fc_ x.ranges k; omega
  · have := fc_ x.firms k; omega
theorem oq_ (B : EngB) (E : Emt Tryz.prog 41) (A0 : EngA) (pm : List (Ky × Pc)) (x : Ix) (f : Fc) (nw fm : List Fc) (Hs : Hp) (hS : E.St nw fm Hs) (Ha Hu Ho Hi Hr Hm : Hp) (hI : IxO 9 41 B x ⟨Ha, Hu, Ho, Hi, Hr, Hm⟩) (hpl : ∀ k, (lat pm k).length ≤ 1000000000) (hxl : ∀ k, (lat x.above k).length ≤ 1000000000 ∧ (lat x.under k).length ≤ 1000000000) (hyl : ∀ k, (lat x.frm k).length ≤ 1000000000 ∧ (lat x.into k).length ≤ 1000000000 ∧ (lat x.ranges k).length ≤ 1000000000 ∧ (lat x.firms k).length ≤ 1000000000) (hf : f.kind = 3 → -1099511627776 ≤ f.lo ∧ f.lo ≤ f.hi ∧ f.hi ≤ 1099511627776) (hq : f.kind = 3 → ∀ y ∈ lat pm (Ky.mk 9 (Fc.r f) []), -1099511627776 ≤ y.lo ∧ y.lo ≤ y.hi ∧ y.hi ≤ 1099511627776) (hk : f.kind = 1) : ∀ (j : Nat) {fv : Value}, (rlV B.g 1)[j]? = some fv → ∃ n : Nat, fv = .func (.func n) #[zp_ B.g 0] #[] ∧ Tri Tryz.prog n #[zp_ B.g 0, f.val] ((Ha ++ (Hu ++ (Ho ++ (Hi ++ (Hr ++ Hm))))) ++ Hs) [gF B E, pF B pm A0, E.ef] (fun _ : {H' : Hp // E.St (rl E.stp E.kof pm x f j (nw, fm)).1 (rl E.stp E.kof pm x f j (nw, fm)).2 H'} => .tuple #[]) (fun y => (Ha ++ (Hu ++ (Ho ++ (Hi ++ (Hr ++ Hm))))) ++ y.1) (fun _ => [])
  | 0, _, h => ⟨100, (Option.some.inj h).symm, rl10_c B E A0 pm x f nw fm Hs hS Ha Hu Ho Hi Hr Hm hI hpl hxl hyl hf hq hk⟩
  | 1, _, h => ⟨101, (Option.some.inj h).symm, rl11_c B E A0 pm x f nw fm Hs hS Ha Hu Ho Hi Hr Hm hI hpl hxl hyl hf hq hk⟩
  | 2, _, h => ⟨102, (Option.some.inj h).symm, rl12_c B E A0 pm x f nw fm Hs hS Ha Hu Ho Hi Hr Hm hI hpl hxl hyl hf hq hk⟩
  | 3, _, h => ⟨103, (Option.some.inj h).symm, rl13_c B E A0 pm x f nw fm Hs hS Ha Hu Ho Hi Hr Hm hI hpl hxl hyl hf hq hk⟩
  | 4, _, h => ⟨104, (Option.some.inj h).symm, rl14_c B E A0 pm x f nw fm Hs hS Ha Hu Ho Hi Hr Hm hI hpl hxl hyl hf hq hk⟩
  | 5, _, h => ⟨105, (Option.some.inj h).symm, rl15_c B E A0 pm x f nw fm Hs hS Ha Hu Ho Hi Hr Hm hI hpl hxl hyl hf hq hk⟩
  | j + 6, _, h => by simp [rlV] at h
theorem op_ (B : EngB) (E : Emt Tryz.prog 41) (A0 : EngA) (pm : List (Ky × Pc)) (x : Ix) (f : Fc) (nw fm : List Fc) (Hs : Hp) (hS : E.St nw fm Hs) (Ha Hu Ho Hi Hr Hm : Hp) (hI : IxO 9 41 B x ⟨Ha, Hu, Ho, Hi, Hr, Hm⟩) (hpl : ∀ k, (lat pm k).length ≤ 1000000000) (hxl : ∀ k, (lat x.above k).length ≤ 1000000000 ∧ (lat x.under k).length ≤ 1000000000) (hyl : ∀ k, (lat x.frm k).length ≤ 1000000000 ∧ (lat x.into k).length ≤ 1000000000 ∧ (lat x.ranges k).length ≤ 1000000000 ∧ (lat x.firms k).length ≤ 1000000000) (hf : f.kind = 3 → -1099511627776 ≤ f.lo ∧ f.lo ≤ f.hi ∧ f.hi ≤ 1099511627776) (hq : f.kind = 3 → ∀ y ∈ lat pm (Ky.mk 9 (Fc.r f) []), -1099511627776 ≤ y.lo ∧ y.lo ≤ y.hi ∧ y.hi ≤ 1099511627776) (hk : f.kind = 2) : ∀ (j : Nat) {fv : Value}, (rlV B.g 2)[j]? = some fv → ∃ n : Nat, fv = .func (.func n) #[zp_ B.g 0] #[] ∧ Tri Tryz.prog n #[zp_ B.g 0, f.val] ((Ha ++ (Hu ++ (Ho ++ (Hi ++ (Hr ++ Hm))))) ++ Hs) [gF B E, pF B pm A0, E.ef] (fun _ : {H' : Hp // E.St (rl E.stp E.kof pm x f j (nw, fm)).1 (rl E.stp E.kof pm x f j (nw, fm)).2 H'} => .tuple #[]) (fun y => (Ha ++ (Hu ++ (Ho ++ (Hi ++ (Hr ++ Hm))))) ++ y.1) (fun _ => [])
  | 0, _, h => ⟨106, (Option.some.inj h).symm, rl20_c B E A0 pm x f nw fm Hs hS Ha Hu Ho Hi Hr Hm hI hpl hxl hyl hf hq hk⟩
  | 1, _, h => ⟨107, (Option.some.inj h).symm, rl21_c B E A0 pm x f nw fm Hs hS Ha Hu Ho Hi Hr Hm hI hpl hxl hyl hf hq hk⟩
  | 2, _, h => ⟨108, (Option.some.inj h).symm, rl22_c B E A0 pm x f nw fm Hs hS Ha Hu Ho Hi Hr Hm hI hpl hxl hyl hf hq hk⟩
  | 3, _, h => ⟨109, (Option.some.inj h).symm, rl23_c B E A0 pm x f nw fm Hs hS Ha Hu Ho Hi Hr Hm hI hpl hxl hyl hf hq hk⟩
  | j + 4, _, h => by simp [rlV] at h
theorem oo_ (B : EngB) (E : Emt Tryz.prog 41) (A0 : EngA) (pm : List (Ky × Pc)) (x : Ix) (f : Fc) (nw fm : List Fc) (Hs : Hp) (hS : E.St nw fm Hs) (Ha Hu Ho Hi Hr Hm : Hp) (hI : IxO 9 41 B x ⟨Ha, Hu, Ho, Hi, Hr, Hm⟩) (hpl : ∀ k, (lat pm k).length ≤ 1000000000) (hxl : ∀ k, (lat x.above k).length ≤ 1000000000 ∧ (lat x.under k).length ≤ 1000000000) (hyl : ∀ k, (lat x.frm k).length ≤ 1000000000 ∧ (lat x.into k).length ≤ 1000000000 ∧ (lat x.ranges k).length ≤ 1000000000 ∧ (lat x.firms k).length ≤ 1000000000) (hf : f.kind = 3 → -1099511627776 ≤ f.lo ∧ f.lo ≤ f.hi ∧ f.hi ≤ 1099511627776) (hq : f.kind = 3 → ∀ y ∈ lat pm (Ky.mk 9 (Fc.r f) []), -1099511627776 ≤ y.lo ∧ y.lo ≤ y.hi ∧ y.hi ≤ 1099511627776) (hk : f.kind = 3) : ∀ (j : Nat) {fv : Value}, (rlV B.g 3)[j]? = some fv → ∃ n : Nat, fv = .func (.func n) #[zp_ B.g 0] #[] ∧ Tri Tryz.prog n #[zp_ B.g 0, f.val] ((Ha ++ (Hu ++ (Ho ++ (Hi ++ (Hr ++ Hm))))) ++ Hs) [gF B E, pF B pm A0, E.ef] (fun _ : {H' : Hp // E.St (rl E.stp E.kof pm x f j (nw, fm)).1 (rl E.stp E.kof pm x f j (nw, fm)).2 H'} => .tuple #[]) (fun y => (Ha ++ (Hu ++ (Ho ++ (Hi ++ (Hr ++ Hm))))) ++ y.1) (fun _ => [])
  | 0, _, h => ⟨110, (Option.some.inj h).symm, rl30_c B E A0 pm x f nw fm Hs hS Ha Hu Ho Hi Hr Hm hI hpl hxl hyl hf hq hk⟩
  | 1, _, h => ⟨111, (Option.some.inj h).symm, rl31_c B E A0 pm x f nw fm Hs hS Ha Hu Ho Hi Hr Hm hI hpl hxl hyl hf hq hk⟩
  | j + 2, _, h => by simp [rlV] at h
def eP_ (p : List Pc) (bu : Int) (c : Cl) (e : Int) : Prop :=
  if bX_ p ≠ 0 then c = Cl.no ∧ e = bX_ p
  else if bu < 0 ∨ 1073741824 < bu then c = Cl.no ∧ e = 1
  else (e = 0 ∧ c.ok ∧ c.atoms = atS p ∧ ev_ p (atS p) (min bu 65536).toNat (some c.facts)) ∨ (c = Cl.no ∧ e = (if bu < 65536 then 3 else 2) ∧ ev_ p (atS p) (min bu 65536).toNat none)
theorem rs_ {p : List Pc} {bu : Int} (h : bX_ p ≠ 0) : eP_ p bu Cl.no (bX_ p) := by unfold eP_; rw [if_pos h]; exact ⟨rfl, rfl⟩
theorem ns_ {p : List Pc} {bu : Int} (h : bX_ p = 0) (hb : bu < 0 ∨ 1073741824 < bu) : eP_ p bu Cl.no 1 := by unfold eP_; rw [if_neg (by simp [h]), if_pos hb]; exact ⟨rfl, rfl⟩
theorem sE_ {p : List Pc} {bu : Int} {m n : Nat} {c : Cl} {q fm : List Fc} {x : Ix} (hc : bX_ p = 0) (h1 : ¬ bu < 0) (h2 : ¬ 1073741824 < bu) (hm : min bu 65536 = (m : Int)) (hk : c.ok) (ha : c.atoms = atS p) (hL : LoopA (uniq [] p) (atS p) m n q fm x) (hn : q.length ≤ n) (hl : q.length ≤ m) (hf : c.facts = fv_ q) : eP_ p bu c 0 := by
  unfold eP_
  rw [if_neg (by simp [hc]), if_neg (by omega)]
  have e : n = q.length := Nat.le_antisymm hL.le hn
  subst e
  refine .inl ⟨rfl, hk, ha, ?_⟩
  rw [hm, hf]
  exact ⟨hY_ hL.nd, fun y => by rw [hZ_, ← nI_ hL hl, mj_], by rw [fO_]; simpa using hl⟩
theorem em_ {p : List Pc} {bu : Int} {m : Nat} {e : Int} {M : List Fc} (hc : bX_ p = 0) (h1 : ¬ bu < 0) (h2 : ¬ 1073741824 < bu) (hm : min bu 65536 = (m : Int)) (he : e = if bu < 65536 then 3 else 2) (nd : M.Nodup) (hd : ∀ y ∈ M, Der (uniq [] p) (atS p) y) (hl : m < M.length) : eP_ p bu Cl.no e := by
  unfold eP_
  rw [if_neg (by simp [hc]), if_neg (by omega)]
  exact .inr ⟨rfl, he, M, nd, fun y hy => mj_.1 (hd y hy), by rw [hm]; simpa using hl⟩
end Go.Proofs.YtpdbbglpbngeiaaGreatDoor
