/-
  Part of the proof of the law NormalChains over this seat: the small logic, the data, the contracts of functions (no condition).
-/
import Derived.Test.YtoafjmalfclpoaaGreatDoorQNormalChains7
import Derived.Test.YtoafjmalfclpoaaGreatDoorQNormalChains3
import Derived.Test.YtoafjmalfclpoaaGreatDoorProg
import Derived.Test.YtoafjmalfclpoaaGreatDoorQNormalChains6
set_option linter.unusedVariables false
set_option linter.unusedSimpArgs false
set_option linter.unusedSectionVars false
namespace Go.Proofs.YtoafjmalfclpoaaGreatDoor
open Go Go.Sx Go.Proofs
attribute [local irreducible] Code.wp wpList wpAnyH
open Go.Vs
theorem da_ {g : FuncId} (used : Bool) (s : Str) (q : Str → Bool) (hT : Fn0 Tryz.prog g #[str s] (.bool (q s))) : Fn0 Tryz.prog 71 #[.bool used, str s, .func (.func g) #[] #[]] (.bool (cd_ used s q)) := by
  refine M_ Tryz.func71 rfl rfl Tryz.ntmps71 rfl fun v0 => ?_
  refine f_ (b_ (a_ (e_ rfl) rfl (d_ (c_ rfl (f_ (b_ (a_ (g_ rfl) rfl (a_ (g_ rfl) rfl ?_))))))))
  cases used
  · skip
    refine q_ rfl rfl rfl rfl (q_ rfl rfl rfl rfl (q_ rfl rfl rfl rfl (a_ (F_ rfl rfl) rfl (a_ (g_ rfl) rfl (n_ rfl rfl (a_ (g_ rfl) rfl (n_ rfl rfl (a_ (bf_ rfl) rfl (n_ rfl rfl ?_)))))))))
    refine a_ (g_ rfl) rfl (n_ rfl rfl (a_ (g_ rfl) rfl (n_ rfl rfl (v_ (aV_ rfl rfl) rfl fun r1 hr1 => ?_))))
    refine n_ rfl rfl (a_ (K_ rfl rfl) rfl (a_ (F_ rfl rfl) rfl (a_ (e_ rfl) rfl (d_ (c_ rfl (B_ ?_))))))
    exact aj_ Tryz.results71 () (y_ rfl (by unfold cd_; subst_vars; rw [Bool.eq_iff_iff]; simp_all)) (.refl _) (fun _ _ _ => trivial)
  · skip
    refine n_ rfl rfl (a_ (g_ rfl) rfl (n_ rfl rfl (a_ (g_ rfl) rfl (n_ rfl rfl (bJ_ (hT) rfl rfl S_ (fun _ _ _ => by exact trivial) rfl fun r2 hr2 => ?_)))))
    refine a_ (K_ rfl rfl) rfl (a_ (g_ rfl) rfl ?_)
    cases r2
    · skip
      refine n_ rfl rfl (a_ (g_ rfl) rfl (n_ rfl rfl (a_ (bf_ rfl) rfl (n_ rfl rfl (a_ (g_ rfl) rfl (q_ rfl rfl rfl rfl (q_ rfl rfl rfl rfl (n_ rfl rfl (a_ (F_ rfl rfl) rfl ?_)))))))))
      refine a_ (F_ rfl rfl) rfl (a_ (e_ rfl) rfl (d_ (c_ rfl (B_ ?_))))
      exact aj_ Tryz.results71 () (y_ rfl (by unfold cd_; subst_vars; rw [Bool.eq_iff_iff]; simp_all)) (.refl _) (fun _ _ _ => trivial)
    · skip
      refine q_ rfl rfl rfl rfl (q_ rfl rfl rfl rfl (q_ rfl rfl rfl rfl (q_ rfl rfl rfl rfl (q_ rfl rfl rfl rfl (q_ rfl rfl rfl rfl (a_ (K_ rfl rfl) rfl (a_ (e_ rfl) rfl (d_ (c_ rfl ?_)))))))))
      refine B_ ?_
      exact aj_ Tryz.results71 () (y_ rfl (by unfold cd_; subst_vars; rw [Bool.eq_iff_iff]; simp_all)) (.refl _) (fun _ _ _ => trivial)
theorem kf_ (p : Pc) (hp : p.sm) : Tri Tryz.prog 41 #[Pc.val p] [] [tabN] (fun _ : Unit => .bool p.valid) (fun _ => []) (fun _ => []) := by
 refine M_ Tryz.func41 rfl rfl Tryz.ntmps41 rfl fun v0 => ?_
 obtain ⟨ha, hb, hc, hr, hs, ht⟩ := hp
 refine f_ (b_ (aI_ rfl rfl fun b1 => ?_))
 refine a_ (e_ rfl) rfl (d_ (c_ rfl (f_ (f_ (b_ (a_ (m_ V_ rfl rfl rfl L_) rfl (a_ (t_ 0 O_ rfl rfl rfl) rfl (v_ (aN_ rfl rfl) rfl fun r1 hr1 => ?_))))))))
 refine a_ (g_ rfl) rfl ?_
 refine ay_ 4 ((decide ((Pc.kind p) < 1)) || (decide (9 < (Pc.kind p)))) (fun r => [(1, zp_ b1 0), (2, .bool false), (13, .bool r)]) ?_ fun r2 hr2 => ?_
 ·
  cases r1
  ·
   have qr2 := hr1
   replace hr1 := of_decide_eq_false hr1
   refine n_ rfl rfl (a_ (m_ V_ rfl rfl rfl L_) rfl (n_ rfl rfl (a_ (t_ 0 O_ rfl rfl rfl) rfl (n_ rfl rfl (v_ (ce_ rfl rfl) rfl fun r3 hr3 => ?_)))))
   refine a_ (F_ rfl rfl) rfl (d_ (o_ rfl ?_))
   exact met ⟨rfl, rfl, (y_ rfl (jof qr2 hr3)), trivial⟩
  ·
   have qr2 := hr1
   replace hr1 := of_decide_eq_true hr1
   refine q_ rfl rfl rfl rfl (q_ rfl rfl rfl rfl (q_ rfl rfl rfl rfl (a_ (K_ rfl rfl) rfl (d_ (o_ rfl ?_)))))
   exact met ⟨rfl, rfl, (y_ rfl (jot qr2)), trivial⟩
 ·
  refine a_ (g_ rfl) rfl ?_
  refine ay_ 4 ((((decide ((Pc.kind p) < 1)) || (decide (9 < (Pc.kind p))))) || (decide ((Pc.frm p) < (-1)))) (fun r => [(1, zp_ b1 0), (2, .bool false), (18, .bool r)]) ?_ fun r4 hr4 => ?_
  ·
   cases r2
   ·
    have qr4 := hr2
    simp at hr2
    refine n_ rfl rfl (a_ (m_ V_ rfl rfl rfl L_) rfl (n_ rfl rfl (a_ (t_ 0 O_ rfl rfl rfl) rfl (n_ rfl rfl (v_ (aN_ rfl rfl) rfl fun r5 hr5 => ?_)))))
    refine a_ (F_ rfl rfl) rfl (d_ (o_ rfl ?_))
    exact met ⟨rfl, rfl, (y_ rfl (jof qr4 hr5)), trivial⟩
   ·
    have qr4 := hr2
    simp at hr2
    refine q_ rfl rfl rfl rfl (q_ rfl rfl rfl rfl (q_ rfl rfl rfl rfl (a_ (K_ rfl rfl) rfl (d_ (o_ rfl ?_)))))
    exact met ⟨rfl, rfl, (y_ rfl (jot qr4)), trivial⟩
  ·
   refine a_ (g_ rfl) rfl ?_
   refine ay_ 4 ((((((decide ((Pc.kind p) < 1)) || (decide (9 < (Pc.kind p))))) || (decide ((Pc.frm p) < (-1))))) || (decide (1024 ≤ (Pc.frm p)))) (fun r => [(1, zp_ b1 0), (2, .bool false), (23, .bool r)]) ?_ fun r6 hr6 => ?_
   ·
    cases r4
    ·
     have qr6 := hr4
     simp at hr4
     refine n_ rfl rfl (a_ (m_ V_ rfl rfl rfl L_) rfl (n_ rfl rfl (a_ (t_ 0 O_ rfl rfl rfl) rfl (n_ rfl rfl (v_ (dm_ rfl rfl) rfl fun r7 hr7 => ?_)))))
     refine a_ (F_ rfl rfl) rfl (d_ (o_ rfl ?_))
     exact met ⟨rfl, rfl, (y_ rfl (jof qr6 hr7)), trivial⟩
    ·
     have qr6 := hr4
     simp at hr4
     refine q_ rfl rfl rfl rfl (q_ rfl rfl rfl rfl (q_ rfl rfl rfl rfl (a_ (K_ rfl rfl) rfl (d_ (o_ rfl ?_)))))
     exact met ⟨rfl, rfl, (y_ rfl (jot qr6)), trivial⟩
   ·
    refine d_ (c_ rfl ?_)
    cases r6
    ·
     simp at hr6
     obtain ⟨u, hx⟩ : ∃ u, js_[p.kind.toNat]? = some u := ⟨_, List.getElem?_eq_getElem (show p.kind.toNat < 10 by omega)⟩
     have hus : nus p.kind = u := by simp [nus, hx]
     obtain ⟨ua, ub, uc, ur, us, ut, un⟩ := u
     refine r_ rfl (D_ (c_ rfl (f_ (b_ (a_ (m_ V_ rfl rfl rfl L_) rfl (a_ (t_ 0 O_ rfl rfl rfl) rfl (a_ (dt_ Tryz.runUnderlying112 Tryz.sizeOf111 rfl rfl (by show (0 : Int) ≤ (Pc.kind p); omega) (by show (Pc.kind p) < (10 : Int); omega)) rfl (a_ (aH_ (ad := some ⟨1, 0, none⟩) (us := NUse.cells ⟨ua, ub, uc, ur, us, ut, un⟩) Tryz.isAgg111 Tryz.sizeOf111 rfl (fun v _ h => h.1) (NUse.cells_len _) (ao_ NUse.cells_len hx)) rfl (an_ Tryz.zeroValue111 rfl fun b2 => ?_)))))))))
     refine ah_ 0 Tryz.sizeOf111 rfl rfl rfl rfl rfl rfl (d_ (c_ rfl (f_ (b_ (a_ (e_ rfl) rfl (d_ (c_ rfl (f_ (b_ ?_)))))))))
     refine a_ (e_ rfl) rfl (d_ (c_ rfl (f_ (f_ (b_ (a_ (m_ aX_ rfl rfl rfl au_) rfl (a_ (t_ 0 aK_ rfl rfl rfl) rfl (d_ (c_ rfl ?_)))))))))
     cases un
     ·
      refine r_ rfl (f_ (b_ (a_ (m_ V_ rfl rfl rfl L_) rfl (a_ (t_ 1 O_ rfl rfl rfl) rfl (v_ (bO_ rfl rfl) rfl fun r8 hr8 => ?_)))))
      refine a_ (g_ rfl) rfl ?_
      refine ay_ 4 (((Pc.lo p) != 0) || ((Pc.hi p) != 0)) (fun r => [(1, zp_ b1 0), (2, .bool false), (3, zp_ b2 0), (4, .func (.func 71) #[] #[]), (5, .func (.func 72) #[] #[]), (52, .bool r)]) ?_ fun r9 hr9 => ?_
      ·
       cases r8
       ·
        have qr9 := hr8
        replace hr8 := bA_ hr8
        refine n_ rfl rfl (a_ (m_ V_ rfl rfl rfl L_) rfl (n_ rfl rfl (a_ (t_ 1 O_ rfl rfl rfl) rfl (n_ rfl rfl (v_ (bO_ rfl rfl) rfl fun r10 hr10 => ?_)))))
        refine a_ (F_ rfl rfl) rfl (d_ (o_ rfl ?_))
        exact met ⟨rfl, rfl, rfl, rfl, rfl, (y_ rfl (jof qr9 hr10)), trivial⟩
       ·
        have qr9 := hr8
        replace hr8 := bz_ hr8
        refine q_ rfl rfl rfl rfl (q_ rfl rfl rfl rfl (q_ rfl rfl rfl rfl (a_ (K_ rfl rfl) rfl (d_ (o_ rfl ?_)))))
        exact met ⟨rfl, rfl, rfl, rfl, rfl, (y_ rfl (jot qr9)), trivial⟩
      ·
       refine d_ (c_ rfl ?_)
       cases r9
       ·
        simp at hr9
        refine r_ rfl (D_ (c_ rfl (f_ (b_ (a_ (g_ rfl) rfl (a_ (m_ aX_ rfl rfl rfl au_) rfl (a_ (t_ 0 aK_ rfl rfl rfl) rfl (a_ (m_ V_ rfl rfl rfl z_) rfl (a_ (t_ 1 E_ rfl rfl rfl) rfl ?_)))))))))
        refine bJ_ (da_ ua (Pc.a p) bo_ (es_ _ (by omega))) rfl rfl S_ (fun _ _ _ => by exact trivial) rfl fun r11 hr11 => ?_
        refine a_ (g_ rfl) rfl ?_
        refine ay_ 7 ((cd_ ua (Pc.a p) bo_) && (cd_ ub (Pc.b p) bo_)) (fun r => [(1, zp_ b1 0), (2, .bool false), (3, zp_ b2 0), (4, .func (.func 71) #[] #[]), (5, .func (.func 72) #[] #[]), (66, .bool r)]) ?_ fun r12 hr12 => ?_
        ·
         cases r11
         ·
          have qr12 := hr11
          refine q_ rfl rfl rfl rfl (q_ rfl rfl rfl rfl (q_ rfl rfl rfl rfl (q_ rfl rfl rfl rfl (q_ rfl rfl rfl rfl (q_ rfl rfl rfl rfl (a_ (F_ rfl rfl) rfl (d_ (o_ rfl ?_))))))))
          exact met ⟨rfl, rfl, rfl, rfl, rfl, (y_ rfl (jaf qr12)), trivial⟩
         ·
          have qr12 := hr11
          refine n_ rfl rfl (a_ (g_ rfl) rfl (n_ rfl rfl (a_ (m_ aX_ rfl rfl rfl au_) rfl (n_ rfl rfl (a_ (t_ 0 aK_ rfl rfl rfl) rfl (n_ rfl rfl (a_ (m_ V_ rfl rfl rfl z_) rfl (n_ rfl rfl (a_ (t_ 1 E_ rfl rfl rfl) rfl ?_)))))))))
          refine n_ rfl rfl (bJ_ (da_ ub (Pc.b p) bo_ (es_ _ (by omega))) rfl rfl S_ (fun _ _ _ => by exact trivial) rfl fun r13 hr13 => ?_)
          refine a_ (K_ rfl rfl) rfl (d_ (o_ rfl ?_))
          exact met ⟨rfl, rfl, rfl, rfl, rfl, (y_ rfl (jat qr12 hr13)), trivial⟩
        ·
         refine a_ (g_ rfl) rfl ?_
         refine ay_ 7 ((((cd_ ua (Pc.a p) bo_) && (cd_ ub (Pc.b p) bo_))) && (cd_ uc (Pc.c p) bo_)) (fun r => [(1, zp_ b1 0), (2, .bool false), (3, zp_ b2 0), (4, .func (.func 71) #[] #[]), (5, .func (.func 72) #[] #[]), (74, .bool r)]) ?_ fun r14 hr14 => ?_
         ·
          cases r12
          ·
           have qr14 := hr12
           simp at hr12
           refine q_ rfl rfl rfl rfl (q_ rfl rfl rfl rfl (q_ rfl rfl rfl rfl (q_ rfl rfl rfl rfl (q_ rfl rfl rfl rfl (q_ rfl rfl rfl rfl (a_ (F_ rfl rfl) rfl (d_ (o_ rfl ?_))))))))
           exact met ⟨rfl, rfl, rfl, rfl, rfl, (y_ rfl (jaf qr14)), trivial⟩
          ·
           have qr14 := hr12
           simp at hr12
           refine n_ rfl rfl (a_ (g_ rfl) rfl (n_ rfl rfl (a_ (m_ aX_ rfl rfl rfl au_) rfl (n_ rfl rfl (a_ (t_ 0 aK_ rfl rfl rfl) rfl (n_ rfl rfl (a_ (m_ V_ rfl rfl rfl z_) rfl (n_ rfl rfl (a_ (t_ 1 E_ rfl rfl rfl) rfl ?_)))))))))
           refine n_ rfl rfl (bJ_ (da_ uc (Pc.c p) bo_ (es_ _ (by omega))) rfl rfl S_ (fun _ _ _ => by exact trivial) rfl fun r15 hr15 => ?_)
           refine a_ (K_ rfl rfl) rfl (d_ (o_ rfl ?_))
           exact met ⟨rfl, rfl, rfl, rfl, rfl, (y_ rfl (jat qr14 hr15)), trivial⟩
         ·
          refine a_ (g_ rfl) rfl ?_
          refine ay_ 8 ((((((cd_ ua (Pc.a p) bo_) && (cd_ ub (Pc.b p) bo_))) && (cd_ uc (Pc.c p) bo_))) && (cd_ ur (Pc.r p) df_)) (fun r => [(1, zp_ b1 0), (2, .bool false), (3, zp_ b2 0), (4, .func (.func 71) #[] #[]), (83, .bool r)]) ?_ fun r16 hr16 => ?_
          ·
           cases r14
           ·
            have qr16 := hr14
            simp at hr14
            refine q_ rfl rfl rfl rfl (q_ rfl rfl rfl rfl (q_ rfl rfl rfl rfl (q_ rfl rfl rfl rfl (q_ rfl rfl rfl rfl (q_ rfl rfl rfl rfl (q_ rfl rfl rfl rfl (a_ (F_ rfl rfl) rfl (d_ (o_ rfl ?_)))))))))
            exact met ⟨rfl, rfl, rfl, rfl, (y_ rfl (jaf qr16)), trivial⟩
           ·
            have qr16 := hr14
            simp at hr14
            refine n_ rfl rfl (a_ (g_ rfl) rfl (n_ rfl rfl (a_ (m_ aX_ rfl rfl rfl au_) rfl (n_ rfl rfl (a_ (t_ 0 aK_ rfl rfl rfl) rfl (n_ rfl rfl (a_ (m_ V_ rfl rfl rfl z_) rfl (n_ rfl rfl (a_ (t_ 1 E_ rfl rfl rfl) rfl ?_)))))))))
            refine n_ rfl rfl (a_ (g_ rfl) rfl (n_ rfl rfl (bJ_ (da_ ur (Pc.r p) df_ (eT_ _ (by omega))) rfl rfl S_ (fun _ _ _ => by exact trivial) rfl fun r17 hr17 => ?_)))
            refine a_ (K_ rfl rfl) rfl (d_ (o_ rfl ?_))
            exact met ⟨rfl, rfl, rfl, rfl, (y_ rfl (jat qr16 hr17)), trivial⟩
          ·
           refine a_ (g_ rfl) rfl ?_
           refine ay_ 7 ((((((((cd_ ua (Pc.a p) bo_) && (cd_ ub (Pc.b p) bo_))) && (cd_ uc (Pc.c p) bo_))) && (cd_ ur (Pc.r p) df_))) && (cd_ us (Pc.s p) df_)) (fun r => [(1, zp_ b1 0), (2, .bool false), (3, zp_ b2 0), (4, .func (.func 71) #[] #[]), (91, .bool r)]) ?_ fun r18 hr18 => ?_
           ·
            cases r16
            ·
             have qr18 := hr16
             simp at hr16
             refine q_ rfl rfl rfl rfl (q_ rfl rfl rfl rfl (q_ rfl rfl rfl rfl (q_ rfl rfl rfl rfl (q_ rfl rfl rfl rfl (q_ rfl rfl rfl rfl (a_ (F_ rfl rfl) rfl (d_ (o_ rfl ?_))))))))
             exact met ⟨rfl, rfl, rfl, rfl, (y_ rfl (jaf qr18)), trivial⟩
            ·
             have qr18 := hr16
             simp at hr16
             refine n_ rfl rfl (a_ (g_ rfl) rfl (n_ rfl rfl (a_ (m_ aX_ rfl rfl rfl au_) rfl (n_ rfl rfl (a_ (t_ 0 aK_ rfl rfl rfl) rfl (n_ rfl rfl (a_ (m_ V_ rfl rfl rfl z_) rfl (n_ rfl rfl (a_ (t_ 1 E_ rfl rfl rfl) rfl ?_)))))))))
             refine n_ rfl rfl (bJ_ (da_ us (Pc.s p) df_ (eT_ _ (by omega))) rfl rfl S_ (fun _ _ _ => by exact trivial) rfl fun r19 hr19 => ?_)
             refine a_ (K_ rfl rfl) rfl (d_ (o_ rfl ?_))
             exact met ⟨rfl, rfl, rfl, rfl, (y_ rfl (jat qr18 hr19)), trivial⟩
           ·
            refine a_ (g_ rfl) rfl ?_
            refine ay_ 7 ((((((((((cd_ ua (Pc.a p) bo_) && (cd_ ub (Pc.b p) bo_))) && (cd_ uc (Pc.c p) bo_))) && (cd_ ur (Pc.r p) df_))) && (cd_ us (Pc.s p) df_))) && (cd_ ut (Pc.t p) df_)) (fun r => [(2, .bool false), (99, .bool r)]) ?_ fun r20 hr20 => ?_
            ·
             cases r18
             ·
              have qr20 := hr18
              simp at hr18
              refine q_ rfl rfl rfl rfl (q_ rfl rfl rfl rfl (q_ rfl rfl rfl rfl (q_ rfl rfl rfl rfl (q_ rfl rfl rfl rfl (q_ rfl rfl rfl rfl (a_ (F_ rfl rfl) rfl (d_ (o_ rfl ?_))))))))
              exact met ⟨rfl, (y_ rfl (jaf qr20)), trivial⟩
             ·
              have qr20 := hr18
              simp at hr18
              refine n_ rfl rfl (a_ (g_ rfl) rfl (n_ rfl rfl (a_ (m_ aX_ rfl rfl rfl au_) rfl (n_ rfl rfl (a_ (t_ 0 aK_ rfl rfl rfl) rfl (n_ rfl rfl (a_ (m_ V_ rfl rfl rfl z_) rfl (n_ rfl rfl (a_ (t_ 1 E_ rfl rfl rfl) rfl ?_)))))))))
              refine n_ rfl rfl (bJ_ (da_ ut (Pc.t p) df_ (eT_ _ (by omega))) rfl rfl S_ (fun _ _ _ => by exact trivial) rfl fun r21 hr21 => ?_)
              refine a_ (K_ rfl rfl) rfl (d_ (o_ rfl ?_))
              exact met ⟨rfl, (y_ rfl (jat qr20 hr21)), trivial⟩
            ·
             refine a_ (e_ rfl) rfl (d_ (c_ rfl (B_ ?_)))
             exact aj_ kK_ () (y_ rfl (by unfold Pc.valid; rw [if_neg (by omega)]; simp only [hus]; rw [if_neg (by simp <;> omega), if_neg (by simp <;> omega)]; exact hr20.symm)) (.refl _) (fun _ _ _ => trivial)
       ·
        simp at hr9
        refine p_ rfl (f_ (b_ (a_ (e_ rfl) rfl (d_ (c_ rfl (B_ ?_))))))
        exact aj_ kK_ () (y_ rfl (by unfold Pc.valid; rw [if_neg (by omega)]; simp only [hus]; first | (rw [if_pos (by first | (simp; omega) | omega)]) | (rw [if_neg (by simp), if_pos (by simp; omega)]))) (.refl _) (fun _ _ _ => trivial)
     ·
      refine p_ rfl (f_ (b_ (a_ (e_ rfl) rfl (d_ (c_ rfl (f_ (b_ (a_ (m_ V_ rfl rfl rfl L_) rfl (a_ (t_ 1 O_ rfl rfl rfl) rfl ?_)))))))))
      refine v_ (aN_ rfl rfl) rfl fun r22 hr22 => ?_
      refine a_ (g_ rfl) rfl ?_
      refine ay_ 6 ((decide ((Pc.lo p) < (-1099511627776))) || (decide ((Pc.hi p) < (Pc.lo p)))) (fun r => [(1, zp_ b1 0), (2, .bool false), (3, zp_ b2 0), (4, .func (.func 71) #[] #[]), (5, .func (.func 73) #[] #[]), (39, .bool r)]) ?_ fun r23 hr23 => ?_
      ·
       cases r22
       ·
        have qr23 := hr22
        replace hr22 := of_decide_eq_false hr22
        refine n_ rfl rfl (a_ (m_ V_ rfl rfl rfl L_) rfl (n_ rfl rfl (a_ (t_ 1 O_ rfl rfl rfl) rfl (n_ rfl rfl (a_ (m_ V_ rfl rfl rfl L_) rfl (n_ rfl rfl (a_ (t_ 1 O_ rfl rfl rfl) rfl (n_ rfl rfl (v_ (ce_ rfl rfl) rfl fun r24 hr24 => ?_)))))))))
        refine a_ (F_ rfl rfl) rfl (d_ (o_ rfl ?_))
        exact met ⟨rfl, rfl, rfl, rfl, rfl, (y_ rfl (jof qr23 hr24)), trivial⟩
       ·
        have qr23 := hr22
        replace hr22 := of_decide_eq_true hr22
        refine q_ rfl rfl rfl rfl (q_ rfl rfl rfl rfl (q_ rfl rfl rfl rfl (q_ rfl rfl rfl rfl (q_ rfl rfl rfl rfl (a_ (K_ rfl rfl) rfl (d_ (o_ rfl ?_)))))))
        exact met ⟨rfl, rfl, rfl, rfl, rfl, (y_ rfl (jot qr23)), trivial⟩
      ·
       refine a_ (g_ rfl) rfl ?_
       refine ay_ 4 ((((decide ((Pc.lo p) < (-1099511627776))) || (decide ((Pc.hi p) < (Pc.lo p))))) || (decide (1099511627776 < (Pc.hi p)))) (fun r => [(1, zp_ b1 0), (2, .bool false), (3, zp_ b2 0), (4, .func (.func 71) #[] #[]), (5, .func (.func 73) #[] #[]), (44, .bool r)]) ?_ fun r25 hr25 => ?_
       ·
        cases r23
        ·
         have qr25 := hr23
         simp at hr23
         refine n_ rfl rfl (a_ (m_ V_ rfl rfl rfl L_) rfl (n_ rfl rfl (a_ (t_ 1 O_ rfl rfl rfl) rfl (n_ rfl rfl (v_ (ce_ rfl rfl) rfl fun r26 hr26 => ?_)))))
         refine a_ (F_ rfl rfl) rfl (d_ (o_ rfl ?_))
         exact met ⟨rfl, rfl, rfl, rfl, rfl, (y_ rfl (jof qr25 hr26)), trivial⟩
        ·
         have qr25 := hr23
         simp at hr23
         refine q_ rfl rfl rfl rfl (q_ rfl rfl rfl rfl (q_ rfl rfl rfl rfl (a_ (K_ rfl rfl) rfl (d_ (o_ rfl ?_)))))
         exact met ⟨rfl, rfl, rfl, rfl, rfl, (y_ rfl (jot qr25)), trivial⟩
       ·
        refine d_ (c_ rfl ?_)
        cases r25
        ·
         simp at hr25
         refine r_ rfl (D_ (c_ rfl (f_ (b_ (a_ (g_ rfl) rfl (a_ (m_ aX_ rfl rfl rfl au_) rfl (a_ (t_ 0 aK_ rfl rfl rfl) rfl (a_ (m_ V_ rfl rfl rfl z_) rfl (a_ (t_ 1 E_ rfl rfl rfl) rfl ?_)))))))))
         refine bJ_ (da_ ua (Pc.a p) bo_ (es_ _ (by omega))) rfl rfl S_ (fun _ _ _ => by exact trivial) rfl fun r27 hr27 => ?_
         refine a_ (g_ rfl) rfl ?_
         refine ay_ 7 ((cd_ ua (Pc.a p) bo_) && (cd_ ub (Pc.b p) bo_)) (fun r => [(1, zp_ b1 0), (2, .bool false), (3, zp_ b2 0), (4, .func (.func 71) #[] #[]), (5, .func (.func 73) #[] #[]), (66, .bool r)]) ?_ fun r28 hr28 => ?_
         ·
          cases r27
          ·
           have qr28 := hr27
           refine q_ rfl rfl rfl rfl (q_ rfl rfl rfl rfl (q_ rfl rfl rfl rfl (q_ rfl rfl rfl rfl (q_ rfl rfl rfl rfl (q_ rfl rfl rfl rfl (a_ (F_ rfl rfl) rfl (d_ (o_ rfl ?_))))))))
           exact met ⟨rfl, rfl, rfl, rfl, rfl, (y_ rfl (jaf qr28)), trivial⟩
          ·
           have qr28 := hr27
           refine n_ rfl rfl (a_ (g_ rfl) rfl (n_ rfl rfl (a_ (m_ aX_ rfl rfl rfl au_) rfl (n_ rfl rfl (a_ (t_ 0 aK_ rfl rfl rfl) rfl (n_ rfl rfl (a_ (m_ V_ rfl rfl rfl z_) rfl (n_ rfl rfl (a_ (t_ 1 E_ rfl rfl rfl) rfl ?_)))))))))
           refine n_ rfl rfl (bJ_ (da_ ub (Pc.b p) bo_ (es_ _ (by omega))) rfl rfl S_ (fun _ _ _ => by exact trivial) rfl fun r29 hr29 => ?_)
           refine a_ (K_ rfl rfl) rfl (d_ (o_ rfl ?_))
           exact met ⟨rfl, rfl, rfl, rfl, rfl, (y_ rfl (jat qr28 hr29)), trivial⟩
         ·
          refine a_ (g_ rfl) rfl ?_
          refine ay_ 7 ((((cd_ ua (Pc.a p) bo_) && (cd_ ub (Pc.b p) bo_))) && (cd_ uc (Pc.c p) bo_)) (fun r => [(1, zp_ b1 0), (2, .bool false), (3, zp_ b2 0), (4, .func (.func 71) #[] #[]), (5, .func (.func 73) #[] #[]), (74, .bool r)]) ?_ fun r30 hr30 => ?_
          ·
           cases r28
           ·
            have qr30 := hr28
            simp at hr28
            refine q_ rfl rfl rfl rfl (q_ rfl rfl rfl rfl (q_ rfl rfl rfl rfl (q_ rfl rfl rfl rfl (q_ rfl rfl rfl rfl (q_ rfl rfl rfl rfl (a_ (F_ rfl rfl) rfl (d_ (o_ rfl ?_))))))))
            exact met ⟨rfl, rfl, rfl, rfl, rfl, (y_ rfl (jaf qr30)), trivial⟩
           ·
            have qr30 := hr28
            simp at hr28
            refine n_ rfl rfl (a_ (g_ rfl) rfl (n_ rfl rfl (a_ (m_ aX_ rfl rfl rfl au_) rfl (n_ rfl rfl (a_ (t_ 0 aK_ rfl rfl rfl) rfl (n_ rfl rfl (a_ (m_ V_ rfl rfl rfl z_) rfl (n_ rfl rfl (a_ (t_ 1 E_ rfl rfl rfl) rfl ?_)))))))))
            refine n_ rfl rfl (bJ_ (da_ uc (Pc.c p) bo_ (es_ _ (by omega))) rfl rfl S_ (fun _ _ _ => by exact trivial) rfl fun r31 hr31 => ?_)
            refine a_ (K_ rfl rfl) rfl (d_ (o_ rfl ?_))
            exact met ⟨rfl, rfl, rfl, rfl, rfl, (y_ rfl (jat qr30 hr31)), trivial⟩
          ·
           refine a_ (g_ rfl) rfl ?_
           refine ay_ 8 ((((((cd_ ua (Pc.a p) bo_) && (cd_ ub (Pc.b p) bo_))) && (cd_ uc (Pc.c p) bo_))) && (cd_ ur (Pc.r p) bb_)) (fun r => [(1, zp_ b1 0), (2, .bool false), (3, zp_ b2 0), (4, .func (.func 71) #[] #[]), (83, .bool r)]) ?_ fun r32 hr32 => ?_
           ·
            cases r30
            ·
             have qr32 := hr30
             simp at hr30
             refine q_ rfl rfl rfl rfl (q_ rfl rfl rfl rfl (q_ rfl rfl rfl rfl (q_ rfl rfl rfl rfl (q_ rfl rfl rfl rfl (q_ rfl rfl rfl rfl (q_ rfl rfl rfl rfl (a_ (F_ rfl rfl) rfl (d_ (o_ rfl ?_)))))))))
             exact met ⟨rfl, rfl, rfl, rfl, (y_ rfl (jaf qr32)), trivial⟩
            ·
             have qr32 := hr30
             simp at hr30
             refine n_ rfl rfl (a_ (g_ rfl) rfl (n_ rfl rfl (a_ (m_ aX_ rfl rfl rfl au_) rfl (n_ rfl rfl (a_ (t_ 0 aK_ rfl rfl rfl) rfl (n_ rfl rfl (a_ (m_ V_ rfl rfl rfl z_) rfl (n_ rfl rfl (a_ (t_ 1 E_ rfl rfl rfl) rfl ?_)))))))))
             refine n_ rfl rfl (a_ (g_ rfl) rfl (n_ rfl rfl (bJ_ (da_ ur (Pc.r p) bb_ (cY_ _ (by omega))) rfl rfl S_ (fun _ _ _ => by exact trivial) rfl fun r33 hr33 => ?_)))
             refine a_ (K_ rfl rfl) rfl (d_ (o_ rfl ?_))
             exact met ⟨rfl, rfl, rfl, rfl, (y_ rfl (jat qr32 hr33)), trivial⟩
           ·
            refine a_ (g_ rfl) rfl ?_
            refine ay_ 7 ((((((((cd_ ua (Pc.a p) bo_) && (cd_ ub (Pc.b p) bo_))) && (cd_ uc (Pc.c p) bo_))) && (cd_ ur (Pc.r p) bb_))) && (cd_ us (Pc.s p) df_)) (fun r => [(1, zp_ b1 0), (2, .bool false), (3, zp_ b2 0), (4, .func (.func 71) #[] #[]), (91, .bool r)]) ?_ fun r34 hr34 => ?_
            ·
             cases r32
             ·
              have qr34 := hr32
              simp at hr32
              refine q_ rfl rfl rfl rfl (q_ rfl rfl rfl rfl (q_ rfl rfl rfl rfl (q_ rfl rfl rfl rfl (q_ rfl rfl rfl rfl (q_ rfl rfl rfl rfl (a_ (F_ rfl rfl) rfl (d_ (o_ rfl ?_))))))))
              exact met ⟨rfl, rfl, rfl, rfl, (y_ rfl (jaf qr34)), trivial⟩
             ·
              have qr34 := hr32
              simp at hr32
              refine n_ rfl rfl (a_ (g_ rfl) rfl (n_ rfl rfl (a_ (m_ aX_ rfl rfl rfl au_) rfl (n_ rfl rfl (a_ (t_ 0 aK_ rfl rfl rfl) rfl (n_ rfl rfl (a_ (m_ V_ rfl rfl rfl z_) rfl (n_ rfl rfl (a_ (t_ 1 E_ rfl rfl rfl) rfl ?_)))))))))
              refine n_ rfl rfl (bJ_ (da_ us (Pc.s p) df_ (eT_ _ (by omega))) rfl rfl S_ (fun _ _ _ => by exact trivial) rfl fun r35 hr35 => ?_)
              refine a_ (K_ rfl rfl) rfl (d_ (o_ rfl ?_))
              exact met ⟨rfl, rfl, rfl, rfl, (y_ rfl (jat qr34 hr35)), trivial⟩
            ·
             refine a_ (g_ rfl) rfl ?_
             refine ay_ 7 ((((((((((cd_ ua (Pc.a p) bo_) && (cd_ ub (Pc.b p) bo_))) && (cd_ uc (Pc.c p) bo_))) && (cd_ ur (Pc.r p) bb_))) && (cd_ us (Pc.s p) df_))) && (cd_ ut (Pc.t p) df_)) (fun r => [(2, .bool false), (99, .bool r)]) ?_ fun r36 hr36 => ?_
             ·
              cases r34
              ·
               have qr36 := hr34
               simp at hr34
               refine q_ rfl rfl rfl rfl (q_ rfl rfl rfl rfl (q_ rfl rfl rfl rfl (q_ rfl rfl rfl rfl (q_ rfl rfl rfl rfl (q_ rfl rfl rfl rfl (a_ (F_ rfl rfl) rfl (d_ (o_ rfl ?_))))))))
               exact met ⟨rfl, (y_ rfl (jaf qr36)), trivial⟩
              ·
               have qr36 := hr34
               simp at hr34
               refine n_ rfl rfl (a_ (g_ rfl) rfl (n_ rfl rfl (a_ (m_ aX_ rfl rfl rfl au_) rfl (n_ rfl rfl (a_ (t_ 0 aK_ rfl rfl rfl) rfl (n_ rfl rfl (a_ (m_ V_ rfl rfl rfl z_) rfl (n_ rfl rfl (a_ (t_ 1 E_ rfl rfl rfl) rfl ?_)))))))))
               refine n_ rfl rfl (bJ_ (da_ ut (Pc.t p) df_ (eT_ _ (by omega))) rfl rfl S_ (fun _ _ _ => by exact trivial) rfl fun r37 hr37 => ?_)
               refine a_ (K_ rfl rfl) rfl (d_ (o_ rfl ?_))
               exact met ⟨rfl, (y_ rfl (jat qr36 hr37)), trivial⟩
             ·
              refine a_ (e_ rfl) rfl (d_ (c_ rfl (B_ ?_)))
              exact aj_ kK_ () (y_ rfl (by unfold Pc.valid; rw [if_neg (by omega)]; simp only [hus]; rw [if_neg (by simp <;> omega), if_neg (by simp <;> omega)]; exact hr36.symm)) (.refl _) (fun _ _ _ => trivial)
        ·
         simp at hr25
         refine p_ rfl (f_ (b_ (a_ (e_ rfl) rfl (d_ (c_ rfl (B_ ?_))))))
         exact aj_ kK_ () (y_ rfl (by unfold Pc.valid; rw [if_neg (by omega)]; simp only [hus]; first | (rw [if_pos (by first | (simp; omega) | omega)]) | (rw [if_neg (by simp), if_pos (by simp; omega)]))) (.refl _) (fun _ _ _ => trivial)
    ·
     simp at hr6
     refine p_ rfl (f_ (b_ (a_ (e_ rfl) rfl (d_ (c_ rfl (B_ ?_))))))
     exact aj_ kK_ () (y_ rfl (by unfold Pc.valid; rw [if_pos (by omega)])) (.refl _) (fun _ _ _ => trivial)
theorem lK_ (l : List Pc) (ad : Option Addr) (cap : Nat) (hl : l.length ≤ 17592186044414) (hsm : ∀ p ∈ l, p.sm) : Tri Tryz.prog 13 #[.slice ad (List.length l) cap] [] [bQ_ ad (List.flatMap Pc.cells l), tabN] (fun _ : Unit => .int .i64 (gS_ l)) (fun _ => []) (fun _ => []) := by
  refine M_ Tryz.func13 rfl rfl Tryz.ntmps13 rfl fun v0 => ?_
  refine f_ (b_ (a_ (e_ rfl) rfl (d_ (c_ rfl (f_ (f_ (b_ (a_ (g_ rfl) rfl (a_ (ar_ I_ rfl) rfl ?_)))))))))
  refine v_ (ce_ rfl rfl) rfl fun r1 hr1 => ?_
  refine d_ (c_ rfl ?_)
  cases r1
  · skip
    replace hr1 := of_decide_eq_false hr1
    refine r_ rfl (D_ (c_ rfl (f_ (f_ (b_ (a_ (g_ rfl) rfl (a_ (ar_ I_ rfl) rfl (a_ (g_ rfl) rfl (d_ ?_)))))))))
    refine c_ rfl (T_ (bs_ [(8, .slice ad (List.length l) cap), (9, .int .i64 (List.length l : Int)), (10, .int .i64 ((0 : Nat) : Int))] ⟨rfl, rfl, rfl, trivial⟩ ?_))
    refine bE_ (ι := {q : Nat // q ≤ l.length ∧ (l.take q).all Pc.valid = true}) (fun i => [(8, .slice ad (List.length l) cap), (9, .int .i64 (List.length l : Int)), (10, .int .i64 (i.1 : Int))]) (fun _ => _) (fun _ => _) (fun i => l.length - i.1) ⟨0, by simp⟩ ?_
    rintro ⟨i, hk⟩
    refine bs_ [(8, .slice ad (List.length l) cap), (9, .int .i64 (List.length l : Int)), (10, .int .i64 (i : Int))] ⟨rfl, rfl, rfl, trivial⟩ ?_
    refine f_ (b_ (v_ (aN_ rfl rfl) rfl fun r2 hr2 => ?_))
    refine d_ (c_ rfl (f_ ?_))
    cases r2
    · skip
      replace hr2 := of_decide_eq_false hr2
      refine r_ rfl (aU_ rfl (c_ rfl (f_ (b_ (a_ (e_ rfl) rfl (d_ (c_ rfl (B_ ?_))))))))
      exact aj_ Tryz.results13 () (az_ rfl (by unfold gS_; rw [if_neg (by omega), if_pos (by have := hk.2; rwa [List.take_of_length_le (by omega)] at this)])) (.refl _) (fun _ _ _ => trivial)
    · skip
      replace hr2 := of_decide_eq_true hr2
      have hlx1 : i < List.length l := by omega
      obtain ⟨x1, hx1⟩ : ∃ e0, l[i]? = some e0 := ⟨_, List.getElem?_eq_getElem hlx1⟩
      have hmx1 : x1 ∈ l := List.mem_of_getElem? hx1
      refine p_ rfl (D_ (c_ rfl (f_ (T_ (f_ (b_ (a_ (am_ I_ U_ rfl rfl (fun v _ h => aS_ (n := 10) Pc.cells_len (by decide) (by exact h.1) hx1) (by omega) (by first | omega | (simp; done))) rfl (a_ (aH_ (ad := ad) (us := Pc.cells x1) dZ_ U_ rfl (fun v _ h => by exact h.1) (Pc.cells_len _) (ao_ Pc.cells_len hx1)) rfl (an_ af_ rfl fun b1 => ?_)))))))))
      refine ah_ 0 U_ rfl rfl rfl rfl rfl rfl (d_ (c_ rfl (f_ (b_ (a_ (G_ 0 dZ_ U_ rfl rfl rfl) rfl (al_ (kf_ x1 (hsm x1 hmx1)) rfl S_ (fun v _ h => by exact ⟨h.2.1, trivial⟩) rfl fun r3 hr3 => ?_))))))
      refine a_ (bf_ rfl) rfl (d_ (c_ rfl ?_))
      cases r3
      · skip
        refine p_ rfl (f_ (b_ (a_ (e_ rfl) rfl (d_ (c_ rfl (B_ ?_))))))
        exact aj_ Tryz.results13 () (az_ rfl (by unfold gS_; rw [if_neg (by omega), if_neg (by rw [show l.all Pc.valid = false from List.all_eq_false.2 ⟨x1, hmx1, by simp [*]⟩]; simp)])) (.refl _) (fun _ _ _ => trivial)
      · skip
        refine r_ rfl (D_ (c_ rfl (b_ (a_ (R_ rfl rfl rfl (aq_ (by omega) (by omega))) rfl (a_ (g_ rfl) rfl (d_ (o_ rfl ?_)))))))
        exact av_ ⟨i + 1, hlx1, by rw [List.take_add_one, hx1]; simp only [Option.toList_some, List.all_append, hk.2]; simp [*]⟩ (by simp; omega) ⟨rfl, rfl, rfl, trivial⟩ (@List.perm_append_comm _ [_] _) (fun _ _ h => h)
  · skip
    replace hr1 := of_decide_eq_true hr1
    refine p_ rfl (f_ (b_ (a_ (e_ rfl) rfl (d_ (c_ rfl (B_ ?_))))))
    exact aj_ Tryz.results13 () (az_ rfl (by unfold gS_; rw [if_pos (by omega)])) (.refl _) (fun _ _ _ => trivial)
theorem same_c (l m : List Pc) (ad ae : Option Addr) (cap cpe : Nat) (hl : l.length ≤ 17592186044414) (hm : m.length ≤ 17592186044414) : Tri Tryz.prog 15 #[.slice ad (List.length l) cap, .slice ae (List.length m) cpe] [] [bQ_ ad (List.flatMap Pc.cells l), bQ_ ae (List.flatMap Pc.cells m)] (fun _ : Unit => .bool (decide (l = m))) (fun _ => []) (fun _ => []) := by
 refine M_ Tryz.func15 rfl rfl Tryz.ntmps15 rfl fun v0 => ?_
 refine f_ (b_ (a_ (e_ rfl) rfl (d_ (c_ rfl (f_ (f_ (b_ (a_ (g_ rfl) rfl (a_ (ar_ I_ rfl) rfl ?_)))))))))
 refine a_ (g_ rfl) rfl (a_ (ar_ I_ rfl) rfl (v_ (bO_ rfl rfl) rfl fun r1 hr1 => ?_))
 refine d_ (c_ rfl ?_)
 cases r1
 ·
  replace hr1 := bA_ hr1
  refine r_ rfl (D_ (c_ rfl (f_ (f_ (b_ (a_ (e_ rfl) rfl (d_ (c_ rfl (T_ ?_)))))))))
  refine bs_ [(0, .slice ad (List.length l) cap), (1, .slice ae (List.length m) cpe), (5, .int .i64 ((0 : Nat) : Int))] ⟨rfl, rfl, rfl, trivial⟩ ?_
  refine bE_ (ι := {q : Nat // q ≤ l.length ∧ l.take q = m.take q}) (fun i => [(0, .slice ad (List.length l) cap), (1, .slice ae (List.length m) cpe), (5, .int .i64 (i.1 : Int))]) (fun _ => _) (fun _ => _) (fun i => l.length - i.1) ⟨0, by simp⟩ ?_
  rintro ⟨i, hk⟩
  refine bs_ [(0, .slice ad (List.length l) cap), (1, .slice ae (List.length m) cpe), (5, .int .i64 (i : Int))] ⟨rfl, rfl, rfl, trivial⟩ ?_
  refine f_ (f_ (b_ (a_ (g_ rfl) rfl (a_ (g_ rfl) rfl (a_ (ar_ I_ rfl) rfl (v_ (aN_ rfl rfl) rfl fun r2 hr2 => ?_))))))
  refine d_ (c_ rfl ?_)
  cases r2
  ·
   replace hr2 := of_decide_eq_false hr2
   refine r_ rfl (aU_ rfl (c_ rfl (f_ (b_ (a_ (e_ rfl) rfl (d_ (c_ rfl (B_ ?_))))))))
   exact aj_ Tryz.results15 () (y_ rfl (by symm; apply decide_eq_true; have h2 := hk.2; rwa [List.take_of_length_le (by omega), List.take_of_length_le (by omega)] at h2)) (.refl _) (fun _ _ _ => trivial)
  ·
   replace hr2 := of_decide_eq_true hr2
   have hlx1 : i < List.length l := by omega
   obtain ⟨x1, hx1⟩ : ∃ e0, l[i]? = some e0 := ⟨_, List.getElem?_eq_getElem hlx1⟩
   have hmx1 : x1 ∈ l := List.mem_of_getElem? hx1
   have hlx2 : i < List.length m := by omega
   obtain ⟨x2, hx2⟩ : ∃ e0, m[i]? = some e0 := ⟨_, List.getElem?_eq_getElem hlx2⟩
   have hmx2 : x2 ∈ m := List.mem_of_getElem? hx2
   refine p_ rfl (D_ (c_ rfl (f_ (T_ (f_ ?_)))))
   refine br_ (by kernel_rfl) ?_
   refine ab_ 0 [0, 1, 2, 3, 4, 5, 6, 7, 8] (by kernel_rfl) (fun _ a b => ⟨satNil a, b⟩) (s_ rfl (g_ rfl) rfl (s_ rfl (g_ rfl) rfl (s_ rfl (am_ I_ U_ rfl rfl (fun v _ h => aS_ (n := 10) Pc.cells_len (by decide) (by exact h.1) hx1) (by omega) (by first | omega | (simp; done))) rfl (s_ rfl (aH_ (ad := ad) (us := Pc.cells x1) dZ_ U_ rfl (fun v _ h => by exact h.1) (Pc.cells_len _) (ao_ Pc.cells_len hx1)) rfl (s_ rfl (g_ rfl) rfl (s_ rfl (g_ rfl) rfl (s_ rfl (am_ I_ U_ rfl rfl (fun v _ h => aS_ (n := 10) Pc.cells_len (by decide) (by exact h.2.1) hx2) (by omega) (by first | omega | (simp; done))) rfl (s_ rfl (aH_ (ad := ae) (us := Pc.cells x2) dZ_ U_ rfl (fun v _ h => by exact h.2.1) (Pc.cells_len _) (ao_ Pc.cells_len hx2)) rfl ?_))))))))
   refine gg_ rfl (jF_ (p := x1) (q := x2) rfl rfl) rfl fun r3 hr3 => ?_
   refine aa_ (ad_ (by kernel_rfl) (c_ rfl ?_))
   cases r3
   ·
    replace hr3 := of_decide_eq_false hr3
    have hxe : x1 = x2 := by simpa using hr3
    refine r_ rfl (D_ (c_ rfl (b_ (a_ (g_ rfl) rfl (a_ (R_ rfl rfl rfl (aq_ (by omega) (by omega))) rfl (a_ (e_ rfl) rfl (d_ (o_ rfl ?_))))))))
    exact av_ ⟨i + 1, hlx1, by rw [List.take_add_one, hx1, List.take_add_one, hx2, hk.2, hxe]⟩ (by simp; omega) ⟨rfl, rfl, rfl, trivial⟩ (.refl _) (fun _ _ h => h)
   ·
    replace hr3 := of_decide_eq_true hr3
    refine p_ rfl (f_ (b_ (a_ (e_ rfl) rfl (d_ (c_ rfl (B_ ?_))))))
    exact aj_ Tryz.results15 () (y_ rfl (by symm; apply decide_eq_false; intro e; subst e; rw [hx1] at hx2; simp_all)) (.refl _) (fun _ _ _ => trivial)
 ·
  replace hr1 := bz_ hr1
  refine p_ rfl (f_ (b_ (a_ (e_ rfl) rfl (d_ (c_ rfl (B_ ?_))))))
  exact aj_ Tryz.results15 () (y_ rfl (by symm; apply decide_eq_false; intro e; subst e; omega)) (.refl _) (fun _ _ _ => trivial)
end Go.Proofs.YtoafjmalfclpoaaGreatDoor
namespace Go.Proofs.YtoafjmalfclpoaaGreatDoor
open Go Go.Sx Go.Proofs
attribute [local irreducible] Code.wp wpList wpAnyH
open Go.Vs
theorem lJ_ : ∀ (m : Nat) (c : Con), c.sz ≤ m → c.ok → ∀ (d most : Int), 0 ≤ d ∧ d ≤ 40 → 0 ≤ most ∧ most ≤ 1000 → Tri Tryz.prog 58 #[Con.val c, .int .i64 d, .int .i64 most] [] [Con.memF c] (fun r : {r : Int // 1 ≤ r ∧ r ≤ most + 4398046511104} => .int .i64 r.1) (fun _ => []) (fun _ => []) := by
 intro m
 induction m with
 | zero => intro c h; have := c.sz_pos; omega
 | succ m ih =>
  intro c hm hok d most hd hmost
  have hnl := Con.ok_name hok
  have hpl := Con.ok_len hok
  refine M_ Tryz.func58 rfl rfl Tryz.ntmps58 rfl fun v0 => ?_
  refine f_ (b_ (aI_ rfl rfl fun b1 => ?_))
  refine a_ (e_ rfl) rfl (d_ (c_ rfl (f_ (f_ (b_ (a_ (g_ rfl) rfl (v_ (cy_ rfl rfl) rfl fun r1 hr1 => ?_)))))))
  refine d_ (c_ rfl ?_)
  cases r1
  ·
   replace hr1 := of_decide_eq_false hr1
   refine r_ rfl (D_ (c_ rfl (f_ (b_ (a_ (m_ C_ rfl rfl rfl z_) rfl (a_ (t_ 0 E_ rfl rfl rfl) rfl (a_ (cz_ ag_ rfl) rfl (a_ (bB_ (lp_ (n := 40) rfl rfl (by decide) (aq_ (r := ((List.length (Con.name c) / 40 : Nat) : Int)) (by omega) (by omega))) (show _ = Value.int .i64 ((List.length (Con.name c) / 40 : Nat) : Int) from rfl)) rfl (a_ (R_ rfl rfl rfl (aq_ (by omega) (by omega))) rfl ?_)))))))))
   refine a_ (e_ rfl) rfl (d_ (c_ rfl (f_ (f_ (b_ (a_ (e_ rfl) rfl (d_ (c_ rfl (T_ ?_)))))))))
   refine bs_ [(1, .int .i64 d), (2, .int .i64 most), (3, zp_ b1 0), (7, .int .i64 (1 + ((List.length (Con.name c) / 40 : Nat) : Int))), (8, .int .i64 ((0 : Nat) : Int))] ⟨rfl, rfl, rfl, rfl, rfl, trivial⟩ ?_
   refine bE_ (ι := {x : Nat × Int // x.1 ≤ c.parts.length ∧ 1 ≤ x.2 ∧ x.2 ≤ most + 4398046511104}) (fun x => [(1, .int .i64 d), (2, .int .i64 most), (3, zp_ b1 0), (7, .int .i64 x.1.2), (8, .int .i64 (x.1.1 : Int))]) (fun _ => _) (fun _ => _) (fun x => c.parts.length - x.1.1) ⟨(0, 1 + ((List.length (Con.name c) / 40 : Nat) : Int)), by simp, by dsimp only; omega, by dsimp only; omega⟩ ?_
   rintro ⟨⟨i, n⟩, hk⟩
   dsimp only at hk
   refine bs_ [(1, .int .i64 d), (2, .int .i64 most), (3, zp_ b1 0), (7, .int .i64 n), (8, .int .i64 (i : Int))] ⟨rfl, rfl, rfl, rfl, rfl, trivial⟩ ?_
   refine f_ (f_ (b_ (a_ (g_ rfl) rfl (a_ (m_ C_ rfl rfl rfl bc_) rfl (a_ (t_ 0 bt_ rfl rfl rfl) rfl (a_ (ar_ P_ rfl) rfl (v_ (aN_ rfl rfl) rfl fun r2 hr2 => ?_)))))))
   refine a_ (g_ rfl) rfl ?_
   refine ay_ 4 ((decide ((i : Int) < (List.length (Con.parts c) : Int))) && (decide (n ≤ most))) (fun r => [(1, .int .i64 d), (2, .int .i64 most), (3, zp_ b1 0), (7, .int .i64 n), (8, .int .i64 (i : Int)), (27, .bool r)]) ?_ fun r3 hr3 => ?_
   ·
    cases r2
    ·
     have qr3 := hr2
     replace hr2 := of_decide_eq_false hr2
     refine q_ rfl rfl rfl rfl (q_ rfl rfl rfl rfl (q_ rfl rfl rfl rfl (a_ (F_ rfl rfl) rfl (d_ (o_ rfl ?_)))))
     exact met ⟨rfl, rfl, rfl, rfl, rfl, (y_ rfl (jaf qr3)), trivial⟩
    ·
     have qr3 := hr2
     replace hr2 := of_decide_eq_true hr2
     refine n_ rfl rfl (a_ (g_ rfl) rfl (n_ rfl rfl (a_ (g_ rfl) rfl (n_ rfl rfl (v_ (cy_ rfl rfl) rfl fun r4 hr4 => ?_)))))
     refine a_ (K_ rfl rfl) rfl (d_ (o_ rfl ?_))
     exact met ⟨rfl, rfl, rfl, rfl, rfl, (y_ rfl (jat qr3 hr4)), trivial⟩
   ·
    refine d_ (c_ rfl ?_)
    cases r3
    ·
     simp at hr3
     refine r_ rfl (aU_ rfl (c_ rfl (f_ (b_ (a_ (g_ rfl) rfl (a_ (e_ rfl) rfl (d_ (c_ rfl (B_ ?_)))))))))
     exact aj_ Tryz.results58 ⟨n, by omega, by omega⟩ rfl (@List.perm_append_comm _ [_] _) (fun _ _ _ => trivial)
    ·
     simp at hr3
     skip
     have hlx1 : i < List.length (Con.parts c) := by omega
     obtain ⟨x1, hx1⟩ : ∃ e0, (Con.parts c)[i]? = some e0 := ⟨_, List.getElem?_eq_getElem hlx1⟩
     have hmx1 : x1 ∈ (Con.parts c) := List.mem_of_getElem? hx1
     refine p_ rfl (D_ (c_ rfl (f_ (T_ (b_ (a_ (g_ rfl) rfl (a_ (m_ C_ rfl rfl rfl bc_) rfl (a_ (t_ 0 bt_ rfl rfl rfl) rfl (a_ (g_ rfl) rfl ?_)))))))))
     refine a_ (am_ P_ k_ rfl rfl (fun v _ h => aS_ (n := 5) Con.cells_len (by decide) (by exact ((Con.mem_iff c v).1 h.1).1) hx1) (by omega) (by first | omega | (simp; done))) rfl (a_ (aH_ (ad := (Con.ad c)) (us := Con.cells x1) x_ k_ rfl (fun v _ h => by exact ((Con.mem_iff c v).1 h.1).1) (Con.cells_len _) (ao_ Con.cells_len hx1)) rfl (a_ (g_ rfl) rfl (a_ (R_ rfl rfl rfl (aq_ (by omega) (by omega))) rfl (a_ (g_ rfl) rfl (a_ (g_ rfl) rfl (a_ (R_ rfl rfl rfl (aq_ (by omega) (by omega))) rfl (A_ (ih x1 (by have := Con.sz_part hmx1; omega) (Con.ok_part hok hmx1) (d - 1) (most - n) ⟨by omega, by omega⟩ ⟨by omega, by omega⟩) rfl S_ (fun v _ h => by exact ⟨(Con.mem_part (c := c) h.1 hmx1), trivial⟩) rfl fun ⟨r, hr1, hr2⟩ => ?_)))))))
     dsimp only
     refine a_ (R_ rfl rfl rfl (aq_ (by omega) (by omega))) rfl (a_ (e_ rfl) rfl (d_ (c_ rfl (b_ (a_ (g_ rfl) rfl (a_ (R_ rfl rfl rfl (aq_ (by omega) (by omega))) rfl (a_ (e_ rfl) rfl (d_ (o_ rfl ?_)))))))))
     exact av_ ⟨(i + 1, n + r), hlx1, by dsimp only; omega, by dsimp only; omega⟩ (by dsimp only; omega) ⟨rfl, rfl, rfl, rfl, rfl, trivial⟩ (.refl _) (fun _ _ h => h)
  ·
   replace hr1 := of_decide_eq_true hr1
   refine p_ rfl (f_ (b_ (a_ (g_ rfl) rfl (a_ (R_ rfl rfl rfl (aq_ (by omega) (by omega))) rfl (a_ (e_ rfl) rfl (d_ (c_ rfl (B_ ?_))))))))
   exact aj_ Tryz.results58 ⟨(most + 1), by omega, by omega⟩ rfl (@List.perm_append_comm _ [_] _) (fun _ _ _ => trivial)
theorem jy_ (c : Con) (hok : c.ok) : Tri Tryz.prog 22 #[Con.val c] [] [Con.memF c] (fun b : Bool => .bool b) (fun _ => []) (fun _ => []) := by
  refine M_ Tryz.func22 rfl rfl Tryz.ntmps22 rfl fun v0 => ?_
  refine f_ (b_ (aI_ rfl rfl fun b1 => ?_))
  refine a_ (e_ rfl) rfl (d_ (c_ rfl (f_ (b_ (a_ (G_ 0 x_ k_ rfl rfl rfl) rfl (A_ (lJ_ _ c (Nat.le_refl _) hok 40 150 ⟨by decide, by decide⟩ ⟨by decide, by decide⟩) rfl S_ (fun v _ h => by exact ⟨h.1, trivial⟩) rfl fun ⟨r, hr1, hr2⟩ => ?_))))))
  dsimp only
  refine v_ (cy_ rfl rfl) rfl fun r1 hr1 => ?_
  refine a_ (e_ rfl) rfl (d_ (c_ rfl (B_ ?_)))
  exact aj_ Tryz.results22 r1 rfl (@List.perm_append_comm _ [_] _) (fun _ _ _ => trivial)
theorem ji_ (x : Ax) (hok : x.ok) : Tri Tryz.prog 18 #[Ax.val x] [] [Ax.memF x] (fun b : Bool => .bool b) (fun _ => []) (fun _ => []) := by
 refine M_ Tryz.func18 rfl rfl Tryz.ntmps18 rfl fun v0 => ?_
 have h1 := hok.role
 have h2 := hok.a
 have h3 := hok.b
 have h4 := hok.len
 have h5 := hok.cap
 refine f_ (b_ (aI_ rfl rfl fun b1 => ?_))
 refine a_ (e_ rfl) rfl (d_ (c_ rfl (f_ (b_ (a_ (m_ l_ rfl rfl rfl z_) rfl (a_ (t_ 0 E_ rfl rfl rfl) rfl (a_ (cz_ ag_ rfl) rfl (a_ (m_ l_ rfl rfl rfl z_) rfl (a_ (t_ 0 E_ rfl rfl rfl) rfl ?_)))))))))
 refine a_ (cz_ ag_ rfl) rfl (a_ (R_ rfl rfl rfl (aq_ (by omega) (by omega))) rfl (a_ (m_ l_ rfl rfl rfl z_) rfl (a_ (t_ 0 E_ rfl rfl rfl) rfl (a_ (cz_ ag_ rfl) rfl (a_ (R_ rfl rfl rfl (aq_ (by omega) (by omega))) rfl (a_ (m_ l_ rfl rfl rfl bp_) rfl (a_ (t_ 0 bS_ rfl rfl rfl) rfl (a_ (ar_ J_ rfl) rfl (a_ (R_ rfl rfl rfl (aq_ (by omega) (by omega))) rfl ?_)))))))))
 refine a_ (R_ rfl rfl rfl (aq_ (by omega) (by omega))) rfl (a_ (e_ rfl) rfl (d_ (c_ rfl (f_ (f_ (b_ (a_ (e_ rfl) rfl (d_ (c_ rfl ?_)))))))))
 refine T_ (bs_ [(1, zp_ b1 0), (3, .int .i64 (((((Ax.role x).length : Int) + ((Ax.a x).length : Int)) + ((Ax.b x).length : Int)) + (10 * (List.length (Ax.roles x) : Int)))), (4, .int .i64 ((0 : Nat) : Int))] ⟨rfl, rfl, rfl, trivial⟩ ?_)
 refine bE_ (ι := {y : Nat × Int // y.1 ≤ x.roles.length ∧ y.1 ≤ 100 ∧ 0 ≤ y.2 ∧ y.2 ≤ 444444444444444444 + y.1 * 140737488351232}) (fun y => [(1, zp_ b1 0), (3, .int .i64 y.1.2), (4, .int .i64 (y.1.1 : Int))]) (fun _ => _) (fun _ => _) (fun y => x.roles.length - y.1.1) ⟨(0, (((((Ax.role x).length : Int) + ((Ax.a x).length : Int)) + ((Ax.b x).length : Int)) + (10 * (List.length (Ax.roles x) : Int)))), by simp, by simp, by dsimp only; omega, by dsimp only; omega⟩ ?_
 rintro ⟨⟨i, n⟩, hk⟩
 dsimp only at hk
 refine bs_ [(1, zp_ b1 0), (3, .int .i64 n), (4, .int .i64 (i : Int))] ⟨rfl, rfl, rfl, trivial⟩ ?_
 refine f_ (f_ (b_ (a_ (g_ rfl) rfl (a_ (m_ l_ rfl rfl rfl bp_) rfl (a_ (t_ 0 bS_ rfl rfl rfl) rfl (a_ (ar_ J_ rfl) rfl (v_ (aN_ rfl rfl) rfl fun r1 hr1 => ?_)))))))
 refine a_ (g_ rfl) rfl ?_
 cases r1
 ·
  replace hr1 := of_decide_eq_false hr1
  refine q_ rfl rfl rfl rfl (q_ rfl rfl rfl rfl (a_ (F_ rfl rfl) rfl (d_ (c_ rfl (r_ rfl (aU_ rfl (c_ rfl (f_ (b_ ?_)))))))))
  refine a_ (g_ rfl) rfl (v_ (cy_ rfl rfl) rfl fun r2 hr2 => ?_)
  refine a_ (g_ rfl) rfl ?_
  cases r2
  ·
   replace hr2 := of_decide_eq_false hr2
   refine q_ rfl rfl rfl rfl (q_ rfl rfl rfl rfl (q_ rfl rfl rfl rfl (a_ (F_ rfl rfl) rfl (a_ (g_ rfl) rfl (q_ rfl rfl rfl rfl (q_ rfl rfl rfl rfl (q_ rfl rfl rfl rfl (a_ (F_ rfl rfl) rfl (a_ (e_ rfl) rfl ?_)))))))))
   refine d_ (c_ rfl (B_ ?_))
   exact aj_ gw_ false rfl (@List.perm_append_comm _ [_] _) (fun _ _ _ => trivial)
  ·
   replace hr2 := of_decide_eq_true hr2
   refine n_ rfl rfl (a_ (m_ l_ rfl rfl rfl k_) rfl (n_ rfl rfl (a_ (G_ 0 x_ k_ rfl rfl rfl) rfl (n_ rfl rfl (A_ (jy_ (Ax.left x) hok.left) rfl S_ (fun v _ h => by exact ⟨h.1.1, trivial⟩) rfl fun f1 => ?_)))))
   refine a_ (K_ rfl rfl) rfl (a_ (g_ rfl) rfl ?_)
   cases f1
   ·
    refine q_ rfl rfl rfl rfl (q_ rfl rfl rfl rfl (q_ rfl rfl rfl rfl (a_ (F_ rfl rfl) rfl (a_ (e_ rfl) rfl (d_ (c_ rfl (B_ ?_)))))))
    exact aj_ gw_ false rfl (@List.perm_append_comm _ [_] _) (fun _ _ _ => trivial)
   ·
    refine n_ rfl rfl (a_ (m_ l_ rfl rfl rfl k_) rfl (n_ rfl rfl (a_ (G_ 0 x_ k_ rfl rfl rfl) rfl (n_ rfl rfl (A_ (jy_ (Ax.right x) hok.right) rfl S_ (fun v _ h => by exact ⟨h.1.2.1, trivial⟩) rfl fun f2 => ?_)))))
    refine a_ (K_ rfl rfl) rfl (a_ (e_ rfl) rfl (d_ (c_ rfl (B_ ?_))))
    exact aj_ gw_ f2 rfl (@List.perm_append_comm _ [_] _) (fun _ _ _ => trivial)
 ·
  replace hr1 := of_decide_eq_true hr1
  refine n_ rfl rfl (a_ (g_ rfl) rfl (n_ rfl rfl (v_ (aN_ rfl rfl) rfl fun r3 hr3 => ?_)))
  refine a_ (K_ rfl rfl) rfl (d_ (c_ rfl ?_))
  cases r3
  ·
   replace hr3 := of_decide_eq_false hr3
   refine r_ rfl (aU_ rfl (c_ rfl (f_ (b_ (a_ (g_ rfl) rfl (v_ (cy_ rfl rfl) rfl fun r4 hr4 => ?_))))))
   refine a_ (g_ rfl) rfl ?_
   cases r4
   ·
    replace hr4 := of_decide_eq_false hr4
    refine q_ rfl rfl rfl rfl (q_ rfl rfl rfl rfl (q_ rfl rfl rfl rfl (a_ (F_ rfl rfl) rfl (a_ (g_ rfl) rfl (q_ rfl rfl rfl rfl (q_ rfl rfl rfl rfl (q_ rfl rfl rfl rfl (a_ (F_ rfl rfl) rfl (a_ (e_ rfl) rfl ?_)))))))))
    refine d_ (c_ rfl (B_ ?_))
    exact aj_ gw_ false rfl (@List.perm_append_comm _ [_] _) (fun _ _ _ => trivial)
   ·
    replace hr4 := of_decide_eq_true hr4
    refine n_ rfl rfl (a_ (m_ l_ rfl rfl rfl k_) rfl (n_ rfl rfl (a_ (G_ 0 x_ k_ rfl rfl rfl) rfl (n_ rfl rfl (A_ (jy_ (Ax.left x) hok.left) rfl S_ (fun v _ h => by exact ⟨h.1.1, trivial⟩) rfl fun f3 => ?_)))))
    refine a_ (K_ rfl rfl) rfl (a_ (g_ rfl) rfl ?_)
    cases f3
    ·
     refine q_ rfl rfl rfl rfl (q_ rfl rfl rfl rfl (q_ rfl rfl rfl rfl (a_ (F_ rfl rfl) rfl (a_ (e_ rfl) rfl (d_ (c_ rfl (B_ ?_)))))))
     exact aj_ gw_ false rfl (@List.perm_append_comm _ [_] _) (fun _ _ _ => trivial)
    ·
     refine n_ rfl rfl (a_ (m_ l_ rfl rfl rfl k_) rfl (n_ rfl rfl (a_ (G_ 0 x_ k_ rfl rfl rfl) rfl (n_ rfl rfl (A_ (jy_ (Ax.right x) hok.right) rfl S_ (fun v _ h => by exact ⟨h.1.2.1, trivial⟩) rfl fun f4 => ?_)))))
     refine a_ (K_ rfl rfl) rfl (a_ (e_ rfl) rfl (d_ (c_ rfl (B_ ?_))))
     exact aj_ gw_ f4 rfl (@List.perm_append_comm _ [_] _) (fun _ _ _ => trivial)
  ·
   replace hr3 := of_decide_eq_true hr3
   have hlx1 : i < List.length (Ax.roles x) := by omega
   obtain ⟨x1, hx1⟩ : ∃ e0, (Ax.roles x)[i]? = some e0 := ⟨_, List.getElem?_eq_getElem hlx1⟩
   have hmx1 : x1 ∈ (Ax.roles x) := List.mem_of_getElem? hx1
   have hrl := hok.roles x1 hmx1
   refine p_ rfl (D_ (c_ rfl (f_ (T_ (b_ (a_ (g_ rfl) rfl (a_ (m_ l_ rfl rfl rfl bp_) rfl (a_ (t_ 0 bS_ rfl rfl rfl) rfl (a_ (g_ rfl) rfl ?_)))))))))
   refine a_ (am_ J_ z_ rfl rfl (fun v _ h => aS_ (n := 1) aM_ (by decide) (by exact h.1.2.2) hx1) (by omega) (by first | omega | (simp; done))) rfl (a_ (bw_ (ad := (Ax.ad x)) E_ rfl (fun v _ h => by exact h.1.2.2) (ao_ aM_ hx1 0 _ rfl)) rfl (a_ (cz_ ag_ rfl) rfl (a_ (R_ rfl rfl rfl (aq_ (by omega) (by omega))) rfl (a_ (e_ rfl) rfl (d_ (c_ rfl (b_ (a_ (g_ rfl) rfl (a_ (R_ rfl rfl rfl (aq_ (by omega) (by omega))) rfl ?_)))))))))
   refine a_ (e_ rfl) rfl (d_ (o_ rfl ?_))
   exact av_ ⟨(i + 1, n + (List.length x1 : Int)), hlx1, by dsimp only; omega, by dsimp only; omega, by dsimp only; omega⟩ (by dsimp only; omega) ⟨rfl, rfl, rfl, trivial⟩ (.refl _) (fun _ _ h => h)
end Go.Proofs.YtoafjmalfclpoaaGreatDoor
namespace Go.Proofs.YtoafjmalfclpoaaGreatDoor
open Go Go.Sx Go.Proofs
attribute [local irreducible] Code.wp wpList wpAnyH
open Go.Vs
theorem dN_ (xs : List Str) (ad : Option Addr) (cap : Nat) {kb : Nat} (frm : Int) (l : List Pc) (q : CS) (hq : CInv l q) (hxs : xs.length ≤ 1000) (hlen : l.length + xs.length ≤ 100000) :
    Tri Tryz.prog 50 #[zp_ kb 0, .slice ad (List.length xs) cap] (dD_ kb frm q) [bQ_ ad (List.flatMap cn_ xs)] (fun _ : {q' : CS // CInv (aZ_ frm xs l) q'} => .tuple #[]) (fun q' => dD_ kb frm q'.1) (fun _ => []) := by
  refine M_ Tryz.func50 rfl rfl Tryz.ntmps50 rfl fun v0 => ?_
  refine f_ (b_ (a_ (g_ rfl) rfl (a_ (ar_ J_ rfl) rfl (a_ (g_ rfl) rfl (d_ (c_ rfl (T_ (bs_ [(0, zp_ kb 0), (6, .slice ad (List.length xs) cap), (7, .int .i64 (List.length xs : Int)), (8, .int .i64 ((0 : Nat) : Int))] ⟨rfl, rfl, rfl, rfl, trivial⟩ ?_))))))))
  refine bE_ (ι := {y : Nat × CS // y.1 ≤ xs.length ∧ CInv (aZ_ frm (xs.take y.1) l) y.2}) (fun y => [(0, zp_ kb 0), (6, .slice ad (List.length xs) cap), (7, .int .i64 (List.length xs : Int)), (8, .int .i64 (y.1.1 : Int))]) (fun y => dD_ kb frm y.1.2) (fun _ => _) (fun y => xs.length - y.1.1) ⟨(0, q), by simp, hq⟩ ?_
  rintro ⟨⟨i, q0⟩, hk⟩
  dsimp only at hk
  dsimp only
  have hml := dj_ frm (xs.take i) l
  have hti : (xs.take i).length ≤ i := by simp; omega
  refine bs_ [(0, zp_ kb 0), (6, .slice ad (List.length xs) cap), (7, .int .i64 (List.length xs : Int)), (8, .int .i64 (i : Int))] ⟨rfl, rfl, rfl, rfl, trivial⟩ ?_
  refine f_ (b_ (v_ (aN_ rfl rfl) rfl fun r1 hr1 => ?_))
  refine d_ (c_ rfl (f_ ?_))
  cases r1
  · skip
    replace hr1 := of_decide_eq_false hr1
    refine r_ rfl (aU_ rfl (aL_ rfl ?_))
    exact dL_ Tryz.results50 ⟨q0, by have := hk.2; rwa [List.take_of_length_le (by omega)] at this⟩ rfl (F := []) aQ_ (fun _ _ _ => trivial)
  · skip
    replace hr1 := of_decide_eq_true hr1
    have hlx1 : i < List.length xs := by omega
    obtain ⟨x1, hx1⟩ : ∃ e0, xs[i]? = some e0 := ⟨_, List.getElem?_eq_getElem hlx1⟩
    have hmx1 : x1 ∈ xs := List.mem_of_getElem? hx1
    refine p_ rfl (D_ (c_ rfl (f_ (T_ (f_ (b_ (a_ (am_ J_ z_ rfl rfl (fun v _ h => aS_ (n := 1) aM_ (by decide) (by exact h.1) hx1) (by omega) (by first | omega | (simp; done))) rfl (a_ (bw_ (ad := ad) E_ rfl (fun v _ h => by exact h.1) (ao_ aM_ hx1 0 _ rfl)) rfl (a_ (e_ rfl) rfl ?_)))))))))
    refine d_ (c_ rfl (b_ (a_ (g_ rfl) rfl (a_ (g_ rfl) rfl (a_ (N_ by_ rfl rfl) rfl (X_ I_ U_ af_ rfl rfl rfl rfl rfl rfl fun b1 => ?_))))))
    refine A_ (cw_ (Pc.mk 1 x1 [] [42] [] [] [] 0 0 0) frm (aZ_ frm (xs.take i) l) q0 hk.2 (by omega)) rfl (j_ h_ (j_ h_ (j_ h_ aQ_))) (fun _ _ _ => by exact trivial) rfl fun ⟨q1, hq1⟩ => ?_
    dsimp only
    have hb1 := aY_ frm (aZ_ frm (xs.take i) l) (Pc.mk 1 x1 [] [42] [] [] [] 0 0 0)
    refine Y_ (List.Perm.symm aQ_) (d_ (c_ rfl (b_ (a_ (R_ rfl rfl rfl (aq_ (by omega) (by omega))) rfl (a_ (g_ rfl) rfl (d_ (o_ rfl ?_)))))))
    exact av_ ⟨(i + 1, q1), hlx1, by dsimp only; rw [jc_ frm hx1]; exact hq1⟩ (by dsimp only; omega) ⟨rfl, rfl, rfl, rfl, trivial⟩ (F := []) aQ_ (fun _ _ h => h)
theorem fc_ (a b : Str) : Fn0 Tryz.prog 49 #[str a, str b] (Fc.val ⟨1, a, b, [], 0, 0⟩) := by
  refine M_ Tryz.func49 rfl rfl Tryz.ntmps49 rfl fun v0 => ?_
  refine f_ (b_ (an_ cI_ rfl fun b1 => ?_))
  refine d_ (c_ rfl (f_ (b_ (a_ (g_ rfl) rfl (a_ (g_ rfl) rfl (a_ (N_ iQ_ rfl rfl) rfl (ah_ 0 cG_ rfl rfl rfl rfl rfl rfl (d_ (c_ rfl ?_)))))))))
  refine B_ ?_
  exact kI_ () (fun a v h1 h2 => en_ (us := Fc.cells ⟨1, _, _, [], 0, 0⟩) 0 Tryz.results49 Tryz.isAgg50 cG_ rfl rfl rfl a v h1 h2) (@List.perm_append_comm _ [_] _) (fun v _ h => trivial)
theorem eltF : Elt Tryz.prog 43 50 6 72 := hn_ Tryz.underlying43 (z := .agg (Fc.mk 0 [] [] [] 0 0).cells.toArray) (by kernel_rfl) rfl (by decide)
theorem goal_c (x : Ax) (hok : x.ok) : Tri Tryz.prog 19 #[Ax.val x] [] [Ax.memF x, bH_] (fun y : {y : Option Addr × Nat × Option Addr × Nat // x.goalP.1.length ≤ y.2.1 ∧ y.2.1 ≤ maxLen ∧ x.goalP.2.1.length ≤ y.2.2.2 ∧ y.2.2.2 ≤ maxLen} => .tuple #[.slice y.1.1 x.goalP.1.length y.1.2.1, .slice y.1.2.2.1 x.goalP.2.1.length y.1.2.2.2, .int .i64 x.goalP.2.2])
  (fun _ => []) (fun y => [bQ_ y.1.1 (x.goalP.1.flatMap Pc.cells), bQ_ y.1.2.2.1 (x.goalP.2.1.flatMap Fc.cells)]) := by
 refine M_ Tryz.func19 rfl rfl Tryz.ntmps19 rfl fun v0 => ?_
 have h1 := hok.role
 have h2 := hok.a
 have h3 := hok.b
 have h4 := Con.operandN_len hok.left
 have h5 := Con.operandN_len hok.right
 have h0 : ([] : List Pc).length = 0 := rfl
 refine f_ (b_ (aI_ rfl rfl fun b1 => ?_))
 refine a_ (e_ rfl) rfl (a_ (e_ rfl) rfl (a_ (e_ rfl) rfl (d_ (c_ rfl (f_ (f_ (b_ (a_ (G_ 0 bR_ ae_ rfl rfl rfl) rfl (A_ (dM_ x hok) rfl S_ (fun v _ h => by exact ⟨h.1, h.2.1, trivial⟩) rfl fun _ => ?_)))))))))
 refine a_ (e_ rfl) rfl (d_ (c_ rfl (f_ (b_ (a_ (g_ rfl) rfl (v_ (bO_ rfl rfl) rfl fun r1 hr1 => ?_))))))
 refine d_ (c_ rfl ?_)
 cases r1
 ·
  replace hr1 := bA_ hr1
  have G := Ax.good_of hr1
  refine r_ rfl (D_ (c_ rfl (f_ (b_ (A_ (eR_ (-1)) rfl S_ (fun _ _ _ => by exact trivial) rfl fun ⟨kb, bm0⟩ => ?_)))))
  dsimp only
  refine Y_ (@List.perm_append_comm _ _ [_]) (a_ (e_ rfl) rfl (d_ (c_ rfl (f_ (b_ (a_ (g_ rfl) rfl (A_ (jp_ kb) rfl S_ (fun _ _ _ => by exact trivial) rfl fun ⟨bk, bl, br⟩ => ?_)))))))
  dsimp only
  refine a_ (g_ rfl) rfl (a_ (aD_ rfl rfl) rfl (a_ (aD_ rfl rfl) rfl (a_ (e_ rfl) rfl (a_ (e_ rfl) rfl (d_ (c_ rfl (f_ (b_ (a_ (e_ rfl) rfl ?_)))))))))
  refine d_ (c_ rfl (f_ (f_ (b_ (a_ (m_ l_ rfl rfl rfl L_) rfl (a_ (t_ 0 O_ rfl rfl rfl) rfl (d_ (c_ rfl (T_ ?_)))))))))
  refine f_ (f_ (b_ (v_ (ai_ rfl rfl) rfl fun r2 hr2 => ?_)))
  refine a_ (e_ rfl) rfl (d_ (c_ rfl ?_))
  cases r2
  ·
   replace hr2 := ne_of_beq_false hr2
   refine r_ rfl (b_ (v_ (ai_ rfl rfl) rfl fun r3 hr3 => ?_))
   refine a_ (e_ rfl) rfl (d_ (c_ rfl ?_))
   cases r3
   ·
    replace hr3 := ne_of_beq_false hr3
    refine r_ rfl (f_ (b_ (v_ (ai_ rfl rfl) rfl fun r4 hr4 => ?_)))
    refine a_ (e_ rfl) rfl (d_ (c_ rfl ?_))
    cases r4
    ·
     replace hr4 := ne_of_beq_false hr4
     refine r_ rfl (f_ (b_ (v_ (ai_ rfl rfl) rfl fun r5 hr5 => ?_)))
     refine a_ (e_ rfl) rfl (d_ (c_ rfl ?_))
     cases r5
     ·
      replace hr5 := ne_of_beq_false hr5
      refine r_ rfl (f_ (b_ (v_ (ai_ rfl rfl) rfl fun r6 hr6 => ?_)))
      refine a_ (e_ rfl) rfl (d_ (c_ rfl ?_))
      cases r6
      ·
       replace hr6 := ne_of_beq_false hr6
       refine r_ rfl (f_ (b_ (v_ (ai_ rfl rfl) rfl fun r7 hr7 => ?_)))
       refine a_ (e_ rfl) rfl (d_ (c_ rfl ?_))
       cases r7
       ·
        replace hr7 := ne_of_beq_false hr7
        refine r_ rfl (f_ (b_ (a_ (e_ rfl) rfl (a_ (e_ rfl) rfl (a_ (e_ rfl) rfl (d_ (c_ rfl (B_ ?_))))))))
        have e : x.goalP = ([], [], 22) := by unfold Ax.goalP; rw [if_neg (by omega)]; repeat rw [if_neg (by omega)]
        have hy : x.goalP.1.length ≤ 0 ∧ 0 ≤ maxLen ∧ x.goalP.2.1.length ≤ 0 ∧ 0 ≤ maxLen := by rw [e]; simp
        have hz : Value.tuple #[.slice none 0 0, .slice none 0 0, .int .i64 22] = .tuple #[.slice none x.goalP.1.length 0, .slice none x.goalP.2.1.length 0, .int .i64 x.goalP.2.2] := by rw [e] <;> rfl
        have hw1 : x.goalP.1.flatMap Pc.cells = [] := by rw [e]; rfl
        have hw2 : x.goalP.2.1.flatMap Fc.cells = [] := by rw [e]; rfl
        exact fP_ do_ ⟨(none, 0, none, 0), hy⟩ rfl rfl rfl hz S_ (fun v _ h => ⟨.inl hw1, .inl hw2, trivial⟩)
       ·
        replace hr7 := eq_of_beq hr7
        refine p_ rfl (f_ ?_)
        refine aW_ ((b1, .cells #[.int .i64 (Ax.kind x), .bool (Ax.opn x), .int .i64 (Con.kind (Ax.left x)), str (Con.name (Ax.left x)), .int .i64 (Con.lo (Ax.left x)), .int .i64 (Con.hi (Ax.left x)), .slice (Con.ad (Ax.left x)) (List.length (Con.parts (Ax.left x))) (Con.cap (Ax.left x)), .int .i64 (Con.kind (Ax.right x)), str (Con.name (Ax.right x)), .int .i64 (Con.lo (Ax.right x)), .int .i64 (Con.hi (Ax.right x)), .slice (Con.ad (Ax.right x)) (List.length (Con.parts (Ax.right x))) (Con.cap (Ax.right x)), .slice (Ax.ad x) (List.length (Ax.roles x)) (Ax.cap x), str (Ax.role x), str (Ax.a x), str (Ax.b x)] 41 (0, 0)) :: []) (by kernel_rfl) ?_
        refine ab_ 4 [0, 1, 2, 4, 5] (by kernel_rfl) (fun _ a b => ⟨Vw.sat.sub (a.perm h_), b⟩) (s_ rfl (g_ rfl) rfl (s_ rfl (m_ l_ rfl rfl rfl z_) rfl (s_ rfl (t_ 0 E_ rfl rfl rfl) rfl (s_ rfl (m_ l_ rfl rfl rfl z_) rfl (s_ rfl (t_ 0 E_ rfl rfl rfl) rfl (aa_ (H_ 3 rfl (by kernel_rfl) (A_ (bU_ (Ax.a x) hok.a) rfl S_ (fun _ _ _ => by exact trivial) rfl fun _ => ?_))))))))
        refine d_ (o_ rfl (u_ (fun _ a b => ⟨Vw.sat.sub (a.perm h_), b⟩) (H_ 6 rfl (by kernel_rfl) (A_ (bU_ (Ax.b x) hok.b) rfl S_ (fun _ _ _ => by exact trivial) rfl fun _ => ?_))))
        refine d_ (o_ rfl (u_ (fun _ a b => ⟨Vw.sat.sub (a.perm h_), b⟩) (H_ 7 rfl (by kernel_rfl) (X_ J_ z_ co_ rfl rfl rfl rfl rfl rfl fun b2 => ?_))))
        refine at_ (List.flatMap cn_ [(cW_ (Ax.a x)), (cW_ (Ax.b x))]) h_ rfl ?_
        refine d_ (o_ rfl (u_ (fun _ a b => ⟨Vw.sat.sub (a.perm h_), b.2⟩) (H_ 8 rfl (by kernel_rfl) (A_ (dN_ [(cW_ (Ax.a x)), (cW_ (Ax.b x))] (some ⟨b2, 0, none⟩) 2 (-1) ([] : List Pc) ⟨.slice none 0 0, bm0, #[], 0, []⟩ ⟨bk_.nil _ _, rfl, by simp⟩ (by simp) (by simp only [List.length_cons, List.length_nil]; omega)) rfl (j_ (i_ h_) (j_ (i_ h_) (i_ aQ_))) (fun v _ h => by exact ⟨h.1, trivial⟩) rfl fun ⟨q1, hq1⟩ => ?_))))
        dsimp only
        have hb1 := dj_ (-1) [(cW_ (Ax.a x)), (cW_ (Ax.b x))] ([] : List Pc)
        refine Y_ (@List.perm_append_comm _ _ [_]) ?_
        simp only [List.length_cons, List.length_nil] at hb1
        refine d_ (o_ rfl (u_ (fun _ a b => ⟨Vw.sat.sub (a.perm h_), b.2⟩) (ad_ (by kernel_rfl) (c_ rfl ?_))))
        refine br_ (by kernel_rfl) ?_
        refine ab_ 5 [0, 1, 3, 4, 6, 7] (by kernel_rfl) (fun _ a b => ⟨a, b⟩) (s_ rfl (m_ l_ rfl rfl rfl z_) rfl (s_ rfl (t_ 0 E_ rfl rfl rfl) rfl (s_ rfl (m_ l_ rfl rfl rfl z_) rfl (s_ rfl (t_ 0 E_ rfl rfl rfl) rfl (s_ rfl (m_ l_ rfl rfl rfl z_) rfl (s_ rfl (t_ 0 E_ rfl rfl rfl) rfl (aa_ (H_ 2 rfl (by kernel_rfl) (A_ (bU_ (Ax.a x) hok.a) rfl S_ (fun _ _ _ => by exact trivial) rfl fun _ => ?_)))))))))
        refine d_ (o_ rfl (u_ (fun _ a b => ⟨a, b⟩) (H_ 5 rfl (by kernel_rfl) (A_ (bU_ (Ax.b x) hok.b) rfl S_ (fun _ _ _ => by exact trivial) rfl fun _ => ?_))))
        refine d_ (o_ rfl (u_ (fun _ a b => ⟨a, b⟩) (ab_ 2 [8] (by kernel_rfl) (fun _ a b => ⟨a, b⟩) (s_ rfl (N_ iQ_ rfl rfl) rfl (aa_ (H_ 9 rfl (by kernel_rfl) (X_ cc_ cG_ cI_ rfl rfl rfl rfl rfl rfl fun b3 => ?_)))))))
        refine d_ (o_ rfl (u_ (fun _ a b => ⟨a.tail, b⟩) (ab_ 0 [10] (by kernel_rfl) (fun _ a b => ⟨a.tail, b⟩) (s_ rfl (e_ rfl) rfl (aa_ (ad_ (by kernel_rfl) (c_ rfl (f_ (b_ ?_)))))))))
        refine a_ (g_ rfl) rfl (a_ (bv_ rfl) rfl (a_ (m_ aJ_ rfl rfl rfl bW_) rfl (a_ (t_ 2 dy_ rfl rfl rfl) rfl (a_ (g_ rfl) rfl (a_ (e_ rfl) rfl (a_ (e_ rfl) rfl (a_ (e_ rfl) rfl (d_ (c_ rfl ?_)))))))))
        refine B_ (at_ (List.flatMap Fc.cells [(Fc.mk 2 (cW_ (Ax.a x)) (cW_ (Ax.b x)) (Ax.role x) 0 0)]) h_ rfl ?_)
        refine cv_ hq1.row (i_ (i_ (i_ aQ_))) fun adP cpP hsvP hcP1 hcP2 => ?_
        have e : x.goalP = ((aZ_ (-1) [(cW_ (Ax.a x)), (cW_ (Ax.b x))] ([] : List Pc)), [(Fc.mk 2 (cW_ (Ax.a x)) (cW_ (Ax.b x)) (Ax.role x) 0 0)], 0) := by
         unfold Ax.goalP; rw [if_neg (by omega)]; repeat (first | rfl | (rw [if_pos (by omega)]) | (rw [if_neg (by omega)]))
        have hy : x.goalP.1.length ≤ cpP ∧ cpP ≤ maxLen ∧ x.goalP.2.1.length ≤ 1 ∧ 1 ≤ maxLen := by rw [e]; exact ⟨hcP1, hcP2, by simp, by decide⟩
        have hz : Value.tuple #[q1.sv, .slice (some ⟨b3, 0, none⟩) 1 1, .int .i64 0] = .tuple #[.slice adP x.goalP.1.length cpP, .slice (some ⟨b3, 0, none⟩) x.goalP.2.1.length 1, .int .i64 x.goalP.2.2] := by
         rw [e, hsvP] <;> rfl
        have hw1 : List.flatMap Pc.cells (aZ_ (-1) [(cW_ (Ax.a x)), (cW_ (Ax.b x))] ([] : List Pc)) = x.goalP.1.flatMap Pc.cells := by rw [e]
        have hw2 : List.flatMap Fc.cells [(Fc.mk 2 (cW_ (Ax.a x)) (cW_ (Ax.b x)) (Ax.role x) 0 0)] = x.goalP.2.1.flatMap Fc.cells := by rw [e]
        exact fP_ do_ ⟨(adP, cpP, (some ⟨b3, 0, none⟩), 1), hy⟩ rfl rfl rfl hz S_ (fun v _ h => ⟨hw1 ▸ h.1, hw2 ▸ h.2.1, trivial⟩)
      ·
       replace hr6 := eq_of_beq hr6
       obtain ⟨fr, zr⟩ := Con.check_zero (G.right (by omega))
       refine p_ rfl (f_ ?_)
       refine aW_ ((b1, .cells #[.int .i64 (Ax.kind x), .bool (Ax.opn x), .int .i64 (Con.kind (Ax.left x)), str (Con.name (Ax.left x)), .int .i64 (Con.lo (Ax.left x)), .int .i64 (Con.hi (Ax.left x)), .slice (Con.ad (Ax.left x)) (List.length (Con.parts (Ax.left x))) (Con.cap (Ax.left x)), .int .i64 (Con.kind (Ax.right x)), str (Con.name (Ax.right x)), .int .i64 (Con.lo (Ax.right x)), .int .i64 (Con.hi (Ax.right x)), .slice (Con.ad (Ax.right x)) (List.length (Con.parts (Ax.right x))) (Con.cap (Ax.right x)), .slice (Ax.ad x) (List.length (Ax.roles x)) (Ax.cap x), str (Ax.role x), str (Ax.a x), str (Ax.b x)] 41 (0, 0)) :: []) (by kernel_rfl) ?_
       refine ab_ 4 [0, 1, 2, 4, 5] (by kernel_rfl) (fun _ a b => ⟨Vw.sat.sub (a.perm h_), b⟩) (s_ rfl (g_ rfl) rfl (s_ rfl (m_ l_ rfl rfl rfl z_) rfl (s_ rfl (t_ 0 E_ rfl rfl rfl) rfl (s_ rfl (m_ l_ rfl rfl rfl k_) rfl (s_ rfl (G_ 0 x_ k_ rfl rfl rfl) rfl (aa_ (H_ 3 rfl (by kernel_rfl) (A_ (bU_ (Ax.a x) hok.a) rfl S_ (fun _ _ _ => by exact trivial) rfl fun _ => ?_))))))))
       refine d_ (o_ rfl (u_ (fun _ a b => ⟨Vw.sat.sub (a.perm h_), b⟩) (H_ 6 rfl (by kernel_rfl) (A_ (bK_ (Ax.right x) hok.right) rfl S_ (fun v _ h => by exact ⟨h.2.2.2.1.2.1, h.2.2.2.2.1, trivial⟩) rfl fun _ => ?_))))
       refine d_ (o_ rfl (u_ (fun _ a b => ⟨Vw.sat.sub (a.perm h_), b⟩) (H_ 7 rfl (by kernel_rfl) (X_ J_ z_ co_ rfl rfl rfl rfl rfl rfl fun b4 => ?_))))
       refine at_ (List.flatMap cn_ [(cW_ (Ax.a x)), (Con.atom (Ax.right x))]) h_ rfl ?_
       refine d_ (o_ rfl (u_ (fun _ a b => ⟨Vw.sat.sub (a.perm h_), b.2⟩) (H_ 8 rfl (by kernel_rfl) (A_ (dN_ [(cW_ (Ax.a x)), (Con.atom (Ax.right x))] (some ⟨b4, 0, none⟩) 2 (-1) ([] : List Pc) ⟨.slice none 0 0, bm0, #[], 0, []⟩ ⟨bk_.nil _ _, rfl, by simp⟩ (by simp) (by simp only [List.length_cons, List.length_nil]; omega)) rfl (j_ (i_ h_) (j_ (i_ h_) (i_ aQ_))) (fun v _ h => by exact ⟨h.1, trivial⟩) rfl fun ⟨q2, hq2⟩ => ?_))))
       dsimp only
       have hb2 := dj_ (-1) [(cW_ (Ax.a x)), (Con.atom (Ax.right x))] ([] : List Pc)
       refine Y_ (@List.perm_append_comm _ _ [_]) ?_
       simp only [List.length_cons, List.length_nil] at hb2
       refine d_ (o_ rfl (u_ (fun _ a b => ⟨Vw.sat.sub (a.perm h_), b.2⟩) (ad_ (by kernel_rfl) (c_ rfl (f_ (b_ (a_ (g_ rfl) rfl (a_ (m_ l_ rfl rfl rfl k_) rfl (a_ (G_ 0 x_ k_ rfl rfl rfl) rfl ?_)))))))))
       refine aE_ (ee_ (kb := kb) (bk := bk) (bs := bl) (frm := (-1)) _ (Ax.right x) (Nat.le_refl _) hok.right fr (aZ_ (-1) [(cW_ (Ax.a x)), (Con.atom (Ax.right x))] ([] : List Pc)) q2 hq2 (by omega)) rfl rfl (j_ (i_ h_) (j_ (i_ h_) (i_ aQ_))) (fun v _ h => by exact ⟨h.2.2.2.2.1.2.1, h.2.2.2.2.2.1, h.2.1, h.2.2.1, trivial⟩) rfl fun ⟨q3, hq3⟩ => ?_
       dsimp only
       have hb3 := Con.leftP_len (-1) _ (Ax.right x) (Nat.le_refl _) (aZ_ (-1) [(cW_ (Ax.a x)), (Con.atom (Ax.right x))] ([] : List Pc))
       refine Y_ (@List.perm_append_comm _ _ [_]) (d_ (c_ rfl ?_))
       refine br_ (by kernel_rfl) ?_
       refine ab_ 5 [0, 1, 2, 4, 5] (by kernel_rfl) (fun _ a b => ⟨a, b⟩) (s_ rfl (g_ rfl) rfl (s_ rfl (m_ l_ rfl rfl rfl z_) rfl (s_ rfl (t_ 0 E_ rfl rfl rfl) rfl (s_ rfl (m_ l_ rfl rfl rfl k_) rfl (s_ rfl (G_ 0 x_ k_ rfl rfl rfl) rfl (aa_ (H_ 3 rfl (by kernel_rfl) (A_ (bU_ (Ax.a x) hok.a) rfl S_ (fun _ _ _ => by exact trivial) rfl fun _ => ?_))))))))
       refine d_ (o_ rfl (u_ (fun _ a b => ⟨a, b⟩) (H_ 6 rfl (by kernel_rfl) (A_ (bK_ (Ax.right x) hok.right) rfl S_ (fun v _ h => by exact ⟨h.2.2.2.2.1.2.1, h.2.2.2.2.2.1, trivial⟩) rfl fun _ => ?_))))
       refine d_ (o_ rfl (u_ (fun _ a b => ⟨a, b⟩) (H_ 7 rfl (by kernel_rfl) (aE_ (fc_ (cW_ (Ax.a x)) (Con.atom (Ax.right x))) rfl rfl S_ (fun _ _ _ => by exact trivial) rfl fun _ => ?_))))
       refine d_ (o_ rfl (u_ (fun _ a b => ⟨a, b⟩) (H_ 8 rfl (by kernel_rfl) (X_ cc_ cG_ cI_ rfl rfl rfl rfl rfl rfl fun b5 => ?_))))
       refine d_ (o_ rfl (u_ (fun _ a b => ⟨a.tail, b⟩) (ab_ 0 [9] (by kernel_rfl) (fun _ a b => ⟨a.tail, b⟩) (s_ rfl (e_ rfl) rfl (aa_ (ad_ (by kernel_rfl) (c_ rfl (f_ (b_ ?_)))))))))
       refine a_ (g_ rfl) rfl (a_ (bv_ rfl) rfl (a_ (m_ aJ_ rfl rfl rfl bW_) rfl (a_ (t_ 2 dy_ rfl rfl rfl) rfl (a_ (g_ rfl) rfl (a_ (e_ rfl) rfl (a_ (e_ rfl) rfl (a_ (e_ rfl) rfl (d_ (c_ rfl ?_)))))))))
       refine B_ (at_ (List.flatMap Fc.cells [(Fc.mk 1 (cW_ (Ax.a x)) (Con.atom (Ax.right x)) [] 0 0)]) h_ rfl ?_)
       refine cv_ hq3.row (i_ (i_ (i_ aQ_))) fun adP cpP hsvP hcP1 hcP2 => ?_
       have e : x.goalP = ((Con.leftP (-1) (Ax.right x) (aZ_ (-1) [(cW_ (Ax.a x)), (Con.atom (Ax.right x))] ([] : List Pc))), [(Fc.mk 1 (cW_ (Ax.a x)) (Con.atom (Ax.right x)) [] 0 0)], 0) := by
        unfold Ax.goalP; rw [if_neg (by omega)]; repeat (first | rfl | (rw [if_pos (by omega)]) | (rw [if_neg (by omega)]))
       have hy : x.goalP.1.length ≤ cpP ∧ cpP ≤ maxLen ∧ x.goalP.2.1.length ≤ 1 ∧ 1 ≤ maxLen := by rw [e]; exact ⟨hcP1, hcP2, by simp, by decide⟩
       have hz : Value.tuple #[q3.sv, .slice (some ⟨b5, 0, none⟩) 1 1, .int .i64 0] = .tuple #[.slice adP x.goalP.1.length cpP, .slice (some ⟨b5, 0, none⟩) x.goalP.2.1.length 1, .int .i64 x.goalP.2.2] := by
        rw [e, hsvP] <;> rfl
       have hw1 : List.flatMap Pc.cells (Con.leftP (-1) (Ax.right x) (aZ_ (-1) [(cW_ (Ax.a x)), (Con.atom (Ax.right x))] ([] : List Pc))) = x.goalP.1.flatMap Pc.cells := by rw [e]
       have hw2 : List.flatMap Fc.cells [(Fc.mk 1 (cW_ (Ax.a x)) (Con.atom (Ax.right x)) [] 0 0)] = x.goalP.2.1.flatMap Fc.cells := by rw [e]
       exact fP_ do_ ⟨(adP, cpP, (some ⟨b5, 0, none⟩), 1), hy⟩ rfl rfl rfl hz S_ (fun v _ h => ⟨hw1 ▸ h.1, hw2 ▸ h.2.1, trivial⟩)
     ·
      replace hr5 := eq_of_beq hr5
      obtain ⟨fr, zr⟩ := Con.check_zero (G.right (by omega))
      refine p_ rfl (f_ (b_ (a_ (m_ l_ rfl rfl rfl z_) rfl (a_ (t_ 0 E_ rfl rfl rfl) rfl (a_ (cm_ rfl rfl (by simp only [List.length_append, List.length_cons, List.length_nil]; omega)) rfl (a_ (bB_ (cm_ rfl rfl (by simp only [List.length_append, List.length_cons, List.length_nil]; omega)) (show _ = str (Ax.doms x) from rfl)) rfl (a_ (e_ rfl) rfl (d_ (c_ rfl ?_)))))))))
      refine f_ (b_ (a_ (g_ rfl) rfl (a_ (g_ rfl) rfl (a_ (m_ l_ rfl rfl rfl k_) rfl (a_ (G_ 0 x_ k_ rfl rfl rfl) rfl (A_ (bK_ (Ax.right x) hok.right) rfl S_ (fun v _ h => by exact ⟨h.2.2.2.1.2.1, h.2.2.2.2.1, trivial⟩) rfl fun _ => ?_))))))
      refine X_ J_ z_ co_ rfl rfl rfl rfl rfl rfl fun b6 => ?_
      refine at_ (List.flatMap cn_ [(Ax.doms x), (Con.atom (Ax.right x))]) h_ rfl ?_
      refine A_ (dN_ [(Ax.doms x), (Con.atom (Ax.right x))] (some ⟨b6, 0, none⟩) 2 (-1) ([] : List Pc) ⟨.slice none 0 0, bm0, #[], 0, []⟩ ⟨bk_.nil _ _, rfl, by simp⟩ (by simp) (by simp only [List.length_cons, List.length_nil]; omega)) rfl (j_ (i_ h_) (j_ (i_ h_) (i_ aQ_))) (fun v _ h => by exact ⟨h.1, trivial⟩) rfl fun ⟨q4, hq4⟩ => ?_
      dsimp only
      have hb4 := dj_ (-1) [(Ax.doms x), (Con.atom (Ax.right x))] ([] : List Pc)
      refine Y_ (@List.perm_append_comm _ _ [_]) ?_
      simp only [List.length_cons, List.length_nil] at hb4
      refine d_ (c_ rfl (f_ (b_ (a_ (g_ rfl) rfl (a_ (g_ rfl) rfl (a_ (m_ l_ rfl rfl rfl z_) rfl (a_ (t_ 0 E_ rfl rfl rfl) rfl (a_ (N_ by_ rfl rfl) rfl (X_ I_ U_ af_ rfl rfl rfl rfl rfl rfl fun b7 => ?_)))))))))
      refine A_ (cw_ (Pc.mk 3 (Ax.doms x) [] [42] (Ax.role x) [] [] 0 0 0) (-1) (aZ_ (-1) [(Ax.doms x), (Con.atom (Ax.right x))] ([] : List Pc)) q4 hq4 (by omega)) rfl (j_ h_ (j_ (i_ h_) (j_ (i_ h_) (i_ aQ_)))) (fun _ _ _ => by exact trivial) rfl fun ⟨q5, hq5⟩ => ?_
      dsimp only
      have hb5 := aY_ (-1) (aZ_ (-1) [(Ax.doms x), (Con.atom (Ax.right x))] ([] : List Pc)) (Pc.mk 3 (Ax.doms x) [] [42] (Ax.role x) [] [] 0 0 0)
      refine Y_ (@List.perm_append_comm _ _ [_]) (d_ (c_ rfl (f_ (b_ (a_ (g_ rfl) rfl (a_ (m_ l_ rfl rfl rfl k_) rfl (a_ (G_ 0 x_ k_ rfl rfl rfl) rfl (aE_ (ee_ (kb := kb) (bk := bk) (bs := bl) (frm := (-1)) _ (Ax.right x) (Nat.le_refl _) hok.right fr (ins (-1) (aZ_ (-1) [(Ax.doms x), (Con.atom (Ax.right x))] ([] : List Pc)) (Pc.mk 3 (Ax.doms x) [] [42] (Ax.role x) [] [] 0 0 0)) q5 hq5 (by omega)) rfl rfl (j_ (i_ h_) (j_ (i_ h_) (i_ aQ_))) (fun v _ h => by exact ⟨h.2.2.2.2.1.2.1, h.2.2.2.2.2.1, h.2.1, h.2.2.1, trivial⟩) rfl fun ⟨q6, hq6⟩ => ?_))))))))
      dsimp only
      have hb6 := Con.leftP_len (-1) _ (Ax.right x) (Nat.le_refl _) (ins (-1) (aZ_ (-1) [(Ax.doms x), (Con.atom (Ax.right x))] ([] : List Pc)) (Pc.mk 3 (Ax.doms x) [] [42] (Ax.role x) [] [] 0 0 0))
      refine Y_ (@List.perm_append_comm _ _ [_]) (d_ (c_ rfl (b_ (a_ (g_ rfl) rfl (a_ (g_ rfl) rfl (a_ (m_ l_ rfl rfl rfl k_) rfl (a_ (G_ 0 x_ k_ rfl rfl rfl) rfl (A_ (bK_ (Ax.right x) hok.right) rfl S_ (fun v _ h => by exact ⟨h.2.2.2.2.1.2.1, h.2.2.2.2.2.1, trivial⟩) rfl fun _ => ?_))))))))
      refine aE_ (fc_ (Ax.doms x) (Con.atom (Ax.right x))) rfl rfl S_ (fun _ _ _ => by exact trivial) rfl fun _ => ?_
      refine X_ cc_ cG_ cI_ rfl rfl rfl rfl rfl rfl fun b8 => ?_
      refine a_ (e_ rfl) rfl (d_ (c_ rfl (f_ (b_ (a_ (g_ rfl) rfl (a_ (bv_ rfl) rfl (a_ (m_ aJ_ rfl rfl rfl bW_) rfl (a_ (t_ 2 dy_ rfl rfl rfl) rfl (a_ (g_ rfl) rfl ?_)))))))))
      refine a_ (e_ rfl) rfl (a_ (e_ rfl) rfl (a_ (e_ rfl) rfl (d_ (c_ rfl (B_ (at_ (List.flatMap Fc.cells [(Fc.mk 1 (Ax.doms x) (Con.atom (Ax.right x)) [] 0 0)]) h_ rfl ?_))))))
      refine cv_ hq6.row (i_ (i_ (i_ aQ_))) fun adP cpP hsvP hcP1 hcP2 => ?_
      have e : x.goalP = ((Con.leftP (-1) (Ax.right x) (ins (-1) (aZ_ (-1) [(Ax.doms x), (Con.atom (Ax.right x))] ([] : List Pc)) (Pc.mk 3 (Ax.doms x) [] [42] (Ax.role x) [] [] 0 0 0))), [(Fc.mk 1 (Ax.doms x) (Con.atom (Ax.right x)) [] 0 0)], 0) := by
       unfold Ax.goalP; rw [if_neg (by omega)]; repeat (first | rfl | (rw [if_pos (by omega)]) | (rw [if_neg (by omega)]))
      have hy : x.goalP.1.length ≤ cpP ∧ cpP ≤ maxLen ∧ x.goalP.2.1.length ≤ 1 ∧ 1 ≤ maxLen := by rw [e]; exact ⟨hcP1, hcP2, by simp, by decide⟩
      have hz : Value.tuple #[q6.sv, .slice (some ⟨b8, 0, none⟩) 1 1, .int .i64 0] = .tuple #[.slice adP x.goalP.1.length cpP, .slice (some ⟨b8, 0, none⟩) x.goalP.2.1.length 1, .int .i64 x.goalP.2.2] := by
       rw [e, hsvP] <;> rfl
      have hw1 : List.flatMap Pc.cells (Con.leftP (-1) (Ax.right x) (ins (-1) (aZ_ (-1) [(Ax.doms x), (Con.atom (Ax.right x))] ([] : List Pc)) (Pc.mk 3 (Ax.doms x) [] [42] (Ax.role x) [] [] 0 0 0))) = x.goalP.1.flatMap Pc.cells := by rw [e]
      have hw2 : List.flatMap Fc.cells [(Fc.mk 1 (Ax.doms x) (Con.atom (Ax.right x)) [] 0 0)] = x.goalP.2.1.flatMap Fc.cells := by rw [e]
      exact fP_ do_ ⟨(adP, cpP, (some ⟨b8, 0, none⟩), 1), hy⟩ rfl rfl rfl hz S_ (fun v _ h => ⟨hw1 ▸ h.1, hw2 ▸ h.2.1, trivial⟩)
    ·
     replace hr4 := eq_of_beq hr4
     obtain ⟨fl, zl⟩ := Con.check_zero (G.left (by omega))
     obtain ⟨fr, zr⟩ := Con.check_zero (G.right (by omega))
     refine p_ rfl (f_ ?_)
     refine br_ (by kernel_rfl) ?_
     refine ab_ 7 [0, 1, 5, 6] (by kernel_rfl) (fun _ a b => ⟨a, b⟩) (s_ rfl (m_ l_ rfl rfl rfl k_) rfl (s_ rfl (G_ 0 x_ k_ rfl rfl rfl) rfl (s_ rfl (m_ l_ rfl rfl rfl k_) rfl (s_ rfl (G_ 0 x_ k_ rfl rfl rfl) rfl (aa_ (H_ 2 rfl (by kernel_rfl) (A_ (gJ_ (Ax.left x) hok.left) rfl S_ (fun v _ h => by exact ⟨h.2.2.2.1.1, h.2.2.2.2.1, trivial⟩) rfl fun _ => ?_)))))))
     refine d_ (o_ rfl (u_ (fun _ a b => ⟨a, b⟩) (ab_ 4 [3, 4] (by kernel_rfl) (fun _ a b => ⟨a, b⟩) (s_ rfl (cm_ rfl rfl (by simp only [List.length_append, List.length_cons, List.length_nil]; omega)) rfl (s_ rfl (cm_ rfl rfl (by simp only [List.length_append, List.length_cons, List.length_nil]; omega)) rfl (aa_ (H_ 7 rfl (by kernel_rfl) (A_ (gJ_ (Ax.right x) hok.right) rfl S_ (fun v _ h => by exact ⟨h.2.2.2.1.2.1, h.2.2.2.2.1, trivial⟩) rfl fun _ => ?_))))))))
     refine d_ (o_ rfl (u_ (fun _ a b => ⟨a, b⟩) (ab_ 0 [8, 9, 10] (by kernel_rfl) (fun _ a b => ⟨a, b⟩) (s_ rfl (cm_ rfl rfl (by simp only [List.length_append, List.length_cons, List.length_nil]; omega)) rfl (s_ rfl (bB_ (cm_ rfl rfl (by simp only [List.length_append, List.length_cons, List.length_nil]; omega)) (show _ = str (Ax.disj x) from rfl)) rfl (s_ rfl (e_ rfl) rfl (aa_ (ad_ (by kernel_rfl) (c_ rfl ?_)))))))))
     refine f_ (b_ (a_ (g_ rfl) rfl (a_ (g_ rfl) rfl (X_ J_ z_ co_ rfl rfl rfl rfl rfl rfl fun b9 => ?_))))
     refine at_ (List.flatMap cn_ [(Ax.disj x), [33]]) h_ rfl ?_
     refine A_ (dN_ [(Ax.disj x), [33]] (some ⟨b9, 0, none⟩) 2 (-1) ([] : List Pc) ⟨.slice none 0 0, bm0, #[], 0, []⟩ ⟨bk_.nil _ _, rfl, by simp⟩ (by simp) (by simp only [List.length_cons, List.length_nil]; omega)) rfl (j_ (i_ h_) (j_ (i_ h_) (i_ aQ_))) (fun v _ h => by exact ⟨h.1, trivial⟩) rfl fun ⟨q7, hq7⟩ => ?_
     dsimp only
     have hb7 := dj_ (-1) [(Ax.disj x), [33]] ([] : List Pc)
     refine Y_ (@List.perm_append_comm _ _ [_]) ?_
     simp only [List.length_cons, List.length_nil] at hb7
     refine d_ (c_ rfl (f_ (b_ (a_ (g_ rfl) rfl (a_ (g_ rfl) rfl (a_ (m_ l_ rfl rfl rfl k_) rfl (a_ (G_ 0 x_ k_ rfl rfl rfl) rfl (A_ (bK_ (Ax.left x) hok.left) rfl S_ (fun v _ h => by exact ⟨h.2.2.2.2.1.1, h.2.2.2.2.2.1, trivial⟩) rfl fun _ => ?_))))))))
     refine a_ (N_ by_ rfl rfl) rfl (X_ I_ U_ af_ rfl rfl rfl rfl rfl rfl fun b10 => ?_)
     refine A_ (cw_ (Pc.mk 1 (Ax.disj x) [] (Con.atom (Ax.left x)) [] [] [] 0 0 0) (-1) (aZ_ (-1) [(Ax.disj x), [33]] ([] : List Pc)) q7 hq7 (by omega)) rfl (j_ h_ (j_ (i_ h_) (j_ (i_ h_) (i_ aQ_)))) (fun _ _ _ => by exact trivial) rfl fun ⟨q8, hq8⟩ => ?_
     dsimp only
     have hb8 := aY_ (-1) (aZ_ (-1) [(Ax.disj x), [33]] ([] : List Pc)) (Pc.mk 1 (Ax.disj x) [] (Con.atom (Ax.left x)) [] [] [] 0 0 0)
     refine Y_ (@List.perm_append_comm _ _ [_]) (d_ (c_ rfl (f_ (b_ (a_ (g_ rfl) rfl (a_ (m_ l_ rfl rfl rfl k_) rfl (a_ (G_ 0 x_ k_ rfl rfl rfl) rfl (aE_ (dB_ (kb := kb) (bk := bk) (bs := br) (frm := (-1)) _ (Ax.left x) (Nat.le_refl _) hok.left fl (ins (-1) (aZ_ (-1) [(Ax.disj x), [33]] ([] : List Pc)) (Pc.mk 1 (Ax.disj x) [] (Con.atom (Ax.left x)) [] [] [] 0 0 0)) q8 hq8 (by omega)) rfl rfl (j_ (i_ h_) (j_ (i_ h_) (i_ aQ_))) (fun v _ h => by exact ⟨h.2.2.2.2.1.1, h.2.2.2.2.2.1, h.2.1, h.2.2.2.1, trivial⟩) rfl fun ⟨q9, hq9⟩ => ?_))))))))
     dsimp only
     have hb9 := Con.rightP_len (-1) _ (Ax.left x) (Nat.le_refl _) (ins (-1) (aZ_ (-1) [(Ax.disj x), [33]] ([] : List Pc)) (Pc.mk 1 (Ax.disj x) [] (Con.atom (Ax.left x)) [] [] [] 0 0 0))
     refine Y_ (@List.perm_append_comm _ _ [_]) (d_ (c_ rfl (f_ (b_ (a_ (g_ rfl) rfl (a_ (g_ rfl) rfl (a_ (m_ l_ rfl rfl rfl k_) rfl (a_ (G_ 0 x_ k_ rfl rfl rfl) rfl (A_ (bK_ (Ax.right x) hok.right) rfl S_ (fun v _ h => by exact ⟨h.2.2.2.2.1.2.1, h.2.2.2.2.2.1, trivial⟩) rfl fun _ => ?_)))))))))
     refine a_ (N_ by_ rfl rfl) rfl (X_ I_ U_ af_ rfl rfl rfl rfl rfl rfl fun b11 => ?_)
     refine A_ (cw_ (Pc.mk 1 (Ax.disj x) [] (Con.atom (Ax.right x)) [] [] [] 0 0 0) (-1) (Con.rightP (-1) (Ax.left x) (ins (-1) (aZ_ (-1) [(Ax.disj x), [33]] ([] : List Pc)) (Pc.mk 1 (Ax.disj x) [] (Con.atom (Ax.left x)) [] [] [] 0 0 0))) q9 hq9 (by omega)) rfl (j_ h_ (j_ (i_ h_) (j_ (i_ h_) (i_ aQ_)))) (fun _ _ _ => by exact trivial) rfl fun ⟨q10, hq10⟩ => ?_
     dsimp only
     have hb10 := aY_ (-1) (Con.rightP (-1) (Ax.left x) (ins (-1) (aZ_ (-1) [(Ax.disj x), [33]] ([] : List Pc)) (Pc.mk 1 (Ax.disj x) [] (Con.atom (Ax.left x)) [] [] [] 0 0 0))) (Pc.mk 1 (Ax.disj x) [] (Con.atom (Ax.right x)) [] [] [] 0 0 0)
     refine Y_ (@List.perm_append_comm _ _ [_]) (d_ (c_ rfl (f_ (b_ (a_ (g_ rfl) rfl (a_ (m_ l_ rfl rfl rfl k_) rfl (a_ (G_ 0 x_ k_ rfl rfl rfl) rfl (aE_ (dB_ (kb := kb) (bk := bk) (bs := br) (frm := (-1)) _ (Ax.right x) (Nat.le_refl _) hok.right fr (ins (-1) (Con.rightP (-1) (Ax.left x) (ins (-1) (aZ_ (-1) [(Ax.disj x), [33]] ([] : List Pc)) (Pc.mk 1 (Ax.disj x) [] (Con.atom (Ax.left x)) [] [] [] 0 0 0))) (Pc.mk 1 (Ax.disj x) [] (Con.atom (Ax.right x)) [] [] [] 0 0 0)) q10 hq10 (by omega)) rfl rfl (j_ (i_ h_) (j_ (i_ h_) (i_ aQ_))) (fun v _ h => by exact ⟨h.2.2.2.2.1.2.1, h.2.2.2.2.2.1, h.2.1, h.2.2.2.1, trivial⟩) rfl fun ⟨q11, hq11⟩ => ?_))))))))
     dsimp only
     have hb11 := Con.rightP_len (-1) _ (Ax.right x) (Nat.le_refl _) (ins (-1) (Con.rightP (-1) (Ax.left x) (ins (-1) (aZ_ (-1) [(Ax.disj x), [33]] ([] : List Pc)) (Pc.mk 1 (Ax.disj x) [] (Con.atom (Ax.left x)) [] [] [] 0 0 0))) (Pc.mk 1 (Ax.disj x) [] (Con.atom (Ax.right x)) [] [] [] 0 0 0))
     refine Y_ (@List.perm_append_comm _ _ [_]) (d_ (c_ rfl (b_ (a_ (g_ rfl) rfl (a_ (g_ rfl) rfl (aE_ (fc_ (Ax.disj x) [33]) rfl rfl S_ (fun _ _ _ => by exact trivial) rfl fun _ => ?_))))))
     refine X_ cc_ cG_ cI_ rfl rfl rfl rfl rfl rfl fun b12 => ?_
     refine a_ (e_ rfl) rfl (d_ (c_ rfl (f_ (b_ (a_ (g_ rfl) rfl (a_ (bv_ rfl) rfl (a_ (m_ aJ_ rfl rfl rfl bW_) rfl (a_ (t_ 2 dy_ rfl rfl rfl) rfl (a_ (g_ rfl) rfl ?_)))))))))
     refine a_ (e_ rfl) rfl (a_ (e_ rfl) rfl (a_ (e_ rfl) rfl (d_ (c_ rfl (B_ (at_ (List.flatMap Fc.cells [(Fc.mk 1 (Ax.disj x) [33] [] 0 0)]) h_ rfl ?_))))))
     refine cv_ hq11.row (i_ (i_ (i_ aQ_))) fun adP cpP hsvP hcP1 hcP2 => ?_
     have e : x.goalP = ((Con.rightP (-1) (Ax.right x) (ins (-1) (Con.rightP (-1) (Ax.left x) (ins (-1) (aZ_ (-1) [(Ax.disj x), [33]] ([] : List Pc)) (Pc.mk 1 (Ax.disj x) [] (Con.atom (Ax.left x)) [] [] [] 0 0 0))) (Pc.mk 1 (Ax.disj x) [] (Con.atom (Ax.right x)) [] [] [] 0 0 0))), [(Fc.mk 1 (Ax.disj x) [33] [] 0 0)], 0) := by
      unfold Ax.goalP; rw [if_neg (by omega)]; repeat (first | rfl | (rw [if_pos (by omega)]) | (rw [if_neg (by omega)]))
     have hy : x.goalP.1.length ≤ cpP ∧ cpP ≤ maxLen ∧ x.goalP.2.1.length ≤ 1 ∧ 1 ≤ maxLen := by rw [e]; exact ⟨hcP1, hcP2, by simp, by decide⟩
     have hz : Value.tuple #[q11.sv, .slice (some ⟨b12, 0, none⟩) 1 1, .int .i64 0] = .tuple #[.slice adP x.goalP.1.length cpP, .slice (some ⟨b12, 0, none⟩) x.goalP.2.1.length 1, .int .i64 x.goalP.2.2] := by
      rw [e, hsvP] <;> rfl
     have hw1 : List.flatMap Pc.cells (Con.rightP (-1) (Ax.right x) (ins (-1) (Con.rightP (-1) (Ax.left x) (ins (-1) (aZ_ (-1) [(Ax.disj x), [33]] ([] : List Pc)) (Pc.mk 1 (Ax.disj x) [] (Con.atom (Ax.left x)) [] [] [] 0 0 0))) (Pc.mk 1 (Ax.disj x) [] (Con.atom (Ax.right x)) [] [] [] 0 0 0))) = x.goalP.1.flatMap Pc.cells := by rw [e]
     have hw2 : List.flatMap Fc.cells [(Fc.mk 1 (Ax.disj x) [33] [] 0 0)] = x.goalP.2.1.flatMap Fc.cells := by rw [e]
     exact fP_ do_ ⟨(adP, cpP, (some ⟨b12, 0, none⟩), 1), hy⟩ rfl rfl rfl hz S_ (fun v _ h => ⟨hw1 ▸ h.1, hw2 ▸ h.2.1, trivial⟩)
   ·
    replace hr3 := eq_of_beq hr3
    obtain ⟨fl, zl⟩ := Con.check_zero (G.left (by omega))
    obtain ⟨fr, zr⟩ := Con.check_zero (G.right (by omega))
    refine p_ rfl (f_ ?_)
    refine br_ (by kernel_rfl) ?_
    refine ab_ 4 [0, 1, 3, 4] (by kernel_rfl) (fun _ a b => ⟨a, b⟩) (s_ rfl (m_ l_ rfl rfl rfl k_) rfl (s_ rfl (G_ 0 x_ k_ rfl rfl rfl) rfl (s_ rfl (m_ l_ rfl rfl rfl k_) rfl (s_ rfl (G_ 0 x_ k_ rfl rfl rfl) rfl (aa_ (H_ 2 rfl (by kernel_rfl) (A_ (bK_ (Ax.left x) hok.left) rfl S_ (fun v _ h => by exact ⟨h.2.2.2.1.1, h.2.2.2.2.1, trivial⟩) rfl fun _ => ?_)))))))
    refine d_ (o_ rfl (u_ (fun _ a b => ⟨a, b⟩) (H_ 5 rfl (by kernel_rfl) (A_ (bK_ (Ax.right x) hok.right) rfl S_ (fun v _ h => by exact ⟨h.2.2.2.1.2.1, h.2.2.2.2.1, trivial⟩) rfl fun _ => ?_))))
    refine d_ (o_ rfl (u_ (fun _ a b => ⟨a, b⟩) (ab_ 0 [6, 7] (by kernel_rfl) (fun _ a b => ⟨a, b⟩) (s_ rfl (e_ rfl) rfl (s_ rfl (e_ rfl) rfl (aa_ (ad_ (by kernel_rfl) (c_ rfl (f_ ?_)))))))))
    refine b_ (a_ (g_ rfl) rfl (a_ (g_ rfl) rfl (a_ (g_ rfl) rfl (X_ J_ z_ co_ rfl rfl rfl rfl rfl rfl fun b13 => ?_))))
    refine at_ (List.flatMap cn_ [(Con.atom (Ax.left x)), (Con.atom (Ax.right x))]) h_ rfl ?_
    refine A_ (dN_ [(Con.atom (Ax.left x)), (Con.atom (Ax.right x))] (some ⟨b13, 0, none⟩) 2 (-1) ([] : List Pc) ⟨.slice none 0 0, bm0, #[], 0, []⟩ ⟨bk_.nil _ _, rfl, by simp⟩ (by simp) (by simp only [List.length_cons, List.length_nil]; omega)) rfl (j_ (i_ h_) (j_ (i_ h_) (i_ aQ_))) (fun v _ h => by exact ⟨h.1, trivial⟩) rfl fun ⟨q12, hq12⟩ => ?_
    dsimp only
    have hb12 := dj_ (-1) [(Con.atom (Ax.left x)), (Con.atom (Ax.right x))] ([] : List Pc)
    refine Y_ (@List.perm_append_comm _ _ [_]) ?_
    simp only [List.length_cons, List.length_nil] at hb12
    refine d_ (c_ rfl (f_ (b_ (a_ (g_ rfl) rfl (a_ (m_ l_ rfl rfl rfl k_) rfl (a_ (G_ 0 x_ k_ rfl rfl rfl) rfl (aE_ (dB_ (kb := kb) (bk := bk) (bs := br) (frm := (-1)) _ (Ax.left x) (Nat.le_refl _) hok.left fl (aZ_ (-1) [(Con.atom (Ax.left x)), (Con.atom (Ax.right x))] ([] : List Pc)) q12 hq12 (by omega)) rfl rfl (j_ (i_ h_) (j_ (i_ h_) (i_ aQ_))) (fun v _ h => by exact ⟨h.2.2.2.2.1.1, h.2.2.2.2.2.1, h.2.1, h.2.2.2.1, trivial⟩) rfl fun ⟨q13, hq13⟩ => ?_)))))))
    dsimp only
    have hb13 := Con.rightP_len (-1) _ (Ax.left x) (Nat.le_refl _) (aZ_ (-1) [(Con.atom (Ax.left x)), (Con.atom (Ax.right x))] ([] : List Pc))
    refine Y_ (@List.perm_append_comm _ _ [_]) (d_ (c_ rfl (f_ (b_ (a_ (g_ rfl) rfl (a_ (m_ l_ rfl rfl rfl k_) rfl (a_ (G_ 0 x_ k_ rfl rfl rfl) rfl (aE_ (ee_ (kb := kb) (bk := bk) (bs := bl) (frm := (-1)) _ (Ax.right x) (Nat.le_refl _) hok.right fr (Con.rightP (-1) (Ax.left x) (aZ_ (-1) [(Con.atom (Ax.left x)), (Con.atom (Ax.right x))] ([] : List Pc))) q13 hq13 (by omega)) rfl rfl (j_ (i_ h_) (j_ (i_ h_) (i_ aQ_))) (fun v _ h => by exact ⟨h.2.2.2.2.1.2.1, h.2.2.2.2.2.1, h.2.1, h.2.2.1, trivial⟩) rfl fun ⟨q14, hq14⟩ => ?_))))))))
    dsimp only
    have hb14 := Con.leftP_len (-1) _ (Ax.right x) (Nat.le_refl _) (Con.rightP (-1) (Ax.left x) (aZ_ (-1) [(Con.atom (Ax.left x)), (Con.atom (Ax.right x))] ([] : List Pc)))
    refine Y_ (@List.perm_append_comm _ _ [_]) (d_ (c_ rfl (f_ (b_ (a_ (g_ rfl) rfl (a_ (g_ rfl) rfl (a_ (g_ rfl) rfl (aE_ (fc_ (Con.atom (Ax.left x)) (Con.atom (Ax.right x))) rfl rfl S_ (fun _ _ _ => by exact trivial) rfl fun _ => ?_))))))))
    refine X_ cc_ cG_ cI_ rfl rfl rfl rfl rfl rfl fun b14 => ?_
    refine a_ (e_ rfl) rfl (d_ (c_ rfl (f_ (b_ (a_ (m_ l_ rfl rfl rfl L_) rfl (a_ (t_ 1 O_ rfl rfl rfl) rfl (v_ (ai_ rfl rfl) rfl fun r8 hr8 => ?_)))))))
    refine d_ (c_ rfl ?_)
    cases r8
    ·
     replace hr8 := ne_of_beq_false hr8
     refine r_ rfl (D_ (c_ rfl (f_ (b_ (a_ (g_ rfl) rfl (a_ (bv_ rfl) rfl (a_ (m_ aJ_ rfl rfl rfl bW_) rfl (a_ (t_ 2 dy_ rfl rfl rfl) rfl (a_ (g_ rfl) rfl ?_)))))))))
     refine a_ (e_ rfl) rfl (a_ (e_ rfl) rfl (a_ (e_ rfl) rfl (d_ (c_ rfl (B_ (at_ (List.flatMap Fc.cells [(Fc.mk 1 (Con.atom (Ax.left x)) (Con.atom (Ax.right x)) [] 0 0)]) h_ rfl ?_))))))
     refine cv_ hq14.row (i_ (i_ (i_ aQ_))) fun adP cpP hsvP hcP1 hcP2 => ?_
     have e : x.goalP = ((Con.leftP (-1) (Ax.right x) (Con.rightP (-1) (Ax.left x) (aZ_ (-1) [(Con.atom (Ax.left x)), (Con.atom (Ax.right x))] ([] : List Pc)))), [(Fc.mk 1 (Con.atom (Ax.left x)) (Con.atom (Ax.right x)) [] 0 0)], 0) := by
      unfold Ax.goalP; rw [if_neg (by omega)]; repeat (first | rfl | (rw [if_pos (by omega)]) | (rw [if_neg (by omega)]))
     have hy : x.goalP.1.length ≤ cpP ∧ cpP ≤ maxLen ∧ x.goalP.2.1.length ≤ 1 ∧ 1 ≤ maxLen := by rw [e]; exact ⟨hcP1, hcP2, by simp, by decide⟩
     have hz : Value.tuple #[q14.sv, .slice (some ⟨b14, 0, none⟩) 1 1, .int .i64 0] = .tuple #[.slice adP x.goalP.1.length cpP, .slice (some ⟨b14, 0, none⟩) x.goalP.2.1.length 1, .int .i64 x.goalP.2.2] := by
      rw [e, hsvP] <;> rfl
     have hw1 : List.flatMap Pc.cells (Con.leftP (-1) (Ax.right x) (Con.rightP (-1) (Ax.left x) (aZ_ (-1) [(Con.atom (Ax.left x)), (Con.atom (Ax.right x))] ([] : List Pc)))) = x.goalP.1.flatMap Pc.cells := by rw [e]
     have hw2 : List.flatMap Fc.cells [(Fc.mk 1 (Con.atom (Ax.left x)) (Con.atom (Ax.right x)) [] 0 0)] = x.goalP.2.1.flatMap Fc.cells := by rw [e]
     exact fP_ do_ ⟨(adP, cpP, (some ⟨b14, 0, none⟩), 1), hy⟩ rfl rfl rfl hz S_ (fun v _ h => ⟨hw1 ▸ h.1, hw2 ▸ h.2.1, trivial⟩)
    ·
     replace hr8 := eq_of_beq hr8
     obtain ⟨fl, zl⟩ := Con.check_zero (G.left (by omega))
     obtain ⟨fr, zr⟩ := Con.check_zero (G.right (by omega))
     refine p_ rfl (f_ (b_ (a_ (g_ rfl) rfl (a_ (m_ l_ rfl rfl rfl k_) rfl (a_ (G_ 1 x_ k_ rfl rfl rfl) rfl (aE_ (dB_ (kb := kb) (bk := bk) (bs := br) (frm := (-1)) _ (Ax.right x) (Nat.le_refl _) hok.right fr (Con.leftP (-1) (Ax.right x) (Con.rightP (-1) (Ax.left x) (aZ_ (-1) [(Con.atom (Ax.left x)), (Con.atom (Ax.right x))] ([] : List Pc)))) q14 hq14 (by omega)) rfl rfl (j_ (i_ (i_ h_)) (j_ (i_ (i_ h_)) (i_ (i_ aQ_)))) (fun v _ h => by exact ⟨h.2.2.2.2.1.2.1, h.2.2.2.2.2.1, h.2.1, h.2.2.2.1, trivial⟩) rfl fun ⟨q15, hq15⟩ => ?_))))))
     dsimp only
     have hb15 := Con.rightP_len (-1) _ (Ax.right x) (Nat.le_refl _) (Con.leftP (-1) (Ax.right x) (Con.rightP (-1) (Ax.left x) (aZ_ (-1) [(Con.atom (Ax.left x)), (Con.atom (Ax.right x))] ([] : List Pc))))
     refine Y_ (@List.perm_append_comm _ _ [_, _]) (d_ (c_ rfl (f_ (b_ (a_ (g_ rfl) rfl (a_ (m_ l_ rfl rfl rfl k_) rfl (a_ (G_ 1 x_ k_ rfl rfl rfl) rfl (aE_ (ee_ (kb := kb) (bk := bk) (bs := bl) (frm := (-1)) _ (Ax.left x) (Nat.le_refl _) hok.left fl (Con.rightP (-1) (Ax.right x) (Con.leftP (-1) (Ax.right x) (Con.rightP (-1) (Ax.left x) (aZ_ (-1) [(Con.atom (Ax.left x)), (Con.atom (Ax.right x))] ([] : List Pc))))) q15 hq15 (by omega)) rfl rfl (j_ (i_ (i_ h_)) (j_ (i_ (i_ h_)) (i_ (i_ aQ_)))) (fun v _ h => by exact ⟨h.2.2.2.2.1.1, h.2.2.2.2.2.1, h.2.1, h.2.2.1, trivial⟩) rfl fun ⟨q16, hq16⟩ => ?_))))))))
     dsimp only
     have hb16 := Con.leftP_len (-1) _ (Ax.left x) (Nat.le_refl _) (Con.rightP (-1) (Ax.right x) (Con.leftP (-1) (Ax.right x) (Con.rightP (-1) (Ax.left x) (aZ_ (-1) [(Con.atom (Ax.left x)), (Con.atom (Ax.right x))] ([] : List Pc)))))
     refine Y_ (@List.perm_append_comm _ _ [_, _]) (d_ (c_ rfl (b_ (a_ (g_ rfl) rfl (a_ (g_ rfl) rfl (a_ (g_ rfl) rfl (a_ (g_ rfl) rfl (aE_ (fc_ (Con.atom (Ax.right x)) (Con.atom (Ax.left x))) rfl rfl S_ (fun _ _ _ => by exact trivial) rfl fun _ => ?_))))))))
     refine X_ cc_ cG_ cI_ rfl rfl rfl rfl rfl rfl fun b15 => ?_
     have hrow0 : bk_ 50 6 (.slice (some ⟨b14, 0, none⟩) 1 1) 1 (Fc.cells (Fc.mk 1 (Con.atom (Ax.left x)) (Con.atom (Ax.right x)) [] 0 0)) [(b14, .cells (Fc.cells (Fc.mk 1 (Con.atom (Ax.left x)) (Con.atom (Ax.right x)) [] 0 0)).toArray 50 (0, 0))] := ⟨rfl, .inr ⟨b14, 1, _, rfl, rfl, by decide, by decide, rfl, rfl⟩⟩
     refine dx_ (news := Fc.cells (Fc.mk 1 (Con.atom (Ax.right x)) (Con.atom (Ax.left x)) [] 0 0)) eltF hrow0 rfl rfl (i_ h_) rfl (fB_ 0 rfl) (fD_ rfl) (by decide) (by decide) rfl fun svF HrF hrowF => ?_
     obtain ⟨gF, cpF, curF, rfl, rfl, hrF⟩ := hrowF.some (by decide)
     refine a_ (e_ rfl) rfl (d_ (c_ rfl (f_ (b_ (a_ (g_ rfl) rfl (a_ (bv_ rfl) rfl (a_ (m_ aJ_ rfl rfl rfl bW_) rfl (a_ (t_ 3 dy_ rfl rfl rfl) rfl (a_ (g_ rfl) rfl ?_)))))))))
     refine a_ (e_ rfl) rfl (a_ (e_ rfl) rfl (a_ (e_ rfl) rfl (d_ (c_ rfl (B_ (cv_ hrowF h_ fun adF cpG hsvF hcF1 hcF2 => ?_))))))
     refine cv_ hq16.row (i_ (i_ (i_ (i_ aQ_)))) fun adP cpP hsvP hcP1 hcP2 => ?_
     have e : x.goalP = ((Con.leftP (-1) (Ax.left x) (Con.rightP (-1) (Ax.right x) (Con.leftP (-1) (Ax.right x) (Con.rightP (-1) (Ax.left x) (aZ_ (-1) [(Con.atom (Ax.left x)), (Con.atom (Ax.right x))] ([] : List Pc)))))), [⟨1, x.left.atom, x.right.atom, [], 0, 0⟩, ⟨1, x.right.atom, x.left.atom, [], 0, 0⟩], 0) := by
      unfold Ax.goalP; rw [if_neg (by omega)]; repeat (first | rfl | (rw [if_pos (by omega)]) | (rw [if_neg (by omega)]))
     have hy : x.goalP.1.length ≤ cpP ∧ cpP ≤ maxLen ∧ x.goalP.2.1.length ≤ cpG ∧ cpG ≤ maxLen := by rw [e]; exact ⟨hcP1, hcP2, hcF1, hcF2⟩
     have hz : Value.tuple #[q16.sv, .slice (some ⟨gF, 0, none⟩) 2 cpF, .int .i64 0] = .tuple #[.slice adP x.goalP.1.length cpP, .slice adF x.goalP.2.1.length cpG, .int .i64 x.goalP.2.2] := by
      rw [e, hsvP]; exact congrArg (fun z => Value.tuple #[_, z, _]) hsvF
     have hw1 : List.flatMap Pc.cells (Con.leftP (-1) (Ax.left x) (Con.rightP (-1) (Ax.right x) (Con.leftP (-1) (Ax.right x) (Con.rightP (-1) (Ax.left x) (aZ_ (-1) [(Con.atom (Ax.left x)), (Con.atom (Ax.right x))] ([] : List Pc)))))) = x.goalP.1.flatMap Pc.cells := by rw [e]
     have hw2 : List.flatMap Fc.cells [⟨1, x.left.atom, x.right.atom, [], 0, 0⟩, ⟨1, x.right.atom, x.left.atom, [], 0, 0⟩] = x.goalP.2.1.flatMap Fc.cells := by rw [e]
     exact fP_ do_ ⟨(adP, cpP, adF, cpG), hy⟩ rfl rfl rfl hz S_ (fun v _ h => ⟨hw1 ▸ h.1, hw2 ▸ h.2.1, trivial⟩)
  ·
   replace hr2 := eq_of_beq hr2
   obtain ⟨fl, zl⟩ := Con.check_zero (G.left (by omega))
   obtain ⟨fr, zr⟩ := Con.check_zero (G.right (by omega))
   refine p_ rfl (D_ (c_ rfl (p_ rfl (f_ ?_))))
   refine br_ (by kernel_rfl) ?_
   refine ab_ 4 [0, 1, 3, 4] (by kernel_rfl) (fun _ a b => ⟨a, b⟩) (s_ rfl (m_ l_ rfl rfl rfl k_) rfl (s_ rfl (G_ 0 x_ k_ rfl rfl rfl) rfl (s_ rfl (m_ l_ rfl rfl rfl k_) rfl (s_ rfl (G_ 0 x_ k_ rfl rfl rfl) rfl (aa_ (H_ 2 rfl (by kernel_rfl) (A_ (bK_ (Ax.left x) hok.left) rfl S_ (fun v _ h => by exact ⟨h.2.2.2.1.1, h.2.2.2.2.1, trivial⟩) rfl fun _ => ?_)))))))
   refine d_ (o_ rfl (u_ (fun _ a b => ⟨a, b⟩) (H_ 5 rfl (by kernel_rfl) (A_ (bK_ (Ax.right x) hok.right) rfl S_ (fun v _ h => by exact ⟨h.2.2.2.1.2.1, h.2.2.2.2.1, trivial⟩) rfl fun _ => ?_))))
   refine d_ (o_ rfl (u_ (fun _ a b => ⟨a, b⟩) (ab_ 0 [6, 7] (by kernel_rfl) (fun _ a b => ⟨a, b⟩) (s_ rfl (e_ rfl) rfl (s_ rfl (e_ rfl) rfl (aa_ (ad_ (by kernel_rfl) (c_ rfl (f_ ?_)))))))))
   refine b_ (a_ (g_ rfl) rfl (a_ (g_ rfl) rfl (a_ (g_ rfl) rfl (X_ J_ z_ co_ rfl rfl rfl rfl rfl rfl fun b16 => ?_))))
   refine at_ (List.flatMap cn_ [(Con.atom (Ax.left x)), (Con.atom (Ax.right x))]) h_ rfl ?_
   refine A_ (dN_ [(Con.atom (Ax.left x)), (Con.atom (Ax.right x))] (some ⟨b16, 0, none⟩) 2 (-1) ([] : List Pc) ⟨.slice none 0 0, bm0, #[], 0, []⟩ ⟨bk_.nil _ _, rfl, by simp⟩ (by simp) (by simp only [List.length_cons, List.length_nil]; omega)) rfl (j_ (i_ h_) (j_ (i_ h_) (i_ aQ_))) (fun v _ h => by exact ⟨h.1, trivial⟩) rfl fun ⟨q17, hq17⟩ => ?_
   dsimp only
   have hb17 := dj_ (-1) [(Con.atom (Ax.left x)), (Con.atom (Ax.right x))] ([] : List Pc)
   refine Y_ (@List.perm_append_comm _ _ [_]) ?_
   simp only [List.length_cons, List.length_nil] at hb17
   refine d_ (c_ rfl (f_ (b_ (a_ (g_ rfl) rfl (a_ (m_ l_ rfl rfl rfl k_) rfl (a_ (G_ 0 x_ k_ rfl rfl rfl) rfl (aE_ (dB_ (kb := kb) (bk := bk) (bs := br) (frm := (-1)) _ (Ax.left x) (Nat.le_refl _) hok.left fl (aZ_ (-1) [(Con.atom (Ax.left x)), (Con.atom (Ax.right x))] ([] : List Pc)) q17 hq17 (by omega)) rfl rfl (j_ (i_ h_) (j_ (i_ h_) (i_ aQ_))) (fun v _ h => by exact ⟨h.2.2.2.2.1.1, h.2.2.2.2.2.1, h.2.1, h.2.2.2.1, trivial⟩) rfl fun ⟨q18, hq18⟩ => ?_)))))))
   dsimp only
   have hb18 := Con.rightP_len (-1) _ (Ax.left x) (Nat.le_refl _) (aZ_ (-1) [(Con.atom (Ax.left x)), (Con.atom (Ax.right x))] ([] : List Pc))
   refine Y_ (@List.perm_append_comm _ _ [_]) (d_ (c_ rfl (f_ (b_ (a_ (g_ rfl) rfl (a_ (m_ l_ rfl rfl rfl k_) rfl (a_ (G_ 0 x_ k_ rfl rfl rfl) rfl (aE_ (ee_ (kb := kb) (bk := bk) (bs := bl) (frm := (-1)) _ (Ax.right x) (Nat.le_refl _) hok.right fr (Con.rightP (-1) (Ax.left x) (aZ_ (-1) [(Con.atom (Ax.left x)), (Con.atom (Ax.right x))] ([] : List Pc))) q18 hq18 (by omega)) rfl rfl (j_ (i_ h_) (j_ (i_ h_) (i_ aQ_))) (fun v _ h => by exact ⟨h.2.2.2.2.1.2.1, h.2.2.2.2.2.1, h.2.1, h.2.2.1, trivial⟩) rfl fun ⟨q19, hq19⟩ => ?_))))))))
   dsimp only
   have hb19 := Con.leftP_len (-1) _ (Ax.right x) (Nat.le_refl _) (Con.rightP (-1) (Ax.left x) (aZ_ (-1) [(Con.atom (Ax.left x)), (Con.atom (Ax.right x))] ([] : List Pc)))
   refine Y_ (@List.perm_append_comm _ _ [_]) (d_ (c_ rfl (f_ (b_ (a_ (g_ rfl) rfl (a_ (g_ rfl) rfl (a_ (g_ rfl) rfl (aE_ (fc_ (Con.atom (Ax.left x)) (Con.atom (Ax.right x))) rfl rfl S_ (fun _ _ _ => by exact trivial) rfl fun _ => ?_))))))))
   refine X_ cc_ cG_ cI_ rfl rfl rfl rfl rfl rfl fun b17 => ?_
   refine a_ (e_ rfl) rfl (d_ (c_ rfl (f_ (b_ (a_ (m_ l_ rfl rfl rfl L_) rfl (a_ (t_ 1 O_ rfl rfl rfl) rfl (v_ (ai_ rfl rfl) rfl fun r9 hr9 => ?_)))))))
   refine d_ (c_ rfl ?_)
   cases r9
   ·
    replace hr9 := ne_of_beq_false hr9
    refine r_ rfl (D_ (c_ rfl (f_ (b_ (a_ (g_ rfl) rfl (a_ (bv_ rfl) rfl (a_ (m_ aJ_ rfl rfl rfl bW_) rfl (a_ (t_ 2 dy_ rfl rfl rfl) rfl (a_ (g_ rfl) rfl ?_)))))))))
    refine a_ (e_ rfl) rfl (a_ (e_ rfl) rfl (a_ (e_ rfl) rfl (d_ (c_ rfl (B_ (at_ (List.flatMap Fc.cells [(Fc.mk 1 (Con.atom (Ax.left x)) (Con.atom (Ax.right x)) [] 0 0)]) h_ rfl ?_))))))
    refine cv_ hq19.row (i_ (i_ (i_ aQ_))) fun adP cpP hsvP hcP1 hcP2 => ?_
    have e : x.goalP = ((Con.leftP (-1) (Ax.right x) (Con.rightP (-1) (Ax.left x) (aZ_ (-1) [(Con.atom (Ax.left x)), (Con.atom (Ax.right x))] ([] : List Pc)))), [(Fc.mk 1 (Con.atom (Ax.left x)) (Con.atom (Ax.right x)) [] 0 0)], 0) := by
     unfold Ax.goalP; rw [if_neg (by omega)]; repeat (first | rfl | (rw [if_pos (by omega)]) | (rw [if_neg (by omega)]))
    have hy : x.goalP.1.length ≤ cpP ∧ cpP ≤ maxLen ∧ x.goalP.2.1.length ≤ 1 ∧ 1 ≤ maxLen := by rw [e]; exact ⟨hcP1, hcP2, by simp, by decide⟩
    have hz : Value.tuple #[q19.sv, .slice (some ⟨b17, 0, none⟩) 1 1, .int .i64 0] = .tuple #[.slice adP x.goalP.1.length cpP, .slice (some ⟨b17, 0, none⟩) x.goalP.2.1.length 1, .int .i64 x.goalP.2.2] := by
     rw [e, hsvP] <;> rfl
    have hw1 : List.flatMap Pc.cells (Con.leftP (-1) (Ax.right x) (Con.rightP (-1) (Ax.left x) (aZ_ (-1) [(Con.atom (Ax.left x)), (Con.atom (Ax.right x))] ([] : List Pc)))) = x.goalP.1.flatMap Pc.cells := by rw [e]
    have hw2 : List.flatMap Fc.cells [(Fc.mk 1 (Con.atom (Ax.left x)) (Con.atom (Ax.right x)) [] 0 0)] = x.goalP.2.1.flatMap Fc.cells := by rw [e]
    exact fP_ do_ ⟨(adP, cpP, (some ⟨b17, 0, none⟩), 1), hy⟩ rfl rfl rfl hz S_ (fun v _ h => ⟨hw1 ▸ h.1, hw2 ▸ h.2.1, trivial⟩)
   ·
    replace hr9 := eq_of_beq hr9
    exfalso; omega
 ·
  replace hr1 := bz_ hr1
  refine p_ rfl (f_ (b_ (a_ (g_ rfl) rfl (a_ (e_ rfl) rfl (a_ (e_ rfl) rfl (a_ (e_ rfl) rfl (d_ (c_ rfl (B_ ?_)))))))))
  have e : x.goalP = ([], [], (Ax.check x)) := by unfold Ax.goalP; rw [if_pos (by assumption)]
  have hy : x.goalP.1.length ≤ 0 ∧ 0 ≤ maxLen ∧ x.goalP.2.1.length ≤ 0 ∧ 0 ≤ maxLen := by rw [e]; simp
  have hz : Value.tuple #[.slice none 0 0, .slice none 0 0, .int .i64 (Ax.check x)] = .tuple #[.slice none x.goalP.1.length 0, .slice none x.goalP.2.1.length 0, .int .i64 x.goalP.2.2] := by rw [e] <;> rfl
  have hw1 : x.goalP.1.flatMap Pc.cells = [] := by rw [e]; rfl
  have hw2 : x.goalP.2.1.flatMap Fc.cells = [] := by rw [e]; rfl
  exact fP_ do_ ⟨(none, 0, none, 0), hy⟩ rfl rfl rfl hz S_ (fun v _ h => ⟨.inl hw1, .inl hw2, trivial⟩)
end Go.Proofs.YtoafjmalfclpoaaGreatDoor
