/-
  Part of the proof of the law IncrementHistory over this seat: the small logic, the data, the contracts of functions (no condition).
-/
import Derived.Test.YtpdbbglpbngeiaaGreatDoorProg
import Derived.Test.YtpdbbglpbngeiaaGreatDoorQIncrementHistory1
import Derived.ProofKit
import Derived.OpenShut
import Derived.ReadAgain
import Derived.Deep.Slices
import Derived.SevenTiedAt
import Derived.Stop.Joined
import Derived.Lay
import Derived.LaidMore
import Derived.Lib.SlicesCompact
import Derived.Sort.EncStr
set_option linter.unusedVariables false
set_option linter.unusedSimpArgs false
set_option linter.unusedSectionVars false
namespace Go.Proofs.YtpdbbglpbngeiaaGreatDoor
open Go Go.Sx Go.Proofs
attribute [local irreducible] Code.wp wpList wpAnyH
open Go.Vs
theorem hK_ (c : UInt8) :
  Fn0 Tryz.prog 216 #[.int .u8 (c.toNat : Int)] (.bool (ej_ c)) := by
 refine J_ Tryz.func216 rfl rfl Tryz.ntmps216 rfl fun v0 => ?_
 refine h_ (d_ (a_ (i_ rfl) rfl (e_ (c_ rfl (h_ (d_ (a_ (g_ rfl) rfl (x_ (cS_ rfl rfl) rfl fun r1 hr1 => ?_))))))))
 refine a_ (g_ rfl) rfl ?_
 cases r1
 ·
  replace hr1 := of_decide_eq_false hr1
  refine y_ rfl rfl rfl rfl (y_ rfl rfl rfl rfl (a_ (M_ rfl rfl) rfl (a_ (g_ rfl) rfl (r_ rfl rfl (a_ (g_ rfl) rfl (r_ rfl rfl (x_ (cS_ rfl rfl) rfl fun r2 hr2 => ?_)))))))
  refine r_ rfl rfl (a_ (g_ rfl) rfl ?_)
  cases r2
  ·
   replace hr2 := of_decide_eq_false hr2
   refine y_ rfl rfl rfl rfl (y_ rfl rfl rfl rfl (r_ rfl rfl (a_ (M_ rfl rfl) rfl (a_ (M_ rfl rfl) rfl (a_ (i_ rfl) rfl (e_ (c_ rfl (D_ ?_))))))))
   exact aA_ la_ () (I_ rfl (by subst_vars; rw [Bool.eq_iff_iff]; simp [ej_] <;> omega)) (.refl _) (fun _ _ _ => trivial)
  ·
   replace hr2 := of_decide_eq_true hr2
   refine r_ rfl rfl (a_ (g_ rfl) rfl (r_ rfl rfl (x_ (cS_ rfl rfl) rfl fun r3 hr3 => ?_)))
   refine r_ rfl rfl (a_ (W_ rfl rfl) rfl (a_ (M_ rfl rfl) rfl (a_ (i_ rfl) rfl (e_ (c_ rfl (D_ ?_))))))
   exact aA_ la_ () (I_ rfl (by subst_vars; rw [Bool.eq_iff_iff]; simp [ej_] <;> omega)) (.refl _) (fun _ _ _ => trivial)
 ·
  replace hr1 := of_decide_eq_true hr1
  refine r_ rfl rfl (a_ (g_ rfl) rfl (r_ rfl rfl (x_ (cS_ rfl rfl) rfl fun r4 hr4 => ?_)))
  refine a_ (W_ rfl rfl) rfl (a_ (g_ rfl) rfl ?_)
  cases r4
  ·
   replace hr4 := of_decide_eq_false hr4
   refine r_ rfl rfl (a_ (g_ rfl) rfl (r_ rfl rfl (x_ (cS_ rfl rfl) rfl fun r5 hr5 => ?_)))
   refine r_ rfl rfl (a_ (g_ rfl) rfl ?_)
   cases r5
   ·
    replace hr5 := of_decide_eq_false hr5
    refine y_ rfl rfl rfl rfl (y_ rfl rfl rfl rfl (r_ rfl rfl (a_ (M_ rfl rfl) rfl (a_ (M_ rfl rfl) rfl (a_ (i_ rfl) rfl (e_ (c_ rfl (D_ ?_))))))))
    exact aA_ la_ () (I_ rfl (by subst_vars; rw [Bool.eq_iff_iff]; simp [ej_] <;> omega)) (.refl _) (fun _ _ _ => trivial)
   ·
    replace hr5 := of_decide_eq_true hr5
    refine r_ rfl rfl (a_ (g_ rfl) rfl (r_ rfl rfl (x_ (cS_ rfl rfl) rfl fun r6 hr6 => ?_)))
    refine r_ rfl rfl (a_ (W_ rfl rfl) rfl (a_ (M_ rfl rfl) rfl (a_ (i_ rfl) rfl (e_ (c_ rfl (D_ ?_))))))
    exact aA_ la_ () (I_ rfl (by subst_vars; rw [Bool.eq_iff_iff]; simp [ej_] <;> omega)) (.refl _) (fun _ _ _ => trivial)
  ·
   replace hr4 := of_decide_eq_true hr4
   refine y_ rfl rfl rfl rfl (y_ rfl rfl rfl rfl (y_ rfl rfl rfl rfl (y_ rfl rfl rfl rfl (y_ rfl rfl rfl rfl (y_ rfl rfl rfl rfl (a_ (W_ rfl rfl) rfl (a_ (i_ rfl) rfl (e_ (c_ rfl ?_)))))))))
   refine D_ ?_
   exact aA_ la_ () (I_ rfl (by subst_vars; rw [Bool.eq_iff_iff]; simp [ej_] <;> omega)) (.refl _) (fun _ _ _ => trivial)
theorem kb_ (s : Str) (hs : s.length ≤ 140737488351232) :
  Fn0 Tryz.prog 213 #[str s] (.bool (io_ s)) := by
 refine J_ Tryz.func213 rfl rfl Tryz.ntmps213 rfl fun v0 => ?_
 refine h_ (d_ (a_ (i_ rfl) rfl (e_ (c_ rfl (h_ (h_ (d_ (a_ (g_ rfl) rfl (nV_ ak_ Tryz.runUnderlying242 Tryz.runUnderlying5 rfl rfl fun cap b1 hcap => ?_)))))))))
 refine a_ (ae_ Tryz.runUnderlying242 rfl) rfl (a_ (g_ rfl) rfl (e_ (c_ rfl (K_ (ee_ [(6, .slice (some ⟨b1, 0, none⟩) s.length cap), (7, .int .i64 (s.length : Int)), (8, .int .i64 ((0 : Nat) : Int))] ⟨rfl, rfl, rfl, trivial⟩ ?_)))))
 refine ed_ (ι := {k : Nat // k ≤ s.length ∧ (s.take k).all es_ = true}) (fun i => [(6, .slice (some ⟨b1, 0, none⟩) s.length cap), (7, .int .i64 (s.length : Int)), (8, .int .i64 (i.1 : Int))]) (fun _ => _) (fun _ => _) (fun i => s.length - i.1) ⟨0, by simp⟩ ?_
 rintro ⟨k, hk⟩
 refine ee_ [(6, .slice (some ⟨b1, 0, none⟩) s.length cap), (7, .int .i64 (s.length : Int)), (8, .int .i64 (k : Int))] ⟨rfl, rfl, rfl, trivial⟩ ?_
 refine h_ (d_ (x_ (ar_ rfl rfl) rfl fun r1 hr1 => ?_))
 refine e_ (c_ rfl (h_ ?_))
 cases r1
 ·
  replace hr1 := of_decide_eq_false hr1
  refine s_ rfl (au_ rfl (c_ rfl (h_ (d_ (a_ (i_ rfl) rfl (e_ (c_ rfl (D_ ?_))))))))
  exact aA_ Tryz.results213 () (I_ rfl (by rw [io_, iH_ es_ s k (by omega) hk.2])) (.refl _) (fun _ _ _ => trivial)
 ·
  replace hr1 := of_decide_eq_true hr1
  have hlt : k < s.length := by omega
  obtain ⟨c, hc⟩ : ∃ c, s[k]? = some c := ⟨_, List.getElem?_eq_getElem hlt⟩
  refine p_ rfl (B_ (c_ rfl (h_ (K_ (h_ (d_ (a_ (fw_ Tryz.runUnderlying242 Tryz.sizeOf5 rfl rfl (by omega) (by omega)) rfl (a_ (t_ (u := .int .u8 (c.toNat : Int)) 0 Tryz.isAgg5 rfl rfl (by rw [show 0 + ((k : Int)).toNat * 1 = k by omega]; exact mX_ hc)) rfl (a_ (i_ rfl) rfl ?_)))))))))
  refine e_ (c_ rfl (h_ (d_ (a_ (g_ rfl) rfl (aI_ (hK_ c) rfl (.refl _) (fun _ _ _ => trivial) rfl fun r2 hr2 => ?_)))))
  refine a_ (bS_ rfl) rfl (a_ (g_ rfl) rfl ?_)
  cases r2
  ·
   refine r_ rfl rfl (a_ (g_ rfl) rfl (r_ rfl rfl (x_ (bC_ rfl rfl) rfl fun r3 hr3 => ?_)))
   refine a_ (W_ rfl rfl) rfl (a_ (g_ rfl) rfl ?_)
   cases r3
   ·
    replace hr3 := aQ_ hr3
    refine y_ rfl rfl rfl rfl (y_ rfl rfl rfl rfl (y_ rfl rfl rfl rfl (y_ rfl rfl rfl rfl (y_ rfl rfl rfl rfl (y_ rfl rfl rfl rfl (a_ (M_ rfl rfl) rfl (e_ (c_ rfl (s_ rfl ?_)))))))))
    refine B_ (c_ rfl (d_ (a_ (P_ rfl rfl rfl (an_ (by omega) (by omega))) rfl (a_ (g_ rfl) rfl (e_ (v_ rfl ?_))))))
    exact ai_ ⟨k + 1, hlt, ep_ _ s k c hc hk.2 (by simp [es_, *] <;> omega)⟩ (by simp; omega) ⟨rfl, rfl, rfl, trivial⟩ (.refl _) (fun _ _ h => h)
   ·
    replace hr3 := aP_ hr3
    refine r_ rfl rfl (a_ (g_ rfl) rfl (r_ rfl rfl (x_ (ar_ rfl rfl) rfl fun r4 hr4 => ?_)))
    refine r_ rfl rfl (a_ (g_ rfl) rfl ?_)
    cases r4
    ·
     replace hr4 := of_decide_eq_false hr4
     refine r_ rfl rfl (a_ (g_ rfl) rfl (r_ rfl rfl (x_ (bL_ rfl rfl) rfl fun r5 hr5 => ?_)))
     refine r_ rfl rfl (a_ (M_ rfl rfl) rfl (a_ (W_ rfl rfl) rfl (e_ (c_ rfl ?_))))
     cases r5
     ·
      replace hr5 := of_decide_eq_false hr5
      refine s_ rfl (B_ (c_ rfl (d_ (a_ (P_ rfl rfl rfl (an_ (by omega) (by omega))) rfl (a_ (g_ rfl) rfl (e_ (v_ rfl ?_)))))))
      exact ai_ ⟨k + 1, hlt, ep_ _ s k c hc hk.2 (by simp [es_, *] <;> omega)⟩ (by simp; omega) ⟨rfl, rfl, rfl, trivial⟩ (.refl _) (fun _ _ h => h)
     ·
      replace hr5 := of_decide_eq_true hr5
      refine p_ rfl (h_ (d_ (a_ (i_ rfl) rfl (e_ (c_ rfl (D_ ?_))))))
      exact aA_ Tryz.results213 () (I_ rfl (by rw [io_, gf_ es_ s k c hc (by simp [es_, *] <;> omega)])) (.refl _) (fun _ _ _ => trivial)
    ·
     replace hr4 := of_decide_eq_true hr4
     refine y_ rfl rfl rfl rfl (y_ rfl rfl rfl rfl (r_ rfl rfl (a_ (W_ rfl rfl) rfl (a_ (W_ rfl rfl) rfl (e_ (c_ rfl (p_ rfl (h_ (d_ ?_)))))))))
     refine a_ (i_ rfl) rfl (e_ (c_ rfl (D_ ?_)))
     exact aA_ Tryz.results213 () (I_ rfl (by rw [io_, gf_ es_ s k c hc (by simp [es_, *] <;> omega)])) (.refl _) (fun _ _ _ => trivial)
  ·
   refine y_ rfl rfl rfl rfl (y_ rfl rfl rfl rfl (a_ (M_ rfl rfl) rfl (a_ (g_ rfl) rfl (y_ rfl rfl rfl rfl (y_ rfl rfl rfl rfl (y_ rfl rfl rfl rfl (y_ rfl rfl rfl rfl (y_ rfl rfl rfl rfl (y_ rfl rfl rfl rfl ?_)))))))))
   refine a_ (M_ rfl rfl) rfl (e_ (c_ rfl (s_ rfl (B_ (c_ rfl (d_ (a_ (P_ rfl rfl rfl (an_ (by omega) (by omega))) rfl (a_ (g_ rfl) rfl (e_ ?_)))))))))
   refine v_ rfl ?_
   exact ai_ ⟨k + 1, hlt, ep_ _ s k c hc hk.2 (by simp [es_, *] <;> omega)⟩ (by simp; omega) ⟨rfl, rfl, rfl, trivial⟩ (.refl _) (fun _ _ h => h)
theorem lQ_ (s : Str) :
  Fn0 Tryz.prog 217 #[str s] (.bool (bt_ s)) := by
 refine J_ Tryz.func217 rfl rfl Tryz.ntmps217 rfl fun v0 => ?_
 refine h_ (d_ (a_ (i_ rfl) rfl (e_ (c_ rfl (h_ (h_ (d_ (a_ (g_ rfl) rfl (e_ ?_)))))))))
 refine c_ rfl (K_ (h_ (h_ (d_ (x_ (bo_ rfl rfl) rfl fun r1 hr1 => ?_)))))
 refine a_ (i_ rfl) rfl (e_ (c_ rfl ?_))
 cases r1
 ·
  replace hr1 := ne_of_beq_false hr1
  refine s_ rfl (h_ (d_ (x_ (bo_ rfl rfl) rfl fun r2 hr2 => ?_)))
  refine a_ (i_ rfl) rfl (e_ (c_ rfl ?_))
  cases r2
  ·
   replace hr2 := ne_of_beq_false hr2
   refine s_ rfl (h_ (d_ (x_ (bo_ rfl rfl) rfl fun r3 hr3 => ?_)))
   refine a_ (i_ rfl) rfl (e_ (c_ rfl ?_))
   cases r3
   ·
    replace hr3 := ne_of_beq_false hr3
    refine s_ rfl (h_ (d_ (x_ (bo_ rfl rfl) rfl fun r4 hr4 => ?_)))
    refine a_ (i_ rfl) rfl (e_ (c_ rfl ?_))
    cases r4
    ·
     replace hr4 := ne_of_beq_false hr4
     refine s_ rfl (h_ (d_ (x_ (bo_ rfl rfl) rfl fun r5 hr5 => ?_)))
     refine a_ (i_ rfl) rfl (e_ (c_ rfl ?_))
     cases r5
     ·
      replace hr5 := ne_of_beq_false hr5
      refine s_ rfl (h_ (d_ (x_ (bo_ rfl rfl) rfl fun r6 hr6 => ?_)))
      refine a_ (i_ rfl) rfl (e_ (c_ rfl ?_))
      cases r6
      ·
       replace hr6 := ne_of_beq_false hr6
       refine s_ rfl (h_ (d_ (x_ (bo_ rfl rfl) rfl fun r7 hr7 => ?_)))
       refine a_ (i_ rfl) rfl (e_ (c_ rfl ?_))
       cases r7
       ·
        replace hr7 := ne_of_beq_false hr7
        refine s_ rfl (h_ (d_ (x_ (bo_ rfl rfl) rfl fun r8 hr8 => ?_)))
        refine a_ (i_ rfl) rfl (e_ (c_ rfl ?_))
        cases r8
        ·
         replace hr8 := ne_of_beq_false hr8
         refine s_ rfl (h_ (d_ (x_ (bo_ rfl rfl) rfl fun r9 hr9 => ?_)))
         refine a_ (i_ rfl) rfl (e_ (c_ rfl ?_))
         cases r9
         ·
          replace hr9 := ne_of_beq_false hr9
          refine s_ rfl (h_ (d_ (x_ (bo_ rfl rfl) rfl fun r10 hr10 => ?_)))
          refine a_ (i_ rfl) rfl (e_ (c_ rfl ?_))
          cases r10
          ·
           replace hr10 := ne_of_beq_false hr10
           refine s_ rfl (h_ (d_ (x_ (bo_ rfl rfl) rfl fun r11 hr11 => ?_)))
           refine a_ (i_ rfl) rfl (e_ (c_ rfl ?_))
           cases r11
           ·
            replace hr11 := ne_of_beq_false hr11
            refine s_ rfl (h_ (d_ (x_ (bo_ rfl rfl) rfl fun r12 hr12 => ?_)))
            refine a_ (i_ rfl) rfl (e_ (c_ rfl ?_))
            cases r12
            ·
             replace hr12 := ne_of_beq_false hr12
             refine s_ rfl (h_ (d_ (x_ (bo_ rfl rfl) rfl fun r13 hr13 => ?_)))
             refine a_ (i_ rfl) rfl (e_ (c_ rfl ?_))
             cases r13
             ·
              replace hr13 := ne_of_beq_false hr13
              refine s_ rfl (h_ (d_ (x_ (bo_ rfl rfl) rfl fun r14 hr14 => ?_)))
              refine a_ (i_ rfl) rfl (e_ (c_ rfl ?_))
              cases r14
              ·
               replace hr14 := ne_of_beq_false hr14
               refine s_ rfl (h_ (d_ (x_ (bo_ rfl rfl) rfl fun r15 hr15 => ?_)))
               refine a_ (i_ rfl) rfl (e_ (c_ rfl ?_))
               cases r15
               ·
                replace hr15 := ne_of_beq_false hr15
                refine s_ rfl (h_ (d_ (x_ (bo_ rfl rfl) rfl fun r16 hr16 => ?_)))
                refine a_ (i_ rfl) rfl (e_ (c_ rfl ?_))
                cases r16
                ·
                 replace hr16 := ne_of_beq_false hr16
                 refine s_ rfl (h_ (d_ (x_ (bo_ rfl rfl) rfl fun r17 hr17 => ?_)))
                 refine a_ (i_ rfl) rfl (e_ (c_ rfl ?_))
                 cases r17
                 ·
                  replace hr17 := ne_of_beq_false hr17
                  refine s_ rfl (h_ (d_ (x_ (bo_ rfl rfl) rfl fun r18 hr18 => ?_)))
                  refine a_ (i_ rfl) rfl (e_ (c_ rfl ?_))
                  cases r18
                  ·
                   replace hr18 := ne_of_beq_false hr18
                   refine s_ rfl (h_ (d_ (x_ (bo_ rfl rfl) rfl fun r19 hr19 => ?_)))
                   refine a_ (i_ rfl) rfl (e_ (c_ rfl ?_))
                   cases r19
                   ·
                    replace hr19 := ne_of_beq_false hr19
                    refine s_ rfl (h_ (d_ (x_ (bo_ rfl rfl) rfl fun r20 hr20 => ?_)))
                    refine a_ (i_ rfl) rfl (e_ (c_ rfl ?_))
                    cases r20
                    ·
                     replace hr20 := ne_of_beq_false hr20
                     refine s_ rfl (h_ (d_ (x_ (bo_ rfl rfl) rfl fun r21 hr21 => ?_)))
                     refine a_ (i_ rfl) rfl (e_ (c_ rfl ?_))
                     cases r21
                     ·
                      replace hr21 := ne_of_beq_false hr21
                      refine s_ rfl (d_ (x_ (bo_ rfl rfl) rfl fun r22 hr22 => ?_))
                      refine a_ (i_ rfl) rfl (e_ (c_ rfl ?_))
                      cases r22
                      ·
                       replace hr22 := ne_of_beq_false hr22
                       refine s_ rfl (B_ (c_ rfl (h_ (d_ (a_ (i_ rfl) rfl (e_ (c_ rfl (D_ ?_))))))))
                       exact aA_ aM_ () (I_ rfl (by simp [bt_, kws, *])) (.refl _) (fun _ _ _ => trivial)
                      ·
                       replace hr22 := eq_of_beq hr22
                       refine p_ rfl (h_ (d_ (a_ (i_ rfl) rfl (e_ (c_ rfl (D_ ?_))))))
                       exact aA_ aM_ () (I_ rfl (by simp [bt_, kws, *])) (.refl _) (fun _ _ _ => trivial)
                     ·
                      replace hr21 := eq_of_beq hr21
                      refine p_ rfl (B_ (c_ rfl (p_ rfl (h_ (d_ (a_ (i_ rfl) rfl (e_ (c_ rfl (D_ ?_)))))))))
                      exact aA_ aM_ () (I_ rfl (by simp [bt_, kws, *])) (.refl _) (fun _ _ _ => trivial)
                    ·
                     replace hr20 := eq_of_beq hr20
                     refine p_ rfl (B_ (c_ rfl (p_ rfl (h_ (d_ (a_ (i_ rfl) rfl (e_ (c_ rfl (D_ ?_)))))))))
                     exact aA_ aM_ () (I_ rfl (by simp [bt_, kws, *])) (.refl _) (fun _ _ _ => trivial)
                   ·
                    replace hr19 := eq_of_beq hr19
                    refine p_ rfl (B_ (c_ rfl (p_ rfl (h_ (d_ (a_ (i_ rfl) rfl (e_ (c_ rfl (D_ ?_)))))))))
                    exact aA_ aM_ () (I_ rfl (by simp [bt_, kws, *])) (.refl _) (fun _ _ _ => trivial)
                  ·
                   replace hr18 := eq_of_beq hr18
                   refine p_ rfl (B_ (c_ rfl (p_ rfl (h_ (d_ (a_ (i_ rfl) rfl (e_ (c_ rfl (D_ ?_)))))))))
                   exact aA_ aM_ () (I_ rfl (by simp [bt_, kws, *])) (.refl _) (fun _ _ _ => trivial)
                 ·
                  replace hr17 := eq_of_beq hr17
                  refine p_ rfl (B_ (c_ rfl (p_ rfl (h_ (d_ (a_ (i_ rfl) rfl (e_ (c_ rfl (D_ ?_)))))))))
                  exact aA_ aM_ () (I_ rfl (by simp [bt_, kws, *])) (.refl _) (fun _ _ _ => trivial)
                ·
                 replace hr16 := eq_of_beq hr16
                 refine p_ rfl (B_ (c_ rfl (p_ rfl (h_ (d_ (a_ (i_ rfl) rfl (e_ (c_ rfl (D_ ?_)))))))))
                 exact aA_ aM_ () (I_ rfl (by simp [bt_, kws, *])) (.refl _) (fun _ _ _ => trivial)
               ·
                replace hr15 := eq_of_beq hr15
                refine p_ rfl (B_ (c_ rfl (p_ rfl (h_ (d_ (a_ (i_ rfl) rfl (e_ (c_ rfl (D_ ?_)))))))))
                exact aA_ aM_ () (I_ rfl (by simp [bt_, kws, *])) (.refl _) (fun _ _ _ => trivial)
              ·
               replace hr14 := eq_of_beq hr14
               refine p_ rfl (B_ (c_ rfl (p_ rfl (h_ (d_ (a_ (i_ rfl) rfl (e_ (c_ rfl (D_ ?_)))))))))
               exact aA_ aM_ () (I_ rfl (by simp [bt_, kws, *])) (.refl _) (fun _ _ _ => trivial)
             ·
              replace hr13 := eq_of_beq hr13
              refine p_ rfl (B_ (c_ rfl (p_ rfl (h_ (d_ (a_ (i_ rfl) rfl (e_ (c_ rfl (D_ ?_)))))))))
              exact aA_ aM_ () (I_ rfl (by simp [bt_, kws, *])) (.refl _) (fun _ _ _ => trivial)
            ·
             replace hr12 := eq_of_beq hr12
             refine p_ rfl (B_ (c_ rfl (p_ rfl (h_ (d_ (a_ (i_ rfl) rfl (e_ (c_ rfl (D_ ?_)))))))))
             exact aA_ aM_ () (I_ rfl (by simp [bt_, kws, *])) (.refl _) (fun _ _ _ => trivial)
           ·
            replace hr11 := eq_of_beq hr11
            refine p_ rfl (B_ (c_ rfl (p_ rfl (h_ (d_ (a_ (i_ rfl) rfl (e_ (c_ rfl (D_ ?_)))))))))
            exact aA_ aM_ () (I_ rfl (by simp [bt_, kws, *])) (.refl _) (fun _ _ _ => trivial)
          ·
           replace hr10 := eq_of_beq hr10
           refine p_ rfl (B_ (c_ rfl (p_ rfl (h_ (d_ (a_ (i_ rfl) rfl (e_ (c_ rfl (D_ ?_)))))))))
           exact aA_ aM_ () (I_ rfl (by simp [bt_, kws, *])) (.refl _) (fun _ _ _ => trivial)
         ·
          replace hr9 := eq_of_beq hr9
          refine p_ rfl (B_ (c_ rfl (p_ rfl (h_ (d_ (a_ (i_ rfl) rfl (e_ (c_ rfl (D_ ?_)))))))))
          exact aA_ aM_ () (I_ rfl (by simp [bt_, kws, *])) (.refl _) (fun _ _ _ => trivial)
        ·
         replace hr8 := eq_of_beq hr8
         refine p_ rfl (B_ (c_ rfl (p_ rfl (h_ (d_ (a_ (i_ rfl) rfl (e_ (c_ rfl (D_ ?_)))))))))
         exact aA_ aM_ () (I_ rfl (by simp [bt_, kws, *])) (.refl _) (fun _ _ _ => trivial)
       ·
        replace hr7 := eq_of_beq hr7
        refine p_ rfl (B_ (c_ rfl (p_ rfl (h_ (d_ (a_ (i_ rfl) rfl (e_ (c_ rfl (D_ ?_)))))))))
        exact aA_ aM_ () (I_ rfl (by simp [bt_, kws, *])) (.refl _) (fun _ _ _ => trivial)
      ·
       replace hr6 := eq_of_beq hr6
       refine p_ rfl (B_ (c_ rfl (p_ rfl (h_ (d_ (a_ (i_ rfl) rfl (e_ (c_ rfl (D_ ?_)))))))))
       exact aA_ aM_ () (I_ rfl (by simp [bt_, kws, *])) (.refl _) (fun _ _ _ => trivial)
     ·
      replace hr5 := eq_of_beq hr5
      refine p_ rfl (B_ (c_ rfl (p_ rfl (h_ (d_ (a_ (i_ rfl) rfl (e_ (c_ rfl (D_ ?_)))))))))
      exact aA_ aM_ () (I_ rfl (by simp [bt_, kws, *])) (.refl _) (fun _ _ _ => trivial)
    ·
     replace hr4 := eq_of_beq hr4
     refine p_ rfl (B_ (c_ rfl (p_ rfl (h_ (d_ (a_ (i_ rfl) rfl (e_ (c_ rfl (D_ ?_)))))))))
     exact aA_ aM_ () (I_ rfl (by simp [bt_, kws, *])) (.refl _) (fun _ _ _ => trivial)
   ·
    replace hr3 := eq_of_beq hr3
    refine p_ rfl (B_ (c_ rfl (p_ rfl (h_ (d_ (a_ (i_ rfl) rfl (e_ (c_ rfl (D_ ?_)))))))))
    exact aA_ aM_ () (I_ rfl (by simp [bt_, kws, *])) (.refl _) (fun _ _ _ => trivial)
  ·
   replace hr2 := eq_of_beq hr2
   refine p_ rfl (B_ (c_ rfl (p_ rfl (h_ (d_ (a_ (i_ rfl) rfl (e_ (c_ rfl (D_ ?_)))))))))
   exact aA_ aM_ () (I_ rfl (by simp [bt_, kws, *])) (.refl _) (fun _ _ _ => trivial)
 ·
  replace hr1 := eq_of_beq hr1
  refine p_ rfl (B_ (c_ rfl (p_ rfl (h_ (d_ (a_ (i_ rfl) rfl (e_ (c_ rfl (D_ ?_)))))))))
  exact aA_ aM_ () (I_ rfl (by simp [bt_, kws, *])) (.refl _) (fun _ _ _ => trivial)
end Go.Proofs.YtpdbbglpbngeiaaGreatDoor
namespace Go.Proofs.YtpdbbglpbngeiaaGreatDoor
open Go Go.Sx Go.Proofs
attribute [local irreducible] Code.wp wpList wpAnyH
open Go.Vs
theorem hJ_ (s : Str) (hs : s.length ≤ 140737488351232) :
    Fn0 Tryz.prog 199 #[str s] (.bool (gM_ s)) := by
  refine J_ Tryz.func199 rfl rfl Tryz.ntmps199 rfl fun v0 => ?_
  refine h_ (d_ (a_ (i_ rfl) rfl (e_ (c_ rfl (h_ (d_ (a_ (g_ rfl) rfl (x_ (dI_ rfl rfl) rfl fun r1 hr1 => ?_))))))))
  refine a_ (g_ rfl) rfl ?_
  cases r1
  · skip
    replace hr1 := aQ_ hr1
    refine y_ rfl rfl rfl rfl (y_ rfl rfl rfl rfl (y_ rfl rfl rfl rfl (a_ (M_ rfl rfl) rfl (a_ (g_ rfl) rfl (y_ rfl rfl rfl rfl (y_ rfl rfl rfl rfl (a_ (M_ rfl rfl) rfl (a_ (g_ rfl) rfl (y_ rfl rfl rfl rfl ?_)))))))))
    refine y_ rfl rfl rfl rfl (y_ rfl rfl rfl rfl (a_ (M_ rfl rfl) rfl (a_ (i_ rfl) rfl (e_ (c_ rfl (D_ ?_))))))
    exact aA_ Tryz.results199 () (I_ rfl (by simp [gM_, *])) (.refl _) (fun _ _ _ => trivial)
  · skip
    replace hr1 := aP_ hr1
    obtain ⟨c, t, rfl⟩ := List.exists_cons_of_ne_nil hr1
    refine r_ rfl rfl (a_ (g_ rfl) rfl (r_ rfl rfl (a_ (cW_ ak_ rfl rfl (by decide) rfl) rfl (r_ rfl rfl (aI_ (hK_ _) rfl (.refl _) (fun _ _ _ => trivial) rfl fun r2 hr2 => ?_)))))
    refine a_ (W_ rfl rfl) rfl (a_ (g_ rfl) rfl ?_)
    cases r2
    · skip
      refine y_ rfl rfl rfl rfl (y_ rfl rfl rfl rfl (a_ (M_ rfl rfl) rfl (a_ (g_ rfl) rfl (y_ rfl rfl rfl rfl (y_ rfl rfl rfl rfl (y_ rfl rfl rfl rfl (a_ (M_ rfl rfl) rfl (a_ (i_ rfl) rfl (e_ ?_)))))))))
      refine c_ rfl (D_ ?_)
      exact aA_ Tryz.results199 () (I_ rfl (by simp [gM_, *])) (.refl _) (fun _ _ _ => trivial)
    · skip
      refine r_ rfl rfl (a_ (g_ rfl) rfl (r_ rfl rfl (aI_ (kb_ _ (by assumption)) rfl (.refl _) (fun _ _ _ => trivial) rfl fun r3 hr3 => ?_)))
      refine a_ (W_ rfl rfl) rfl (a_ (g_ rfl) rfl ?_)
      cases r3
      · skip
        refine y_ rfl rfl rfl rfl (y_ rfl rfl rfl rfl (y_ rfl rfl rfl rfl (a_ (M_ rfl rfl) rfl (a_ (i_ rfl) rfl (e_ (c_ rfl (D_ ?_)))))))
        exact aA_ Tryz.results199 () (I_ rfl (by simp [gM_, *])) (.refl _) (fun _ _ _ => trivial)
      · skip
        refine r_ rfl rfl (a_ (g_ rfl) rfl (r_ rfl rfl (aI_ (lQ_ _) rfl (.refl _) (fun _ _ _ => trivial) rfl fun r4 hr4 => ?_)))
        refine r_ rfl rfl (a_ (bS_ rfl) rfl (a_ (W_ rfl rfl) rfl (a_ (i_ rfl) rfl (e_ (c_ rfl (D_ ?_))))))
        exact aA_ Tryz.results199 () (I_ rfl (by simp [gM_, *])) (.refl _) (fun _ _ _ => trivial)
theorem iP_ (s : Str) (hs : s.length ≤ 140737488351232) :
    Fn0 Tryz.prog 193 #[str s] (.bool (df_ s)) := by
  refine J_ Tryz.func193 rfl rfl Tryz.ntmps193 rfl fun v0 => ?_
  refine h_ (d_ (a_ (i_ rfl) rfl (e_ (c_ rfl (h_ (d_ (a_ (g_ rfl) rfl (a_ (cu_ ak_ rfl) rfl (x_ (de_ rfl rfl) rfl fun r1 hr1 => ?_)))))))))
  refine a_ (g_ rfl) rfl ?_
  cases r1
  · skip
    replace hr1 := of_decide_eq_false hr1
    refine y_ rfl rfl rfl rfl (y_ rfl rfl rfl rfl (y_ rfl rfl rfl rfl (a_ (M_ rfl rfl) rfl (a_ (g_ rfl) rfl (y_ rfl rfl rfl rfl (y_ rfl rfl rfl rfl (y_ rfl rfl rfl rfl (a_ (M_ rfl rfl) rfl (a_ (g_ rfl) rfl ?_)))))))))
    refine y_ rfl rfl rfl rfl (y_ rfl rfl rfl rfl (a_ (M_ rfl rfl) rfl (a_ (i_ rfl) rfl (e_ (c_ rfl (D_ ?_))))))
    exact aA_ Tryz.results193 () (I_ rfl (by subst_vars; rw [Bool.eq_iff_iff]; simp [df_] <;> simp at * <;> omega)) (.refl _) (fun _ _ _ => trivial)
  · skip
    replace hr1 := of_decide_eq_true hr1
    refine r_ rfl rfl (a_ (g_ rfl) rfl (r_ rfl rfl (a_ (cu_ ak_ rfl) rfl (r_ rfl rfl (x_ (cS_ rfl rfl) rfl fun r2 hr2 => ?_)))))
    refine a_ (W_ rfl rfl) rfl (a_ (g_ rfl) rfl ?_)
    cases r2
    · skip
      replace hr2 := of_decide_eq_false hr2
      refine y_ rfl rfl rfl rfl (y_ rfl rfl rfl rfl (y_ rfl rfl rfl rfl (a_ (M_ rfl rfl) rfl (a_ (g_ rfl) rfl (y_ rfl rfl rfl rfl (y_ rfl rfl rfl rfl (a_ (M_ rfl rfl) rfl (a_ (i_ rfl) rfl (e_ ?_)))))))))
      refine c_ rfl (D_ ?_)
      exact aA_ Tryz.results193 () (I_ rfl (by subst_vars; rw [Bool.eq_iff_iff]; simp [df_] <;> simp at * <;> omega)) (.refl _) (fun _ _ _ => trivial)
    · skip
      replace hr2 := of_decide_eq_true hr2
      obtain ⟨c, t, rfl⟩ := List.exists_cons_of_length_pos (l := s) (by omega)
      refine r_ rfl rfl (a_ (g_ rfl) rfl (r_ rfl rfl (a_ (cW_ ak_ rfl rfl (by decide) rfl) rfl (r_ rfl rfl (x_ (bk_ rfl rfl) rfl fun r3 hr3 => ?_)))))
      refine a_ (W_ rfl rfl) rfl (a_ (g_ rfl) rfl ?_)
      cases r3
      · skip
        replace hr3 := ne_of_beq_false hr3
        refine y_ rfl rfl rfl rfl (y_ rfl rfl rfl rfl (a_ (M_ rfl rfl) rfl (a_ (i_ rfl) rfl (e_ (c_ rfl (D_ ?_))))))
        exact aA_ Tryz.results193 () (I_ rfl (by subst_vars; rw [Bool.eq_iff_iff]; simp [df_] <;> simp at * <;> omega)) (.refl _) (fun _ _ _ => trivial)
      · skip
        replace hr3 := eq_of_beq hr3
        refine r_ rfl rfl (a_ (g_ rfl) rfl (r_ rfl rfl (aI_ (kb_ _ (by assumption)) rfl (.refl _) (fun _ _ _ => trivial) rfl fun r4 hr4 => ?_)))
        refine a_ (W_ rfl rfl) rfl (a_ (i_ rfl) rfl (e_ (c_ rfl (D_ ?_))))
        exact aA_ Tryz.results193 () (I_ rfl (by subst_vars; rw [Bool.eq_iff_iff]; simp [df_] <;> simp at * <;> omega)) (.refl _) (fun _ _ _ => trivial)
theorem gP_ (s : Str) (c : UInt8) : Fn0 Tryz.prog 225 #[str s, str [c]] (.int .i64 (Lib.indexByte s c)) :=
  eV_ (callable Tryz.func225 rfl rfl) fun w => (Tryz.stringslite_Index_one ⟨s.toArray⟩ c w).mono (by rintro e w' ⟨rfl, rfl⟩; exact ⟨rfl, rfl, rfl, rfl, rfl, Nat.le_refl _⟩)
theorem iU_ (s : Str) (c : UInt8) (hk : ixS c s = none) : Fn0 Tryz.prog 225 #[str s, str [c]] (.int .i64 (-1)) := by
  have h := gP_ s c
  rw [hc_, hk] at h
  exact h
theorem iT_ (s : Str) (c : UInt8) (k : Nat) (hk : ixS c s = some k) : Fn0 Tryz.prog 225 #[str s, str [c]] (.int .i64 (k : Int)) := by
  have h := gP_ s c
  rw [hc_, hk] at h
  exact h
theorem me_ (s : Str) (c : UInt8) (hk : ixS c s = none) :
    Fn0 Tryz.prog 215 #[str s, str [c]] (.tuple #[str s, str [], .bool false]) := by
  refine J_ Tryz.func215 rfl rfl Tryz.ntmps215 rfl fun v0 => ?_
  refine h_ (d_ (a_ (i_ rfl) rfl (a_ (i_ rfl) rfl (a_ (i_ rfl) rfl (e_ (c_ rfl (h_ (h_ (d_ ?_)))))))))
  refine a_ (g_ rfl) rfl (a_ (g_ rfl) rfl (aa_ (iU_ s c hk) rfl (.refl _) (fun _ _ _ => trivial) rfl fun _ => ?_))
  refine a_ (i_ rfl) rfl (e_ (c_ rfl (h_ (d_ (a_ (g_ rfl) rfl (x_ (de_ rfl rfl) rfl fun r1 hr1 => ?_))))))
  refine e_ (c_ rfl ?_)
  cases r1
  · skip
    replace hr1 := of_decide_eq_false hr1
    refine s_ rfl (B_ (c_ rfl (h_ (d_ (a_ (g_ rfl) rfl (a_ (i_ rfl) rfl (a_ (i_ rfl) rfl (a_ (i_ rfl) rfl (e_ ?_)))))))))
    refine c_ rfl (D_ ?_)
    exact nQ_ Tryz.results215 () rfl rfl rfl rfl (.refl _) (fun _ _ _ => trivial)
  · skip
    replace hr1 := of_decide_eq_true hr1
    exact absurd hr1 (by decide)
theorem md_ (s : Str) (c : UInt8) (k : Nat) (hk : ixS c s = some k) (hl : k < s.length) (hs : s.length ≤ 140737488351232) :
    Fn0 Tryz.prog 215 #[str s, str [c]] (.tuple #[str (s.take k), str (s.drop (k + 1)), .bool true]) := by
  refine J_ Tryz.func215 rfl rfl Tryz.ntmps215 rfl fun v0 => ?_
  refine h_ (d_ (a_ (i_ rfl) rfl (a_ (i_ rfl) rfl (a_ (i_ rfl) rfl (e_ (c_ rfl (h_ (h_ (d_ ?_)))))))))
  refine a_ (g_ rfl) rfl (a_ (g_ rfl) rfl (aa_ (iT_ s c k hk) rfl (.refl _) (fun _ _ _ => trivial) rfl fun _ => ?_))
  refine a_ (i_ rfl) rfl (e_ (c_ rfl (h_ (d_ (a_ (g_ rfl) rfl (x_ (de_ rfl rfl) rfl fun r1 hr1 => ?_))))))
  refine e_ (c_ rfl ?_)
  cases r1
  · skip
    replace hr1 := of_decide_eq_false hr1
    exact absurd (by omega) hr1
  · skip
    replace hr1 := of_decide_eq_true hr1
    refine p_ rfl (h_ ?_)
    refine az_ (by kernel_rfl) ?_
    refine ag_ 0 [0, 1, 2, 3, 4, 5, 6, 7, 8, 9, 10, 11] (by kernel_rfl) (fun _ a b => ⟨a, b⟩) (l_ rfl (g_ rfl) rfl (l_ rfl (g_ rfl) rfl (l_ rfl (dY_ (i := 0) (j := k) (kl := .i64) ak_ rfl rfl rfl (by omega) (by omega)) rfl (l_ rfl (g_ rfl) rfl (l_ rfl (g_ rfl) rfl (l_ rfl (g_ rfl) rfl (l_ rfl (cu_ ak_ rfl) rfl (l_ rfl (P_ rfl rfl rfl (an_ (by simp only [List.length_cons, List.length_nil]; omega) (by simp only [List.length_cons, List.length_nil]; omega))) rfl (l_ rfl (dY_ (i := k + 1) (j := s.length) (kh := .i64) ak_ rfl rfl rfl (by omega) (by omega)) rfl ?_)))))))))
    refine l_ rfl (i_ rfl) rfl (l_ rfl (i_ rfl) rfl (l_ rfl (i_ rfl) rfl (af_ (Y_ (by kernel_rfl) (c_ rfl (D_ ?_))))))
    exact nQ_ Tryz.results215 () rfl rfl rfl (by simp [List.take_of_length_le]) (.refl _) (fun _ _ _ => trivial)
theorem nm_ (s : Str) (c : UInt8) (hk : ixS c s = none) :
    Fn0 Tryz.prog 198 #[str s, str [c]] (.tuple #[str s, str [], .bool false]) := by
  refine J_ Tryz.func198 rfl rfl Tryz.ntmps198 rfl fun v0 => ?_
  refine h_ (d_ (a_ (i_ rfl) rfl (a_ (i_ rfl) rfl (a_ (i_ rfl) rfl (e_ (c_ rfl (h_ (d_ (a_ (g_ rfl) rfl ?_)))))))))
  refine a_ (g_ rfl) rfl (aa_ (me_ s c hk) rfl (.refl _) (fun _ _ _ => trivial) rfl fun _ => ?_)
  refine a_ (V_ rfl rfl) rfl (a_ (V_ rfl rfl) rfl (a_ (V_ rfl rfl) rfl (a_ (i_ rfl) rfl (a_ (i_ rfl) rfl (a_ (i_ rfl) rfl (e_ (c_ rfl (D_ ?_))))))))
  exact nQ_ Tryz.results198 () rfl rfl rfl rfl (.refl _) (fun _ _ _ => trivial)
theorem iR_ (s : Str) (hk : ixS 58 s = none) :
    Fn0 Tryz.prog 176 #[str s] (.bool (dp_ s)) := by
  refine J_ Tryz.func176 rfl rfl Tryz.ntmps176 rfl fun v0 => ?_
  refine h_ (d_ (a_ (i_ rfl) rfl (e_ (c_ rfl (h_ (h_ (d_ (a_ (g_ rfl) rfl (a_ (cu_ ak_ rfl) rfl ?_)))))))))
  refine x_ (bL_ rfl rfl) rfl fun r1 hr1 => ?_
  refine e_ (c_ rfl ?_)
  cases r1
  · skip
    replace hr1 := of_decide_eq_false hr1
    refine s_ rfl (B_ (c_ rfl (h_ (d_ (a_ (g_ rfl) rfl (aa_ (nm_ s 58 hk) rfl (.refl _) (fun _ _ _ => trivial) rfl fun _ => ?_))))))
    refine a_ (g_ rfl) rfl (a_ (V_ rfl rfl) rfl (a_ (V_ rfl rfl) rfl (a_ (V_ rfl rfl) rfl (a_ (i_ rfl) rfl (a_ (i_ rfl) rfl (a_ (i_ rfl) rfl (e_ (c_ rfl (h_ ?_)))))))))
    refine d_ (a_ (g_ rfl) rfl (aI_ (hJ_ _ (by first | omega | (simp; omega))) rfl (.refl _) (fun _ _ _ => trivial) rfl fun r2 hr2 => ?_))
    refine a_ (g_ rfl) rfl ?_
    cases r2
    · skip
      refine y_ rfl rfl rfl rfl (y_ rfl rfl rfl rfl (y_ rfl rfl rfl rfl (y_ rfl rfl rfl rfl (y_ rfl rfl rfl rfl (y_ rfl rfl rfl rfl (a_ (M_ rfl rfl) rfl (a_ (i_ rfl) rfl (e_ (c_ rfl ?_)))))))))
      refine D_ ?_
      exact aA_ gE_ () (I_ rfl (by simp [dp_, *] <;> omega)) (.refl _) (fun _ _ _ => trivial)
    · skip
      refine r_ rfl rfl (a_ (g_ rfl) rfl (r_ rfl rfl (a_ (bS_ rfl) rfl (r_ rfl rfl (a_ (g_ rfl) rfl (y_ rfl rfl rfl rfl (y_ rfl rfl rfl rfl (r_ rfl rfl (a_ (W_ rfl rfl) rfl ?_)))))))))
      refine a_ (W_ rfl rfl) rfl (a_ (i_ rfl) rfl (e_ (c_ rfl (D_ ?_))))
      exact aA_ gE_ () (I_ rfl (by simp [dp_, *] <;> omega)) (.refl _) (fun _ _ _ => trivial)
  · skip
    replace hr1 := of_decide_eq_true hr1
    refine p_ rfl (h_ (d_ (a_ (i_ rfl) rfl (e_ (c_ rfl (D_ ?_))))))
    exact aA_ gE_ () (I_ rfl (by simp [dp_, *] <;> omega)) (.refl _) (fun _ _ _ => trivial)
theorem nl_ (s : Str) (c : UInt8) (k : Nat) (hk : ixS c s = some k) (hl : k < s.length) (hs : s.length ≤ 140737488351232) :
    Fn0 Tryz.prog 198 #[str s, str [c]] (.tuple #[str (s.take k), str (s.drop (k + 1)), .bool true]) := by
  refine J_ Tryz.func198 rfl rfl Tryz.ntmps198 rfl fun v0 => ?_
  refine h_ (d_ (a_ (i_ rfl) rfl (a_ (i_ rfl) rfl (a_ (i_ rfl) rfl (e_ (c_ rfl (h_ (d_ (a_ (g_ rfl) rfl ?_)))))))))
  refine a_ (g_ rfl) rfl (aa_ (md_ s c k hk hl hs) rfl (.refl _) (fun _ _ _ => trivial) rfl fun _ => ?_)
  refine a_ (V_ rfl rfl) rfl (a_ (V_ rfl rfl) rfl (a_ (V_ rfl rfl) rfl (a_ (i_ rfl) rfl (a_ (i_ rfl) rfl (a_ (i_ rfl) rfl (e_ (c_ rfl (D_ ?_))))))))
  exact nQ_ Tryz.results198 () rfl rfl rfl rfl (.refl _) (fun _ _ _ => trivial)
theorem iQ_ (s : Str) (k : Nat) (hk : ixS 58 s = some k) (hl : k < s.length) :
    Fn0 Tryz.prog 176 #[str s] (.bool (dp_ s)) := by
  refine J_ Tryz.func176 rfl rfl Tryz.ntmps176 rfl fun v0 => ?_
  refine h_ (d_ (a_ (i_ rfl) rfl (e_ (c_ rfl (h_ (h_ (d_ (a_ (g_ rfl) rfl (a_ (cu_ ak_ rfl) rfl ?_)))))))))
  refine x_ (bL_ rfl rfl) rfl fun r1 hr1 => ?_
  refine e_ (c_ rfl ?_)
  cases r1
  · skip
    replace hr1 := of_decide_eq_false hr1
    refine s_ rfl (B_ (c_ rfl (h_ (d_ (a_ (g_ rfl) rfl (aa_ (nl_ s 58 k hk hl (by omega)) rfl (.refl _) (fun _ _ _ => trivial) rfl fun _ => ?_))))))
    refine a_ (g_ rfl) rfl (a_ (V_ rfl rfl) rfl (a_ (V_ rfl rfl) rfl (a_ (V_ rfl rfl) rfl (a_ (i_ rfl) rfl (a_ (i_ rfl) rfl (a_ (i_ rfl) rfl (e_ (c_ rfl (h_ ?_)))))))))
    refine d_ (a_ (g_ rfl) rfl (aI_ (hJ_ _ (by first | omega | (simp; omega))) rfl (.refl _) (fun _ _ _ => trivial) rfl fun r2 hr2 => ?_))
    refine a_ (g_ rfl) rfl ?_
    cases r2
    · skip
      refine y_ rfl rfl rfl rfl (y_ rfl rfl rfl rfl (y_ rfl rfl rfl rfl (y_ rfl rfl rfl rfl (y_ rfl rfl rfl rfl (y_ rfl rfl rfl rfl (a_ (M_ rfl rfl) rfl (a_ (i_ rfl) rfl (e_ (c_ rfl ?_)))))))))
      refine D_ ?_
      exact aA_ gE_ () (I_ rfl (by simp [dp_, *] <;> omega)) (.refl _) (fun _ _ _ => trivial)
    · skip
      refine r_ rfl rfl (a_ (g_ rfl) rfl (r_ rfl rfl (a_ (bS_ rfl) rfl (r_ rfl rfl (a_ (g_ rfl) rfl (r_ rfl rfl (a_ (g_ rfl) rfl (r_ rfl rfl (aI_ (hJ_ _ (by first | omega | (simp; omega))) rfl (.refl _) (fun _ _ _ => trivial) rfl fun r3 hr3 => ?_)))))))))
      refine r_ rfl rfl (a_ (M_ rfl rfl) rfl (a_ (W_ rfl rfl) rfl (a_ (i_ rfl) rfl (e_ (c_ rfl (D_ ?_))))))
      exact aA_ gE_ () (I_ rfl (by simp [dp_, *] <;> omega)) (.refl _) (fun _ _ _ => trivial)
  · skip
    replace hr1 := of_decide_eq_true hr1
    refine p_ rfl (h_ (d_ (a_ (i_ rfl) rfl (e_ (c_ rfl (D_ ?_))))))
    exact aA_ gE_ () (I_ rfl (by simp [dp_, *] <;> omega)) (.refl _) (fun _ _ _ => trivial)
theorem lW_ (s : Str) : Fn0 Tryz.prog 176 #[str s] (.bool (dp_ s)) := by
  cases hk : ixS 58 s with
  | none => exact iR_ s hk
  | some k => exact iQ_ s k hk (kE_ hk)
theorem kj_ (s : Str) (hs : s.length ≤ 140737488351232) :
    Fn0 Tryz.prog 164 #[str s] (.int .i64 (if bO_ s then 0 else 20)) := by
  refine J_ Tryz.func164 rfl rfl Tryz.ntmps164 rfl fun v0 => ?_
  refine h_ (d_ (a_ (i_ rfl) rfl (e_ (c_ rfl (h_ (h_ (d_ (a_ (g_ rfl) rfl (aI_ (lW_ _) rfl (.refl _) (fun _ _ _ => trivial) rfl fun r1 hr1 => ?_)))))))))
  refine a_ (g_ rfl) rfl ?_
  cases r1
  · skip
    refine r_ rfl rfl (a_ (g_ rfl) rfl (r_ rfl rfl (aI_ (iP_ _ hs) rfl (.refl _) (fun _ _ _ => trivial) rfl fun r2 hr2 => ?_)))
    refine a_ (M_ rfl rfl) rfl (e_ (c_ rfl ?_))
    cases r2
    · skip
      refine s_ rfl (B_ (c_ rfl (h_ (d_ (a_ (i_ rfl) rfl (e_ (c_ rfl (D_ ?_))))))))
      exact aA_ Tryz.results164 () (ci_ rfl (by simp [bO_, *])) (.refl _) (fun _ _ _ => trivial)
    · skip
      refine p_ rfl (h_ (d_ (a_ (i_ rfl) rfl (e_ (c_ rfl (D_ ?_))))))
      exact aA_ Tryz.results164 () (ci_ rfl (by simp [bO_, *])) (.refl _) (fun _ _ _ => trivial)
  · skip
    refine y_ rfl rfl rfl rfl (y_ rfl rfl rfl rfl (a_ (W_ rfl rfl) rfl (e_ (c_ rfl (p_ rfl (h_ (d_ (a_ (i_ rfl) rfl (e_ ?_)))))))))
    refine c_ rfl (D_ ?_)
    exact aA_ Tryz.results164 () (ci_ rfl (by simp [bO_, *])) (.refl _) (fun _ _ _ => trivial)
theorem di_ (s : Str) (hs : s.length ≤ 140737488351232) :
    Fn0 Tryz.prog 126 #[str s] (.bool (bO_ s)) := by
  refine J_ Tryz.func126 rfl rfl Tryz.ntmps126 rfl fun v0 => ?_
  refine h_ (d_ (a_ (i_ rfl) rfl (e_ (c_ rfl (h_ (d_ (a_ (g_ rfl) rfl (aa_ (kj_ s hs) rfl (.refl _) (fun _ _ _ => trivial) rfl fun _ => ?_))))))))
  refine x_ (bk_ rfl rfl) rfl fun r1 hr1 => ?_
  refine a_ (i_ rfl) rfl (e_ (c_ rfl (D_ ?_)))
  exact aA_ Tryz.results126 () (I_ rfl (by subst_vars; cases bO_ s <;> rfl)) (.refl _) (fun _ _ _ => trivial)
end Go.Proofs.YtpdbbglpbngeiaaGreatDoor
namespace Go.Proofs.YtpdbbglpbngeiaaGreatDoor
open Go Go.Sx Go.Proofs
attribute [local irreducible] Code.wp wpList wpAnyH
open Go.Vs
def eu_ : Fct := ap_ (some ⟨0, 0, none⟩) (mU_.flatMap NUse.cells)
end Go.Proofs.YtpdbbglpbngeiaaGreatDoor
namespace Go.Proofs.YtpdbbglpbngeiaaGreatDoor
open Go Go.Sx Go.Proofs
attribute [local irreducible] Code.wp wpList wpAnyH
open Go.Vs
theorem eqPc (p q : Pc) (w : World) : (Op.equalIn 10000 47 p.val q.val).run Tryz.prog w = .ok (decide (p = q)) w := by
  have h := run_equalIn_struct (P := Tryz.prog) w 9999 47 p.cells.toArray q.cells.toArray (by simp only [Program.fieldsOf, im_]) Tryz.stoodInHeld47
  refine h.trans ?_
  rw [← Pc.eqb_eq]
  simp only [Program.fieldsOf, im_]
  exact bE_ rfl O_ rfl rfl (eqI bs_ w) (bE_ rfl u_ rfl rfl (eqS aZ_ w) (bE_ rfl u_ rfl rfl (eqS aZ_ w) (bE_ rfl u_ rfl rfl (eqS aZ_ w) (bE_ rfl u_ rfl rfl (eqS aZ_ w) (bE_ rfl u_ rfl rfl (eqS aZ_ w) (bE_ rfl u_ rfl rfl (eqS aZ_ w) (bE_ rfl O_ rfl rfl (eqI bs_ w) (bE_ rfl O_ rfl rfl (eqI bs_ w) (bE_ rfl O_ rfl rfl (eqI bs_ w) (hd_ w))))))))))
theorem eqFc (p q : Fc) (w : World) : (Op.equalIn 10000 41 p.val q.val).run Tryz.prog w = .ok (decide (p = q)) w := by
  have h := run_equalIn_struct (P := Tryz.prog) w 9999 41 p.cells.toArray q.cells.toArray (by simp only [Program.fieldsOf, Tryz.underlying41]) Tryz.stoodInHeld41
  refine h.trans ?_
  rw [← Fc.eqb_eq]
  simp only [Program.fieldsOf, Tryz.underlying41]
  exact bE_ rfl O_ rfl rfl (eqI bs_ w) (bE_ rfl u_ rfl rfl (eqS aZ_ w) (bE_ rfl u_ rfl rfl (eqS aZ_ w) (bE_ rfl u_ rfl rfl (eqS aZ_ w) (bE_ rfl O_ rfl rfl (eqI bs_ w) (bE_ rfl O_ rfl rfl (eqI bs_ w) (hd_ w))))))
theorem keyPc (p : Pc) : fP_ Tryz.prog 47 p.val := fun e w => by
  have hi : ∀ (n : Int) (w : World), (Instr.checkKey e (9998 + 1) 3 (.int .i64 n)).run Tryz.prog w = .ok () w := fun n w => MapKept.run_checkKey (d := .int .i64) bs_ (by simp [MapKept.IsKey]) e 9998
  have hs : ∀ (n : Str) (w : World), (Instr.checkKey e (9998 + 1) 9 (str n)).run Tryz.prog w = .ok () w := fun n w => MapKept.run_checkKey (d := .string) aZ_ (by simp [MapKept.IsKey, str]) e 9998
  refine ckF (n := 9999) im_ fun f hf => ?_
  simp only [List.mem_cons, List.not_mem_nil, or_false] at hf
  rcases hf with rfl | rfl | rfl | rfl | rfl | rfl | rfl | rfl | rfl | rfl
  · exact ⟨rfl, O_, _, rfl, hi _⟩
  · exact ⟨rfl, u_, _, rfl, hs _⟩
  · exact ⟨rfl, u_, _, rfl, hs _⟩
  · exact ⟨rfl, u_, _, rfl, hs _⟩
  · exact ⟨rfl, u_, _, rfl, hs _⟩
  · exact ⟨rfl, u_, _, rfl, hs _⟩
  · exact ⟨rfl, u_, _, rfl, hs _⟩
  · exact ⟨rfl, O_, _, rfl, hi _⟩
  · exact ⟨rfl, O_, _, rfl, hi _⟩
  · exact ⟨rfl, O_, _, rfl, hi _⟩
theorem kp_ : jh_ Tryz.prog 47 [(0, 1), (1, 1), (2, 1), (3, 1), (4, 1), (5, 1), (6, 1), (7, 1), (8, 1), (9, 1)] [.int .i64 0, str [], str [], str [], str [], str [], str [], .int .i64 0, .int .i64 0, .int .i64 0] := ⟨_, aJ_, z_, fun w => by simp [T_, o_]⟩
theorem kq_ : jh_ Tryz.prog 41 [(0, 1), (1, 1), (2, 1), (3, 1), (4, 1), (5, 1)] [.int .i64 0, str [], str [], str [], .int .i64 0, .int .i64 0] := ⟨_, bb_, n_, fun w => by simp [T_, o_]⟩
end Go.Proofs.YtpdbbglpbngeiaaGreatDoor
namespace Go.Proofs.YtpdbbglpbngeiaaGreatDoor
open Go Go.Sx Go.Proofs
attribute [local irreducible] Code.wp wpList wpAnyH
open Go.Vs
theorem lw_ {N : Nat} {fr : Fr} {H : Hp} {Γ : List Fct} {ty t' : TypeId} {x y : Operand} {p q : Fc} (hx : Fr.ev fr x = some p.val) (hy : Fr.ev fr y = some q.val) : Yld Tryz.prog N fr H Γ (.binOp .eql 41 x y t') ty (.bool (decide (p = q))) :=
  fun a v h1 _ _ _ _ _ => by
    have hg : (Program.eqGuardType Tryz.prog Tryz.prog.depth 41) = false := by kernel_rfl
    have he := eqFc p q v.w
    simp only [execOp, h1.ev hx, h1.ev hy, eqGuard, Fc.val, binOp, Op.equal, Sem.run_bind, Result.andThen_ok]
    simp only [run_program, Result.andThen_ok, hg, Bool.not_false, if_true, Sem.run_pure]
    simp only [Fc.val] at he
    simp [Op.maxDepth, he]
theorem dU_ {N : Nat} {fr : Fr} {H : Hp} {Γ : List Fct} {ty t' : TypeId} {x y : Operand} {p q : Fc} (hx : Fr.ev fr x = some p.val) (hy : Fr.ev fr y = some q.val) : Yld Tryz.prog N fr H Γ (.binOp .neq 41 x y t') ty (.bool (decide (p ≠ q))) :=
  fun a v h1 _ _ _ _ _ => by
    have hg : (Program.eqGuardType Tryz.prog Tryz.prog.depth 41) = false := by kernel_rfl
    have he := eqFc p q v.w
    simp only [execOp, h1.ev hx, h1.ev hy, eqGuard, Fc.val, binOp, Op.equal, Sem.run_bind, Result.andThen_ok]
    simp only [run_program, Result.andThen_ok, hg, Bool.not_false, if_true, Sem.run_pure]
    simp only [Fc.val] at he
    simp [Op.maxDepth, he]
theorem iJ_ (s : Str) (c : UInt8) : Fn0 Tryz.prog 212 #[str s, str [c]] (.int .i64 (Lib.indexByte s c)) :=
  eV_ (callable Tryz.func212 rfl rfl) fun w => (Tryz.strings_Index_one ⟨s.toArray⟩ c w).mono (by rintro e w' ⟨rfl, rfl⟩; exact ⟨rfl, rfl, rfl, rfl, rfl, Nat.le_refl _⟩)
theorem id_ (s : Str) (c : UInt8) (k : Nat) (hk : ixS c s = some k) : Fn0 Tryz.prog 212 #[str s, str [c]] (.int .i64 (k : Int)) := by
  have h := iJ_ s c
  rw [hc_, hk] at h
  exact h
theorem mD_ (s : Str) (c : UInt8) : Fn0 Tryz.prog 211 #[str s, str [c]] (.int .i64 (cN_ c s : Int)) :=
  eV_ (callable Tryz.func211 rfl rfl) fun w => (Tryz.strings_Count_one ⟨s.toArray⟩ c w).mono (by rintro e w' ⟨rfl, rfl⟩; exact ⟨rfl, rfl, rfl, rfl, rfl, Nat.le_refl _⟩)
theorem ok_H {N : Nat} {v0 : Vw} {H0 : Hp} {k : Act → World → Prop} {fr : Fr} {H H' : Hp} {Γ : List Fct} (e : H = H') (h : Ok N v0 H0 k fr H' Γ) : Ok N v0 H0 k fr H Γ := e ▸ h
theorem kI_ (s : Str) (c : UInt8) (hs : s.length ≤ 17592186044414) : Tri Tryz.prog 191 #[str s, str [c], .int .i64 0, .int .i64 (-1)] [] [] (fun b : Nat => .slice (some ⟨b, 0, none⟩) (by_ c s).length (by_ c s).length) (fun _ => []) (fun b => [ap_ (some ⟨b, 0, none⟩) ((by_ c s).flatMap aL_)]) := by
 have hcl := he_ c s
 refine J_ Tryz.func191 rfl rfl Tryz.ntmps191 rfl fun v0 => ?_
 refine h_ (d_ (a_ (i_ rfl) rfl (e_ (c_ rfl (h_ (h_ (d_ (a_ (g_ rfl) rfl (x_ (bk_ rfl rfl) rfl fun r1 hr1 => ?_)))))))))
 refine e_ (c_ rfl ?_)
 cases r1
 ·
  replace hr1 := ne_of_beq_false hr1
  refine s_ rfl (B_ (c_ rfl (h_ (h_ (d_ (a_ (g_ rfl) rfl (x_ (bo_ rfl rfl) rfl fun r2 hr2 => ?_)))))))
  refine e_ (c_ rfl ?_)
  cases r2
  ·
   replace hr2 := ne_of_beq_false hr2
   refine s_ rfl (B_ (c_ rfl (h_ (h_ (d_ (a_ (g_ rfl) rfl (x_ (ar_ rfl rfl) rfl fun r3 hr3 => ?_)))))))
   refine e_ (c_ rfl ?_)
   cases r3
   ·
    replace hr3 := of_decide_eq_false hr3
    exact absurd (by decide) hr3
   ·
    replace hr3 := of_decide_eq_true hr3
    refine p_ rfl (d_ (a_ (g_ rfl) rfl (a_ (g_ rfl) rfl (aa_ (mD_ s c) rfl (.refl _) (fun _ _ _ => trivial) rfl fun _ => ?_))))
    refine a_ (P_ rfl rfl rfl (an_ (by omega) (by omega))) rfl (a_ (i_ rfl) rfl (e_ (c_ rfl (h_ (d_ (a_ (g_ rfl) rfl (a_ (g_ rfl) rfl (a_ (cu_ ak_ rfl) rfl (a_ (P_ rfl rfl rfl (an_ (by omega) (by omega))) rfl ?_)))))))))
    refine a_ (bG_ (kU_ rfl rfl) (show _ = Value.int .i64 ((cN_ c s + 1 : Nat) : Int) by rw [if_neg (by omega)]; rfl)) rfl (a_ (i_ rfl) rfl (e_ (c_ rfl (h_ (d_ (a_ (g_ rfl) rfl (lO_ (n := cN_ c s + 1) (by' := 16) in_ (z := .string ⟨#[]⟩) (by kernel_rfl) rfl rfl rfl (by omega) (by omega) rfl fun b1 => ?_)))))))
    refine a_ (i_ rfl) rfl (e_ (c_ rfl (h_ (d_ (a_ (g_ rfl) rfl (a_ (bG_ (P_ rfl rfl rfl (an_ (by omega) (by omega))) (show _ = Value.int .i64 (cN_ c s : Int) by first | rfl | (congr 1; omega))) rfl (a_ (i_ rfl) rfl (e_ (c_ rfl ?_)))))))))
    refine h_ (d_ (a_ (i_ rfl) rfl (e_ (c_ rfl (h_ (K_ (ee_ [(0, str s), (1, str [c]), (2, .int .i64 0), (3, .int .i64 (cN_ c s : Int)), (9, .slice (some ⟨b1, 0, none⟩) (cN_ c s + 1) (cN_ c s + 1)), (10, .int .i64 ((0 : Nat) : Int))] ⟨rfl, rfl, rfl, rfl, rfl, rfl, trivial⟩ ?_)))))))
    refine ed_ (ι := {x : Nat × List Str × Str // x.2.1.length = x.1 ∧ by_ c s = x.2.1 ++ by_ c x.2.2 ∧ x.1 + cN_ c x.2.2 = cN_ c s ∧ x.2.2.length ≤ s.length}) (fun x => [(0, str x.1.2.2), (1, str [c]), (2, .int .i64 0), (3, .int .i64 (cN_ c s : Int)), (9, .slice (some ⟨b1, 0, none⟩) (cN_ c s + 1) (cN_ c s + 1)), (10, .int .i64 (x.1.1 : Int))]) (fun x => [(b1, .cells (x.1.2.1.map str ++ List.replicate (cN_ c s + 1 - x.1.1) (Value.string ⟨#[]⟩)).toArray 9 (0, 0))]) (fun _ => _) (fun x => cN_ c s - x.1.1) ⟨(0, [], s), rfl, rfl, by simp, by simp⟩ ?_
    rintro ⟨⟨i, dn, r⟩, hk⟩
    dsimp only at hk
    obtain ⟨hk1, hk2, hk3, hk4⟩ := hk
    refine ee_ [(0, str r), (1, str [c]), (2, .int .i64 0), (3, .int .i64 (cN_ c s : Int)), (9, .slice (some ⟨b1, 0, none⟩) (cN_ c s + 1) (cN_ c s + 1)), (10, .int .i64 (i : Int))] ⟨rfl, rfl, rfl, rfl, rfl, rfl, trivial⟩ ?_
    have hrep : ∀ k, k < cN_ c s + 1 → List.replicate (cN_ c s + 1 - k) (Value.string ⟨#[]⟩) = Value.string ⟨#[]⟩ :: List.replicate (cN_ c s - k) (Value.string ⟨#[]⟩) := fun k hk => by rw [show cN_ c s + 1 - k = (cN_ c s - k) + 1 by omega]; rfl
    refine ok_H (H' := [(b1, .cells (dn.map str ++ Value.string ⟨#[]⟩ :: List.replicate (cN_ c s - i) (Value.string ⟨#[]⟩)).toArray 9 (0, 0))]) (by dsimp only; rw [hrep i (by omega)]) ?_
    refine h_ (h_ (d_ (a_ (g_ rfl) rfl (a_ (g_ rfl) rfl (x_ (ar_ rfl rfl) rfl fun r4 hr4 => ?_)))))
    refine e_ (c_ rfl ?_)
    cases r4
    ·
     replace hr4 := of_decide_eq_false hr4
     obtain rfl : i = cN_ c s := by omega
     have hr0 : by_ c r = [r] := by
            cases hx : ixS c r with
            | none => exact ff_ hx
            | some k => have := iF_ hx; omega
     rw [hr0] at hk2
     refine s_ rfl (au_ rfl (c_ rfl (h_ (d_ (a_ (g_ rfl) rfl (a_ (g_ rfl) rfl (a_ (g_ rfl) rfl (a_ (fw_ H_ o_ rfl rfl (by omega) (by omega)) rfl (hz_ 0 o_ rfl rfl rfl (by simp [hk1]) rfl rfl ?_)))))))))
     refine e_ (c_ rfl (h_ (d_ (a_ (g_ rfl) rfl (a_ (g_ rfl) rfl (a_ (bG_ (P_ rfl rfl rfl (an_ (by omega) (by omega))) (show _ = Value.int .i64 ((cN_ c s + 1 : Nat) : Int) by first | rfl | (congr 1; omega))) rfl (a_ (bG_ (fR_ (i := 0) (j := cN_ c s + 1) (kl := .i64) (kh := .i64) H_ o_ rfl rfl rfl (by omega) (by omega)) (show _ = Value.slice (some ⟨b1, 0, none⟩) (cN_ c s + 1) (cN_ c s + 1) by rw [jz_]; rfl)) rfl (a_ (i_ rfl) rfl (e_ ?_)))))))))
     refine c_ rfl (D_ (da_ ((by_ c s).flatMap aL_) f_ (by rw [hk2, hn_]; simp) ?_))
     have hl := cY_ c s
     exact aA_ Tryz.results191 b1 (eU_ rfl (by rw [hl])) (.refl _) (fun v _ h => ⟨h.1, trivial⟩)
    ·
     replace hr4 := of_decide_eq_true hr4
     obtain ⟨k, hix⟩ : ∃ k, ixS c r = some k := by
            cases hx : ixS c r with
            | none => have := mg_ hx; omega
            | some k => exact ⟨k, rfl⟩
     have hcs := iF_ hix
     have hkl := kE_ hix
     refine p_ rfl (B_ (c_ rfl (K_ (h_ (d_ (a_ (g_ rfl) rfl (a_ (g_ rfl) rfl (aa_ (id_ r c k hix) rfl (.refl _) (fun _ _ _ => trivial) rfl fun _ => ?_))))))))
     refine a_ (i_ rfl) rfl (e_ (c_ rfl (h_ (h_ (d_ (a_ (g_ rfl) rfl (x_ (ar_ rfl rfl) rfl fun r5 hr5 => ?_)))))))
     refine e_ (c_ rfl ?_)
     cases r5
     ·
      replace hr5 := of_decide_eq_false hr5
      refine s_ rfl (B_ (c_ rfl (h_ (d_ (a_ (g_ rfl) rfl (a_ (g_ rfl) rfl (a_ (g_ rfl) rfl (a_ (g_ rfl) rfl (a_ (g_ rfl) rfl ?_)))))))))
      refine a_ (bG_ (P_ rfl rfl rfl (an_ (by omega) (by omega))) (show _ = Value.int .i64 (k : Int) by first | rfl | (congr 1; omega))) rfl (a_ (bG_ (dY_ (i := 0) (j := k) (kl := .i64) (kh := .i64) ak_ rfl rfl rfl (by omega) (by omega)) (show _ = str (r.take k) by simp)) rfl (a_ (fw_ H_ o_ rfl rfl (by omega) (by omega)) rfl (hz_ 0 o_ rfl rfl rfl (by simp [hk1]) rfl rfl (e_ (c_ rfl (h_ (d_ (a_ (g_ rfl) rfl (a_ (g_ rfl) rfl ?_)))))))))
      refine a_ (g_ rfl) rfl (a_ (cu_ ak_ rfl) rfl (a_ (bG_ (P_ rfl rfl rfl (an_ (by simp only [List.length_cons, List.length_nil]; omega) (by simp only [List.length_cons, List.length_nil]; omega))) (show _ = Value.int .i64 ((k + 1 : Nat) : Int) by first | rfl | (congr 1; omega))) rfl (a_ (bG_ (dY_ (i := k + 1) (j := r.length) (kl := .i64) (kh := .i64) ak_ rfl rfl rfl (by omega) (by omega)) (show _ = str (r.drop (k + 1)) by rw [List.take_of_length_le (by simp)])) rfl (a_ (i_ rfl) rfl (e_ (c_ rfl (d_ (a_ (g_ rfl) rfl (a_ (bG_ (P_ rfl rfl rfl (an_ (by omega) (by omega))) (show _ = Value.int .i64 ((i + 1 : Nat) : Int) by first | rfl | (congr 1; omega))) rfl ?_)))))))))
      refine a_ (i_ rfl) rfl (e_ (v_ rfl ?_))
      exact ai_ ⟨(i + 1, dn ++ [r.take k], r.drop (k + 1)), by simp [hk1], by rw [hk2, fe_ hix, List.append_assoc]; rfl, by dsimp only; omega, by simp; omega⟩ (by dsimp only; omega) ⟨rfl, rfl, rfl, rfl, rfl, rfl, trivial⟩ (F := []) (List.Perm.of_eq (by simp [show cN_ c s + 1 - (i + 1) = cN_ c s - i by omega])) (fun _ _ h => h)
     ·
      replace hr5 := of_decide_eq_true hr5
      exfalso; omega
  ·
   replace hr2 := eq_of_beq hr2
   cases hr2
 ·
  replace hr1 := eq_of_beq hr1
  exact absurd hr1 (by decide)
theorem nF_ (s : Str) (c : UInt8) (hs : s.length ≤ 17592186044414) : Tri Tryz.prog 161 #[str s, str [c]] [] [] (fun b : Nat => .slice (some ⟨b, 0, none⟩) (by_ c s).length (by_ c s).length) (fun _ => []) (fun b => [ap_ (some ⟨b, 0, none⟩) ((by_ c s).flatMap aL_)]) := by
  refine J_ Tryz.func161 rfl rfl Tryz.ntmps161 rfl fun v0 => ?_
  refine h_ (d_ (a_ (i_ rfl) rfl (e_ (c_ rfl (h_ (d_ (a_ (g_ rfl) rfl (a_ (g_ rfl) rfl (aa_ (kI_ s c hs) rfl (.refl _) (fun _ _ _ => trivial) rfl fun b => ?_)))))))))
  refine a_ (i_ rfl) rfl (e_ (c_ rfl (D_ ?_)))
  exact aA_ Tryz.results161 b rfl (.refl _) (fun v _ h => ⟨h.1, trivial⟩)
end Go.Proofs.YtpdbbglpbngeiaaGreatDoor
namespace Go.Proofs.YtpdbbglpbngeiaaGreatDoor
open Go Go.Sx Go.Proofs
attribute [local irreducible] Code.wp wpList wpAnyH
open Go.Vs
theorem iV_ {g : FuncId} {pred : Str → Bool} (xs : List Str) (ad : Option Addr) (cap : Nat) (hlen : xs.length ≤ 17592186044415) (hT : ∀ x ∈ xs, Fn0 Tryz.prog g #[str x] (.bool (pred x))) :
    Tri Tryz.prog 192 #[.slice ad (List.length xs) cap, .func (.func g) #[] #[]] [] [ap_ ad (List.flatMap aL_ xs)] (fun r : {r : Int // decide (0 ≤ r) = xs.any pred} => .int .i64 r.1) (fun _ => []) (fun _ => []) := by
  refine J_ Tryz.func192 rfl rfl Tryz.ntmps192 rfl fun v0 => ?_
  refine h_ (d_ (a_ (i_ rfl) rfl (e_ (c_ rfl (h_ (h_ (d_ (a_ (g_ rfl) rfl (a_ (ae_ H_ rfl) rfl ?_)))))))))
  refine a_ (g_ rfl) rfl (e_ (c_ rfl (K_ (ee_ [(0, .slice ad (List.length xs) cap), (1, .func (.func g) #[] #[]), (7, .int .i64 (List.length xs : Int)), (8, .int .i64 ((0 : Nat) : Int))] ⟨rfl, rfl, rfl, rfl, trivial⟩ ?_))))
  refine ed_ (ι := {q : Nat // q ≤ xs.length ∧ (xs.take q).any pred = false}) (fun i => [(0, .slice ad (List.length xs) cap), (1, .func (.func g) #[] #[]), (7, .int .i64 (List.length xs : Int)), (8, .int .i64 (i.1 : Int))]) (fun _ => _) (fun _ => _) (fun i => xs.length - i.1) ⟨0, by simp⟩ ?_
  rintro ⟨i, hk⟩
  refine ee_ [(0, .slice ad (List.length xs) cap), (1, .func (.func g) #[] #[]), (7, .int .i64 (List.length xs : Int)), (8, .int .i64 (i : Int))] ⟨rfl, rfl, rfl, rfl, trivial⟩ ?_
  refine h_ (d_ (x_ (ar_ rfl rfl) rfl fun r1 hr1 => ?_))
  refine e_ (c_ rfl (h_ ?_))
  cases r1
  · skip
    replace hr1 := of_decide_eq_false hr1
    refine s_ rfl (au_ rfl (c_ rfl (h_ (d_ (a_ (i_ rfl) rfl (e_ (c_ rfl (D_ ?_))))))))
    exact aA_ Tryz.results192 ⟨-1, by have := hk.2; rw [List.take_of_length_le (by omega)] at this; show _ = xs.any pred; rw [this]; rfl⟩ rfl (.refl _) (fun _ _ _ => trivial)
  · skip
    replace hr1 := of_decide_eq_true hr1
    have hlx1 : i < List.length xs := by omega
    obtain ⟨x1, hx1⟩ : ∃ e0, xs[i]? = some e0 := ⟨_, List.getElem?_eq_getElem hlx1⟩
    have hmx1 : x1 ∈ xs := List.mem_of_getElem? hx1
    refine p_ rfl (B_ (c_ rfl (h_ (K_ (h_ (d_ (a_ (g_ rfl) rfl (a_ (i_ rfl) rfl (e_ ?_)))))))))
    refine c_ rfl (h_ (d_ (a_ (g_ rfl) rfl (a_ (g_ rfl) rfl (a_ (g_ rfl) rfl (a_ (al_ H_ o_ rfl rfl (fun v _ h => aG_ (n := 1) ba_ (by decide) (by exact h.1) hx1) (by omega) (by first | omega | (simp; done))) rfl (a_ (bu_ (ad := ad) u_ rfl (fun v _ h => by exact h.1) (ao_ ba_ hx1 0 _ rfl)) rfl (bH_ (hT x1 hmx1) rfl rfl F_ (fun _ _ _ => by exact trivial) rfl fun r2 hr2 => ?_))))))))
    refine e_ (c_ rfl ?_)
    cases r2
    · skip
      refine s_ rfl (B_ (c_ rfl (d_ (a_ (P_ rfl rfl rfl (an_ (by omega) (by omega))) rfl (a_ (g_ rfl) rfl (e_ (v_ rfl ?_)))))))
      exact ai_ ⟨i + 1, hlx1, by rw [List.take_add_one, hx1]; simp only [Option.toList_some, List.any_append, hk.2]; simp [*]⟩ (by simp; omega) ⟨rfl, rfl, rfl, rfl, trivial⟩ (.refl _) (fun _ _ h => h)
    · skip
      refine p_ rfl (h_ (d_ (a_ (g_ rfl) rfl (a_ (i_ rfl) rfl (e_ (c_ rfl (D_ ?_)))))))
      exact aA_ Tryz.results192 ⟨(i : Int), by show _ = xs.any pred; rw [show xs.any pred = true from List.any_eq_true.2 ⟨x1, hmx1, by assumption⟩]; exact decide_eq_true (by omega)⟩ rfl (.refl _) (fun _ _ _ => trivial)
theorem gY_ {g : FuncId} {pred : Str → Bool} (xs : List Str) (ad : Option Addr) (cap : Nat) (hlen : xs.length ≤ 17592186044415) (hT : ∀ x ∈ xs, Fn0 Tryz.prog g #[str x] (.bool (pred x))) :
    Tri Tryz.prog 162 #[.slice ad (List.length xs) cap, .func (.func g) #[] #[]] [] [ap_ ad (List.flatMap aL_ xs)] (fun _ : Unit => .bool (xs.any pred)) (fun _ => []) (fun _ => []) := by
  refine J_ Tryz.func162 rfl rfl Tryz.ntmps162 rfl fun v0 => ?_
  refine h_ (d_ (a_ (i_ rfl) rfl (e_ (c_ rfl (h_ (d_ (a_ (g_ rfl) rfl (a_ (g_ rfl) rfl (aa_ (iV_ xs ad cap hlen hT) rfl F_ (fun v _ h => by exact ⟨h.1, trivial⟩) rfl fun x => ?_)))))))))
  refine x_ (de_ rfl rfl) rfl fun r1 hr1 => ?_
  refine a_ (i_ rfl) rfl (e_ (c_ rfl (D_ ?_)))
  exact aA_ Tryz.results162 () (I_ rfl (hr1.symm.trans x.2)) (.refl _) (fun _ _ _ => trivial)
theorem lV_ (s : Str) (hs : s.length ≤ 140737488351232) : Fn0 Tryz.prog 163 #[str s] (.bool (!bO_ s)) := by
  refine J_ Tryz.func163 rfl rfl Tryz.ntmps163 rfl fun v0 => ?_
  refine h_ (d_ (a_ (i_ rfl) rfl (e_ (c_ rfl (h_ (d_ (a_ (g_ rfl) rfl (aI_ (di_ s hs) rfl F_ (fun _ _ _ => by exact trivial) rfl fun r1 hr1 => ?_))))))))
  refine a_ (bS_ rfl) rfl (a_ (i_ rfl) rfl (e_ (c_ rfl (D_ ?_))))
  exact aA_ Tryz.results163 () (I_ rfl (by simp [*])) (.refl _) (fun _ _ _ => trivial)
theorem eO_ {c : UInt8} : ∀ {s x : Str}, x ∈ by_ c s → x.length ≤ s.length
  | [], x, h => by simp [by_] at h; simp [h]
  | b :: s, x, h => by
    simp only [by_] at h
    split at h
    · rcases List.mem_cons.1 h with rfl | h
      · simp
      · have := eO_ h; simp only [List.length_cons]; omega
    · cases hs : by_ c s with
      | nil => exact absurd hs (ip_ c s)
      | cons y t =>
        rw [hs] at h
        rcases List.mem_cons.1 h with rfl | h
        · have := eO_ (c := c) (s := s) (x := y) (by rw [hs]; simp); simp only [List.length_cons]; omega
        · have := eO_ (c := c) (s := s) (x := x) (by rw [hs]; simp [h]); simp only [List.length_cons]; omega
theorem fl_ (s : Str) (hs : s.length ≤ 17592186044414) : Fn0 Tryz.prog 125 #[str s] (.bool (cT_ s)) := by
  refine J_ Tryz.func125 rfl rfl Tryz.ntmps125 rfl fun v0 => ?_
  have hsl := cY_ 46 s
  have hcl := he_ 46 s
  refine h_ (d_ (a_ (i_ rfl) rfl (e_ (c_ rfl (h_ (d_ (a_ (g_ rfl) rfl (aa_ (nF_ s 46 hs) rfl F_ (fun _ _ _ => by exact trivial) rfl fun b => ?_))))))))
  refine a_ (i_ rfl) rfl (e_ (c_ rfl (h_ (d_ (a_ (g_ rfl) rfl (a_ (ae_ H_ rfl) rfl (x_ (cS_ rfl rfl) rfl fun r1 hr1 => ?_)))))))
  refine a_ (g_ rfl) rfl ?_
  cases r1
  · skip
    replace hr1 := of_decide_eq_false hr1
    refine y_ rfl rfl rfl rfl (y_ rfl rfl rfl rfl (y_ rfl rfl rfl rfl (a_ (M_ rfl rfl) rfl (a_ (i_ rfl) rfl (e_ (c_ rfl (D_ ?_)))))))
    exact aA_ Tryz.results125 () (I_ rfl (by unfold cT_; subst_vars; rw [Bool.eq_iff_iff]; simp_all <;> omega)) (.refl _) (fun _ _ _ => trivial)
  · skip
    replace hr1 := of_decide_eq_true hr1
    refine r_ rfl rfl (a_ (g_ rfl) rfl (r_ rfl rfl (aI_ (gY_ (pred := fun r => !bO_ r) (by_ 46 s) _ _ (by omega) (fun x hx => lV_ x (by have := eO_ hx; omega))) rfl F_ (fun v _ h => by exact ⟨h.1, trivial⟩) rfl fun r2 hr2 => ?_)))
    refine r_ rfl rfl (a_ (bS_ rfl) rfl (a_ (W_ rfl rfl) rfl (a_ (i_ rfl) rfl (e_ (c_ rfl (D_ ?_))))))
    exact aA_ Tryz.results125 () (I_ rfl (by unfold cT_; subst_vars; rw [Bool.eq_iff_iff]; simp_all <;> omega)) (.refl _) (fun _ _ _ => trivial)
theorem eB_ (s : Str) (hs : s.length ≤ 140737488351232) : Fn0 Tryz.prog 127 #[str s] (.bool (bv_ s)) := by
 refine J_ Tryz.func127 rfl rfl Tryz.ntmps127 rfl fun v0 => ?_
 refine h_ (d_ (a_ (i_ rfl) rfl (e_ (c_ rfl (h_ (d_ (a_ (g_ rfl) rfl (a_ (cu_ ak_ rfl) rfl (a_ (i_ rfl) rfl ?_)))))))))
 refine e_ (c_ rfl (h_ (K_ (h_ (d_ (a_ (g_ rfl) rfl (x_ (bo_ rfl rfl) rfl fun r1 hr1 => ?_)))))))
 refine a_ (g_ rfl) rfl ?_
 cases r1
 ·
  replace hr1 := ne_of_beq_false hr1
  refine r_ rfl rfl (a_ (g_ rfl) rfl (r_ rfl rfl (x_ (bo_ rfl rfl) rfl fun r2 hr2 => ?_)))
  refine a_ (M_ rfl rfl) rfl (a_ (i_ rfl) rfl (e_ (c_ rfl ?_)))
  cases r2
  ·
   replace hr2 := ne_of_beq_false hr2
   refine s_ rfl (h_ (d_ (a_ (g_ rfl) rfl (x_ (de_ rfl rfl) rfl fun r3 hr3 => ?_))))
   refine a_ (g_ rfl) rfl ?_
   cases r3
   ·
    replace hr3 := of_decide_eq_false hr3
    refine y_ rfl rfl rfl rfl (y_ rfl rfl rfl rfl (y_ rfl rfl rfl rfl (a_ (M_ rfl rfl) rfl (a_ (g_ rfl) rfl (y_ rfl rfl rfl rfl (y_ rfl rfl rfl rfl (y_ rfl rfl rfl rfl (y_ rfl rfl rfl rfl (y_ rfl rfl rfl rfl ?_)))))))))
    refine a_ (M_ rfl rfl) rfl (a_ (i_ rfl) rfl (e_ (c_ rfl (s_ rfl (h_ (d_ (a_ (g_ rfl) rfl (x_ (de_ rfl rfl) rfl fun r4 hr4 => ?_))))))))
    refine a_ (g_ rfl) rfl ?_
    cases r4
    ·
     replace hr4 := of_decide_eq_false hr4
     refine y_ rfl rfl rfl rfl (y_ rfl rfl rfl rfl (y_ rfl rfl rfl rfl (a_ (M_ rfl rfl) rfl (a_ (g_ rfl) rfl (y_ rfl rfl rfl rfl (y_ rfl rfl rfl rfl (y_ rfl rfl rfl rfl (y_ rfl rfl rfl rfl (y_ rfl rfl rfl rfl ?_)))))))))
     refine a_ (M_ rfl rfl) rfl (a_ (i_ rfl) rfl (e_ (c_ rfl (s_ rfl (B_ (c_ rfl (h_ (d_ (a_ (g_ rfl) rfl ?_)))))))))
     refine aI_ (di_ _ (by first | exact hs | (simp; omega))) rfl F_ (fun _ _ _ => by exact trivial) rfl fun r5 hr5 => ?_
     refine a_ (i_ rfl) rfl (e_ (c_ rfl (D_ ?_)))
     exact aA_ ca_ () (I_ rfl (by unfold bv_; (repeat (any_goals split)) <;> first | rfl | (simp_all; done) | (exfalso; simp_all; omega) | (exfalso; simp_all; done))) (.refl _) (fun _ _ _ => trivial)
    ·
     replace hr4 := of_decide_eq_true hr4
     exfalso; omega
   ·
    replace hr3 := of_decide_eq_true hr3
    obtain ⟨c, hc⟩ : ∃ c, s[0]? = some c := ⟨_, List.getElem?_eq_getElem (by omega)⟩
    obtain ⟨e, he⟩ : ∃ e, s[s.length - 1]? = some e := ⟨_, List.getElem?_eq_getElem (by omega)⟩
    have hc123 : (s[0]? = some 123) ↔ ((c.toNat : Int) = 123) := by
              rw [hc]; simp only [Option.some.injEq]; exact ⟨fun q => by subst q; rfl, fun q => UInt8.toNat_inj.1 (by show c.toNat = 123; omega)⟩
    have he125 : (s[s.length - 1]? = some 125) ↔ ((e.toNat : Int) = 125) := by
              rw [he]; simp only [Option.some.injEq]; exact ⟨fun q => by subst q; rfl, fun q => UInt8.toNat_inj.1 (by show e.toNat = 125; omega)⟩
    have hc60 : (s[0]? = some 60) ↔ ((c.toNat : Int) = 60) := by
              rw [hc]; simp only [Option.some.injEq]; exact ⟨fun q => by subst q; rfl, fun q => UInt8.toNat_inj.1 (by show c.toNat = 60; omega)⟩
    have he62 : (s[s.length - 1]? = some 62) ↔ ((e.toNat : Int) = 62) := by
              rw [he]; simp only [Option.some.injEq]; exact ⟨fun q => by subst q; rfl, fun q => UInt8.toNat_inj.1 (by show e.toNat = 62; omega)⟩
    refine r_ rfl rfl (a_ (g_ rfl) rfl (r_ rfl rfl (a_ (cW_ ak_ rfl rfl (by decide) hc) rfl (r_ rfl rfl (x_ (bk_ rfl rfl) rfl fun r6 hr6 => ?_)))))
    refine a_ (W_ rfl rfl) rfl (a_ (g_ rfl) rfl ?_)
    cases r6
    ·
     replace hr6 := ne_of_beq_false hr6
     refine y_ rfl rfl rfl rfl (y_ rfl rfl rfl rfl (y_ rfl rfl rfl rfl (y_ rfl rfl rfl rfl (y_ rfl rfl rfl rfl (a_ (M_ rfl rfl) rfl (a_ (i_ rfl) rfl (e_ (c_ rfl (s_ rfl ?_)))))))))
     refine h_ (d_ (a_ (g_ rfl) rfl (x_ (de_ rfl rfl) rfl fun r7 hr7 => ?_)))
     refine a_ (g_ rfl) rfl ?_
     cases r7
     ·
      replace hr7 := of_decide_eq_false hr7
      refine y_ rfl rfl rfl rfl (y_ rfl rfl rfl rfl (y_ rfl rfl rfl rfl (a_ (M_ rfl rfl) rfl (a_ (g_ rfl) rfl (y_ rfl rfl rfl rfl (y_ rfl rfl rfl rfl (y_ rfl rfl rfl rfl (y_ rfl rfl rfl rfl (y_ rfl rfl rfl rfl ?_)))))))))
      refine a_ (M_ rfl rfl) rfl (a_ (i_ rfl) rfl (e_ (c_ rfl (s_ rfl (B_ (c_ rfl (h_ (d_ (a_ (g_ rfl) rfl ?_)))))))))
      refine aI_ (di_ _ (by first | exact hs | (simp; omega))) rfl F_ (fun _ _ _ => by exact trivial) rfl fun r8 hr8 => ?_
      refine a_ (i_ rfl) rfl (e_ (c_ rfl (D_ ?_)))
      exact aA_ ca_ () (I_ rfl (by unfold bv_; (repeat (any_goals split)) <;> first | rfl | (simp_all; done) | (exfalso; simp_all; omega) | (exfalso; simp_all; done))) (.refl _) (fun _ _ _ => trivial)
     ·
      replace hr7 := of_decide_eq_true hr7
      refine r_ rfl rfl (a_ (g_ rfl) rfl (r_ rfl rfl (a_ (cW_ ak_ rfl rfl (by decide) hc) rfl (r_ rfl rfl (x_ (bk_ rfl rfl) rfl fun r9 hr9 => ?_)))))
      refine a_ (W_ rfl rfl) rfl (a_ (g_ rfl) rfl ?_)
      cases r9
      ·
       replace hr9 := ne_of_beq_false hr9
       refine y_ rfl rfl rfl rfl (y_ rfl rfl rfl rfl (y_ rfl rfl rfl rfl (y_ rfl rfl rfl rfl (y_ rfl rfl rfl rfl (a_ (M_ rfl rfl) rfl (a_ (i_ rfl) rfl (e_ (c_ rfl (s_ rfl ?_)))))))))
       refine B_ (c_ rfl (h_ (d_ (a_ (g_ rfl) rfl (aI_ (di_ _ (by first | exact hs | (simp; omega))) rfl F_ (fun _ _ _ => by exact trivial) rfl fun r10 hr10 => ?_)))))
       refine a_ (i_ rfl) rfl (e_ (c_ rfl (D_ ?_)))
       exact aA_ ca_ () (I_ rfl (by unfold bv_; (repeat (any_goals split)) <;> first | rfl | (simp_all; done) | (exfalso; simp_all; omega) | (exfalso; simp_all; done))) (.refl _) (fun _ _ _ => trivial)
      ·
       replace hr9 := eq_of_beq hr9
       refine r_ rfl rfl (a_ (g_ rfl) rfl (r_ rfl rfl (a_ (g_ rfl) rfl (r_ rfl rfl (a_ (P_ rfl rfl rfl (an_ (by omega) (by omega))) rfl (r_ rfl rfl (a_ (cW_ ak_ rfl rfl (by omega) (show s[((s.length : Int) - 1).toNat]? = some e by rw [show ((s.length : Int) - 1).toNat = s.length - 1 by omega]; exact he)) rfl (r_ rfl rfl (x_ (bk_ rfl rfl) rfl fun r11 hr11 => ?_)))))))))
       refine a_ (W_ rfl rfl) rfl (a_ (i_ rfl) rfl (e_ (c_ rfl ?_)))
       cases r11
       ·
        replace hr11 := ne_of_beq_false hr11
        refine s_ rfl (B_ (c_ rfl (h_ (d_ (a_ (g_ rfl) rfl (aI_ (di_ _ (by first | exact hs | (simp; omega))) rfl F_ (fun _ _ _ => by exact trivial) rfl fun r12 hr12 => ?_))))))
        refine a_ (i_ rfl) rfl (e_ (c_ rfl (D_ ?_)))
        exact aA_ ca_ () (I_ rfl (by unfold bv_; (repeat (any_goals split)) <;> first | rfl | (simp_all; done) | (exfalso; simp_all; omega) | (exfalso; simp_all; done))) (.refl _) (fun _ _ _ => trivial)
       ·
        replace hr11 := eq_of_beq hr11
        refine p_ rfl (h_ (d_ (a_ (i_ rfl) rfl (e_ (c_ rfl (D_ ?_))))))
        exact aA_ ca_ () (I_ rfl (by unfold bv_; (repeat (any_goals split)) <;> first | rfl | (simp_all; done) | (exfalso; simp_all; omega) | (exfalso; simp_all; done))) (.refl _) (fun _ _ _ => trivial)
    ·
     replace hr6 := eq_of_beq hr6
     refine r_ rfl rfl (a_ (g_ rfl) rfl (r_ rfl rfl (a_ (g_ rfl) rfl (r_ rfl rfl (a_ (P_ rfl rfl rfl (an_ (by omega) (by omega))) rfl (r_ rfl rfl (a_ (cW_ ak_ rfl rfl (by omega) (show s[((s.length : Int) - 1).toNat]? = some e by rw [show ((s.length : Int) - 1).toNat = s.length - 1 by omega]; exact he)) rfl (r_ rfl rfl (x_ (bk_ rfl rfl) rfl fun r13 hr13 => ?_)))))))))
     refine a_ (W_ rfl rfl) rfl (a_ (i_ rfl) rfl (e_ (c_ rfl ?_)))
     cases r13
     ·
      replace hr13 := ne_of_beq_false hr13
      refine s_ rfl (h_ (d_ (a_ (g_ rfl) rfl (x_ (de_ rfl rfl) rfl fun r14 hr14 => ?_))))
      refine a_ (g_ rfl) rfl ?_
      cases r14
      ·
       replace hr14 := of_decide_eq_false hr14
       refine y_ rfl rfl rfl rfl (y_ rfl rfl rfl rfl (y_ rfl rfl rfl rfl (a_ (M_ rfl rfl) rfl (a_ (g_ rfl) rfl (y_ rfl rfl rfl rfl (y_ rfl rfl rfl rfl (y_ rfl rfl rfl rfl (y_ rfl rfl rfl rfl (y_ rfl rfl rfl rfl ?_)))))))))
       refine a_ (M_ rfl rfl) rfl (a_ (i_ rfl) rfl (e_ (c_ rfl (s_ rfl (B_ (c_ rfl (h_ (d_ (a_ (g_ rfl) rfl ?_)))))))))
       refine aI_ (di_ _ (by first | exact hs | (simp; omega))) rfl F_ (fun _ _ _ => by exact trivial) rfl fun r15 hr15 => ?_
       refine a_ (i_ rfl) rfl (e_ (c_ rfl (D_ ?_)))
       exact aA_ ca_ () (I_ rfl (by unfold bv_; (repeat (any_goals split)) <;> first | rfl | (simp_all; done) | (exfalso; simp_all; omega) | (exfalso; simp_all; done))) (.refl _) (fun _ _ _ => trivial)
      ·
       replace hr14 := of_decide_eq_true hr14
       refine r_ rfl rfl (a_ (g_ rfl) rfl (r_ rfl rfl (a_ (cW_ ak_ rfl rfl (by decide) hc) rfl (r_ rfl rfl (x_ (bk_ rfl rfl) rfl fun r16 hr16 => ?_)))))
       refine a_ (W_ rfl rfl) rfl (a_ (g_ rfl) rfl ?_)
       cases r16
       ·
        replace hr16 := ne_of_beq_false hr16
        refine y_ rfl rfl rfl rfl (y_ rfl rfl rfl rfl (y_ rfl rfl rfl rfl (y_ rfl rfl rfl rfl (y_ rfl rfl rfl rfl (a_ (M_ rfl rfl) rfl (a_ (i_ rfl) rfl (e_ (c_ rfl (s_ rfl ?_)))))))))
        refine B_ (c_ rfl (h_ (d_ (a_ (g_ rfl) rfl (aI_ (di_ _ (by first | exact hs | (simp; omega))) rfl F_ (fun _ _ _ => by exact trivial) rfl fun r17 hr17 => ?_)))))
        refine a_ (i_ rfl) rfl (e_ (c_ rfl (D_ ?_)))
        exact aA_ ca_ () (I_ rfl (by unfold bv_; (repeat (any_goals split)) <;> first | rfl | (simp_all; done) | (exfalso; simp_all; omega) | (exfalso; simp_all; done))) (.refl _) (fun _ _ _ => trivial)
       ·
        replace hr16 := eq_of_beq hr16
        refine r_ rfl rfl (a_ (g_ rfl) rfl (r_ rfl rfl (a_ (g_ rfl) rfl (r_ rfl rfl (a_ (P_ rfl rfl rfl (an_ (by omega) (by omega))) rfl (r_ rfl rfl (a_ (cW_ ak_ rfl rfl (by omega) (show s[((s.length : Int) - 1).toNat]? = some e by rw [show ((s.length : Int) - 1).toNat = s.length - 1 by omega]; exact he)) rfl (r_ rfl rfl (x_ (bk_ rfl rfl) rfl fun r18 hr18 => ?_)))))))))
        refine a_ (W_ rfl rfl) rfl (a_ (i_ rfl) rfl (e_ (c_ rfl ?_)))
        cases r18
        ·
         replace hr18 := ne_of_beq_false hr18
         refine s_ rfl (B_ (c_ rfl (h_ (d_ (a_ (g_ rfl) rfl (aI_ (di_ _ (by first | exact hs | (simp; omega))) rfl F_ (fun _ _ _ => by exact trivial) rfl fun r19 hr19 => ?_))))))
         refine a_ (i_ rfl) rfl (e_ (c_ rfl (D_ ?_)))
         exact aA_ ca_ () (I_ rfl (by unfold bv_; (repeat (any_goals split)) <;> first | rfl | (simp_all; done) | (exfalso; simp_all; omega) | (exfalso; simp_all; done))) (.refl _) (fun _ _ _ => trivial)
        ·
         replace hr18 := eq_of_beq hr18
         refine p_ rfl (h_ (d_ (a_ (i_ rfl) rfl (e_ (c_ rfl (D_ ?_))))))
         exact aA_ ca_ () (I_ rfl (by unfold bv_; (repeat (any_goals split)) <;> first | rfl | (simp_all; done) | (exfalso; simp_all; omega) | (exfalso; simp_all; done))) (.refl _) (fun _ _ _ => trivial)
     ·
      replace hr13 := eq_of_beq hr13
      refine p_ rfl (h_ (d_ (a_ (g_ rfl) rfl (a_ (g_ rfl) rfl (a_ (P_ rfl rfl rfl (an_ (by omega) (by omega))) rfl (a_ (dY_ (i := 1) (j := s.length - 1) (kl := .i64) (kh := .i64) ak_ rfl rfl (show _ = some (Value.int .i64 ((s.length - 1 : Nat) : Int)) by rw [show ((s.length - 1 : Nat) : Int) = (s.length : Int) - 1 by omega]; rfl) (by omega) (by omega)) rfl (aI_ (di_ _ (by first | exact hs | (simp; omega))) rfl F_ (fun _ _ _ => by exact trivial) rfl fun r20 hr20 => ?_)))))))
      refine a_ (i_ rfl) rfl (e_ (c_ rfl (D_ ?_)))
      exact aA_ ca_ () (I_ rfl (by unfold bv_; (repeat (any_goals split)) <;> first | rfl | (simp_all; done) | (exfalso; simp_all; omega) | (exfalso; simp_all; done))) (.refl _) (fun _ _ _ => trivial)
  ·
   replace hr2 := eq_of_beq hr2
   refine p_ rfl (h_ (d_ (a_ (i_ rfl) rfl (e_ (c_ rfl (D_ ?_))))))
   exact aA_ ca_ () (I_ rfl (by unfold bv_; (repeat (any_goals split)) <;> first | rfl | (simp_all; done) | (exfalso; simp_all; omega) | (exfalso; simp_all; done))) (.refl _) (fun _ _ _ => trivial)
 ·
  replace hr1 := eq_of_beq hr1
  refine y_ rfl rfl rfl rfl (y_ rfl rfl rfl rfl (a_ (W_ rfl rfl) rfl (a_ (i_ rfl) rfl (e_ (c_ rfl (p_ rfl (h_ (d_ (a_ (i_ rfl) rfl ?_)))))))))
  refine e_ (c_ rfl (D_ ?_))
  exact aA_ ca_ () (I_ rfl (by unfold bv_; (repeat (any_goals split)) <;> first | rfl | (simp_all; done) | (exfalso; simp_all; omega) | (exfalso; simp_all; done))) (.refl _) (fun _ _ _ => trivial)
end Go.Proofs.YtpdbbglpbngeiaaGreatDoor
namespace Go.Proofs.YtpdbbglpbngeiaaGreatDoor
open Go Go.Sx Go.Proofs
attribute [local irreducible] Code.wp wpList wpAnyH
open Go.Vs
theorem do_ {g : FuncId} (used : Bool) (s : Str) (q : Str → Bool) (hT : Fn0 Tryz.prog g #[str s] (.bool (q s))) : Fn0 Tryz.prog 124 #[.bool used, str s, .func (.func g) #[] #[]] (.bool (bY_ used s q)) := by
  refine J_ Tryz.func124 rfl rfl Tryz.ntmps124 rfl fun v0 => ?_
  refine h_ (d_ (a_ (i_ rfl) rfl (e_ (c_ rfl (h_ (d_ (a_ (g_ rfl) rfl (a_ (g_ rfl) rfl ?_))))))))
  cases used
  · skip
    refine y_ rfl rfl rfl rfl (y_ rfl rfl rfl rfl (y_ rfl rfl rfl rfl (a_ (M_ rfl rfl) rfl (a_ (g_ rfl) rfl (r_ rfl rfl (a_ (g_ rfl) rfl (r_ rfl rfl (a_ (bS_ rfl) rfl (r_ rfl rfl ?_)))))))))
    refine a_ (g_ rfl) rfl (r_ rfl rfl (a_ (g_ rfl) rfl (r_ rfl rfl (x_ (bo_ rfl rfl) rfl fun r1 hr1 => ?_))))
    refine r_ rfl rfl (a_ (W_ rfl rfl) rfl (a_ (M_ rfl rfl) rfl (a_ (i_ rfl) rfl (e_ (c_ rfl (D_ ?_))))))
    exact aA_ Tryz.results124 () (I_ rfl (by unfold bY_; subst_vars; rw [Bool.eq_iff_iff]; simp_all)) (.refl _) (fun _ _ _ => trivial)
  · skip
    refine r_ rfl rfl (a_ (g_ rfl) rfl (r_ rfl rfl (a_ (g_ rfl) rfl (r_ rfl rfl (bH_ (hT) rfl rfl F_ (fun _ _ _ => by exact trivial) rfl fun r2 hr2 => ?_)))))
    refine a_ (W_ rfl rfl) rfl (a_ (g_ rfl) rfl ?_)
    cases r2
    · skip
      refine r_ rfl rfl (a_ (g_ rfl) rfl (r_ rfl rfl (a_ (bS_ rfl) rfl (r_ rfl rfl (a_ (g_ rfl) rfl (y_ rfl rfl rfl rfl (y_ rfl rfl rfl rfl (r_ rfl rfl (a_ (M_ rfl rfl) rfl ?_)))))))))
      refine a_ (M_ rfl rfl) rfl (a_ (i_ rfl) rfl (e_ (c_ rfl (D_ ?_))))
      exact aA_ Tryz.results124 () (I_ rfl (by unfold bY_; subst_vars; rw [Bool.eq_iff_iff]; simp_all)) (.refl _) (fun _ _ _ => trivial)
    · skip
      refine y_ rfl rfl rfl rfl (y_ rfl rfl rfl rfl (y_ rfl rfl rfl rfl (y_ rfl rfl rfl rfl (y_ rfl rfl rfl rfl (y_ rfl rfl rfl rfl (a_ (W_ rfl rfl) rfl (a_ (i_ rfl) rfl (e_ (c_ rfl ?_)))))))))
      refine D_ ?_
      exact aA_ Tryz.results124 () (I_ rfl (by unfold bY_; subst_vars; rw [Bool.eq_iff_iff]; simp_all)) (.refl _) (fun _ _ _ => trivial)
theorem lU_ (p : Pc) (hp : p.sm) : Tri Tryz.prog 77 #[Pc.val p] [] [eu_] (fun _ : Unit => .bool p.valid) (fun _ => []) (fun _ => []) := by
 refine J_ Tryz.func77 rfl rfl Tryz.ntmps77 rfl fun v0 => ?_
 obtain ⟨ha, hb, hc, hr, hs, ht⟩ := hp
 refine h_ (d_ (bd_ rfl rfl fun b1 => ?_))
 refine a_ (i_ rfl) rfl (e_ (c_ rfl (h_ (h_ (d_ (a_ (m_ z_ rfl rfl rfl T_) rfl (a_ (t_ 0 O_ rfl rfl rfl) rfl (x_ (ar_ rfl rfl) rfl fun r1 hr1 => ?_))))))))
 refine a_ (g_ rfl) rfl ?_
 refine cD_ 4 ((decide ((Pc.kind p) < 1)) || (decide (9 < (Pc.kind p)))) (fun r => [(1, zp_ b1 0), (2, .bool false), (13, .bool r)]) ?_ fun r2 hr2 => ?_
 ·
  cases r1
  ·
   have qr2 := hr1
   replace hr1 := of_decide_eq_false hr1
   refine r_ rfl rfl (a_ (m_ z_ rfl rfl rfl T_) rfl (r_ rfl rfl (a_ (t_ 0 O_ rfl rfl rfl) rfl (r_ rfl rfl (x_ (bL_ rfl rfl) rfl fun r3 hr3 => ?_)))))
   refine a_ (M_ rfl rfl) rfl (e_ (v_ rfl ?_))
   exact met ⟨rfl, rfl, (I_ rfl (jof qr2 hr3)), trivial⟩
  ·
   have qr2 := hr1
   replace hr1 := of_decide_eq_true hr1
   refine y_ rfl rfl rfl rfl (y_ rfl rfl rfl rfl (y_ rfl rfl rfl rfl (a_ (W_ rfl rfl) rfl (e_ (v_ rfl ?_)))))
   exact met ⟨rfl, rfl, (I_ rfl (jot qr2)), trivial⟩
 ·
  refine a_ (g_ rfl) rfl ?_
  refine cD_ 4 ((((decide ((Pc.kind p) < 1)) || (decide (9 < (Pc.kind p))))) || (decide ((Pc.frm p) < (-1)))) (fun r => [(1, zp_ b1 0), (2, .bool false), (18, .bool r)]) ?_ fun r4 hr4 => ?_
  ·
   cases r2
   ·
    have qr4 := hr2
    simp at hr2
    refine r_ rfl rfl (a_ (m_ z_ rfl rfl rfl T_) rfl (r_ rfl rfl (a_ (t_ 0 O_ rfl rfl rfl) rfl (r_ rfl rfl (x_ (ar_ rfl rfl) rfl fun r5 hr5 => ?_)))))
    refine a_ (M_ rfl rfl) rfl (e_ (v_ rfl ?_))
    exact met ⟨rfl, rfl, (I_ rfl (jof qr4 hr5)), trivial⟩
   ·
    have qr4 := hr2
    simp at hr2
    refine y_ rfl rfl rfl rfl (y_ rfl rfl rfl rfl (y_ rfl rfl rfl rfl (a_ (W_ rfl rfl) rfl (e_ (v_ rfl ?_)))))
    exact met ⟨rfl, rfl, (I_ rfl (jot qr4)), trivial⟩
  ·
   refine a_ (g_ rfl) rfl ?_
   refine cD_ 4 ((((((decide ((Pc.kind p) < 1)) || (decide (9 < (Pc.kind p))))) || (decide ((Pc.frm p) < (-1))))) || (decide (1024 ≤ (Pc.frm p)))) (fun r => [(1, zp_ b1 0), (2, .bool false), (23, .bool r)]) ?_ fun r6 hr6 => ?_
   ·
    cases r4
    ·
     have qr6 := hr4
     simp at hr4
     refine r_ rfl rfl (a_ (m_ z_ rfl rfl rfl T_) rfl (r_ rfl rfl (a_ (t_ 0 O_ rfl rfl rfl) rfl (r_ rfl rfl (x_ (de_ rfl rfl) rfl fun r7 hr7 => ?_)))))
     refine a_ (M_ rfl rfl) rfl (e_ (v_ rfl ?_))
     exact met ⟨rfl, rfl, (I_ rfl (jof qr6 hr7)), trivial⟩
    ·
     have qr6 := hr4
     simp at hr4
     refine y_ rfl rfl rfl rfl (y_ rfl rfl rfl rfl (y_ rfl rfl rfl rfl (a_ (W_ rfl rfl) rfl (e_ (v_ rfl ?_)))))
     exact met ⟨rfl, rfl, (I_ rfl (jot qr6)), trivial⟩
   ·
    refine e_ (c_ rfl ?_)
    cases r6
    ·
     simp at hr6
     obtain ⟨u, hx⟩ : ∃ u, mU_[p.kind.toNat]? = some u := ⟨_, List.getElem?_eq_getElem (show p.kind.toNat < 10 by omega)⟩
     have hus : nus p.kind = u := by simp [nus, hx]
     obtain ⟨ua, ub, uc, ur, us, ut, un⟩ := u
     refine s_ rfl (B_ (c_ rfl (h_ (d_ (a_ (m_ z_ rfl rfl rfl T_) rfl (a_ (t_ 0 O_ rfl rfl rfl) rfl (a_ (eL_ Tryz.runUnderlying153 Tryz.sizeOf152 rfl rfl (by show (0 : Int) ≤ (Pc.kind p); omega) (by show (Pc.kind p) < (10 : Int); omega)) rfl (a_ (aK_ (ad := some ⟨0, 0, none⟩) (us := NUse.cells ⟨ua, ub, uc, ur, us, ut, un⟩) Tryz.isAgg152 Tryz.sizeOf152 rfl (fun v _ h => h.1) (NUse.cells_len _) (ao_ NUse.cells_len hx)) rfl (ah_ Tryz.zeroValue152 rfl fun b2 => ?_)))))))))
     refine R_ 0 Tryz.sizeOf152 rfl rfl rfl rfl rfl rfl (e_ (c_ rfl (h_ (d_ (a_ (i_ rfl) rfl (e_ (c_ rfl (h_ (d_ ?_)))))))))
     refine a_ (i_ rfl) rfl (e_ (c_ rfl (h_ (h_ (d_ (a_ (m_ bj_ rfl rfl rfl cA_) rfl (a_ (t_ 0 cV_ rfl rfl rfl) rfl (e_ (c_ rfl ?_)))))))))
     cases un
     ·
      refine s_ rfl (h_ (d_ (a_ (m_ z_ rfl rfl rfl T_) rfl (a_ (t_ 1 O_ rfl rfl rfl) rfl (x_ (bC_ rfl rfl) rfl fun r8 hr8 => ?_)))))
      refine a_ (g_ rfl) rfl ?_
      refine cD_ 4 (((Pc.lo p) != 0) || ((Pc.hi p) != 0)) (fun r => [(1, zp_ b1 0), (2, .bool false), (3, zp_ b2 0), (4, .func (.func 124) #[] #[]), (5, .func (.func 125) #[] #[]), (52, .bool r)]) ?_ fun r9 hr9 => ?_
      ·
       cases r8
       ·
        have qr9 := hr8
        replace hr8 := aQ_ hr8
        refine r_ rfl rfl (a_ (m_ z_ rfl rfl rfl T_) rfl (r_ rfl rfl (a_ (t_ 1 O_ rfl rfl rfl) rfl (r_ rfl rfl (x_ (bC_ rfl rfl) rfl fun r10 hr10 => ?_)))))
        refine a_ (M_ rfl rfl) rfl (e_ (v_ rfl ?_))
        exact met ⟨rfl, rfl, rfl, rfl, rfl, (I_ rfl (jof qr9 hr10)), trivial⟩
       ·
        have qr9 := hr8
        replace hr8 := aP_ hr8
        refine y_ rfl rfl rfl rfl (y_ rfl rfl rfl rfl (y_ rfl rfl rfl rfl (a_ (W_ rfl rfl) rfl (e_ (v_ rfl ?_)))))
        exact met ⟨rfl, rfl, rfl, rfl, rfl, (I_ rfl (jot qr9)), trivial⟩
      ·
       refine e_ (c_ rfl ?_)
       cases r9
       ·
        simp at hr9
        refine s_ rfl (B_ (c_ rfl (h_ (d_ (a_ (g_ rfl) rfl (a_ (m_ bj_ rfl rfl rfl cA_) rfl (a_ (t_ 0 cV_ rfl rfl rfl) rfl (a_ (m_ z_ rfl rfl rfl o_) rfl (a_ (t_ 1 u_ rfl rfl rfl) rfl ?_)))))))))
        refine bH_ (do_ ua (Pc.a p) bv_ (eB_ _ (by omega))) rfl rfl F_ (fun _ _ _ => by exact trivial) rfl fun r11 hr11 => ?_
        refine a_ (g_ rfl) rfl ?_
        refine cD_ 7 ((bY_ ua (Pc.a p) bv_) && (bY_ ub (Pc.b p) bv_)) (fun r => [(1, zp_ b1 0), (2, .bool false), (3, zp_ b2 0), (4, .func (.func 124) #[] #[]), (5, .func (.func 125) #[] #[]), (66, .bool r)]) ?_ fun r12 hr12 => ?_
        ·
         cases r11
         ·
          have qr12 := hr11
          refine y_ rfl rfl rfl rfl (y_ rfl rfl rfl rfl (y_ rfl rfl rfl rfl (y_ rfl rfl rfl rfl (y_ rfl rfl rfl rfl (y_ rfl rfl rfl rfl (a_ (M_ rfl rfl) rfl (e_ (v_ rfl ?_))))))))
          exact met ⟨rfl, rfl, rfl, rfl, rfl, (I_ rfl (jaf qr12)), trivial⟩
         ·
          have qr12 := hr11
          refine r_ rfl rfl (a_ (g_ rfl) rfl (r_ rfl rfl (a_ (m_ bj_ rfl rfl rfl cA_) rfl (r_ rfl rfl (a_ (t_ 0 cV_ rfl rfl rfl) rfl (r_ rfl rfl (a_ (m_ z_ rfl rfl rfl o_) rfl (r_ rfl rfl (a_ (t_ 1 u_ rfl rfl rfl) rfl ?_)))))))))
          refine r_ rfl rfl (bH_ (do_ ub (Pc.b p) bv_ (eB_ _ (by omega))) rfl rfl F_ (fun _ _ _ => by exact trivial) rfl fun r13 hr13 => ?_)
          refine a_ (W_ rfl rfl) rfl (e_ (v_ rfl ?_))
          exact met ⟨rfl, rfl, rfl, rfl, rfl, (I_ rfl (jat qr12 hr13)), trivial⟩
        ·
         refine a_ (g_ rfl) rfl ?_
         refine cD_ 7 ((((bY_ ua (Pc.a p) bv_) && (bY_ ub (Pc.b p) bv_))) && (bY_ uc (Pc.c p) bv_)) (fun r => [(1, zp_ b1 0), (2, .bool false), (3, zp_ b2 0), (4, .func (.func 124) #[] #[]), (5, .func (.func 125) #[] #[]), (74, .bool r)]) ?_ fun r14 hr14 => ?_
         ·
          cases r12
          ·
           have qr14 := hr12
           simp at hr12
           refine y_ rfl rfl rfl rfl (y_ rfl rfl rfl rfl (y_ rfl rfl rfl rfl (y_ rfl rfl rfl rfl (y_ rfl rfl rfl rfl (y_ rfl rfl rfl rfl (a_ (M_ rfl rfl) rfl (e_ (v_ rfl ?_))))))))
           exact met ⟨rfl, rfl, rfl, rfl, rfl, (I_ rfl (jaf qr14)), trivial⟩
          ·
           have qr14 := hr12
           simp at hr12
           refine r_ rfl rfl (a_ (g_ rfl) rfl (r_ rfl rfl (a_ (m_ bj_ rfl rfl rfl cA_) rfl (r_ rfl rfl (a_ (t_ 0 cV_ rfl rfl rfl) rfl (r_ rfl rfl (a_ (m_ z_ rfl rfl rfl o_) rfl (r_ rfl rfl (a_ (t_ 1 u_ rfl rfl rfl) rfl ?_)))))))))
           refine r_ rfl rfl (bH_ (do_ uc (Pc.c p) bv_ (eB_ _ (by omega))) rfl rfl F_ (fun _ _ _ => by exact trivial) rfl fun r15 hr15 => ?_)
           refine a_ (W_ rfl rfl) rfl (e_ (v_ rfl ?_))
           exact met ⟨rfl, rfl, rfl, rfl, rfl, (I_ rfl (jat qr14 hr15)), trivial⟩
         ·
          refine a_ (g_ rfl) rfl ?_
          refine cD_ 8 ((((((bY_ ua (Pc.a p) bv_) && (bY_ ub (Pc.b p) bv_))) && (bY_ uc (Pc.c p) bv_))) && (bY_ ur (Pc.r p) cT_)) (fun r => [(1, zp_ b1 0), (2, .bool false), (3, zp_ b2 0), (4, .func (.func 124) #[] #[]), (83, .bool r)]) ?_ fun r16 hr16 => ?_
          ·
           cases r14
           ·
            have qr16 := hr14
            simp at hr14
            refine y_ rfl rfl rfl rfl (y_ rfl rfl rfl rfl (y_ rfl rfl rfl rfl (y_ rfl rfl rfl rfl (y_ rfl rfl rfl rfl (y_ rfl rfl rfl rfl (y_ rfl rfl rfl rfl (a_ (M_ rfl rfl) rfl (e_ (v_ rfl ?_)))))))))
            exact met ⟨rfl, rfl, rfl, rfl, (I_ rfl (jaf qr16)), trivial⟩
           ·
            have qr16 := hr14
            simp at hr14
            refine r_ rfl rfl (a_ (g_ rfl) rfl (r_ rfl rfl (a_ (m_ bj_ rfl rfl rfl cA_) rfl (r_ rfl rfl (a_ (t_ 0 cV_ rfl rfl rfl) rfl (r_ rfl rfl (a_ (m_ z_ rfl rfl rfl o_) rfl (r_ rfl rfl (a_ (t_ 1 u_ rfl rfl rfl) rfl ?_)))))))))
            refine r_ rfl rfl (a_ (g_ rfl) rfl (r_ rfl rfl (bH_ (do_ ur (Pc.r p) cT_ (fl_ _ (by omega))) rfl rfl F_ (fun _ _ _ => by exact trivial) rfl fun r17 hr17 => ?_)))
            refine a_ (W_ rfl rfl) rfl (e_ (v_ rfl ?_))
            exact met ⟨rfl, rfl, rfl, rfl, (I_ rfl (jat qr16 hr17)), trivial⟩
          ·
           refine a_ (g_ rfl) rfl ?_
           refine cD_ 7 ((((((((bY_ ua (Pc.a p) bv_) && (bY_ ub (Pc.b p) bv_))) && (bY_ uc (Pc.c p) bv_))) && (bY_ ur (Pc.r p) cT_))) && (bY_ us (Pc.s p) cT_)) (fun r => [(1, zp_ b1 0), (2, .bool false), (3, zp_ b2 0), (4, .func (.func 124) #[] #[]), (91, .bool r)]) ?_ fun r18 hr18 => ?_
           ·
            cases r16
            ·
             have qr18 := hr16
             simp at hr16
             refine y_ rfl rfl rfl rfl (y_ rfl rfl rfl rfl (y_ rfl rfl rfl rfl (y_ rfl rfl rfl rfl (y_ rfl rfl rfl rfl (y_ rfl rfl rfl rfl (a_ (M_ rfl rfl) rfl (e_ (v_ rfl ?_))))))))
             exact met ⟨rfl, rfl, rfl, rfl, (I_ rfl (jaf qr18)), trivial⟩
            ·
             have qr18 := hr16
             simp at hr16
             refine r_ rfl rfl (a_ (g_ rfl) rfl (r_ rfl rfl (a_ (m_ bj_ rfl rfl rfl cA_) rfl (r_ rfl rfl (a_ (t_ 0 cV_ rfl rfl rfl) rfl (r_ rfl rfl (a_ (m_ z_ rfl rfl rfl o_) rfl (r_ rfl rfl (a_ (t_ 1 u_ rfl rfl rfl) rfl ?_)))))))))
             refine r_ rfl rfl (bH_ (do_ us (Pc.s p) cT_ (fl_ _ (by omega))) rfl rfl F_ (fun _ _ _ => by exact trivial) rfl fun r19 hr19 => ?_)
             refine a_ (W_ rfl rfl) rfl (e_ (v_ rfl ?_))
             exact met ⟨rfl, rfl, rfl, rfl, (I_ rfl (jat qr18 hr19)), trivial⟩
           ·
            refine a_ (g_ rfl) rfl ?_
            refine cD_ 7 ((((((((((bY_ ua (Pc.a p) bv_) && (bY_ ub (Pc.b p) bv_))) && (bY_ uc (Pc.c p) bv_))) && (bY_ ur (Pc.r p) cT_))) && (bY_ us (Pc.s p) cT_))) && (bY_ ut (Pc.t p) cT_)) (fun r => [(2, .bool false), (99, .bool r)]) ?_ fun r20 hr20 => ?_
            ·
             cases r18
             ·
              have qr20 := hr18
              simp at hr18
              refine y_ rfl rfl rfl rfl (y_ rfl rfl rfl rfl (y_ rfl rfl rfl rfl (y_ rfl rfl rfl rfl (y_ rfl rfl rfl rfl (y_ rfl rfl rfl rfl (a_ (M_ rfl rfl) rfl (e_ (v_ rfl ?_))))))))
              exact met ⟨rfl, (I_ rfl (jaf qr20)), trivial⟩
             ·
              have qr20 := hr18
              simp at hr18
              refine r_ rfl rfl (a_ (g_ rfl) rfl (r_ rfl rfl (a_ (m_ bj_ rfl rfl rfl cA_) rfl (r_ rfl rfl (a_ (t_ 0 cV_ rfl rfl rfl) rfl (r_ rfl rfl (a_ (m_ z_ rfl rfl rfl o_) rfl (r_ rfl rfl (a_ (t_ 1 u_ rfl rfl rfl) rfl ?_)))))))))
              refine r_ rfl rfl (bH_ (do_ ut (Pc.t p) cT_ (fl_ _ (by omega))) rfl rfl F_ (fun _ _ _ => by exact trivial) rfl fun r21 hr21 => ?_)
              refine a_ (W_ rfl rfl) rfl (e_ (v_ rfl ?_))
              exact met ⟨rfl, (I_ rfl (jat qr20 hr21)), trivial⟩
            ·
             refine a_ (i_ rfl) rfl (e_ (c_ rfl (D_ ?_)))
             exact aA_ mI_ () (I_ rfl (by unfold Pc.valid; rw [if_neg (by omega)]; simp only [hus]; rw [if_neg (by simp <;> omega), if_neg (by simp <;> omega)]; exact hr20.symm)) (.refl _) (fun _ _ _ => trivial)
       ·
        simp at hr9
        refine p_ rfl (h_ (d_ (a_ (i_ rfl) rfl (e_ (c_ rfl (D_ ?_))))))
        exact aA_ mI_ () (I_ rfl (by unfold Pc.valid; rw [if_neg (by omega)]; simp only [hus]; first | (rw [if_pos (by first | (simp; omega) | omega)]) | (rw [if_neg (by simp), if_pos (by simp; omega)]))) (.refl _) (fun _ _ _ => trivial)
     ·
      refine p_ rfl (h_ (d_ (a_ (i_ rfl) rfl (e_ (c_ rfl (h_ (d_ (a_ (m_ z_ rfl rfl rfl T_) rfl (a_ (t_ 1 O_ rfl rfl rfl) rfl ?_)))))))))
      refine x_ (ar_ rfl rfl) rfl fun r22 hr22 => ?_
      refine a_ (g_ rfl) rfl ?_
      refine cD_ 6 ((decide ((Pc.lo p) < (-1099511627776))) || (decide ((Pc.hi p) < (Pc.lo p)))) (fun r => [(1, zp_ b1 0), (2, .bool false), (3, zp_ b2 0), (4, .func (.func 124) #[] #[]), (5, .func (.func 126) #[] #[]), (39, .bool r)]) ?_ fun r23 hr23 => ?_
      ·
       cases r22
       ·
        have qr23 := hr22
        replace hr22 := of_decide_eq_false hr22
        refine r_ rfl rfl (a_ (m_ z_ rfl rfl rfl T_) rfl (r_ rfl rfl (a_ (t_ 1 O_ rfl rfl rfl) rfl (r_ rfl rfl (a_ (m_ z_ rfl rfl rfl T_) rfl (r_ rfl rfl (a_ (t_ 1 O_ rfl rfl rfl) rfl (r_ rfl rfl (x_ (bL_ rfl rfl) rfl fun r24 hr24 => ?_)))))))))
        refine a_ (M_ rfl rfl) rfl (e_ (v_ rfl ?_))
        exact met ⟨rfl, rfl, rfl, rfl, rfl, (I_ rfl (jof qr23 hr24)), trivial⟩
       ·
        have qr23 := hr22
        replace hr22 := of_decide_eq_true hr22
        refine y_ rfl rfl rfl rfl (y_ rfl rfl rfl rfl (y_ rfl rfl rfl rfl (y_ rfl rfl rfl rfl (y_ rfl rfl rfl rfl (a_ (W_ rfl rfl) rfl (e_ (v_ rfl ?_)))))))
        exact met ⟨rfl, rfl, rfl, rfl, rfl, (I_ rfl (jot qr23)), trivial⟩
      ·
       refine a_ (g_ rfl) rfl ?_
       refine cD_ 4 ((((decide ((Pc.lo p) < (-1099511627776))) || (decide ((Pc.hi p) < (Pc.lo p))))) || (decide (1099511627776 < (Pc.hi p)))) (fun r => [(1, zp_ b1 0), (2, .bool false), (3, zp_ b2 0), (4, .func (.func 124) #[] #[]), (5, .func (.func 126) #[] #[]), (44, .bool r)]) ?_ fun r25 hr25 => ?_
       ·
        cases r23
        ·
         have qr25 := hr23
         simp at hr23
         refine r_ rfl rfl (a_ (m_ z_ rfl rfl rfl T_) rfl (r_ rfl rfl (a_ (t_ 1 O_ rfl rfl rfl) rfl (r_ rfl rfl (x_ (bL_ rfl rfl) rfl fun r26 hr26 => ?_)))))
         refine a_ (M_ rfl rfl) rfl (e_ (v_ rfl ?_))
         exact met ⟨rfl, rfl, rfl, rfl, rfl, (I_ rfl (jof qr25 hr26)), trivial⟩
        ·
         have qr25 := hr23
         simp at hr23
         refine y_ rfl rfl rfl rfl (y_ rfl rfl rfl rfl (y_ rfl rfl rfl rfl (a_ (W_ rfl rfl) rfl (e_ (v_ rfl ?_)))))
         exact met ⟨rfl, rfl, rfl, rfl, rfl, (I_ rfl (jot qr25)), trivial⟩
       ·
        refine e_ (c_ rfl ?_)
        cases r25
        ·
         simp at hr25
         refine s_ rfl (B_ (c_ rfl (h_ (d_ (a_ (g_ rfl) rfl (a_ (m_ bj_ rfl rfl rfl cA_) rfl (a_ (t_ 0 cV_ rfl rfl rfl) rfl (a_ (m_ z_ rfl rfl rfl o_) rfl (a_ (t_ 1 u_ rfl rfl rfl) rfl ?_)))))))))
         refine bH_ (do_ ua (Pc.a p) bv_ (eB_ _ (by omega))) rfl rfl F_ (fun _ _ _ => by exact trivial) rfl fun r27 hr27 => ?_
         refine a_ (g_ rfl) rfl ?_
         refine cD_ 7 ((bY_ ua (Pc.a p) bv_) && (bY_ ub (Pc.b p) bv_)) (fun r => [(1, zp_ b1 0), (2, .bool false), (3, zp_ b2 0), (4, .func (.func 124) #[] #[]), (5, .func (.func 126) #[] #[]), (66, .bool r)]) ?_ fun r28 hr28 => ?_
         ·
          cases r27
          ·
           have qr28 := hr27
           refine y_ rfl rfl rfl rfl (y_ rfl rfl rfl rfl (y_ rfl rfl rfl rfl (y_ rfl rfl rfl rfl (y_ rfl rfl rfl rfl (y_ rfl rfl rfl rfl (a_ (M_ rfl rfl) rfl (e_ (v_ rfl ?_))))))))
           exact met ⟨rfl, rfl, rfl, rfl, rfl, (I_ rfl (jaf qr28)), trivial⟩
          ·
           have qr28 := hr27
           refine r_ rfl rfl (a_ (g_ rfl) rfl (r_ rfl rfl (a_ (m_ bj_ rfl rfl rfl cA_) rfl (r_ rfl rfl (a_ (t_ 0 cV_ rfl rfl rfl) rfl (r_ rfl rfl (a_ (m_ z_ rfl rfl rfl o_) rfl (r_ rfl rfl (a_ (t_ 1 u_ rfl rfl rfl) rfl ?_)))))))))
           refine r_ rfl rfl (bH_ (do_ ub (Pc.b p) bv_ (eB_ _ (by omega))) rfl rfl F_ (fun _ _ _ => by exact trivial) rfl fun r29 hr29 => ?_)
           refine a_ (W_ rfl rfl) rfl (e_ (v_ rfl ?_))
           exact met ⟨rfl, rfl, rfl, rfl, rfl, (I_ rfl (jat qr28 hr29)), trivial⟩
         ·
          refine a_ (g_ rfl) rfl ?_
          refine cD_ 7 ((((bY_ ua (Pc.a p) bv_) && (bY_ ub (Pc.b p) bv_))) && (bY_ uc (Pc.c p) bv_)) (fun r => [(1, zp_ b1 0), (2, .bool false), (3, zp_ b2 0), (4, .func (.func 124) #[] #[]), (5, .func (.func 126) #[] #[]), (74, .bool r)]) ?_ fun r30 hr30 => ?_
          ·
           cases r28
           ·
            have qr30 := hr28
            simp at hr28
            refine y_ rfl rfl rfl rfl (y_ rfl rfl rfl rfl (y_ rfl rfl rfl rfl (y_ rfl rfl rfl rfl (y_ rfl rfl rfl rfl (y_ rfl rfl rfl rfl (a_ (M_ rfl rfl) rfl (e_ (v_ rfl ?_))))))))
            exact met ⟨rfl, rfl, rfl, rfl, rfl, (I_ rfl (jaf qr30)), trivial⟩
           ·
            have qr30 := hr28
            simp at hr28
            refine r_ rfl rfl (a_ (g_ rfl) rfl (r_ rfl rfl (a_ (m_ bj_ rfl rfl rfl cA_) rfl (r_ rfl rfl (a_ (t_ 0 cV_ rfl rfl rfl) rfl (r_ rfl rfl (a_ (m_ z_ rfl rfl rfl o_) rfl (r_ rfl rfl (a_ (t_ 1 u_ rfl rfl rfl) rfl ?_)))))))))
            refine r_ rfl rfl (bH_ (do_ uc (Pc.c p) bv_ (eB_ _ (by omega))) rfl rfl F_ (fun _ _ _ => by exact trivial) rfl fun r31 hr31 => ?_)
            refine a_ (W_ rfl rfl) rfl (e_ (v_ rfl ?_))
            exact met ⟨rfl, rfl, rfl, rfl, rfl, (I_ rfl (jat qr30 hr31)), trivial⟩
          ·
           refine a_ (g_ rfl) rfl ?_
           refine cD_ 8 ((((((bY_ ua (Pc.a p) bv_) && (bY_ ub (Pc.b p) bv_))) && (bY_ uc (Pc.c p) bv_))) && (bY_ ur (Pc.r p) bO_)) (fun r => [(1, zp_ b1 0), (2, .bool false), (3, zp_ b2 0), (4, .func (.func 124) #[] #[]), (83, .bool r)]) ?_ fun r32 hr32 => ?_
           ·
            cases r30
            ·
             have qr32 := hr30
             simp at hr30
             refine y_ rfl rfl rfl rfl (y_ rfl rfl rfl rfl (y_ rfl rfl rfl rfl (y_ rfl rfl rfl rfl (y_ rfl rfl rfl rfl (y_ rfl rfl rfl rfl (y_ rfl rfl rfl rfl (a_ (M_ rfl rfl) rfl (e_ (v_ rfl ?_)))))))))
             exact met ⟨rfl, rfl, rfl, rfl, (I_ rfl (jaf qr32)), trivial⟩
            ·
             have qr32 := hr30
             simp at hr30
             refine r_ rfl rfl (a_ (g_ rfl) rfl (r_ rfl rfl (a_ (m_ bj_ rfl rfl rfl cA_) rfl (r_ rfl rfl (a_ (t_ 0 cV_ rfl rfl rfl) rfl (r_ rfl rfl (a_ (m_ z_ rfl rfl rfl o_) rfl (r_ rfl rfl (a_ (t_ 1 u_ rfl rfl rfl) rfl ?_)))))))))
             refine r_ rfl rfl (a_ (g_ rfl) rfl (r_ rfl rfl (bH_ (do_ ur (Pc.r p) bO_ (di_ _ (by omega))) rfl rfl F_ (fun _ _ _ => by exact trivial) rfl fun r33 hr33 => ?_)))
             refine a_ (W_ rfl rfl) rfl (e_ (v_ rfl ?_))
             exact met ⟨rfl, rfl, rfl, rfl, (I_ rfl (jat qr32 hr33)), trivial⟩
           ·
            refine a_ (g_ rfl) rfl ?_
            refine cD_ 7 ((((((((bY_ ua (Pc.a p) bv_) && (bY_ ub (Pc.b p) bv_))) && (bY_ uc (Pc.c p) bv_))) && (bY_ ur (Pc.r p) bO_))) && (bY_ us (Pc.s p) cT_)) (fun r => [(1, zp_ b1 0), (2, .bool false), (3, zp_ b2 0), (4, .func (.func 124) #[] #[]), (91, .bool r)]) ?_ fun r34 hr34 => ?_
            ·
             cases r32
             ·
              have qr34 := hr32
              simp at hr32
              refine y_ rfl rfl rfl rfl (y_ rfl rfl rfl rfl (y_ rfl rfl rfl rfl (y_ rfl rfl rfl rfl (y_ rfl rfl rfl rfl (y_ rfl rfl rfl rfl (a_ (M_ rfl rfl) rfl (e_ (v_ rfl ?_))))))))
              exact met ⟨rfl, rfl, rfl, rfl, (I_ rfl (jaf qr34)), trivial⟩
             ·
              have qr34 := hr32
              simp at hr32
              refine r_ rfl rfl (a_ (g_ rfl) rfl (r_ rfl rfl (a_ (m_ bj_ rfl rfl rfl cA_) rfl (r_ rfl rfl (a_ (t_ 0 cV_ rfl rfl rfl) rfl (r_ rfl rfl (a_ (m_ z_ rfl rfl rfl o_) rfl (r_ rfl rfl (a_ (t_ 1 u_ rfl rfl rfl) rfl ?_)))))))))
              refine r_ rfl rfl (bH_ (do_ us (Pc.s p) cT_ (fl_ _ (by omega))) rfl rfl F_ (fun _ _ _ => by exact trivial) rfl fun r35 hr35 => ?_)
              refine a_ (W_ rfl rfl) rfl (e_ (v_ rfl ?_))
              exact met ⟨rfl, rfl, rfl, rfl, (I_ rfl (jat qr34 hr35)), trivial⟩
            ·
             refine a_ (g_ rfl) rfl ?_
             refine cD_ 7 ((((((((((bY_ ua (Pc.a p) bv_) && (bY_ ub (Pc.b p) bv_))) && (bY_ uc (Pc.c p) bv_))) && (bY_ ur (Pc.r p) bO_))) && (bY_ us (Pc.s p) cT_))) && (bY_ ut (Pc.t p) cT_)) (fun r => [(2, .bool false), (99, .bool r)]) ?_ fun r36 hr36 => ?_
             ·
              cases r34
              ·
               have qr36 := hr34
               simp at hr34
               refine y_ rfl rfl rfl rfl (y_ rfl rfl rfl rfl (y_ rfl rfl rfl rfl (y_ rfl rfl rfl rfl (y_ rfl rfl rfl rfl (y_ rfl rfl rfl rfl (a_ (M_ rfl rfl) rfl (e_ (v_ rfl ?_))))))))
               exact met ⟨rfl, (I_ rfl (jaf qr36)), trivial⟩
              ·
               have qr36 := hr34
               simp at hr34
               refine r_ rfl rfl (a_ (g_ rfl) rfl (r_ rfl rfl (a_ (m_ bj_ rfl rfl rfl cA_) rfl (r_ rfl rfl (a_ (t_ 0 cV_ rfl rfl rfl) rfl (r_ rfl rfl (a_ (m_ z_ rfl rfl rfl o_) rfl (r_ rfl rfl (a_ (t_ 1 u_ rfl rfl rfl) rfl ?_)))))))))
               refine r_ rfl rfl (bH_ (do_ ut (Pc.t p) cT_ (fl_ _ (by omega))) rfl rfl F_ (fun _ _ _ => by exact trivial) rfl fun r37 hr37 => ?_)
               refine a_ (W_ rfl rfl) rfl (e_ (v_ rfl ?_))
               exact met ⟨rfl, (I_ rfl (jat qr36 hr37)), trivial⟩
             ·
              refine a_ (i_ rfl) rfl (e_ (c_ rfl (D_ ?_)))
              exact aA_ mI_ () (I_ rfl (by unfold Pc.valid; rw [if_neg (by omega)]; simp only [hus]; rw [if_neg (by simp <;> omega), if_neg (by simp <;> omega)]; exact hr36.symm)) (.refl _) (fun _ _ _ => trivial)
        ·
         simp at hr25
         refine p_ rfl (h_ (d_ (a_ (i_ rfl) rfl (e_ (c_ rfl (D_ ?_))))))
         exact aA_ mI_ () (I_ rfl (by unfold Pc.valid; rw [if_neg (by omega)]; simp only [hus]; first | (rw [if_pos (by first | (simp; omega) | omega)]) | (rw [if_neg (by simp), if_pos (by simp; omega)]))) (.refl _) (fun _ _ _ => trivial)
    ·
     simp at hr6
     refine p_ rfl (h_ (d_ (a_ (i_ rfl) rfl (e_ (c_ rfl (D_ ?_))))))
     exact aA_ mI_ () (I_ rfl (by unfold Pc.valid; rw [if_pos (by omega)])) (.refl _) (fun _ _ _ => trivial)
theorem jc_ (l : List Pc) (ad : Option Addr) (cap : Nat) (hl : l.length ≤ 17592186044414) (hsm : ∀ p ∈ l, p.sm) : Tri Tryz.prog 29 #[.slice ad (List.length l) cap] [] [ap_ ad (List.flatMap Pc.cells l), eu_] (fun _ : Unit => .int .i64 (br_ l)) (fun _ => []) (fun _ => []) := by
  refine J_ Tryz.func29 rfl rfl Tryz.ntmps29 rfl fun v0 => ?_
  refine h_ (d_ (a_ (i_ rfl) rfl (e_ (c_ rfl (h_ (h_ (d_ (a_ (g_ rfl) rfl (a_ (ae_ E_ rfl) rfl ?_)))))))))
  refine x_ (bL_ rfl rfl) rfl fun r1 hr1 => ?_
  refine e_ (c_ rfl ?_)
  cases r1
  · skip
    replace hr1 := of_decide_eq_false hr1
    refine s_ rfl (B_ (c_ rfl (h_ (h_ (d_ (a_ (g_ rfl) rfl (a_ (ae_ E_ rfl) rfl (a_ (g_ rfl) rfl (e_ ?_)))))))))
    refine c_ rfl (K_ (ee_ [(8, .slice ad (List.length l) cap), (9, .int .i64 (List.length l : Int)), (10, .int .i64 ((0 : Nat) : Int))] ⟨rfl, rfl, rfl, trivial⟩ ?_))
    refine ed_ (ι := {q : Nat // q ≤ l.length ∧ (l.take q).all Pc.valid = true}) (fun i => [(8, .slice ad (List.length l) cap), (9, .int .i64 (List.length l : Int)), (10, .int .i64 (i.1 : Int))]) (fun _ => _) (fun _ => _) (fun i => l.length - i.1) ⟨0, by simp⟩ ?_
    rintro ⟨i, hk⟩
    refine ee_ [(8, .slice ad (List.length l) cap), (9, .int .i64 (List.length l : Int)), (10, .int .i64 (i : Int))] ⟨rfl, rfl, rfl, trivial⟩ ?_
    refine h_ (d_ (x_ (ar_ rfl rfl) rfl fun r2 hr2 => ?_))
    refine e_ (c_ rfl (h_ ?_))
    cases r2
    · skip
      replace hr2 := of_decide_eq_false hr2
      refine s_ rfl (au_ rfl (c_ rfl (h_ (d_ (a_ (i_ rfl) rfl (e_ (c_ rfl (D_ ?_))))))))
      exact aA_ Tryz.results29 () (ci_ rfl (by unfold br_; rw [if_neg (by omega), if_pos (by have := hk.2; rwa [List.take_of_length_le (by omega)] at this)])) (.refl _) (fun _ _ _ => trivial)
    · skip
      replace hr2 := of_decide_eq_true hr2
      have hlx1 : i < List.length l := by omega
      obtain ⟨x1, hx1⟩ : ∃ e0, l[i]? = some e0 := ⟨_, List.getElem?_eq_getElem hlx1⟩
      have hmx1 : x1 ∈ l := List.mem_of_getElem? hx1
      refine p_ rfl (B_ (c_ rfl (h_ (K_ (h_ (d_ (a_ (al_ E_ Q_ rfl rfl (fun v _ h => aG_ (n := 10) Pc.cells_len (by decide) (by exact h.1) hx1) (by omega) (by first | omega | (simp; done))) rfl (a_ (aK_ (ad := ad) (us := Pc.cells x1) bc_ Q_ rfl (fun v _ h => by exact h.1) (Pc.cells_len _) (ao_ Pc.cells_len hx1)) rfl (ah_ aJ_ rfl fun b1 => ?_)))))))))
      refine R_ 0 Q_ rfl rfl rfl rfl rfl rfl (e_ (c_ rfl (h_ (d_ (a_ (X_ 0 bc_ Q_ rfl rfl rfl) rfl (aI_ (lU_ x1 (hsm x1 hmx1)) rfl F_ (fun v _ h => by exact ⟨h.2.1, trivial⟩) rfl fun r3 hr3 => ?_))))))
      refine a_ (bS_ rfl) rfl (e_ (c_ rfl ?_))
      cases r3
      · skip
        refine p_ rfl (h_ (d_ (a_ (i_ rfl) rfl (e_ (c_ rfl (D_ ?_))))))
        exact aA_ Tryz.results29 () (ci_ rfl (by unfold br_; rw [if_neg (by omega), if_neg (by rw [show l.all Pc.valid = false from List.all_eq_false.2 ⟨x1, hmx1, by simp [*]⟩]; simp)])) (.refl _) (fun _ _ _ => trivial)
      · skip
        refine s_ rfl (B_ (c_ rfl (d_ (a_ (P_ rfl rfl rfl (an_ (by omega) (by omega))) rfl (a_ (g_ rfl) rfl (e_ (v_ rfl ?_)))))))
        exact ai_ ⟨i + 1, hlx1, by rw [List.take_add_one, hx1]; simp only [Option.toList_some, List.all_append, hk.2]; simp [*]⟩ (by simp; omega) ⟨rfl, rfl, rfl, trivial⟩ (@List.perm_append_comm _ [_] _) (fun _ _ h => h)
  · skip
    replace hr1 := of_decide_eq_true hr1
    refine p_ rfl (h_ (d_ (a_ (i_ rfl) rfl (e_ (c_ rfl (D_ ?_))))))
    exact aA_ Tryz.results29 () (ci_ rfl (by unfold br_; rw [if_pos (by omega)])) (.refl _) (fun _ _ _ => trivial)
end Go.Proofs.YtpdbbglpbngeiaaGreatDoor
namespace Go.Vs
open Go Go.Sx
def vw (W : World) : Vw := ⟨fun b => b < W.heap.size, W, True⟩
theorem vw_sat (W : World) : (vw W).sat [] := ⟨(fun _ h => by cases h), (by simp), fun _ h => h⟩
section
variable {H : Type} {enc : TypeId × Value → H} {P : Program} {W : World}
abbrev wok (l : List Nat) : Prop := l.all (· ≤ reachBytes) = true
theorem ea_ {a b : List Nat} : wok (a ++ b) ↔ wok a ∧ wok b := by simp [wok, List.all_append]
theorem mp_ {n : Nat} {b : List Nat} : wok (n :: b) ↔ n ≤ reachBytes ∧ wok b := by simp [wok]
theorem mq_ {e : TypeId} : ∀ {ds : List (DataW H)}, wok (DataW.weightsAll P e ds) → ∀ d ∈ ds, wok (d.weights P e)
  | [], _, _, h => by cases h
  | x :: ds, hw, d, hd => by
    rw [DataW.weightsAll, ea_] at hw
    rcases List.mem_cons.1 hd with rfl | hd
    · exact hw.1
    · exact mq_ hw.2 d hd
theorem kZ_ {α : Type} [Inhabited α] (f : α → List Value) (k : Nat) (hk : ∀ x, (f x).length = k) (hk0 : 0 < k) (Q : α → Prop) {ts te : TypeId} (hs : P.underlying ts = some (.slice te)) (hc : P.cellsOf te = k) {n : Nat} {cs : List Value} {x : DataW H × List MemPlace}
    (hread : ∀ m, m < n → ∀ cs' y, DataW.trod enc P W 0 (fun _ => true) true m te cs' = some y → wok (y.1.weights P te) → ∃ c, cs' = f c ∧ Q c)
    (h : DataW.trod enc P W 0 (fun _ => true) true n ts cs = some x) (hw : wok (x.1.weights P ts)) :
    ∃ (l : List α) (ad : Option Addr) (cap : Nat), cs = [.slice ad l.length cap] ∧ bD_ (vw W) ad (l.flatMap f) ∧ (∀ c ∈ l, Q c) ∧ l.length ≤ cap ∧ cap * P.bytesOf te ≤ reachBytes := by
  rcases DataW.trod_slice hs h with ⟨h0, _⟩ | ⟨a, len, cap, elems, rest, m, hn, rfl, rfl, _, hl, _, hlen, hel, hsp, _⟩
  · exact ⟨[], none, 0, h0, .inl rfl, (fun _ h => by cases h), Nat.le_refl _, by simp⟩
  · obtain ⟨hr, _⟩ := hsp rfl
    simp only [DataW.weights, hs, mp_, ea_, List.length_map] at hw
    have hcap : cap * P.bytesOf te ≤ reachBytes := by
      have e : elems.length + rest.length = cap := by omega
      rw [← e]; exact hw.1
    have hone : ∀ i, i < len → ∃ c : α, W.cells? 0 (a.add (i * k)) k = some (f c) ∧ Q c := fun i hi => by
      have he := hel i hi
      rw [hc, List.getElem?_eq_getElem (by omega)] at he
      obtain ⟨cs', h1, h2⟩ := Option.bind_eq_some_iff.1 he
      obtain ⟨c, rfl, hq⟩ := hread m (by omega) cs' _ h2 (mq_ hw.2.1 _ (List.mem_map_of_mem (List.getElem_mem (by omega))))
      exact ⟨c, h1, hq⟩
    obtain ⟨C, hC⟩ := Deep.choose_lt hone
    refine ⟨(List.range len).map C, some a, cap, by simp, ?_, ?_, by simpa using hl, hcap⟩
    · by_cases h0 : len = 0
      · left; simp [h0]
      · have h1 := (hC 0 (by omega)).1
        obtain ⟨_, _, hcell⟩ := World.cells?_some h1
        have hc0 := hcell 0 hk0
        have hlt : 0 < (f (C 0)).length := by rw [hk]; exact hk0
        rw [List.getElem?_eq_getElem hlt] at hc0
        cases hb : W.heap[a.block]? with
        | none => simp [World.cell?, Addr.add, hb] at hc0
        | some o =>
          cases o with
          | cells arr T fz =>
            have hspot : a.spot = none := by
              cases hsp2 : a.spot with
              | none => rfl
              | some s => simp [World.cell?, Addr.add, hb, hsp2] at hc0
            obtain ⟨b, off, sp⟩ := a
            simp only at hspot hb
            subst hspot
            right
            refine ⟨b, off, arr, T, fz, rfl, (Array.getElem?_eq_some_iff.1 hb).1, hb, fun j y hj => ?_⟩
            have hjlt : j < len * k := by
              have := (List.getElem?_eq_some_iff.1 hj).1
              rw [dc_ f k hk] at this
              simpa using this
            have hi : j / k < len := Nat.div_lt_of_lt_mul (by rw [Nat.mul_comm]; exact hjlt)
            have hr' : j % k < k := Nat.mod_lt _ hk0
            have e : j = (j / k) * k + j % k := by rw [Nat.mul_comm]; exact (Nat.div_add_mod j k).symm
            have hget : ((List.range len).map C)[j / k]? = some (C (j / k)) := by simp [hi]
            rw [e, iW_ f k hk _ (j / k) (j % k) _ hget hr'] at hj
            obtain ⟨_, _, hcell⟩ := World.cells?_some (hC (j / k) hi).1
            have := hcell (j % k) hr'
            rw [hj, cO_, cO_] at this
            rw [e]
            simpa [World.cell?, hb, Nat.add_assoc] using this
          | _ => simp [World.cell?, Addr.add, hb] at hc0
    · intro c hc'
      obtain ⟨i, hi, rfl⟩ := List.mem_map.1 hc'
      exact (hC i (by simpa using hi)).2
end
instance : Inhabited Con := ⟨.mk 0 [] 0 0 none 0 []⟩
instance : Inhabited Ax := ⟨⟨0, false, default, default, none, 0, [], [], [], []⟩⟩
instance : Inhabited Pc := ⟨⟨0, [], [], [], [], [], [], 0, 0, 0⟩⟩
structure Tys (P : Program) (tI tB tS tSs tC tCs tA tAs tP tPs : TypeId) : Prop where
  i : P.underlying tI = some (.int .i64)
  b : P.underlying tB = some .bool
  s : P.underlying tS = some .string
  ss : P.underlying tSs = some (.slice tS)
  c : ∃ fs, P.underlying tC = some (.struct fs) ∧ fs.toList.map (fun f => (f.type, f.offset)) = [(tI, 0), (tS, 1), (tI, 2), (tI, 3), (tCs, 4)]
  cs : P.underlying tCs = some (.slice tC)
  a : ∃ fs, P.underlying tA = some (.struct fs) ∧ fs.toList.map (fun f => (f.type, f.offset)) = [(tI, 0), (tB, 1), (tC, 2), (tC, 7), (tSs, 12), (tS, 13), (tS, 14), (tS, 15)]
  axs : P.underlying tAs = some (.slice tA)
  p : ∃ fs, P.underlying tP = some (.struct fs) ∧ fs.toList.map (fun f => (f.type, f.offset)) = [(tI, 0), (tS, 1), (tS, 2), (tS, 3), (tS, 4), (tS, 5), (tS, 6), (tI, 7), (tI, 8), (tI, 9)]
  ps : P.underlying tPs = some (.slice tP)
  ci : P.cellsOf tI = 1
  cb : P.cellsOf tB = 1
  cs1 : P.cellsOf tS = 1
  css : P.cellsOf tSs = 1
  cc : P.cellsOf tC = 5
  ccs : P.cellsOf tCs = 1
  ca : P.cellsOf tA = 16
  cp : P.cellsOf tP = 10
  bs : P.bytesOf tS = 16
  bc : P.bytesOf tC = 64
  ba : P.bytesOf tA = 216
  bp : P.bytesOf tP = 128
section
variable {H : Type} {enc : TypeId × Value → H} {P : Program} {W : World} {tI tB tS tSs tC tCs tA tAs tP tPs : TypeId} (X : Tys P tI tB tS tSs tC tCs tA tAs tP tPs)
theorem fields_of {t : TypeId} {fs : Array Field} {L : List (TypeId × Nat)} {cs : List Value} {n : Nat} {x : DataW H × List MemPlace} (ht : P.underlying t = some (.struct fs)) (hL : fs.toList.map (fun f => (f.type, f.offset)) = L) (h : DataW.trod enc P W 0 (fun _ => true) true n t cs = some x) :
    ∃ (xs : List (DataW H × List MemPlace)) (m : Nat), n = m + 1 ∧ x.1 = .agg (xs.map (·.1)) ∧ cs.length = P.cellsOf t ∧ xs.length = L.length ∧ (∀ (i : Nat) q, L[i]? = some q → DataW.trod enc P W 0 (fun _ => true) true m q.1 ((cs.drop q.2).take (P.cellsOf q.1)) = xs[i]?) ∧
      (x.1.weights P t = DataW.weightsEach P (L.map (·.1)) (xs.map (·.1))) := by
  obtain ⟨xs, m, hn, hx, hl, hlen, hf⟩ := DataW.trod_struct ht h
  refine ⟨xs, m, hn, by rw [hx], hl, by rw [hlen, ← hL]; simp, fun i q hq => ?_, ?_⟩
  · rw [← hL, List.getElem?_map, Option.map_eq_some_iff] at hq
    obtain ⟨f, hf', rfl⟩ := hq
    exact hf i f (by simpa using hf')
  · rw [hx]; simp only [DataW.weights, ht]
    congr 1
    rw [← hL, List.map_map]; rfl
include X
theorem iS_ {n : Nat} {cs : List Value} {x : DataW H × List MemPlace} (h : DataW.trod enc P W 0 (fun _ => true) true n tI cs = some x) : ∃ k : Int, cs = [.int .i64 k] ∧ -9223372036854775808 ≤ k ∧ k ≤ 9223372036854775807 := by
  obtain ⟨k, h1, _, h3⟩ := DataW.trod_int X.i h
  have := bounds_i64 h3
  exact ⟨k, h1, this.1, this.2⟩
theorem str_of {n : Nat} {cs : List Value} {x : DataW H × List MemPlace} (h : DataW.trod enc P W 0 (fun _ => true) true n tS cs = some x) (hw : wok (x.1.weights P tS)) : ∃ s : Str, cs = [str s] ∧ s.length ≤ 140737488351232 := by
  obtain ⟨s, h1, h2, _⟩ := DataW.trod_string X.s h
  rw [h2] at hw
  simp [wok, DataW.weights, reachBytes] at hw
  refine ⟨s.data.toList, by rw [h1]; rfl, by have := of_decide_eq_true hw; simpa using this⟩
structure Pc.big (p : Pc) : Prop where
  a : p.a.length ≤ 140737488351232
  b : p.b.length ≤ 140737488351232
  c : p.c.length ≤ 140737488351232
  r : p.r.length ≤ 140737488351232
  s : p.s.length ≤ 140737488351232
  t : p.t.length ≤ 140737488351232
theorem pc_of {n : Nat} {cs : List Value} {x : DataW H × List MemPlace} (h : DataW.trod enc P W 0 (fun _ => true) true n tP cs = some x) (hw : wok (x.1.weights P tP)) : ∃ p : Pc, cs = p.cells ∧ p.big := by
  obtain ⟨fs, hu, hL⟩ := X.p
  obtain ⟨xs, m, hn, hx, hl, hlen, hf, hwe⟩ := fields_of hu hL h
  rw [hwe] at hw
  match xs, hlen with
  | [x0, x1, x2, x3, x4, x5, x6, x7, x8, x9], _ =>
  simp only [List.map_cons, List.map_nil, DataW.weightsEach, ea_] at hw
  have f0 := hf 0 _ rfl; have f1 := hf 1 _ rfl; have f2 := hf 2 _ rfl; have f3 := hf 3 _ rfl; have f4 := hf 4 _ rfl; have f5 := hf 5 _ rfl; have f6 := hf 6 _ rfl; have f7 := hf 7 _ rfl; have f8 := hf 8 _ rfl; have f9 := hf 9 _ rfl
  simp only [List.getElem?_cons_zero, List.getElem?_cons_succ, X.ci, X.cs1] at f0 f1 f2 f3 f4 f5 f6 f7 f8 f9
  obtain ⟨k, e0, _, _⟩ := iS_ X f0
  obtain ⟨a, e1, n1⟩ := str_of X f1 hw.2.1
  obtain ⟨b, e2, n2⟩ := str_of X f2 hw.2.2.1
  obtain ⟨c, e3, n3⟩ := str_of X f3 hw.2.2.2.1
  obtain ⟨r, e4, n4⟩ := str_of X f4 hw.2.2.2.2.1
  obtain ⟨s, e5, n5⟩ := str_of X f5 hw.2.2.2.2.2.1
  obtain ⟨t, e6, n6⟩ := str_of X f6 hw.2.2.2.2.2.2.1
  obtain ⟨lo, e7, _, _⟩ := iS_ X f7
  obtain ⟨hi, e8, _, _⟩ := iS_ X f8
  obtain ⟨fr, e9, _, _⟩ := iS_ X f9
  rw [X.cp] at hl
  match cs, hl with
  | [c0, c1, c2, c3, c4, c5, c6, c7, c8, c9], _ =>
  simp only [List.drop_succ_cons, List.drop_zero, List.take_succ_cons, List.take_zero, List.cons.injEq, and_true] at e0 e1 e2 e3 e4 e5 e6 e7 e8 e9
  subst e0 e1 e2 e3 e4 e5 e6 e7 e8 e9
  exact ⟨⟨k, a, b, c, r, s, t, lo, hi, fr⟩, rfl, n1, n2, n3, n4, n5, n6⟩
theorem pcs_of {n : Nat} {cs : List Value} {x : DataW H × List MemPlace} (h : DataW.trod enc P W 0 (fun _ => true) true n tPs cs = some x) (hw : wok (x.1.weights P tPs)) :
    ∃ (l : List Pc) (ad : Option Addr) (cap : Nat), cs = [.slice ad l.length cap] ∧ bD_ (vw W) ad (l.flatMap Pc.cells) ∧ (∀ y ∈ l, y.big) ∧ l.length ≤ cap ∧ cap ≤ 1099511627744 := by
  obtain ⟨l, ad, cap, e, hrow, hq, hlc, hcap⟩ := kZ_ Pc.cells 10 Pc.cells_len (by decide) Pc.big X.ps X.cp (fun m' _ cs' y hy hwy => pc_of X hy hwy) h hw
  rw [X.bp] at hcap; simp only [reachBytes] at hcap
  exact ⟨l, ad, cap, e, hrow, hq, hlc, by omega⟩
end
end Go.Vs
namespace Go.Vs
open Go Go.Sx Go.ChangeShapes Go.WideShapes Go.ChangeAt Go.RowKit
section
variable {H : Type} {enc : TypeId × Value → H} {P : Program} {w : World}
mutual
def eP_ {H : Type} : DataW H → List Value
  | .lit (.int k n) => [.int k n]
  | .lit (.bool b) => [.bool b]
  | .agg ps => gm_ ps
  | _ => []
def gm_ {H : Type} : List (DataW H) → List Value
  | [] => []
  | d :: r => eP_ d ++ gm_ r
end
def eQ_ (P : Program) : Nat → TypeId → Bool
  | 0, _ => false
  | n + 1, t => match P.underlying t with
    | some .bool => true
    | some (.int _) => true
    | some (.struct fs) => fs.toList.all fun f => eQ_ P n f.type
    | some (.array _ e) => eQ_ P n e
    | _ => false
theorem fV_ : ∀ l : List (DataW H), gm_ l = l.flatMap eP_
  | [] => by simp [gm_]
  | d :: r => by simp only [gm_, fV_ r, List.flatMap_cons]
theorem tile : ∀ (ls : List Nat) (cs : List Value) (g : List (List Value)), cs.length = ls.sum → g.length = ls.length → (∀ j n, ls[j]? = some n → some ((cs.drop (ls.take j).sum).take n) = g[j]?) → cs = g.flatten
  | [], cs, g, h, hg, _ => by
    simp only [List.sum_nil] at h
    have h1 := List.eq_nil_of_length_eq_zero h
    have h2 : g = [] := List.eq_nil_of_length_eq_zero hg
    simp [h1, h2]
  | n :: ls, cs, [], h, hg, hp => by simp at hg
  | n :: ls, cs, x :: g, h, hg, hp => by
    have h0 := hp 0 n rfl
    simp only [List.take_zero, List.sum_nil, List.drop_zero, List.getElem?_cons_zero, Option.some.injEq] at h0
    have ih := tile ls (cs.drop n) g (by rw [List.length_drop, h]; simp) (by simpa using hg) (fun j m hj => by
      have := hp (j + 1) m hj
      simp only [List.take_succ_cons, List.sum_cons, List.getElem?_cons_succ] at this
      rw [← this, List.drop_drop])
    rw [List.flatten_cons, ← ih, ← h0, List.take_append_drop]
theorem mO_ {T : TypeId → Prop} {held : Bool} (K : Kids P T) : ∀ (n m : Nat) (t : TypeId) (cs : List Value) (x : DataW H × List MemPlace), T t → eQ_ P m t = true → DataW.trod enc P w 0 (fun _ => true) held n t cs = some x → cs = eP_ x.1 := by
  intro n
  induction n with
  | zero => intro m t cs x _ _ h; simp [DataW.trod] at h
  | succ n ih =>
    intro m t cs x hT hb h
    cases m with
    | zero => simp [eQ_] at hb
    | succ m =>
    cases hu : P.underlying t with
    | none => simp [eQ_, hu] at hb
    | some d =>
      cases d with
      | bool => obtain ⟨b, rfl, rfl⟩ := DataW.trod_bool hu h; simp [eP_]
      | int k => obtain ⟨b, rfl, rfl, _⟩ := DataW.trod_int hu h; simp [eP_]
      | struct fs =>
        obtain ⟨xs, m', hn, rfl, hl, hlen, hf⟩ := DataW.trod_struct hu h
        obtain rfl : m' = n := by omega
        obtain ⟨k1, k2, k3⟩ := K.struct hT hu
        simp only [eQ_, hu] at hb
        simp only [eP_]
        rw [fV_, List.flatMap_def, List.map_map]
        refine tile (fs.toList.map fun f => P.cellsOf f.type) cs _ (by rw [hl, k2]) (by simp [hlen]) fun j q hq => ?_
        rw [List.getElem?_map, Option.map_eq_some_iff] at hq
        obtain ⟨f, hf', rfl⟩ := hq
        have h1 := hf j f (by simpa using hf')
        have h2 := k3 j f hf'
        have hj : j < xs.length := by rw [hlen]; have := (List.getElem?_eq_some_iff.1 hf').1; simpa using this
        rw [List.getElem?_eq_getElem hj] at h1
        have h3 := ih m f.type _ _ (k1 f (List.mem_of_getElem? hf')) (List.all_eq_true.1 hb f (List.mem_of_getElem? hf')) h1
        rw [List.getElem?_map, List.getElem?_eq_getElem hj, ← List.map_take, ← h2, h3]
        rfl
      | array len e =>
        obtain ⟨xs, m', hn, rfl, hl, hlen, hf⟩ := DataW.trod_array hu h
        obtain rfl : m' = n := by omega
        obtain ⟨k1, k2⟩ := K.array hT hu
        simp only [eQ_, hu] at hb
        simp only [eP_]
        rw [fV_, List.flatMap_def, List.map_map]
        refine tile (List.replicate len (P.cellsOf e)) cs _ (by rw [hl, k2]; simp) (by simp [hlen]) fun j q hq => ?_
        rw [List.getElem?_replicate] at hq
        split at hq
        · rename_i hj
          simp only [Option.some.injEq] at hq
          subst hq
          have h1 := hf j hj
          have hjx : j < xs.length := by omega
          rw [List.getElem?_eq_getElem hjx] at h1
          have h3 := ih m e _ _ k1 hb h1
          rw [List.getElem?_map, List.getElem?_eq_getElem hjx, List.take_replicate, List.sum_replicate_nat, Nat.min_eq_left (by omega), h3]
          rfl
        · cases hq
      | _ => simp [eQ_, hu] at hb
end
section
variable {H : Type} {enc : TypeId × Value → H} {P : Program} {W W' : World}
theorem fO_ : ∀ {ts : List TypeId} {vs : List Value} {ds : List (DataW H)} {ps : List MemPlace} {sp : Nat → Bool}, DataW.TrodAll enc P W 0 sp true ts vs ds ps → (∀ p ∈ ps, W.sameAt W' p) → DataW.TrodAll enc P W' 0 sp true ts vs ds ps
  | [], [], [], _, _, h, _ => h
  | _ :: _, _ :: _, _ :: _, _, _, ⟨p, q, ⟨n, h1⟩, h2, e⟩, hs => ⟨p, q, ⟨n, DataW.trod_carry n _ _ _ h1 (fun x hx => hs x (by rw [e]; exact List.mem_append_left _ hx))⟩, fO_ h2 (fun x hx => hs x (by rw [e]; exact List.mem_append_right _ hx)), e⟩
theorem mZ_ {T : TypeId → Prop} (K : Kids P T) (hz : ∀ t e, T t → P.underlying t = some (.slice e) → 0 < P.cellsOf e) {f : Func} {s : ChangeSpec} {args : Array Value} {ds : List (DataW H)} {before : List MemPlace} {tb : TypeId} (hts : ∀ t ∈ f.params.toList, T t) (hvars : s.vars = [])
    (hW : DataW.Whole enc P f.params.toList s.vars false W args.toList ds [] before) (hs : s.fn H (ds ++ []) = { results := [.lit (.bool true)], args := ds }) (hres : f.resultTypes = #[tb]) (hb : P.underlying tb = some .bool) {v' : Vw} (hto : (vw W).to [] v' []) :
    s.post enc P f false true false false W args (.bool true) v'.w := by
  have hW' := hW
  obtain ⟨p, q, hA, hV, hp, _, _⟩ := hW
  have hq : q = [] := by rw [hvars] at hV; exact hV
  subst hq
  simp only [List.append_nil] at hp
  subst hp
  have hblk : ∀ b, b < W.heap.size → v'.w.heap[b]? = W.heap[b]? := fun b hb => hto.block b hb (by simp)
  have hsame : ∀ x ∈ before, W.sameAt v'.w x := fun x hx => by
    have hlt := DataW.TrodAll.lt hA x hx
    cases x with
    | cell b off => exact World.cell?_of_block (hblk b hlt)
    | map b => exact hblk b hlt
  have hA' := fO_ hA hsame
  have hA'' := DataW.TrodAll.respare K hz (spare' := fun b => decide (b < W.heap.size)) hts hA' (fun x hx => by simpa using DataW.TrodAll.lt hA x hx)
  refine ⟨ds, [], before, [], before, [], hW', ?_, ?_, ?_, ⟨hto.os, hto.output, fun i hi => ?_⟩, fun h => by cases h⟩
  · rw [hs, hres]; exact trodAll_mk1 (shut_bool hb true)
  · rw [hs]; exact hA''
  · rw [hs, hvars]; rfl
  · rw [hblk i hi]
    have hsome : ∃ o, W.heap[i]? = some o := ⟨_, Array.getElem?_eq_getElem hi⟩
    obtain ⟨o, ho⟩ := hsome
    rw [ho]
    cases o <;> simp
section
variable {tI tB tS tSs tC tCs tA tAs tP tPs : TypeId} (X : Tys P tI tB tS tSs tC tCs tA tAs tP tPs) {base : Nat} {v : Value} {d : DataW H} {ps : List MemPlace}
include X
end
theorem mu_ {T : TypeId → Prop} (K : Kids P T) {name : String} {d : DataW Unit} {laid : List (String × DataW Unit)} {W : World} (h : laidMet P laid W) (hm : (name, d) ∈ laid) {g : Nat} {t : TypeId} (hg : P.globalNamed name = some g) (ht' : (P.globals[g]?).map (·.type) = some t) (hT : T t) {m : Nat} (hb : eQ_ P m t = true) :
    ∃ T' fz, W.heap[g]? = some (.cells (eP_ d).toArray T' fz) := by
  obtain ⟨ps, hl, _, _⟩ := h
  have key : ∀ (l : List (String × DataW Unit)) (ps : List MemPlace), DataW.LaidVars P W l ps → (name, d) ∈ l → ∃ g t cs n p, P.globalNamed name = some g ∧ (P.globals[g]?).map (·.type) = some t ∧ W.var? P name = some cs ∧ DataW.trod (fun _ => ()) P W 0 (fun _ => true) false n t cs.toList = some (d, p) := by
    intro l
    induction l with
    | nil => intro ps _ h; cases h
    | cons x r ih =>
      intro ps h hm
      obtain ⟨n', d'⟩ := x
      obtain ⟨g, t, cs, fuel, p, q, h1, h2, h3, h4, h5, _⟩ := h
      rcases List.mem_cons.1 hm with e | hm
      · cases e; exact ⟨g, t, cs, fuel, p, h1, h2, h3, h4⟩
      · exact ih q h5 hm
  obtain ⟨g', t', cs, n, p, h1, h2, h3, h4⟩ := key laid ps hl hm
  obtain rfl : g' = g := Option.some.inj (h1.symm.trans hg)
  obtain rfl : t' = t := Option.some.inj (h2.symm.trans ht')
  have e := mO_ K n m t' cs.toList _ hT hb h4
  simp only [World.var?, hg, Option.bind_some] at h3
  split at h3
  · rename_i c T' fz hc
    simp only [Option.some.injEq] at h3
    subst h3
    exact ⟨T', fz, by rw [hc, ← e]⟩
  · cases h3
end
end Go.Vs
namespace Go.Sx
open Go
section
variable {P : Program} {N : Nat} {fr : Fr} {H : Hp} {Γ : List Fct}
theorem kl_ : ∀ (x y : List UInt8), Op.bytesLess x y = decide (x < y)
  | [], [] => by simp [Op.bytesLess]
  | _ :: _, [] => by simp [Op.bytesLess]
  | [], _ :: _ => by simp [Op.bytesLess]
  | a :: x, b :: y => by
    rw [Op.bytesLess, kl_ x y]
    simp only [List.cons_lt_cons_iff]
    by_cases h1 : a < b <;> by_cases h2 : a = b <;> by_cases h3 : x < y <;> simp [h1, h2, h3]
theorem hg_ {t t' ty : TypeId} {x y : Operand} {m n : List UInt8} (hx : Fr.ev fr x = some (str m)) (hy : Fr.ev fr y = some (str n)) : Yld P N fr H Γ (.binOp .lss t x y t') ty (.bool (decide (m < n))) :=
  fun a v h1 _ _ _ _ _ => by rw [← kl_]; simp [execOp, h1.ev hx, h1.ev hy, str, eqGuard, binOp, Op.stringOp]
theorem hm_ {f : FuncId} {args : Array Value} {r : Value} {g : Nat} {cur : Array Value} {T : TypeId} {d : Array (List UInt8)} (hc : eK_ P f)
    (h : ∀ v : Vw, v.sat [(g, .cells cur T (0, 0))] → Calls P f args v.w fun e w' => e = .returned r ∧ ∃ n os, w' = Sort.grow (Sort.putRow Go.Proofs.encStr (Sort.ahead v.w n) g 0 d) os) :
    Tri P f args [(g, .cells cur T (0, 0))] Γ (fun _ : Unit => r) (fun _ => [(g, .cells (Sort.putCells Go.Proofs.encStr 0 d cur) T (0, 0))]) (fun _ => []) :=
  ⟨hc, fun v h1 _ => (h v h1).mono fun e w' ⟨he, n, os, hw⟩ => by
    have hg := (h1.own _ List.mem_cons_self)
    have hlt : g < v.w.heap.size := (Array.getElem?_eq_some_iff.1 hg.1).1
    have hb : ∀ b, b < v.w.heap.size → w'.heap[b]? = if b = g then some (.cells (Sort.putCells Go.Proofs.encStr 0 d cur) T (0, 0)) else v.w.heap[b]? := fun b hb => by
      rw [hw]
      simp only [Sort.grow, Sort.putRow, Sort.mapBlock, Sort.ahead]
      rw [Array.getElem?_append_left (by simpa using hb), Array.getElem?_modify]
      by_cases e : b = g
      · subst e
        simp only [if_true, hg.1, Option.map_some, Sort.onCells]
      · rw [if_neg (fun q => e q.symm), if_neg e]
    have hsz : v.w.heap.size ≤ w'.heap.size := by rw [hw]; simp [Sort.grow, Sort.putRow, Sort.mapBlock, Sort.ahead]
    refine ⟨(), ⟨v.im, w', v.sl⟩, he, rfl, ⟨fun p hp => ?_, by simp, fun b hbb => Nat.lt_of_lt_of_le (h1.lt b hbb) hsz⟩, trivial, ⟨by rw [hw]; rfl, by rw [hw]; rfl, by rw [hw]; rfl, hsz, fun b hbb hn => ?_, fun _ h => h, fun _ h => .inl h, fun b hm => .inl (by simpa using hm), rfl, .inr (by rw [hw]; exact Nat.le_add_right _ _)⟩⟩
    · simp only [List.mem_singleton] at hp
      subst hp
      exact ⟨by show w'.heap[g]? = _; rw [hb g hlt, if_pos rfl], hg.2⟩
    · have hn' : b ≠ g := by simpa using hn
      show w'.heap[b]? = _
      rw [hb b hbb, if_neg hn']⟩
theorem jG_ {cur : Array Value} {d : List (List UInt8)} (hs : d.length ≤ cur.size) : (Sort.putCells Go.Proofs.encStr 0 d.toArray cur).toList.take d.length = d.flatMap aL_ := by
  rw [hn_]
  apply List.ext_getElem?
  intro j
  rw [List.getElem?_take, List.getElem?_map]
  split
  · rename_i hj
    simp only [Sort.putCells, Array.getElem?_toList, Array.getElem?_mapIdx]
    rw [Array.getElem?_eq_getElem (by omega)]
    simp only [Option.map_some, Nat.zero_le, true_and, Nat.zero_add, List.size_toArray, hj, if_true, Nat.sub_zero]
    rw [List.getElem?_eq_getElem hj]
    simp only [Option.map_some]
    rw [getElem!_pos d.toArray j (by simpa using hj)]
    rfl
  · rename_i hj
    rw [List.getElem?_eq_none (by omega)]; rfl
theorem jH_ {cur : Array Value} {d : Array (List UInt8)} : (Sort.putCells Go.Proofs.encStr 0 d cur).size = cur.size := by simp [Sort.putCells]
end
end Go.Sx
namespace Go.Vs
open Go Go.Sx
def ib_ (p : Pc) : List Str := [p.a, p.b, p.c].filter fun s => !(s == [])
def bV_ (l : List Pc) : List Str := l.flatMap ib_
def dd_ (l : List Pc) : List Str := Lib.compact ((bV_ l).mergeSort fun x y => decide (x ≤ y))
theorem fY_ : ∀ l : List Pc, (bV_ l).length ≤ 3 * l.length
  | [] => by simp [bV_]
  | p :: r => by
    have h1 := fY_ r
    have h2 : (ib_ p).length ≤ 3 := by unfold ib_; exact List.length_filter_le _ _
    simp only [bV_, List.flatMap_cons, List.length_append, List.length_cons] at h1 ⊢
    omega
theorem my_ (l : List Str) : (l.mergeSort fun x y => decide (x ≤ y)).Pairwise fun x y => x ≤ y := by
  have h := List.pairwise_mergeSort (le := fun x y : Str => decide (x ≤ y)) (fun a b c h1 h2 => by simp only [decide_eq_true_eq] at *; exact List.le_trans h1 h2) (fun a b => by
    simp only [Bool.or_eq_true, decide_eq_true_eq]; exact List.le_total a b) l
  exact h.imp (fun h => of_decide_eq_true h)
theorem fr_ {zs : List Str} : Lib.compact zs = ((List.range zs.length).filter fun j => decide (j = 0 ∨ zs[j]! ≠ zs[j - 1]!)).map fun j => zs[j]! := by
  unfold Lib.compact Lib.compactUpTo Lib.keeps
  have e : ∀ j, zs.toArray[j]! = zs[j]! := fun j => by
    by_cases h : j < zs.length
    · rw [getElem!_pos zs.toArray j (by simpa using h), getElem!_pos zs j h]; simp
    · rw [getElem!_neg zs.toArray j (by simpa using h), getElem!_neg zs j h]
  rw [List.map_congr_left fun j _ => e j]
  congr 2
  funext j
  rw [e, e]
theorem fq_ (zs : List Str) : (Lib.compact zs).length ≤ zs.length := by
  rw [fr_, List.length_map]
  have := List.length_filter_le (fun j => decide (j = 0 ∨ zs[j]! ≠ zs[j - 1]!)) (List.range zs.length)
  simpa using this
theorem gR_ {zs : List Str} (x : Str) : x ∈ Lib.compact zs ↔ x ∈ zs := by
  rw [fr_, List.mem_map]
  constructor
  · rintro ⟨j, hj, rfl⟩
    have hl := List.mem_range.1 (List.mem_filter.1 hj).1
    rw [getElem!_pos zs j hl]
    exact List.getElem_mem hl
  · intro hx
    obtain ⟨j, hj, e⟩ := List.mem_iff_getElem.1 hx
    clear hx
    induction j with
    | zero => exact ⟨0, List.mem_filter.2 ⟨List.mem_range.2 hj, by simp⟩, by rw [getElem!_pos zs 0 hj]; exact e⟩
    | succ j ih =>
      by_cases h : zs[j + 1]! = zs[j]!
      · have hj' : j < zs.length := by omega
        refine ih hj' ?_
        rw [getElem!_pos zs (j + 1) hj, getElem!_pos zs j hj'] at h
        rw [← h]; exact e
      · exact ⟨j + 1, List.mem_filter.2 ⟨List.mem_range.2 hj, decide_eq_true (.inr h)⟩, by rw [getElem!_pos zs (j + 1) hj]; exact e⟩
theorem kL_ {zs : List Str} (hs : zs.Pairwise fun x y => x ≤ y) : (Lib.compact zs).Pairwise fun x y => x < y := by
  rw [fr_, List.pairwise_map]
  have hr : (List.range zs.length).Pairwise (· < ·) := List.pairwise_lt_range
  have hf := hr.filter (fun j => decide (j = 0 ∨ zs[j]! ≠ zs[j - 1]!))
  refine List.Pairwise.imp_of_mem ?_ hf
  intro j k hj hk hlt
  have hkl := List.mem_range.1 (List.mem_filter.1 hk).1
  have hkk := (List.mem_filter.1 hk).2
  simp only [decide_eq_true_eq] at hkk
  have hne : zs[k]! ≠ zs[k - 1]! := by
    rcases hkk with h | h
    · omega
    · exact h
  have hle : ∀ a b, a ≤ b → b < zs.length → zs[a]! ≤ zs[b]! := by
    intro a b hab hb
    rcases Nat.lt_or_eq_of_le hab with h | h
    · rw [getElem!_pos zs a (by omega), getElem!_pos zs b hb]
      exact List.pairwise_iff_getElem.1 hs a b (by omega) hb h
    · subst h; exact List.le_refl _
  have h1 := hle j (k - 1) (by omega) (by omega)
  have h2 := hle (k - 1) k (by omega) hkl
  have h3 : zs[k - 1]! < zs[k]! := by
    apply Decidable.byContradiction
    intro h
    exact hne (List.le_antisymm (List.not_lt.1 h) h2)
  exact List.lt_of_le_of_lt h1 h3
theorem eX_ (l : List Pc) (x : Str) : x ∈ dd_ l ↔ x ∈ bV_ l := by
  unfold dd_
  rw [gR_, List.mem_mergeSort]
theorem dH_ (l : List Pc) : (dd_ l).length ≤ 3 * l.length := by
  have h1 := fq_ ((bV_ l).mergeSort fun x y => decide (x ≤ y))
  rw [List.length_mergeSort] at h1
  have h2 := fY_ l
  unfold dd_
  omega
end Go.Vs
namespace Go.Proofs.YtpdbbglpbngeiaaGreatDoor
open Go Go.Sx Go.Proofs
attribute [local irreducible] Code.wp wpList wpAnyH
open Go.Vs
theorem eltS : Elt Tryz.prog 25 9 1 16 := kg_ in_ (z := .string ⟨#[]⟩) (by kernel_rfl) rfl (by decide)
theorem iB_ {g n cap : Nat} {cur : Array Value} {xs : List Str} {v : Vw} (hs : v.sat [(g, .cells cur 9 (0, 0))]) (ht : cur.toList.take (xs.length * 1) = xs.flatMap aL_) : Sort.Holds encStr v.w g 0 xs.toArray := by
  intro j hj
  have hb := (hs.own _ List.mem_cons_self).1
  simp only [List.size_toArray] at hj
  have hc : cur[j]? = some (str xs[j]) := lA_ ht j xs[j] (List.getElem?_eq_getElem hj)
  refine ⟨?_, ?_⟩
  · simp only [World.cell?, Nat.zero_add, hb, Option.isSome_none, Bool.false_eq_true, if_false]
    rw [hc, getElem!_pos xs.toArray j (by simpa using hj)]
    rfl
  · simp [World.frozen?, hb]
theorem kX_ {sv : Value} {xs : List Str} {Hr : Hp} (h : aS_ 9 1 sv xs.length (xs.flatMap aL_) Hr) (hl : xs.length ≤ 1000000000000) :
    Tri Tryz.prog 87 #[sv] Hr [] (fun _ : {y : Hp // aS_ 9 1 sv xs.length ((xs.mergeSort fun x y => decide (x ≤ y)).flatMap aL_) y} => .tuple #[]) (fun y => y.1) (fun _ => []) := by
  rcases h.2 with ⟨rfl, h2, rfl⟩ | ⟨g, cap, cur, rfl, rfl, h3, h4, h5, h6⟩
  · obtain rfl : xs = [] := List.eq_nil_of_length_eq_zero h2
    have T := dw_ (P := Tryz.prog) (H := []) (Γ := []) (callable Tryz.func87 rfl rfl) (fun v _ _ => (Tryz.slices_Sort_string_none none 0 v.w).mono (by rintro e w' ⟨rfl, rfl⟩; exact ⟨rfl, ⟨rfl, rfl, rfl, Nat.le_refl _, fun _ _ => rfl⟩, .inr (Nat.le_refl _)⟩))
    exact ⟨T.callable, fun v a b => (T.run v a b).mono (by rintro e w' ⟨x, v', e1, e2, e3, e4, e5⟩; exact ⟨⟨[], by simpa using aS_.nil _ _⟩, v', e1, e2, e3, e4, e5⟩)⟩
  · have T := hm_ (P := Tryz.prog) (Γ := []) (d := (xs.mergeSort fun x y => decide (x ≤ y)).toArray) (callable Tryz.func87 rfl rfl) (fun v hs => Tryz.slices_Sort_string g 0 cap xs v.w (iB_ (n := 0) (cap := 0) hs h6) (Array.getElem?_eq_some_iff.1 (hs.own _ List.mem_cons_self).1).1 (by omega))
    have hsz : (xs.mergeSort fun x y => decide (x ≤ y)).length = xs.length := List.length_mergeSort _
    refine ⟨T.callable, fun v a b => (T.run v a b).mono ?_⟩
    rintro e w' ⟨x, v', e1, e2, e3, e4, e5⟩
    refine ⟨⟨_, by rw [dc_ aL_ 1 ba_, hsz], .inr ⟨g, cap, _, rfl, rfl, h3, h4, by rw [jH_]; exact h5, ?_⟩⟩, v', e1, e2, e3, e4, e5⟩
    have := jG_ (cur := cur) (d := xs.mergeSort fun x y => decide (x ≤ y)) (by rw [hsz, h5]; omega)
    rw [hsz] at this
    rw [Nat.mul_one]; exact this
theorem hV_ {sv : Value} {xs : List Str} {Hr : Hp} (h : aS_ 9 1 sv xs.length (xs.flatMap aL_) Hr) (hl : xs.length ≤ 1000000000000) :
    Tri Tryz.prog 88 #[sv] Hr [] (fun y : {y : Value × Hp // aS_ 9 1 y.1 (Lib.compact xs).length ((Lib.compact xs).flatMap aL_) y.2} => y.1.1) (fun y => y.1.2) (fun _ => []) := by
  rcases h.2 with ⟨rfl, h2, rfl⟩ | ⟨g, cap, cur, rfl, rfl, h3, h4, h5, h6⟩
  · obtain rfl : xs = [] := List.eq_nil_of_length_eq_zero h2
    have T := dw_ (P := Tryz.prog) (H := []) (Γ := []) (callable Tryz.func88 rfl rfl) (fun v _ _ => (Tryz.slices_Compact_string_empty none 0 v.w).mono (by rintro e w' ⟨rfl, rfl⟩; exact ⟨rfl, ⟨rfl, rfl, rfl, Nat.le_refl _, fun _ _ => rfl⟩, .inr (Nat.le_refl _)⟩))
    exact ⟨T.callable, fun v a b => (T.run v a b).mono (by rintro e w' ⟨x, v', e1, e2, e3, e4, e5⟩; exact ⟨⟨(.slice none 0 0, []), by simpa [Lib.compact, Lib.compactUpTo] using aS_.nil _ _⟩, v', e1, e2, e3, e4, e5⟩)⟩
  · have hcl := fq_ xs
    have T := hm_ (P := Tryz.prog) (Γ := []) (r := .slice (some ⟨g, 0, none⟩) (Lib.compact xs).length cap) (d := (Lib.compact xs ++ List.replicate (xs.length - (Lib.compact xs).length) []).toArray) (callable Tryz.func88 rfl rfl) (fun v hs => (Tryz.slices_Compact_string g 0 cap xs v.w (iB_ (n := 0) (cap := 0) hs h6) (by omega) h3).mono (by
      rintro e w' ⟨rfl, q, rfl⟩
      exact ⟨rfl, q, #[], by rw [Sort.grow_empty]⟩))
    refine ⟨T.callable, fun v a b => (T.run v a b).mono ?_⟩
    rintro e w' ⟨x, v', e1, e2, e3, e4, e5⟩
    refine ⟨⟨(.slice (some ⟨g, 0, none⟩) (Lib.compact xs).length cap, _), by rw [dc_ aL_ 1 ba_], .inr ⟨g, cap, _, rfl, rfl, by omega, h4, by rw [jH_]; exact h5, ?_⟩⟩, v', e1, e2, e3, e4, e5⟩
    have hd : (Lib.compact xs ++ List.replicate (xs.length - (Lib.compact xs).length) ([] : Str)).length = xs.length := by simp; omega
    have := jG_ (cur := cur) (d := Lib.compact xs ++ List.replicate (xs.length - (Lib.compact xs).length) []) (by rw [hd, h5]; omega)
    rw [hd] at this
    have h7 := congrArg (List.take (Lib.compact xs).length) this
    rw [List.take_take, Nat.min_eq_left hcl, List.flatMap_append, List.take_append_of_le_length (by rw [dc_ aL_ 1 ba_]; omega), List.take_of_length_le (l := (Lib.compact xs).flatMap aL_) (by rw [dc_ aL_ 1 ba_]; omega)] at h7
    rw [Nat.mul_one]; exact h7
theorem oq_ (l : List Pc) (ad : Option Addr) (cap : Nat) (hl : l.length ≤ 100000000000) : Tri Tryz.prog 98 #[.slice ad (List.length l) cap] [] [ap_ ad (List.flatMap Pc.cells l)] (fun y : {y : Option Addr × Nat // (dd_ l).length ≤ y.2 ∧ y.2 ≤ maxLen} => .slice y.1.1 (dd_ l).length y.1.2) (fun _ => []) (fun y => [ap_ y.1.1 ((dd_ l).flatMap aL_)]) := by
 refine J_ Tryz.func98 rfl rfl Tryz.ntmps98 rfl fun v0 => ?_
 refine h_ (d_ (a_ (i_ rfl) rfl (e_ (c_ rfl (h_ (h_ (d_ (a_ (g_ rfl) rfl (a_ (ae_ E_ rfl) rfl ?_)))))))))
 refine a_ (g_ rfl) rfl (e_ (c_ rfl (K_ (ee_ [(2, .slice none 0 0), (7, .slice ad (List.length l) cap), (8, .int .i64 (List.length l : Int)), (9, .int .i64 ((0 : Nat) : Int))] ⟨rfl, rfl, rfl, rfl, trivial⟩ ?_))))
 refine ed_ (ι := {y : Nat × Value × Hp // y.1 ≤ l.length ∧ aS_ 9 1 y.2.1 (bV_ (l.take y.1)).length ((bV_ (l.take y.1)).flatMap aL_) y.2.2}) (fun y => [(2, y.1.2.1), (7, .slice ad (List.length l) cap), (8, .int .i64 (List.length l : Int)), (9, .int .i64 (y.1.1 : Int))]) (fun y => y.1.2.2) (fun _ => _) (fun y => l.length - y.1.1) ⟨(0, .slice none 0 0, []), by simp, aS_.nil _ _⟩ ?_
 rintro ⟨⟨i, sv, Hr⟩, hi, hrow⟩
 dsimp only at hi hrow
 dsimp only
 have hol := fY_ (l.take i)
 rw [List.length_take] at hol
 refine ee_ [(2, sv), (7, .slice ad (List.length l) cap), (8, .int .i64 (List.length l : Int)), (9, .int .i64 (i : Int))] ⟨rfl, rfl, rfl, rfl, trivial⟩ ?_
 refine h_ (d_ (x_ (ar_ rfl rfl) rfl fun r1 hr1 => ?_))
 refine e_ (c_ rfl (h_ ?_))
 cases r1
 ·
  replace hr1 := of_decide_eq_false hr1
  refine s_ rfl (au_ rfl (c_ rfl (h_ ?_)))
  have et : l.take i = l := List.take_of_length_le (by omega)
  rw [et] at hrow hol
  refine d_ (a_ (g_ rfl) rfl (aa_ (kX_ hrow (by omega)) rfl aO_ (fun _ _ _ => by exact trivial) rfl fun ⟨Hs, hs⟩ => ?_))
  dsimp only
  refine ay_ (List.Perm.symm aO_) ?_
  have hs2 : aS_ 9 1 sv ((bV_ l).mergeSort fun x y => decide (x ≤ y)).length (((bV_ l).mergeSort fun x y => decide (x ≤ y)).flatMap aL_) Hs := by rw [List.length_mergeSort]; exact hs
  refine e_ (c_ rfl (h_ (d_ (a_ (g_ rfl) rfl (aa_ (hV_ hs2 (by rw [List.length_mergeSort]; omega)) rfl aO_ (fun _ _ _ => by exact trivial) rfl fun ⟨⟨sc, Hc⟩, hc⟩ => ?_)))))
  dsimp only
  refine ay_ (List.Perm.symm aO_) (a_ (i_ rfl) rfl (e_ (c_ rfl (D_ (hC_ hc aO_ fun ad2 cp2 hsv hc1 hc2 => ?_)))))
  exact aA_ Tryz.results98 ⟨(ad2, cp2), hc1, hc2⟩ (eU_ rfl hsv) F_ (fun v _ h => ⟨h.1, trivial⟩)
 ·
  replace hr1 := of_decide_eq_true hr1
  have hlx1 : i < List.length l := by omega
  obtain ⟨x1, hx1⟩ : ∃ e0, l[i]? = some e0 := ⟨_, List.getElem?_eq_getElem hlx1⟩
  have hmx1 : x1 ∈ l := List.mem_of_getElem? hx1
  refine p_ rfl (B_ (c_ rfl (h_ (K_ (h_ (d_ (a_ (al_ E_ Q_ rfl rfl (fun v _ h => aG_ (n := 10) Pc.cells_len (by decide) (by exact h.1) hx1) (by omega) (by first | omega | (simp; done))) rfl (a_ (aK_ (ad := ad) (us := Pc.cells x1) bc_ Q_ rfl (fun v _ h => by exact h.1) (Pc.cells_len _) (ao_ Pc.cells_len hx1)) rfl (ah_ aJ_ rfl fun b1 => ?_)))))))))
  refine R_ 0 Q_ rfl rfl rfl rfl rfl rfl (e_ (c_ rfl (h_ (d_ (a_ (m_ z_ rfl rfl rfl o_) rfl (a_ (t_ 0 u_ rfl rfl rfl) rfl (a_ (m_ z_ rfl rfl rfl o_) rfl (a_ (t_ 0 u_ rfl rfl rfl) rfl (a_ (m_ z_ rfl rfl rfl o_) rfl ?_)))))))))
  refine a_ (t_ 0 u_ rfl rfl rfl) rfl (aY_ H_ o_ bn_ rfl rfl rfl rfl rfl rfl fun b2 => ?_)
  refine da_ (List.flatMap aL_ [(Pc.a x1), (Pc.b x1), (Pc.c x1)]) f_ rfl ?_
  refine a_ (ae_ H_ rfl) rfl (a_ (g_ rfl) rfl (e_ (c_ rfl (K_ (ee_ [(2, sv), (7, .slice ad (List.length l) cap), (8, .int .i64 (List.length l : Int)), (9, .int .i64 (i : Int)), (19, .slice (some ⟨b2, 0, none⟩) (List.length [(Pc.a x1), (Pc.b x1), (Pc.c x1)]) 3), (20, .int .i64 3), (21, .int .i64 ((0 : Nat) : Int))] ⟨rfl, rfl, rfl, rfl, rfl, rfl, rfl, trivial⟩ ?_)))))
  refine ed_ (ι := {y : Nat × Value × Hp // y.1 ≤ 3 ∧ aS_ 9 1 y.2.1 (bV_ (l.take i) ++ (List.take y.1 [x1.a, x1.b, x1.c]).filter fun s => !(s == [])).length ((bV_ (l.take i) ++ (List.take y.1 [x1.a, x1.b, x1.c]).filter fun s => !(s == [])).flatMap aL_) y.2.2}) (fun y => [(2, y.1.2.1), (7, .slice ad (List.length l) cap), (8, .int .i64 (List.length l : Int)), (9, .int .i64 (i : Int)), (19, .slice (some ⟨b2, 0, none⟩) (List.length [(Pc.a x1), (Pc.b x1), (Pc.c x1)]) 3), (20, .int .i64 3), (21, .int .i64 (y.1.1 : Int))]) (fun y => _ ::  y.1.2.2) (fun _ => _) (fun y => 3 - y.1.1) ⟨(0, sv, Hr), by simp, by simpa using hrow⟩ ?_
  rintro ⟨⟨k, sw, Hw⟩, hk, hkr⟩
  dsimp only at hk hkr
  dsimp only
  have hfl : ((bV_ (l.take i) ++ (List.take k [x1.a, x1.b, x1.c]).filter fun s => !(s == []))).length ≤ (bV_ (l.take i)).length + 3 := by
   have := List.length_filter_le (fun s => !(s == [])) (List.take k [x1.a, x1.b, x1.c])
   simp only [List.length_append, List.length_take, List.length_cons, List.length_nil] at this ⊢
   omega
  refine ee_ [(2, sw), (7, .slice ad (List.length l) cap), (8, .int .i64 (List.length l : Int)), (9, .int .i64 (i : Int)), (19, .slice (some ⟨b2, 0, none⟩) (List.length [(Pc.a x1), (Pc.b x1), (Pc.c x1)]) 3), (20, .int .i64 3), (21, .int .i64 (k : Int))] ⟨rfl, rfl, rfl, rfl, rfl, rfl, rfl, trivial⟩ ?_
  refine h_ (d_ (x_ (ar_ rfl rfl) rfl fun r2 hr2 => ?_))
  refine e_ (c_ rfl (h_ ?_))
  cases r2
  ·
   replace hr2 := of_decide_eq_false hr2
   refine s_ rfl (au_ rfl (c_ rfl (d_ (a_ (P_ rfl rfl rfl (an_ (by omega) (by omega))) rfl (a_ (g_ rfl) rfl (e_ (v_ rfl ?_)))))))
   have hst : bV_ (l.take (i + 1)) = bV_ (l.take i) ++ ib_ x1 := by unfold bV_; rw [List.take_add_one, hx1, List.flatMap_append]; simp
   exact ai_ ⟨(i + 1, sw, Hw), hlx1, by dsimp only; rw [hst]; have := hkr; rw [List.take_of_length_le (show [x1.a, x1.b, x1.c].length ≤ k by simp; omega)] at this; exact this⟩ (by dsimp only; omega) ⟨rfl, rfl, rfl, rfl, trivial⟩ (b_ aO_) (fun _ _ h => h.2)
  ·
   replace hr2 := of_decide_eq_true hr2
   have hly1 : k < List.length [(Pc.a x1), (Pc.b x1), (Pc.c x1)] := by simp; omega
   obtain ⟨y1, hy1⟩ : ∃ e0, [(Pc.a x1), (Pc.b x1), (Pc.c x1)][k]? = some e0 := ⟨_, List.getElem?_eq_getElem hly1⟩
   have hmy1 : y1 ∈ [(Pc.a x1), (Pc.b x1), (Pc.c x1)] := List.mem_of_getElem? hy1
   refine p_ rfl (B_ (c_ rfl (h_ (K_ (h_ (d_ (a_ (al_ H_ o_ rfl rfl (fun v _ h => aG_ (n := 1) ba_ (by decide) (by exact h.1) hy1) (by omega) (by first | omega | (simp; done))) rfl (a_ (bu_ (ad := (some ⟨b2, 0, none⟩)) u_ rfl (fun v _ h => by exact h.1) (ao_ ba_ hy1 0 _ rfl)) rfl (a_ (i_ rfl) rfl ?_)))))))))
   refine e_ (c_ rfl (h_ (d_ (a_ (g_ rfl) rfl (x_ (dI_ rfl rfl) rfl fun r3 hr3 => ?_)))))
   refine e_ (c_ rfl ?_)
   cases r3
   ·
    replace hr3 := aQ_ hr3
    refine s_ rfl (B_ (c_ rfl (d_ (a_ (P_ rfl rfl rfl (an_ (by omega) (by omega))) rfl (a_ (g_ rfl) rfl (e_ (v_ rfl ?_)))))))
    have hst : (bV_ (l.take i) ++ (List.take (k + 1) [x1.a, x1.b, x1.c]).filter fun s => !(s == [])) = (bV_ (l.take i) ++ (List.take k [x1.a, x1.b, x1.c]).filter fun s => !(s == [])) ++ [y1].filter (fun s => !(s == [])) := by rw [List.append_assoc, ← List.filter_append, List.take_add_one, hy1]; simp
    rw [show [y1].filter (fun s => !(s == [])) = [] by simp [*], List.append_nil] at hst
    exact ai_ ⟨(k + 1, sw, Hw), by dsimp only; omega, by dsimp only; rw [hst]; exact hkr⟩ (by dsimp only; omega) ⟨rfl, rfl, rfl, rfl, rfl, rfl, rfl, trivial⟩ (j_ f_ aO_) (fun _ _ h => h)
   ·
    replace hr3 := aP_ hr3
    refine p_ rfl (d_ (a_ (g_ rfl) rfl (a_ (g_ rfl) rfl (aY_ H_ o_ bn_ rfl rfl rfl rfl rfl rfl fun b3 => ?_))))
    refine aU_ (news := [str y1]) eltS hkr rfl rfl (b_ (b_ aO_)) rfl (cn_ 0 rfl) (nW_ rfl) (by simp only [maxLen]; omega) (by omega) rfl fun sv2 Hr2 hrow2 => ?_
    refine ay_ (@List.perm_append_comm _ _ [_, _]) (a_ (i_ rfl) rfl (e_ (c_ rfl (d_ (a_ (P_ rfl rfl rfl (an_ (by omega) (by omega))) rfl (a_ (g_ rfl) rfl (e_ (v_ rfl ?_))))))))
    have hst : (bV_ (l.take i) ++ (List.take (k + 1) [x1.a, x1.b, x1.c]).filter fun s => !(s == [])) = (bV_ (l.take i) ++ (List.take k [x1.a, x1.b, x1.c]).filter fun s => !(s == [])) ++ [y1].filter (fun s => !(s == [])) := by rw [List.append_assoc, ← List.filter_append, List.take_add_one, hy1]; simp
    rw [show [y1].filter (fun s => !(s == [])) = [y1] by simp [*]] at hst
    exact ai_ ⟨(k + 1, sv2, Hr2), by dsimp only; omega, by dsimp only; rw [hst]; rw [List.length_append (bs := [y1]), List.flatMap_append (ys := [y1])]; exact hrow2⟩ (by dsimp only; omega) ⟨rfl, rfl, rfl, rfl, rfl, rfl, rfl, trivial⟩ (j_ (b_ f_) (b_ aO_)) (fun _ _ h => h)
end Go.Proofs.YtpdbbglpbngeiaaGreatDoor
namespace Go.Sx
open Go
section
variable {P : Program} {N : Nat} {v0 : Vw} {H0 : Hp} {R : Exit → Act → World → Prop} {K : List Kt} {fr : Fr} {H : Hp} {Γ : List Fct}
variable {ops : Array Oper} {l : List Oper} {d : Nat} {ty : TypeId} {ps : String} {af : Array Edge}
end
end Go.Sx
namespace Go.Vs
open Go Go.Sx
def Cov (hs : List Bool) (L S : List Str) : Prop := hs.length = L.length ∧ ∀ (n : Nat) (s : Str), L[n]? = some s → s ∈ S → hs[n]? = some true
theorem Cov.nil (L : List Str) : Cov (List.replicate L.length false) L [] := ⟨by simp, fun _ _ _ h => by simp at h⟩
theorem Cov.set {hs : List Bool} {L S : List Str} (h : Cov hs L S) (n : Nat) : Cov (hs.set n true) L S := ⟨by rw [List.length_set]; exact h.1, fun m s h1 h2 => by
  have h3 := h.2 m s h1 h2
  rw [List.getElem?_set]
  split
  · rename_i e
    subst e
    rw [if_pos (List.getElem?_eq_some_iff.1 h3).1]
  · exact h3⟩
def ox_ (hs : List Bool) (L S : List Str) (y : Str) (n : Nat) : Prop := Cov hs L S ∧ ∀ m, m < n → L[m]? = some y → hs[m]? = some true
theorem ox_.zero {hs : List Bool} {L S : List Str} {y : Str} (h : Cov hs L S) : ox_ hs L S y 0 := ⟨h, fun _ h => by omega⟩
theorem ox_.done {hs : List Bool} {L S : List Str} {y : Str} {n : Nat} (h : ox_ hs L S y n) (hn : L.length ≤ n) : Cov hs L (S ++ [y]) := ⟨h.1.1, fun m s h1 h2 => by
  rcases List.mem_append.1 h2 with h2 | h2
  · exact h.1.2 m s h1 h2
  · simp only [List.mem_singleton] at h2
    subst h2
    have := (List.getElem?_eq_some_iff.1 h1).1
    exact h.2 m (by omega) h1⟩
def three (p : Pc) : List Str := [p.a, p.b, p.c]
theorem Cov.all {hs : List Bool} {l : List Pc} (h : Cov hs (dd_ l) (l.flatMap three)) {n : Nat} (hn : n < (dd_ l).length) : hs[n]? = some true := by
  have hm := (eX_ l _).1 (List.getElem_mem hn)
  refine h.2 n _ (List.getElem?_eq_getElem hn) ?_
  simp only [bV_, List.mem_flatMap, ib_, List.mem_filter] at hm
  obtain ⟨p, h1, h2⟩ := hm
  exact List.mem_flatMap.2 ⟨p, h1, h2.1⟩
end Go.Vs
namespace Go.Vs
open Go Go.Sx
-- valid pieces, kind by kind
section
variable {a b c r s t : Str} {lo hi f : Int}
end
-- atoms
-- roles
structure RInv (s : Str) (a i : Nat) (dn : List Str) : Prop where
  le : a ≤ i
  il : i ≤ s.length
  no : ixS 46 ((s.drop a).take (i - a)) = none
  sp : by_ 46 s = dn ++ by_ 46 (s.drop a)
  al : dn.all bO_ = true
structure REnd (s : Str) (i : Nat) (dn : List Str) : Prop where
  il : i = s.length + 1
  sp : by_ 46 s = dn
  al : dn.all bO_ = true
theorem RInv.len {s : Str} {a i : Nat} {dn : List Str} (h : RInv s a i dn) : dn.length ≤ s.length + 1 := by
  have h1 := cY_ 46 s
  have h2 := he_ 46 s
  rw [h.sp, List.length_append] at h1
  omega
theorem REnd.len {s : Str} {i : Nat} {dn : List Str} (h : REnd s i dn) : dn.length ≤ s.length + 1 := by
  have h1 := cY_ 46 s
  have h2 := he_ 46 s
  rw [h.sp] at h1
  omega
theorem REnd.role {s : Str} {i : Nat} {dn : List Str} (h : REnd s i dn) : cT_ s = decide ((dn.length : Int) ≤ 4) := by
  unfold cT_
  rw [h.sp]
  have : dn.any (fun r => !bO_ r) = false := by
    rw [List.any_eq_false]
    intro x hx
    have := List.all_eq_true.1 h.al x hx
    simp [this]
  rw [this]
  simp
  omega
-- sorted insertion
end Go.Vs
namespace Go.Vs
open Go Go.Sx
def aq_ (a b : Str) : Fc := ⟨1, a, b, [], 0, 0⟩
def av_ (a r b : Str) : Fc := ⟨2, a, b, r, 0, 0⟩
def at_ (a r : Str) (lo hi : Int) : Fc := ⟨3, a, [], r, lo, hi⟩
inductive One (p : List Pc) (A : List Str) (S : Fc → Prop) (M : Fc → Fc → Prop) : Fc → Prop
  | r1 {a : Str} (h : a ∈ A) : One p A S M (aq_ a a)
  | r2 {a : Str} (h : a ∈ A) : One p A S M (aq_ a [42])
  | r10 {a : Str} {x : Pc} (hx : x ∈ p) (hk : x.kind = 7) (h : a ∈ A) : One p A S M (av_ a x.r a)
  | r3 {a : Str} {x : Pc} (hx : x ∈ p) (hk : x.kind = 1) (h : S (aq_ a x.a)) : One p A S M (aq_ a x.c)
  | r4 {a : Str} {x : Pc} (hx : x ∈ p) (hk : x.kind = 2) (h : S (aq_ a x.a)) (h' : S (aq_ a x.b)) : One p A S M (aq_ a x.c)
  | r5 {a : Str} {x : Pc} (hx : x ∈ p) (hk : x.kind = 3) (h : S (aq_ a x.a)) : One p A S M (av_ a x.r x.c)
  | r6 {a b : Str} {x : Pc} (hx : x ∈ p) (hk : x.kind = 5) (h : S (av_ a x.r b)) : One p A S M (av_ a x.t b)
  | r7 {a b c : Str} {x : Pc} (hx : x ∈ p) (hk : x.kind = 6) (h : S (av_ a x.r b)) (h' : S (av_ b x.s c)) : One p A S M (av_ a x.t c)
  | r8 {a b : Str} {x : Pc} (hx : x ∈ p) (hk : x.kind = 4) (h : S (av_ a x.r b)) (h' : S (aq_ b x.a)) : One p A S M (aq_ a x.c)
  | r9 {a r b : Str} (h : S (av_ a r b)) (h' : S (aq_ b [33])) : One p A S M (aq_ a [33])
  | r11 {a : Str} {x : Pc} (hx : x ∈ p) (hk : x.kind = 8) (h : S (aq_ a x.a)) : One p A S M (at_ a x.r x.lo x.hi)
  | r12 {a r : Str} {lo hi lo' hi' : Int} (h : S (at_ a r lo hi)) (h' : S (at_ a r lo' hi')) (hm : M (at_ a r lo hi) (at_ a r lo' hi')) (hl : max lo lo' ≤ min hi hi') : One p A S M (at_ a r (max lo lo') (min hi hi'))
  | r13 {a r : Str} {lo hi lo' hi' : Int} (h : S (at_ a r lo hi)) (h' : S (at_ a r lo' hi')) (hm : M (at_ a r lo hi) (at_ a r lo' hi')) (hl : min hi hi' < max lo lo') : One p A S M (aq_ a [33])
  | r14 {a : Str} {lo hi : Int} {x : Pc} (hx : x ∈ p) (hk : x.kind = 9) (h : S (at_ a x.r lo hi)) (h1 : x.lo ≤ lo) (h2 : hi ≤ x.hi) : One p A S M (aq_ a x.c)
abbrev eI_ (p : List Pc) (A : List Str) (S : Fc → Prop) : Fc → Prop := One p A S (fun _ _ => True)
theorem One.mono {p p' : List Pc} {A A' : List Str} {S S' : Fc → Prop} {M M' : Fc → Fc → Prop} (hp : ∀ x ∈ p, ∃ y ∈ p', ∃ n, { y with frm := n } = x) (hA : ∀ a ∈ A, a ∈ A') (hS : ∀ y, S y → S' y) (hM : ∀ x y, M x y → M' x y) {y : Fc} (h : One p A S M y) : One p' A' S' M' y := by
  cases h with
  | r1 h => exact .r1 (hA _ h)
  | r2 h => exact .r2 (hA _ h)
  | r10 hx hk h => obtain ⟨z, hz, n, rfl⟩ := hp _ hx; exact One.r10 (x := z) hz hk (hA _ h)
  | r3 hx hk h => obtain ⟨z, hz, n, rfl⟩ := hp _ hx; exact One.r3 (x := z) hz hk (hS _ h)
  | r4 hx hk h h' => obtain ⟨z, hz, n, rfl⟩ := hp _ hx; exact One.r4 (x := z) hz hk (hS _ h) (hS _ h')
  | r5 hx hk h => obtain ⟨z, hz, n, rfl⟩ := hp _ hx; exact One.r5 (x := z) hz hk (hS _ h)
  | r6 hx hk h => obtain ⟨z, hz, n, rfl⟩ := hp _ hx; exact One.r6 (x := z) hz hk (hS _ h)
  | r7 hx hk h h' => obtain ⟨z, hz, n, rfl⟩ := hp _ hx; exact One.r7 (x := z) hz hk (hS _ h) (hS _ h')
  | r8 hx hk h h' => obtain ⟨z, hz, n, rfl⟩ := hp _ hx; exact One.r8 (x := z) hz hk (hS _ h) (hS _ h')
  | r9 h h' => exact .r9 (hS _ h) (hS _ h')
  | r11 hx hk h => obtain ⟨z, hz, n, rfl⟩ := hp _ hx; exact One.r11 (x := z) hz hk (hS _ h)
  | r12 h h' hm hl => exact .r12 (hS _ h) (hS _ h') (hM _ _ hm) hl
  | r13 h h' hm hl => exact .r13 (hS _ h) (hS _ h') (hM _ _ hm) hl
  | r14 hx hk h h1 h2 => obtain ⟨z, hz, n, rfl⟩ := hp _ hx; exact One.r14 (x := z) hz hk (hS _ h) h1 h2
def Der (p : List Pc) (A : List Str) (y : Fc) : Prop := ∀ T : Fc → Prop, (∀ y, eI_ p A T y → T y) → T y
theorem Der.step {p : List Pc} {A : List Str} {y : Fc} (h : eI_ p A (Der p A) y) : Der p A y :=
  fun T hT => hT y (h.mono (fun x hx => ⟨x, hx, x.frm, rfl⟩) (fun _ h => h) (fun z hz => hz T hT) (fun _ _ h => h))
theorem Der.mono {p p' : List Pc} {A A' : List Str} (hp : ∀ x ∈ p, ∃ y ∈ p', ∃ n, { y with frm := n } = x) (hA : ∀ a ∈ A, a ∈ A') {y : Fc} (h : Der p A y) : Der p' A' y :=
  h _ fun _ hz => Der.step (hz.mono hp hA (fun _ h => h) (fun _ _ h => h))
theorem Der.least {p : List Pc} {A : List Str} {T : Fc → Prop} (hT : ∀ y, eI_ p A T y → T y) {y : Fc} (h : Der p A y) : T y := h T hT
structure Ky where
  kind : Int
  role : Str
  atom : Str
deriving DecidableEq
abbrev fZ_ := Str × Str
def lat {K D : Type} [DecidableEq K] (l : List (K × D)) (k : K) : List D := (l.filter fun e => decide (e.1 = k)).map (·.2)
theorem cr_ {K D : Type} [DecidableEq K] {l : List (K × D)} {k : K} {d : D} : d ∈ lat l k ↔ (k, d) ∈ l := by
  unfold lat
  simp only [List.mem_map, List.mem_filter, decide_eq_true_eq]
  exact ⟨fun ⟨⟨a, b⟩, ⟨h1, h2⟩, h3⟩ => by subst h2; subst h3; exact h1, fun h => ⟨(k, d), ⟨h, rfl⟩, rfl⟩⟩
theorem hH_ {K D : Type} [DecidableEq K] (l m : List (K × D)) (k : K) : lat (l ++ m) k = lat l k ++ lat m k := by simp [lat]
theorem ek_ {K D : Type} [DecidableEq K] (l : List (K × D)) (k : K) : (lat l k).length ≤ l.length := by
  simp only [lat, List.length_map]; exact List.length_filter_le _ _
def bX_ (x : Pc) : List (Ky × Pc) :=
  if x.kind = 1 ∨ x.kind = 3 ∨ x.kind = 8 then [(⟨x.kind, [], x.a⟩, x)]
  else if x.kind = 2 then if x.b ≠ x.a then [(⟨x.kind, [], x.a⟩, x), (⟨x.kind, [], x.b⟩, x)] else [(⟨x.kind, [], x.a⟩, x)]
  else if x.kind = 4 then [(⟨x.kind, [], x.a⟩, x), (⟨x.kind, x.r, x.a⟩, x)]
  else if x.kind = 5 ∨ x.kind = 9 then [(⟨x.kind, x.r, []⟩, x)]
  else if x.kind = 6 then [(⟨x.kind, x.r, []⟩, x), (⟨x.kind, [], x.s⟩, x)]
  else []
def Pc.zf (x : Pc) : Pc := { x with frm := 0 }
def uniq : List Pc → List Pc → List Pc
  | l, [] => l
  | l, x :: r => uniq (if x.zf ∈ l then l else l ++ [x.zf]) r
theorem gd_ : ∀ (r l : List Pc) (x : Pc), x ∈ uniq l r ↔ x ∈ l ∨ ∃ y ∈ r, y.zf = x
  | [], l, x => by simp [uniq]
  | y :: r, l, x => by
    rw [uniq, gd_ r]
    by_cases h : y.zf ∈ l
    · rw [if_pos h]
      constructor
      · rintro (h1 | ⟨z, h1, h2⟩)
        · exact .inl h1
        · exact .inr ⟨z, by simp [h1], h2⟩
      · rintro (h1 | ⟨z, h1, h2⟩)
        · exact .inl h1
        · rcases List.mem_cons.1 h1 with rfl | h1
          · exact .inl (h2 ▸ h)
          · exact .inr ⟨z, h1, h2⟩
    · rw [if_neg h]
      simp only [List.mem_append, List.mem_cons, List.not_mem_nil, or_false]
      constructor
      · rintro ((h1 | h1) | ⟨z, h1, h2⟩)
        · exact .inl h1
        · exact .inr ⟨y, .inl rfl, h1.symm⟩
        · exact .inr ⟨z, .inr h1, h2⟩
      · rintro (h1 | ⟨z, h1 | h1, h2⟩)
        · exact .inl (.inl h1)
        · subst h1; exact .inl (.inr h2.symm)
        · exact .inr ⟨z, h1, h2⟩
theorem ge_ : ∀ (r l : List Pc), (uniq l r).length ≤ l.length + r.length
  | [], l => by simp [uniq]
  | y :: r, l => by
    rw [uniq]
    have := ge_ r (if y.zf ∈ l then l else l ++ [y.zf])
    have h2 : (if y.zf ∈ l then l else l ++ [y.zf]).length ≤ l.length + 1 := by split <;> simp
    simp only [List.length_cons]
    omega
def aF_ (ps : List Pc) : List (Ky × Pc) := ps.flatMap bX_
def am_ (ps : List Pc) : List Str := (ps.filter fun x => decide (x.kind = 7)).map (·.r)
theorem mM_ (x : Pc) : ∀ e ∈ bX_ x, e.2 = x ∧ e.1.kind = x.kind := by
  unfold bX_
  repeat' split
  all_goals simp
theorem cZ_ {x y : Pc} {k : Ky} (h : (k, y) ∈ bX_ x) : y = x ∧ k.kind = x.kind := mM_ x _ h
def Pc.rok (x : Pc) : Prop := (x.kind = 4 ∨ x.kind = 5 ∨ x.kind = 6 ∨ x.kind = 9 ∨ x.kind = 3 ∨ x.kind = 7 ∨ x.kind = 8 → x.r ≠ []) ∧ (x.kind = 6 → x.s ≠ [] ∧ x.t ≠ []) ∧ (x.kind = 5 → x.t ≠ [])
theorem eq_ {ps : List Pc} {k : Ky} {x : Pc} : x ∈ lat (aF_ ps) k ↔ x ∈ ps ∧ (k, x) ∈ bX_ x := by
  rw [cr_, aF_, List.mem_flatMap]
  constructor
  · rintro ⟨y, hy, h⟩
    obtain ⟨rfl, _⟩ := cZ_ h
    exact ⟨hy, h⟩
  · rintro ⟨h1, h2⟩
    exact ⟨x, h1, h2⟩
theorem pm1 {ps : List Pc} {b : Str} {x : Pc} : x ∈ lat (aF_ ps) ⟨1, [], b⟩ ↔ x ∈ ps ∧ x.kind = 1 ∧ x.a = b := by
  rw [eq_]
  refine and_congr_right fun _ => ⟨fun h => ?_, fun ⟨h, h'⟩ => ?_⟩
  · have hk := (cZ_ h).2
    simp only at hk
    simp [bX_, ← hk] at h
    exact ⟨hk.symm, h.symm⟩
  · subst h'; simp [bX_, h]
theorem pm2 {ps : List Pc} {b : Str} {x : Pc} : x ∈ lat (aF_ ps) ⟨2, [], b⟩ ↔ x ∈ ps ∧ x.kind = 2 ∧ (x.a = b ∨ x.b = b) := by
  rw [eq_]
  refine and_congr_right fun _ => ⟨fun h => ?_, fun ⟨h, h'⟩ => ?_⟩
  · have hk := (cZ_ h).2
    simp only at hk
    simp [bX_, ← hk] at h
    split at h
    · simp at h; exact ⟨hk.symm, .inl h.symm⟩
    · simp at h; rcases h with h | h
      · exact ⟨hk.symm, .inl h.symm⟩
      · exact ⟨hk.symm, .inr h.symm⟩
  · by_cases e : x.b = x.a
    · have : x.a = b := h'.elim id (fun q => e ▸ q)
      subst this; simp [bX_, h, e]
    · rcases h' with rfl | rfl <;> simp [bX_, h, e]
theorem pm3 {ps : List Pc} {b : Str} {x : Pc} : x ∈ lat (aF_ ps) ⟨3, [], b⟩ ↔ x ∈ ps ∧ x.kind = 3 ∧ x.a = b := by
  rw [eq_]
  refine and_congr_right fun _ => ⟨fun h => ?_, fun ⟨h, h'⟩ => ?_⟩
  · have hk := (cZ_ h).2
    simp only at hk
    simp [bX_, ← hk] at h
    exact ⟨hk.symm, h.symm⟩
  · subst h'; simp [bX_, h]
theorem pm8 {ps : List Pc} {b : Str} {x : Pc} : x ∈ lat (aF_ ps) ⟨8, [], b⟩ ↔ x ∈ ps ∧ x.kind = 8 ∧ x.a = b := by
  rw [eq_]
  refine and_congr_right fun _ => ⟨fun h => ?_, fun ⟨h, h'⟩ => ?_⟩
  · have hk := (cZ_ h).2
    simp only at hk
    simp [bX_, ← hk] at h
    exact ⟨hk.symm, h.symm⟩
  · subst h'; simp [bX_, h]
theorem pm5 {ps : List Pc} {r : Str} {x : Pc} : x ∈ lat (aF_ ps) ⟨5, r, []⟩ ↔ x ∈ ps ∧ x.kind = 5 ∧ x.r = r := by
  rw [eq_]
  refine and_congr_right fun _ => ⟨fun h => ?_, fun ⟨h, h'⟩ => ?_⟩
  · have hk := (cZ_ h).2
    simp only at hk
    simp [bX_, ← hk] at h
    exact ⟨hk.symm, h.symm⟩
  · subst h'; simp [bX_, h]
theorem pm9 {ps : List Pc} {r : Str} {x : Pc} : x ∈ lat (aF_ ps) ⟨9, r, []⟩ ↔ x ∈ ps ∧ x.kind = 9 ∧ x.r = r := by
  rw [eq_]
  refine and_congr_right fun _ => ⟨fun h => ?_, fun ⟨h, h'⟩ => ?_⟩
  · have hk := (cZ_ h).2
    simp only at hk
    simp [bX_, ← hk] at h
    exact ⟨hk.symm, h.symm⟩
  · subst h'; simp [bX_, h]
theorem pm6 {ps : List Pc} {r : Str} (hn : r ≠ []) {x : Pc} : x ∈ lat (aF_ ps) ⟨6, r, []⟩ ↔ x ∈ ps ∧ x.kind = 6 ∧ x.r = r := by
  rw [eq_]
  refine and_congr_right fun hx => ⟨fun h => ?_, fun ⟨h, h'⟩ => ?_⟩
  · have hk := (cZ_ h).2
    simp only at hk
    simp [bX_, ← hk, hn] at h
    exact ⟨hk.symm, h.symm⟩
  · subst h'; simp [bX_, h]
theorem pm6' {ps : List Pc} {s : Str} {x : Pc} (hn : s ≠ []) : x ∈ lat (aF_ ps) ⟨6, [], s⟩ ↔ x ∈ ps ∧ x.kind = 6 ∧ x.s = s := by
  rw [eq_]
  refine and_congr_right fun hx => ⟨fun h => ?_, fun ⟨h, h'⟩ => ?_⟩
  · have hk := (cZ_ h).2
    simp only at hk
    simp [bX_, ← hk, hn] at h
    exact ⟨hk.symm, h.symm⟩
  · subst h'; simp [bX_, h]
theorem pm4 {ps : List Pc} (hr : ∀ x ∈ ps, x.rok) {b : Str} {x : Pc} : x ∈ lat (aF_ ps) ⟨4, [], b⟩ ↔ x ∈ ps ∧ x.kind = 4 ∧ x.a = b := by
  rw [eq_]
  refine and_congr_right fun hx => ⟨fun h => ?_, fun ⟨h, h'⟩ => ?_⟩
  · have hk := (cZ_ h).2
    simp only at hk
    have h0 := (hr x hx).1 (.inl hk.symm)
    simp [bX_, ← hk] at h
    refine ⟨hk.symm, h.elim (fun q => q.symm) (fun q => absurd q.1 h0)⟩
  · subst h'; simp [bX_, h]
theorem pm4' {ps : List Pc} {r b : Str} (hn : r ≠ []) {x : Pc} : x ∈ lat (aF_ ps) ⟨4, r, b⟩ ↔ x ∈ ps ∧ x.kind = 4 ∧ x.r = r ∧ x.a = b := by
  rw [eq_]
  refine and_congr_right fun hx => ⟨fun h => ?_, fun ⟨h, h', h''⟩ => ?_⟩
  · have hk := (cZ_ h).2
    simp only at hk
    simp [bX_, ← hk, hn] at h
    exact ⟨hk.symm, h.1.symm, h.2.symm⟩
  · subst h' h''; simp [bX_, h]
structure Ix where
  above : List (Str × Str)
  under : List (Str × Str)
  frm : List (fZ_ × Str)
  into : List (fZ_ × Str)
  ranges : List (fZ_ × Fc)
  firms : List (fZ_ × Fc)
def Ix.nil : Ix := ⟨[], [], [], [], [], []⟩
def Ix.add (x : Ix) (firm : Bool) (f : Fc) : Ix :=
  if f.kind = 1 then { x with above := x.above ++ [(f.a, f.b)] }
  else if f.kind = 2 then { x with under := x.under ++ [(f.b, f.a)], frm := x.frm ++ [((f.a, f.r), f.b)], into := x.into ++ [((f.b, f.r), f.a)] }
  else if f.kind = 3 then { x with ranges := x.ranges ++ [((f.a, f.r), f)], firms := if firm then x.firms ++ [((f.a, f.r), f)] else x.firms }
  else x
structure Ix.of (x : Ix) (S Fm : Fc → Prop) : Prop where
  above : ∀ a b, (a, b) ∈ x.above ↔ ∃ f, S f ∧ f.kind = 1 ∧ f.a = a ∧ f.b = b
  under : ∀ b a, (b, a) ∈ x.under ↔ ∃ f, S f ∧ f.kind = 2 ∧ f.a = a ∧ f.b = b
  frm : ∀ a r b, ((a, r), b) ∈ x.frm ↔ ∃ f, S f ∧ f.kind = 2 ∧ f.a = a ∧ f.r = r ∧ f.b = b
  into : ∀ a r b, ((b, r), a) ∈ x.into ↔ ∃ f, S f ∧ f.kind = 2 ∧ f.a = a ∧ f.r = r ∧ f.b = b
  ranges : ∀ a r f, ((a, r), f) ∈ x.ranges ↔ S f ∧ f.kind = 3 ∧ f.a = a ∧ f.r = r
  firms : ∀ a r f, ((a, r), f) ∈ x.firms ↔ S f ∧ Fm f ∧ f.kind = 3 ∧ f.a = a ∧ f.r = r
theorem Ix.of_nil (Fm : Fc → Prop) : Ix.nil.of (fun _ => False) Fm := by
  constructor <;> simp [Ix.nil]
theorem Ix.of_add {x : Ix} {S Fm : Fc → Prop} (h : x.of S Fm) (f : Fc) {b : Bool} (hb : b = true ↔ Fm f) : (x.add b f).of (fun y => S y ∨ y = f) Fm := by
  have key : ∀ (Q : Fc → Prop), (∃ y, (S y ∨ y = f) ∧ Q y) ↔ (∃ y, S y ∧ Q y) ∨ Q f := fun Q => by
    constructor
    · rintro ⟨y, h1 | rfl, h2⟩
      · exact .inl ⟨y, h1, h2⟩
      · exact .inr h2
    · rintro (⟨y, h1, h2⟩ | h2)
      · exact ⟨y, .inl h1, h2⟩
      · exact ⟨f, .inr rfl, h2⟩
  unfold Ix.add
  split
  · rename_i hk
    constructor
    · intro a c; rw [key, ← h.above]; simp [hk]; exact or_congr_right ⟨fun ⟨p, q⟩ => ⟨p.symm, q.symm⟩, fun ⟨p, q⟩ => ⟨p.symm, q.symm⟩⟩
    · intro a c; rw [key, ← h.under]; simp [hk]
    · intro a r c; rw [key, ← h.frm]; simp [hk]
    · intro a r c; rw [key, ← h.into]; simp [hk]
    · intro a r y; rw [h.ranges]; constructor
      · exact fun q => ⟨.inl q.1, q.2⟩
      · rintro ⟨q | rfl, q2⟩
        · exact ⟨q, q2⟩
        · rw [hk] at q2; exact absurd q2.1 (by decide)
    · intro a r y; rw [h.firms]; constructor
      · exact fun q => ⟨.inl q.1, q.2⟩
      · rintro ⟨q | rfl, q2⟩
        · exact ⟨q, q2⟩
        · rw [hk] at q2; exact absurd q2.2.1 (by decide)
  · split
    · rename_i hk
      constructor
      · intro a c; rw [key, ← h.above]; simp [hk]
      · intro a c; rw [key, ← h.under]; simp [hk]; exact or_congr_right ⟨fun ⟨p, q⟩ => ⟨q.symm, p.symm⟩, fun ⟨p, q⟩ => ⟨q.symm, p.symm⟩⟩
      · intro a r c; rw [key, ← h.frm]; simp [hk]; exact or_congr_right ⟨fun ⟨⟨p, q⟩, s⟩ => ⟨p.symm, q.symm, s.symm⟩, fun ⟨p, q, s⟩ => ⟨⟨p.symm, q.symm⟩, s.symm⟩⟩
      · intro a r c; rw [key, ← h.into]; simp [hk]; exact or_congr_right ⟨fun ⟨⟨p, q⟩, s⟩ => ⟨s.symm, q.symm, p.symm⟩, fun ⟨p, q, s⟩ => ⟨⟨s.symm, q.symm⟩, p.symm⟩⟩
      · intro a r y; rw [h.ranges]; constructor
        · exact fun q => ⟨.inl q.1, q.2⟩
        · rintro ⟨q | rfl, q2⟩
          · exact ⟨q, q2⟩
          · rw [hk] at q2; exact absurd q2.1 (by decide)
      · intro a r y; rw [h.firms]; constructor
        · exact fun q => ⟨.inl q.1, q.2⟩
        · rintro ⟨q | rfl, q2⟩
          · exact ⟨q, q2⟩
          · rw [hk] at q2; exact absurd q2.2.1 (by decide)
    · split
      · rename_i hk
        constructor
        · intro a c; rw [key, ← h.above]; simp [hk]
        · intro a c; rw [key, ← h.under]; simp [hk]
        · intro a r c; rw [key, ← h.frm]; simp [hk]
        · intro a r c; rw [key, ← h.into]; simp [hk]
        · intro a r y
          simp only [List.mem_append, List.mem_singleton, h.ranges, Prod.mk.injEq]
          constructor
          · rintro (⟨q, q2⟩ | ⟨⟨rfl, rfl⟩, rfl⟩)
            · exact ⟨.inl q, q2⟩
            · exact ⟨.inr rfl, hk, rfl, rfl⟩
          · rintro ⟨q | rfl, q2, rfl, rfl⟩
            · exact .inl ⟨q, q2, rfl, rfl⟩
            · exact .inr ⟨⟨rfl, rfl⟩, rfl⟩
        · intro a r y
          cases b with
          | false =>
            simp only [Bool.false_eq_true, if_false, h.firms]
            constructor
            · exact fun q => ⟨.inl q.1, q.2⟩
            · rintro ⟨q | rfl, q2⟩
              · exact ⟨q, q2⟩
              · exact absurd (hb.2 q2.1) (by decide)
          | true =>
            simp only [if_true, List.mem_append, List.mem_singleton, h.firms, Prod.mk.injEq]
            constructor
            · rintro (⟨q, q2⟩ | ⟨⟨rfl, rfl⟩, rfl⟩)
              · exact ⟨.inl q, q2⟩
              · exact ⟨.inr rfl, hb.1 rfl, hk, rfl, rfl⟩
            · rintro ⟨q | rfl, q2, q3, rfl, rfl⟩
              · exact .inl ⟨q, q2, q3, rfl, rfl⟩
              · exact .inr ⟨⟨rfl, rfl⟩, rfl⟩
      · rename_i h1 h2 h3
        constructor
        · intro a c; rw [key, ← h.above]; simp [h1]
        · intro a c; rw [key, ← h.under]; simp [h2]
        · intro a r c; rw [key, ← h.frm]; simp [h2]
        · intro a r c; rw [key, ← h.into]; simp [h2]
        · intro a r y; rw [h.ranges]; constructor
          · exact fun q => ⟨.inl q.1, q.2⟩
          · rintro ⟨q | rfl, q2⟩
            · exact ⟨q, q2⟩
            · exact absurd q2.1 h3
        · intro a r y; rw [h.firms]; constructor
          · exact fun q => ⟨.inl q.1, q.2⟩
          · rintro ⟨q | rfl, q2⟩
            · exact ⟨q, q2⟩
            · exact absurd q2.2.1 h3
theorem Ix.of_firm {x : Ix} {S Fm Fm' : Fc → Prop} (h : x.of S Fm) (hf : ∀ y, S y → (Fm y ↔ Fm' y)) : x.of S Fm' :=
  ⟨h.above, h.under, h.frm, h.into, h.ranges, fun a r f => by rw [h.firms]; exact and_congr_right fun hs => by rw [hf f hs]⟩
section
variable (pm : List (Ky × Pc)) (x : Ix) (f : Fc)
def eF_ : List Fc := (lat pm ⟨1, [], f.b⟩).map fun y => aq_ f.a y.c
def iq_ : List Fc := (lat pm ⟨3, [], f.b⟩).map fun y => av_ f.a y.r y.c
def eD_ : List Fc := (lat pm ⟨5, f.r, []⟩).map fun y => av_ f.a y.t f.b
def dT_ : List Fc := (lat pm ⟨6, f.r, []⟩).flatMap fun y => (lat x.frm (f.b, y.s)).map fun c => av_ f.a y.t c
def eW_ : List Fc := (lat pm ⟨6, [], f.r⟩).flatMap fun y => (lat x.into (f.a, y.r)).map fun a => av_ a y.t f.b
def dW_ : List Fc := (lat x.above f.b).flatMap fun c => (lat pm ⟨4, f.r, c⟩).map fun y => aq_ f.a y.c
def dX_ : List Fc := (lat pm ⟨4, [], f.b⟩).flatMap fun y => (lat x.into (f.a, y.r)).map fun a => aq_ a y.c
def cx_ : List Fc := if f.b = [33] then (lat x.under f.a).map fun a => aq_ a [33] else []
def lN_ : List Fc := ((lat pm ⟨9, f.r, []⟩).filter fun y => decide (y.lo ≤ f.lo ∧ f.hi ≤ y.hi)).map fun y => aq_ f.a y.c
def cL_ (y : Fc) : Fc := at_ f.a f.r (max f.lo y.lo) (min f.hi y.hi)
def cc_ (y : Fc) : Bool := decide (min f.hi y.hi < max f.lo y.lo)
def ds_ (firm : Bool) : List Fc := if firm then lat x.ranges (f.a, f.r) else lat x.firms (f.a, f.r)
def ei_ (l : List Fc) : List Fc := (l.filter fun y => !cc_ f y && decide (cL_ f y ≠ f ∧ cL_ f y ≠ y)).map (cL_ f)
def eZ_ (l : List Fc) : List Fc := if l.any (cc_ f) then [aq_ f.a [33]] else []
end
section
variable (stp : Fc → List Fc → List Fc) (kof : List Fc → List Fc)
def emits (L : List Fc) (s : List Fc) : List Fc := L.foldl (fun s y => stp y s) s
def dm_ (f : Fc) (l : List Pc) (s : List Fc) : List Fc := l.foldl (fun s y => if aq_ f.a y.a ∈ kof s ∧ aq_ f.a y.b ∈ kof s then stp (aq_ f.a y.c) s else s) s
def bM_ (f : Fc) (l : List Pc) (s : List Fc × List Fc) : List Fc × List Fc := l.foldl (fun s y => (stp (at_ f.a y.r y.lo y.hi) s.1, if at_ f.a y.r y.lo y.hi ∈ kof s.1 then s.2 else at_ f.a y.r y.lo y.hi :: s.2)) s
end
theorem aw_ (stp : Fc → List Fc → List Fc) (L M : List Fc) (s : List Fc) : emits stp (L ++ M) s = emits stp M (emits stp L s) := by simp [emits]
structure Grows (stp : Fc → List Fc → List Fc) (kof : List Fc → List Fc) : Prop where
  up : ∀ y s z, z ∈ kof s → z ∈ kof (stp y s)
theorem Grows.emits {stp : Fc → List Fc → List Fc} {kof : List Fc → List Fc} (h : Grows stp kof) : ∀ (L s : List Fc) (z : Fc), z ∈ kof s → z ∈ kof (emits stp L s)
  | [], _, _, hz => hz
  | y :: L, s, z, hz => h.emits L _ z (h.up y s z hz)
theorem dJ_ {stp : Fc → List Fc → List Fc} {kof : List Fc → List Fc} (h : Grows stp kof) (f : Fc) : ∀ (l : List Pc) (s : List Fc),
    ∃ L, dm_ stp kof f l s = emits stp L s ∧ (∀ y ∈ L, ∃ x ∈ l, y = aq_ f.a x.c ∧ aq_ f.a x.a ∈ kof (dm_ stp kof f l s) ∧ aq_ f.a x.b ∈ kof (dm_ stp kof f l s)) ∧ (∀ x ∈ l, aq_ f.a x.a ∈ kof s → aq_ f.a x.b ∈ kof s → aq_ f.a x.c ∈ L)
  | [], s => ⟨[], rfl, by simp, by simp⟩
  | x :: l, s => by
    by_cases hc : aq_ f.a x.a ∈ kof s ∧ aq_ f.a x.b ∈ kof s
    · obtain ⟨L, h1, h2, h3⟩ := dJ_ h f l (stp (aq_ f.a x.c) s)
      have e : dm_ stp kof f (x :: l) s = dm_ stp kof f l (stp (aq_ f.a x.c) s) := by simp only [dm_, List.foldl_cons, if_pos hc]
      refine ⟨aq_ f.a x.c :: L, by rw [e, h1]; rfl, fun y hy => ?_, fun z hz ha hb => ?_⟩
      · rw [e]
        rcases List.mem_cons.1 hy with rfl | hy
        · refine ⟨x, by simp, rfl, ?_, ?_⟩ <;> rw [h1] <;> exact h.emits L _ _ (h.up _ _ _ (by first | exact hc.1 | exact hc.2))
        · obtain ⟨z, hz, q⟩ := h2 y hy
          exact ⟨z, by simp [hz], q⟩
      · rcases List.mem_cons.1 hz with rfl | hz
        · simp
        · exact List.mem_cons_of_mem _ (h3 z hz (h.up _ _ _ ha) (h.up _ _ _ hb))
    · obtain ⟨L, h1, h2, h3⟩ := dJ_ h f l s
      have e : dm_ stp kof f (x :: l) s = dm_ stp kof f l s := by simp only [dm_, List.foldl_cons, if_neg hc]
      refine ⟨L, by rw [e, h1], fun y hy => ?_, fun z hz ha hb => ?_⟩
      · rw [e]
        obtain ⟨z, hz, q⟩ := h2 y hy
        exact ⟨z, by simp [hz], q⟩
      · rcases List.mem_cons.1 hz with rfl | hz
        · exact absurd ⟨ha, hb⟩ hc
        · exact h3 z hz ha hb
theorem dD_ (stp : Fc → List Fc → List Fc) (kof : List Fc → List Fc) (f : Fc) : ∀ (l : List Pc) (s fm : List Fc), (bM_ stp kof f l (s, fm)).1 = emits stp (l.map fun y => at_ f.a y.r y.lo y.hi) s
  | [], _, _ => rfl
  | x :: l, s, fm => by
    simp only [bM_, List.foldl_cons, List.map_cons, emits]
    exact dD_ stp kof f l _ _
theorem eN_ {stp : Fc → List Fc → List Fc} {kof : List Fc → List Fc} (h : Grows stp kof) (f : Fc) : ∀ (l : List Pc) (s fm : List Fc) (z : Fc), z ∈ (bM_ stp kof f l (s, fm)).2 ↔ z ∈ fm ∨ (z ∉ kof s ∧ z ∈ (bM_ stp kof f l (s, fm)).2)
  | [], s, fm, z => by simp [bM_]
  | x :: l, s, fm, z => by
    have ih := eN_ h f l (stp (at_ f.a x.r x.lo x.hi) s) (if at_ f.a x.r x.lo x.hi ∈ kof s then fm else at_ f.a x.r x.lo x.hi :: fm) z
    have e : bM_ stp kof f (x :: l) (s, fm) = bM_ stp kof f l (stp (at_ f.a x.r x.lo x.hi) s, if at_ f.a x.r x.lo x.hi ∈ kof s then fm else at_ f.a x.r x.lo x.hi :: fm) := rfl
    rw [e]
    constructor
    · intro hz
      rcases ih.1 hz with h1 | h1
      · split at h1
        · exact .inl h1
        · rename_i hn
          rcases List.mem_cons.1 h1 with rfl | h1
          · exact .inr ⟨hn, hz⟩
          · exact .inl h1
      · exact .inr ⟨fun q => h1.1 (h.up _ _ _ q), hz⟩
    · rintro (h1 | h1)
      · exact ih.2 (.inl (by split <;> simp [h1]))
      · exact h1.2
theorem hl_ {stp : Fc → List Fc → List Fc} {kof : List Fc → List Fc} (f : Fc) : ∀ (l : List Pc) (s fm : List Fc) (z : Fc), z ∈ (bM_ stp kof f l (s, fm)).2 → z ∈ fm ∨ ∃ y ∈ l, z = at_ f.a y.r y.lo y.hi
  | [], s, fm, z, hz => .inl hz
  | x :: l, s, fm, z, hz => by
    have e : bM_ stp kof f (x :: l) (s, fm) = bM_ stp kof f l (stp (at_ f.a x.r x.lo x.hi) s, if at_ f.a x.r x.lo x.hi ∈ kof s then fm else at_ f.a x.r x.lo x.hi :: fm) := rfl
    rw [e] at hz
    rcases hl_ f l _ _ z hz with h1 | ⟨y, hy, h1⟩
    · split at h1
      · exact .inl h1
      · rcases List.mem_cons.1 h1 with rfl | h1
        · exact .inr ⟨x, by simp, rfl⟩
        · exact .inl h1
    · exact .inr ⟨y, by simp [hy], h1⟩
def Fc.form (y : Fc) : Prop := (∃ a b, y = aq_ a b) ∨ (∃ a r b, y = av_ a r b ∧ r ≠ []) ∨ (∃ a r lo hi, y = at_ a r lo hi ∧ r ≠ [] ∧ -1099511627776 ≤ lo ∧ lo ≤ hi ∧ hi ≤ 1099511627776)
structure Pc.vok (x : Pc) : Prop where
  rok : x.rok
  num : x.kind = 8 ∨ x.kind = 9 → -1099511627776 ≤ x.lo ∧ x.lo ≤ x.hi ∧ x.hi ≤ 1099511627776
theorem du_ (a b : Str) : (aq_ a b).form := .inl ⟨a, b, rfl⟩
theorem hQ_ {f : Fc} (h : f.form) (hk : f.kind = 1) : f = aq_ f.a f.b := by
  rcases h with ⟨a, b, rfl⟩ | ⟨a, r, b, rfl, _⟩ | ⟨a, r, lo, hi, rfl, _⟩
  · rfl
  · simp [av_] at hk
  · simp [at_] at hk
theorem gt_ {f : Fc} (h : f.form) (hk : f.kind = 2) : f = av_ f.a f.r f.b ∧ f.r ≠ [] := by
  rcases h with ⟨a, b, rfl⟩ | ⟨a, r, b, rfl, h⟩ | ⟨a, r, lo, hi, rfl, _⟩
  · simp [aq_] at hk
  · exact ⟨rfl, h⟩
  · simp [at_] at hk
theorem fb_ {f : Fc} (h : f.form) (hk : f.kind = 3) : f = at_ f.a f.r f.lo f.hi ∧ f.r ≠ [] ∧ -1099511627776 ≤ f.lo ∧ f.lo ≤ f.hi ∧ f.hi ≤ 1099511627776 := by
  rcases h with ⟨a, b, rfl⟩ | ⟨a, r, b, rfl, _⟩ | ⟨a, r, lo, hi, rfl, h⟩
  · simp [aq_] at hk
  · simp [av_] at hk
  · exact ⟨rfl, h⟩
theorem fG_ {f : Fc} (h : f.form) : f.kind = 1 ∨ f.kind = 2 ∨ f.kind = 3 := by
  rcases h with ⟨a, b, rfl⟩ | ⟨a, r, b, rfl, h⟩ | ⟨a, r, lo, hi, rfl, _⟩ <;> simp [aq_, av_, at_]
theorem One.form {p : List Pc} {A : List Str} {S : Fc → Prop} {M : Fc → Fc → Prop} (hp : ∀ x ∈ p, x.vok) (hS : ∀ y, S y → y.form) {y : Fc} (h : One p A S M y) : y.form := by
  have link_r : ∀ {a r b : Str}, S (av_ a r b) → r ≠ [] := fun h => (gt_ (hS _ h) rfl).2
  have span_r : ∀ {a r : Str} {lo hi : Int}, S (at_ a r lo hi) → r ≠ [] ∧ -1099511627776 ≤ lo ∧ lo ≤ hi ∧ hi ≤ 1099511627776 := fun h => (fb_ (hS _ h) rfl).2
  cases h with
  | r1 _ => exact du_ _ _
  | r2 _ => exact du_ _ _
  | r10 hx hk _ => exact .inr (.inl ⟨_, _, _, rfl, (hp _ hx).rok.1 (by simp [hk])⟩)
  | r3 _ _ _ => exact du_ _ _
  | r4 _ _ _ _ => exact du_ _ _
  | r5 hx hk _ => exact .inr (.inl ⟨_, _, _, rfl, (hp _ hx).rok.1 (by simp [hk])⟩)
  | r6 hx hk _ => exact .inr (.inl ⟨_, _, _, rfl, (hp _ hx).rok.2.2 hk⟩)
  | r7 hx hk _ _ => exact .inr (.inl ⟨_, _, _, rfl, ((hp _ hx).rok.2.1 hk).2⟩)
  | r8 _ _ _ _ => exact du_ _ _
  | r9 _ _ => exact du_ _ _
  | r11 hx hk _ => exact .inr (.inr ⟨_, _, _, _, rfl, (hp _ hx).rok.1 (by simp [hk]), (hp _ hx).num (.inl hk)⟩)
  | r12 h h' _ hl => exact .inr (.inr ⟨_, _, _, _, rfl, (span_r h).1, by have := span_r h; omega, hl, by have := span_r h; omega⟩)
  | r13 _ _ _ _ => exact du_ _ _
  | r14 _ _ _ _ _ => exact du_ _ _
section
variable {ps : List Pc} {A : List Str} {x : Ix} {S Fm : Fc → Prop} {f : Fc} {kn : List Fc}
theorem ig_ (hk : f.kind = 1) (hf : f.form) (hkn : f ∈ kn) : ∀ y ∈ eF_ (aF_ ps) f, eI_ ps A (· ∈ kn) y := by
  intro y hy
  obtain ⟨z, hz, rfl⟩ := List.mem_map.1 hy
  obtain ⟨h1, h2, h3⟩ := pm1.1 hz
  exact .r3 h1 h2 (by rw [h3, ← hQ_ hf hk]; exact hkn)
theorem kt_ (hk : f.kind = 1) (hf : f.form) (hkn : f ∈ kn) : ∀ y ∈ iq_ (aF_ ps) f, eI_ ps A (· ∈ kn) y := by
  intro y hy
  obtain ⟨z, hz, rfl⟩ := List.mem_map.1 hy
  obtain ⟨h1, h2, h3⟩ := pm3.1 hz
  exact .r5 h1 h2 (by rw [h3, ← hQ_ hf hk]; exact hkn)
theorem jr_ (hk : f.kind = 1) (hf : f.form) (hkn : f ∈ kn) : ∀ y ∈ (lat (aF_ ps) ⟨8, [], f.b⟩).map (fun y => at_ f.a y.r y.lo y.hi), eI_ ps A (· ∈ kn) y := by
  intro y hy
  obtain ⟨z, hz, rfl⟩ := List.mem_map.1 hy
  obtain ⟨h1, h2, h3⟩ := pm8.1 hz
  exact .r11 h1 h2 (by rw [h3, ← hQ_ hf hk]; exact hkn)
theorem ie_ (hk : f.kind = 2) (hf : f.form) (hkn : f ∈ kn) : ∀ y ∈ eD_ (aF_ ps) f, eI_ ps A (· ∈ kn) y := by
  intro y hy
  obtain ⟨z, hz, rfl⟩ := List.mem_map.1 hy
  obtain ⟨h1, h2, h3⟩ := pm5.1 hz
  exact .r6 h1 h2 (by rw [h3, ← (gt_ hf hk).1]; exact hkn)
theorem hb_ {hS : ∀ y, S y → y.form} {a r b : Str} (h : ∃ g, S g ∧ g.kind = 2 ∧ g.a = a ∧ g.r = r ∧ g.b = b) : S (av_ a r b) := by
  obtain ⟨g, h1, h2, rfl, rfl, rfl⟩ := h
  rw [← (gt_ (hS g h1) h2).1]; exact h1
theorem ix_sub {hS : ∀ y, S y → y.form} {a b : Str} (h : ∃ g, S g ∧ g.kind = 1 ∧ g.a = a ∧ g.b = b) : S (aq_ a b) := by
  obtain ⟨g, h1, h2, rfl, rfl⟩ := h
  rw [← hQ_ (hS g h1) h2]; exact h1
theorem kk_ (hx : x.of S Fm) (hS : ∀ y, S y → y.form) (hkS : ∀ y, S y → y ∈ kn) (hk : f.kind = 2) (hf : f.form) (hkn : f ∈ kn) : ∀ y ∈ dT_ (aF_ ps) x f ++ eW_ (aF_ ps) x f, eI_ ps A (· ∈ kn) y := by
  intro y hy
  obtain ⟨e, hn⟩ := gt_ hf hk
  rcases List.mem_append.1 hy with hy | hy
  · obtain ⟨z, hz, hy⟩ := List.mem_flatMap.1 hy
    obtain ⟨c, hc, rfl⟩ := List.mem_map.1 hy
    obtain ⟨h1, h2, h3⟩ := (pm6 hn).1 hz
    exact .r7 h1 h2 (by rw [h3, ← e]; exact hkn) (hkS _ (hb_ (hS := hS) ((hx.frm _ _ _).1 (cr_.1 hc))))
  · obtain ⟨z, hz, hy⟩ := List.mem_flatMap.1 hy
    obtain ⟨c, hc, rfl⟩ := List.mem_map.1 hy
    obtain ⟨h1, h2, h3⟩ := (pm6' hn).1 hz
    exact .r7 h1 h2 (hkS _ (hb_ (hS := hS) ((hx.into _ _ _).1 (cr_.1 hc)))) (by rw [h3, ← e]; exact hkn)
theorem hS_ (hx : x.of S Fm) (hS : ∀ y, S y → y.form) (hkS : ∀ y, S y → y ∈ kn) (hk : f.kind = 2) (hf : f.form) (hkn : f ∈ kn) : ∀ y ∈ dW_ (aF_ ps) x f, eI_ ps A (· ∈ kn) y := by
  intro y hy
  obtain ⟨e, hn⟩ := gt_ hf hk
  obtain ⟨c, hc, hy⟩ := List.mem_flatMap.1 hy
  obtain ⟨z, hz, rfl⟩ := List.mem_map.1 hy
  obtain ⟨h1, h2, h3, h4⟩ := (pm4' hn).1 hz
  exact .r8 (b := f.b) h1 h2 (by rw [h3, ← e]; exact hkn) (by rw [h4]; exact hkS _ (ix_sub (hS := hS) ((hx.above _ _).1 (cr_.1 hc))))
theorem hU_ (hr : ∀ x ∈ ps, x.vok) (hx : x.of S Fm) (hS : ∀ y, S y → y.form) (hkS : ∀ y, S y → y ∈ kn) (hk : f.kind = 1) (hf : f.form) (hkn : f ∈ kn) : ∀ y ∈ dX_ (aF_ ps) x f, eI_ ps A (· ∈ kn) y := by
  intro y hy
  obtain ⟨z, hz, hy⟩ := List.mem_flatMap.1 hy
  obtain ⟨c, hc, rfl⟩ := List.mem_map.1 hy
  obtain ⟨h1, h2, h3⟩ := (pm4 (fun x hx => (hr x hx).rok)).1 hz
  exact .r8 (b := f.a) h1 h2 (hkS _ (hb_ (hS := hS) ((hx.into _ _ _).1 (cr_.1 hc)))) (by rw [h3, ← hQ_ hf hk]; exact hkn)
theorem gX_ (hx : x.of S Fm) (hS : ∀ y, S y → y.form) (hkS : ∀ y, S y → y ∈ kn) (hk : f.kind = 1) (hf : f.form) (hkn : f ∈ kn) : ∀ y ∈ cx_ x f, eI_ ps A (· ∈ kn) y := by
  intro y hy
  unfold cx_ at hy
  split at hy
  · rename_i hb
    obtain ⟨a, ha, rfl⟩ := List.mem_map.1 hy
    obtain ⟨g, h1, h2, h3, h4⟩ := (hx.under _ _).1 (cr_.1 ha)
    exact .r9 (r := g.r) (hkS _ (hb_ (hS := hS) ⟨g, h1, h2, h3, rfl, h4⟩)) (by rw [← hb, ← hQ_ hf hk]; exact hkn)
  · simp at hy
theorem gW_ (hk : f.kind = 2) (hf : f.form) (hkn : f ∈ kn) (h : aq_ f.b [33] ∈ kn) : eI_ ps A (· ∈ kn) (aq_ f.a [33]) :=
  .r9 (r := f.r) (b := f.b) (by rw [← (gt_ hf hk).1]; exact hkn) h
theorem lM_ (hk : f.kind = 3) (hf : f.form) (hkn : f ∈ kn) : ∀ y ∈ lN_ (aF_ ps) f, eI_ ps A (· ∈ kn) y := by
  intro y hy
  obtain ⟨z, hz, rfl⟩ := List.mem_map.1 hy
  obtain ⟨hz, hc⟩ := List.mem_filter.1 hz
  obtain ⟨h1, h2, h3⟩ := pm9.1 hz
  have hc := of_decide_eq_true hc
  exact .r14 h1 h2 (by rw [h3, ← (fb_ hf hk).1]; exact hkn) hc.1 hc.2
theorem gH_ (hx : x.of S Fm) {firm : Bool} {y : Fc} (hy : y ∈ ds_ x f firm) : S y ∧ y.kind = 3 ∧ y.a = f.a ∧ y.r = f.r := by
  unfold ds_ at hy
  split at hy
  · exact (hx.ranges _ _ _).1 (cr_.1 hy)
  · have := (hx.firms _ _ _).1 (cr_.1 hy)
    exact ⟨this.1, this.2.2⟩
theorem kA_ (hx : x.of S Fm) (hS : ∀ y, S y → y.form) (hkS : ∀ y, S y → y ∈ kn) (hk : f.kind = 3) (hf : f.form) (hkn : f ∈ kn) {firm : Bool} : ∀ y ∈ ei_ f (ds_ x f firm) ++ eZ_ f (ds_ x f firm), eI_ ps A (· ∈ kn) y := by
  intro y hy
  have e := (fb_ hf hk).1
  rcases List.mem_append.1 hy with hy | hy
  · obtain ⟨z, hz, rfl⟩ := List.mem_map.1 hy
    obtain ⟨hz, hc⟩ := List.mem_filter.1 hz
    obtain ⟨h1, h2, h3, h4⟩ := gH_ hx hz
    simp only [cc_, Bool.and_eq_true, Bool.not_eq_true', decide_eq_false_iff_not, Int.not_lt] at hc
    have ez := (fb_ (hS z h1) h2).1
    rw [h3, h4] at ez
    exact .r12 (by rw [← e]; exact hkn) (by rw [← ez]; exact hkS z h1) trivial hc.1
  · unfold eZ_ at hy
    split at hy
    · rename_i ha
      obtain ⟨z, hz, hc⟩ := List.any_eq_true.1 ha
      obtain ⟨h1, h2, h3, h4⟩ := gH_ hx hz
      have ez := (fb_ (hS z h1) h2).1
      rw [h3, h4] at ez
      simp only [List.mem_singleton] at hy
      subst hy
      exact .r13 (r := f.r) (by rw [← e]; exact hkn) (by rw [← ez]; exact hkS z h1) trivial (by simpa [cc_] using hc)
    · simp at hy
theorem kh_ {z : Pc} {a : Str} (hz : z ∈ ps) (hk : z.kind = 1) : aq_ a z.c ∈ eF_ (aF_ ps) (aq_ a z.a) :=
  List.mem_map.2 ⟨z, pm1.2 ⟨hz, hk, rfl⟩, rfl⟩
theorem mz_ {z : Pc} {a : Str} (hz : z ∈ ps) (hk : z.kind = 3) : av_ a z.r z.c ∈ iq_ (aF_ ps) (aq_ a z.a) :=
  List.mem_map.2 ⟨z, pm3.2 ⟨hz, hk, rfl⟩, rfl⟩
theorem ly_ {z : Pc} {a : Str} (hz : z ∈ ps) (hk : z.kind = 8) : at_ a z.r z.lo z.hi ∈ (lat (aF_ ps) ⟨8, [], (aq_ a z.a).b⟩).map (fun y => at_ (aq_ a z.a).a y.r y.lo y.hi) :=
  List.mem_map.2 ⟨z, pm8.2 ⟨hz, hk, rfl⟩, rfl⟩
theorem kc_ {z : Pc} {a b : Str} (hz : z ∈ ps) (hk : z.kind = 5) : av_ a z.t b ∈ eD_ (aF_ ps) (av_ a z.r b) :=
  List.mem_map.2 ⟨z, pm5.2 ⟨hz, hk, rfl⟩, rfl⟩
theorem kP_ (hx : x.of S Fm) (hr : ∀ x ∈ ps, x.vok) {z : Pc} {a b c : Str} (hz : z ∈ ps) (hk : z.kind = 6) (h : S (av_ b z.s c)) : av_ a z.t c ∈ dT_ (aF_ ps) x (av_ a z.r b) :=
  List.mem_flatMap.2 ⟨z, (pm6 ((hr z hz).rok.1 (by simp [hk]))).2 ⟨hz, hk, rfl⟩, List.mem_map.2 ⟨c, cr_.2 ((hx.frm _ _ _).2 ⟨_, h, rfl, rfl, rfl, rfl⟩), rfl⟩⟩
theorem kO_ (hx : x.of S Fm) (hr : ∀ x ∈ ps, x.vok) {z : Pc} {a b c : Str} (hz : z ∈ ps) (hk : z.kind = 6) (h : S (av_ a z.r b)) : av_ a z.t c ∈ eW_ (aF_ ps) x (av_ b z.s c) :=
  List.mem_flatMap.2 ⟨z, (pm6' ((hr z hz).rok.2.1 hk).1).2 ⟨hz, hk, rfl⟩, List.mem_map.2 ⟨a, cr_.2 ((hx.into _ _ _).2 ⟨_, h, rfl, rfl, rfl, rfl⟩), rfl⟩⟩
theorem iY_ (hx : x.of S Fm) (hr : ∀ x ∈ ps, x.vok) {z : Pc} {a b : Str} (hz : z ∈ ps) (hk : z.kind = 4) (h : S (aq_ b z.a)) : aq_ a z.c ∈ dW_ (aF_ ps) x (av_ a z.r b) :=
  List.mem_flatMap.2 ⟨z.a, cr_.2 ((hx.above _ _).2 ⟨_, h, rfl, rfl, rfl⟩), List.mem_map.2 ⟨z, (pm4' ((hr z hz).rok.1 (by simp [hk]))).2 ⟨hz, hk, rfl, rfl⟩, rfl⟩⟩
theorem iZ_ (hx : x.of S Fm) (hr : ∀ x ∈ ps, x.vok) {z : Pc} {a b : Str} (hz : z ∈ ps) (hk : z.kind = 4) (h : S (av_ a z.r b)) : aq_ a z.c ∈ dX_ (aF_ ps) x (aq_ b z.a) :=
  List.mem_flatMap.2 ⟨z, (pm4 (fun x hx => (hr x hx).rok)).2 ⟨hz, hk, rfl⟩, List.mem_map.2 ⟨a, cr_.2 ((hx.into _ _ _).2 ⟨_, h, rfl, rfl, rfl, rfl⟩), rfl⟩⟩
theorem if_ (hx : x.of S Fm) {a r b : Str} (h : S (av_ a r b)) : aq_ a [33] ∈ cx_ x (aq_ b [33]) := by
  unfold cx_
  rw [if_pos (show (aq_ b [33]).b = [33] from rfl)]
  exact List.mem_map.2 ⟨a, cr_.2 ((hx.under _ _).2 ⟨_, h, rfl, rfl, rfl⟩), rfl⟩
theorem nU_ {z : Pc} {a : Str} {lo hi : Int} (hz : z ∈ ps) (hk : z.kind = 9) (h1 : z.lo ≤ lo) (h2 : hi ≤ z.hi) : aq_ a z.c ∈ lN_ (aF_ ps) (at_ a z.r lo hi) :=
  List.mem_map.2 ⟨z, List.mem_filter.2 ⟨pm9.2 ⟨hz, hk, rfl⟩, decide_eq_true ⟨h1, h2⟩⟩, rfl⟩
theorem ix_ (hx : x.of S Fm) {firm : Bool} (hfm : firm = true ↔ Fm f) {y : Fc} (hy : S y) (hk : y.kind = 3) (ha : y.a = f.a) (hr : y.r = f.r) (hm : Fm f ∨ Fm y) : y ∈ ds_ x f firm := by
  unfold ds_
  cases firm with
  | true => rw [if_pos rfl]; exact cr_.2 ((hx.ranges _ _ _).2 ⟨hy, hk, ha, hr⟩)
  | false =>
    rw [if_neg (by decide)]
    refine cr_.2 ((hx.firms _ _ _).2 ⟨hy, hm.resolve_left (fun q => ?_), hk, ha, hr⟩)
    exact absurd (hfm.2 q) (by decide)
theorem jW_ {l : List Fc} {y : Fc} (hy : y ∈ l) :
    (max f.lo y.lo ≤ min f.hi y.hi → cL_ f y ∈ ei_ f l ∨ cL_ f y = f ∨ cL_ f y = y) ∧ (min f.hi y.hi < max f.lo y.lo → aq_ f.a [33] ∈ eZ_ f l) := by
  refine ⟨fun h => ?_, fun h => ?_⟩
  · by_cases h1 : cL_ f y = f
    · exact .inr (.inl h1)
    · by_cases h2 : cL_ f y = y
      · exact .inr (.inr h2)
      · refine .inl (List.mem_map.2 ⟨y, List.mem_filter.2 ⟨hy, ?_⟩, rfl⟩)
        simp only [cc_, Bool.and_eq_true, Bool.not_eq_true', decide_eq_false_iff_not, Int.not_lt, decide_eq_true_eq]
        exact ⟨h, h1, h2⟩
  · unfold eZ_
    rw [if_pos (List.any_eq_true.2 ⟨y, hy, by simpa [cc_] using h⟩)]
    simp
end
section
variable (stp : Fc → List Fc → List Fc) (kof : List Fc → List Fc) (pm : List (Ky × Pc)) (x : Ix) (f : Fc)
def rl (j : Nat) (s : List Fc × List Fc) : List Fc × List Fc :=
  if f.kind = 1 then
    (match j with
    | 0 => (emits stp (eF_ pm f) s.1, s.2)
    | 1 => (dm_ stp kof f (lat pm ⟨2, [], f.b⟩) s.1, s.2)
    | 2 => (emits stp (iq_ pm f) s.1, s.2)
    | 3 => (emits stp (dX_ pm x f) s.1, s.2)
    | 4 => (emits stp (cx_ x f) s.1, s.2)
    | _ => bM_ stp kof f (lat pm ⟨8, [], f.b⟩) s)
  else if f.kind = 2 then
    (match j with
    | 0 => (emits stp (eD_ pm f) s.1, s.2)
    | 1 => (emits stp (dT_ pm x f ++ eW_ pm x f) s.1, s.2)
    | 2 => (emits stp (dW_ pm x f) s.1, s.2)
    | _ => (if aq_ f.b [33] ∈ kof s.1 then stp (aq_ f.a [33]) s.1 else s.1, s.2))
  else
    (match j with
    | 0 => (emits stp (ei_ f (ds_ x f (decide (f ∈ s.2))) ++ eZ_ f (ds_ x f (decide (f ∈ s.2)))) s.1, s.2)
    | _ => (emits stp (lN_ pm f) s.1, s.2))
def rls : Nat → List Fc × List Fc → List Fc × List Fc
  | 0, s => s
  | j + 1, s => rl stp kof pm x f j (rls j s)
def nrl : Nat := if f.kind = 1 then 6 else if f.kind = 2 then 4 else 2
end
structure Cmpl (ps : List Pc) (S Fm kn good : Fc → Prop) (f : Fc) : Prop where
  c3 : ∀ z a, z ∈ ps → z.kind = 1 → f = aq_ a z.a → good (aq_ a z.c)
  c4 : ∀ z a, z ∈ ps → z.kind = 2 → f = aq_ a z.a → kn (aq_ a z.b) → good (aq_ a z.c)
  c4' : ∀ z a, z ∈ ps → z.kind = 2 → f = aq_ a z.b → kn (aq_ a z.a) → good (aq_ a z.c)
  c5 : ∀ z a, z ∈ ps → z.kind = 3 → f = aq_ a z.a → good (av_ a z.r z.c)
  c6 : ∀ z a b, z ∈ ps → z.kind = 5 → f = av_ a z.r b → good (av_ a z.t b)
  c7 : ∀ z a b c, z ∈ ps → z.kind = 6 → f = av_ a z.r b → S (av_ b z.s c) → good (av_ a z.t c)
  c7' : ∀ z a b c, z ∈ ps → z.kind = 6 → f = av_ b z.s c → S (av_ a z.r b) → good (av_ a z.t c)
  c8 : ∀ z a b, z ∈ ps → z.kind = 4 → f = av_ a z.r b → S (aq_ b z.a) → good (aq_ a z.c)
  c8' : ∀ z a b, z ∈ ps → z.kind = 4 → f = aq_ b z.a → S (av_ a z.r b) → good (aq_ a z.c)
  c9 : ∀ a r b, f = av_ a r b → kn (aq_ b [33]) → good (aq_ a [33])
  c9' : ∀ a r b, f = aq_ b [33] → S (av_ a r b) → good (aq_ a [33])
  c11 : ∀ z a, z ∈ ps → z.kind = 8 → f = aq_ a z.a → good (at_ a z.r z.lo z.hi)
  c12 : ∀ y, f.kind = 3 → S y → y.kind = 3 → y.a = f.a → y.r = f.r → (Fm f ∨ Fm y) → max f.lo y.lo ≤ min f.hi y.hi → good (cL_ f y)
  c13 : ∀ y, f.kind = 3 → S y → y.kind = 3 → y.a = f.a → y.r = f.r → (Fm f ∨ Fm y) → min f.hi y.hi < max f.lo y.lo → good (aq_ f.a [33])
  c14 : ∀ z a lo hi, z ∈ ps → z.kind = 9 → f = at_ a z.r lo hi → z.lo ≤ lo → hi ≤ z.hi → good (aq_ a z.c)
section
variable {stp : Fc → List Fc → List Fc} {kof : List Fc → List Fc} {ps : List Pc} {A : List Str} {x : Ix} {S Fm : Fc → Prop} {f : Fc}
theorem jE_ (hg : Grows stp kof) (j : Nat) (s : List Fc × List Fc) : ∃ L, (rl stp kof (aF_ ps) x f j s).1 = emits stp L s.1 := by
  unfold rl
  split
  · split
    · exact ⟨_, rfl⟩
    · obtain ⟨L, h, _⟩ := dJ_ hg f (lat (aF_ ps) ⟨2, [], f.b⟩) s.1
      exact ⟨L, h⟩
    · exact ⟨_, rfl⟩
    · exact ⟨_, rfl⟩
    · exact ⟨_, rfl⟩
    · exact ⟨_, dD_ stp kof f _ s.1 s.2⟩
  · split
    · split
      · exact ⟨_, rfl⟩
      · exact ⟨_, rfl⟩
      · exact ⟨_, rfl⟩
      · simp only
        split
        · exact ⟨[aq_ f.a [33]], rfl⟩
        · exact ⟨[], rfl⟩
    · split
      · exact ⟨_, rfl⟩
      · exact ⟨_, rfl⟩
theorem gD_ (hg : Grows stp kof) (j : Nat) (s : List Fc × List Fc) : ∃ L, (rls stp kof (aF_ ps) x f j s).1 = emits stp L s.1 := by
  induction j with
  | zero => exact ⟨[], rfl⟩
  | succ j ih =>
    obtain ⟨L, h⟩ := ih
    obtain ⟨M, h'⟩ := jE_ (ps := ps) (x := x) (f := f) hg j (rls stp kof (aF_ ps) x f j s)
    exact ⟨L ++ M, by rw [rls, h', h, aw_]⟩
theorem gC_ (hg : Grows stp kof) (j : Nat) (s : List Fc × List Fc) (z : Fc) (hz : z ∈ kof s.1) : z ∈ kof (rls stp kof (aF_ ps) x f j s).1 := by
  obtain ⟨L, h⟩ := gD_ (ps := ps) (x := x) (f := f) hg j s
  rw [h]; exact hg.emits L _ z hz
theorem jD_ (j : Nat) (s : List Fc × List Fc) (h : f.kind = 1 → j ≤ 5) : (rls stp kof (aF_ ps) x f j s).2 = s.2 := by
  induction j with
  | zero => rfl
  | succ j ih =>
    rw [← ih (fun hk => by have := h hk; omega), rls, rl.eq_def]
    split
    · rename_i hk
      have := h hk
      match j, this with
      | 0, _ => rfl
      | 1, _ => rfl
      | 2, _ => rfl
      | 3, _ => rfl
      | 4, _ => rfl
    · split
      · split <;> rfl
      · split <;> rfl
theorem mG_ (hg : Grows stp kof) (hr : ∀ x ∈ ps, x.vok) (hx : x.of S Fm) (s : List Fc × List Fc) (hfm : ∀ y, S y → (Fm y ↔ y ∈ s.2)) (hf : S f) (hSk : ∀ y, S y → y ∈ kof s.1) (good : Fc → Prop) (hS : ∀ y, S y → good y)
    (H : ∀ j, j < nrl f → ∀ L, (rls stp kof (aF_ ps) x f (j + 1) s).1 = emits stp L (rls stp kof (aF_ ps) x f j s).1 → ∀ y ∈ L, good y) :
    Cmpl ps S Fm (· ∈ kof s.1) good f := by
  have K : ∀ k j, f.kind = k → j < nrl f → ∀ L, (rl stp kof (aF_ ps) x f j (rls stp kof (aF_ ps) x f j s)).1 = emits stp L (rls stp kof (aF_ ps) x f j s).1 → ∀ y ∈ L, good y := fun k j _ hj L hL => H j hj L (by rw [rls]; exact hL)
  have n1 : f.kind = 1 → nrl f = 6 := fun h => by simp [nrl, h]
  have n2 : f.kind = 2 → nrl f = 4 := fun h => by simp [nrl, h]
  have n3 : f.kind = 3 → nrl f = 2 := fun h => by simp [nrl, h]
  have k1 : ∀ {a b}, f = aq_ a b → f.kind = 1 := fun e => by rw [e]; rfl
  have k2 : ∀ {a r b}, f = av_ a r b → f.kind = 2 := fun e => by rw [e]; rfl
  have k3 : ∀ {a r lo hi}, f = at_ a r lo hi → f.kind = 3 := fun e => by rw [e]; rfl
  have both : ∀ z a, z ∈ ps → z.kind = 2 → f.kind = 1 → f.a = a → (z.a = f.b ∨ z.b = f.b) → aq_ a z.a ∈ kof s.1 → aq_ a z.b ∈ kof s.1 → good (aq_ a z.c) := by
    intro z a hz hk h1 ha hb g1 g2
    subst ha
    obtain ⟨L, e1, e2, e3⟩ := dJ_ hg f (lat (aF_ ps) ⟨2, [], f.b⟩) (rls stp kof (aF_ ps) x f 1 s).1
    exact K 1 1 h1 (by rw [n1 h1]; decide) L (by rw [rl.eq_def, if_pos h1]; exact e1) _ (e3 z (pm2.2 ⟨hz, hk, hb⟩) (gC_ hg 1 s _ g1) (gC_ hg 1 s _ g2))
  have mt : f.kind = 3 → (∀ y ∈ ei_ f (ds_ x f (decide (f ∈ s.2))) ++ eZ_ f (ds_ x f (decide (f ∈ s.2))), good y) := fun h3 =>
    K 3 0 h3 (by rw [n3 h3]; decide) _ (by rw [rl.eq_def, if_neg (by rw [h3]; decide), if_neg (by rw [h3]; decide)]; rfl)
  have hfirm : decide (f ∈ s.2) = true ↔ Fm f := by rw [decide_eq_true_eq]; exact (hfm f hf).symm
  refine ⟨?_, ?_, ?_, ?_, ?_, ?_, ?_, ?_, ?_, ?_, ?_, ?_, ?_, ?_, ?_⟩
  · intro z a hz hk e
    have h1 := k1 e
    exact K 1 0 h1 (by rw [n1 h1]; decide) (eF_ (aF_ ps) f) (by rw [rl.eq_def, if_pos h1] <;> rfl) _ (by rw [e]; exact kh_ hz hk)
  · intro z a hz hk e h
    have h1 := k1 e
    exact both z a hz hk h1 (by rw [e]; rfl) (by rw [e]; exact .inl rfl) (by rw [← e]; exact hSk f hf) h
  · intro z a hz hk e h
    have h1 := k1 e
    exact both z a hz hk h1 (by rw [e]; rfl) (by rw [e]; exact .inr rfl) h (by rw [← e]; exact hSk f hf)
  · intro z a hz hk e
    have h1 := k1 e
    exact K 1 2 h1 (by rw [n1 h1]; decide) (iq_ (aF_ ps) f) (by rw [rl.eq_def, if_pos h1] <;> rfl) _ (by rw [e]; exact mz_ hz hk)
  · intro z a b hz hk e
    have h1 := k2 e
    exact K 2 0 h1 (by rw [n2 h1]; decide) (eD_ (aF_ ps) f) (by rw [rl.eq_def, if_neg (by rw [h1]; decide), if_pos h1] <;> rfl) _ (by rw [e]; exact kc_ hz hk)
  · intro z a b c hz hk e h
    have h1 := k2 e
    exact K 2 1 h1 (by rw [n2 h1]; decide) (dT_ (aF_ ps) x f ++ eW_ (aF_ ps) x f) (by rw [rl.eq_def, if_neg (by rw [h1]; decide), if_pos h1] <;> rfl) _ (List.mem_append_left _ (by rw [e]; exact kP_ hx hr hz hk h))
  · intro z a b c hz hk e h
    have h1 := k2 e
    exact K 2 1 h1 (by rw [n2 h1]; decide) (dT_ (aF_ ps) x f ++ eW_ (aF_ ps) x f) (by rw [rl.eq_def, if_neg (by rw [h1]; decide), if_pos h1] <;> rfl) _ (List.mem_append_right _ (by rw [e]; exact kO_ hx hr hz hk h))
  · intro z a b hz hk e h
    have h1 := k2 e
    exact K 2 2 h1 (by rw [n2 h1]; decide) (dW_ (aF_ ps) x f) (by rw [rl.eq_def, if_neg (by rw [h1]; decide), if_pos h1] <;> rfl) _ (by rw [e]; exact iY_ hx hr hz hk h)
  · intro z a b hz hk e h
    have h1 := k1 e
    exact K 1 3 h1 (by rw [n1 h1]; decide) (dX_ (aF_ ps) x f) (by rw [rl.eq_def, if_pos h1] <;> rfl) _ (by rw [e]; exact iZ_ hx hr hz hk h)
  · intro a r b e h
    have h1 := k2 e
    have e1 : aq_ f.b [33] ∈ kof (rls stp kof (aF_ ps) x f 3 s).1 := gC_ hg 3 s _ (by rw [e]; exact h)
    exact K 2 3 h1 (by rw [n2 h1]; decide) [aq_ f.a [33]] (by rw [rl.eq_def, if_neg (by rw [h1]; decide), if_pos h1]; simp only [if_pos e1]; rfl) _ (by rw [e]; simp [av_])
  · intro a r b e h
    have h1 := k1 e
    exact K 1 4 h1 (by rw [n1 h1]; decide) (cx_ x f) (by rw [rl.eq_def, if_pos h1] <;> rfl) _ (by rw [e]; exact if_ hx h)
  · intro z a hz hk e
    have h1 := k1 e
    exact K 1 5 h1 (by rw [n1 h1]; decide) ((lat (aF_ ps) ⟨8, [], f.b⟩).map fun y => at_ f.a y.r y.lo y.hi) (by rw [rl.eq_def, if_pos h1]; exact dD_ stp kof f _ _ _) _ (by rw [e]; exact ly_ hz hk)
  · intro y h3 hy hk ha hr' hm hl
    have hmem := ix_ hx hfirm hy hk ha hr' hm
    rcases (jW_ (f := f) hmem).1 hl with q | q | q
    · exact mt h3 _ (List.mem_append_left _ q)
    · rw [q]; exact hS f hf
    · rw [q]; exact hS y hy
  · intro y h3 hy hk ha hr' hm hl
    have hmem := ix_ hx hfirm hy hk ha hr' hm
    exact mt h3 _ (List.mem_append_right _ ((jW_ (f := f) hmem).2 hl))
  · intro z a lo hi hz hk e g1 g2
    have h1 := k3 e
    exact K 3 1 h1 (by rw [n3 h1]; decide) (lN_ (aF_ ps) f) (by rw [rl.eq_def, if_neg (by rw [h1]; decide), if_neg (by rw [h1]; decide)] <;> rfl) _ (by rw [e]; exact nU_ hz hk g1 g2)
end
end Go.Vs
