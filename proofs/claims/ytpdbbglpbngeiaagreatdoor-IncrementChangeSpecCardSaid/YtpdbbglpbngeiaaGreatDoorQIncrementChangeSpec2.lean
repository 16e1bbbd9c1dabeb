/-
  Part of the proof of the law IncrementChangeSpec over this seat: the small logic, the data, the contracts of functions (no condition).
-/
import Derived.Test.YtpdbbglpbngeiaaGreatDoorProg
import Derived.Test.YtpdbbglpbngeiaaGreatDoorQIncrementChangeSpec1
import Derived.ProofKit
import Derived.OpenShut
import Derived.ReadAgain
import Derived.Deep.Slices
import Derived.SevenTiedAt
import Derived.Stop.Joined
import Derived.Lay
import Derived.LaidMore
import Derived.Lib.SlicesCompact
import Derived.Sort.EncStr
set_option linter.unusedVariables false
set_option linter.unusedSimpArgs false
set_option linter.unusedSectionVars false
namespace Go.Proofs.YtpdbbglpbngeiaaGreatDoor
open Go Go.Sx Go.Proofs
attribute [local irreducible] Code.wp wpList wpAnyH
open Go.Vs
theorem jc_ (c : UInt8) :
  Fn0 Tryz.prog 216 #[.int .u8 (c.toNat : Int)] (.bool (cW_ c)) := by
 refine T_ Tryz.func216 rfl rfl Tryz.ntmps216 rfl fun v0 => ?_
 refine h_ (c_ (a_ (g_ rfl) rfl (e_ (b_ rfl (h_ (c_ (a_ (d_ rfl) rfl (x_ (cf_ rfl rfl) rfl fun r1 hr1 => ?_))))))))
 refine a_ (d_ rfl) rfl ?_
 cases r1
 ·
  replace hr1 := of_decide_eq_false hr1
  refine r_ rfl rfl rfl rfl (r_ rfl rfl rfl rfl (a_ (C_ rfl rfl) rfl (a_ (d_ rfl) rfl (p_ rfl rfl (a_ (d_ rfl) rfl (p_ rfl rfl (x_ (cf_ rfl rfl) rfl fun r2 hr2 => ?_)))))))
  refine p_ rfl rfl (a_ (d_ rfl) rfl ?_)
  cases r2
  ·
   replace hr2 := of_decide_eq_false hr2
   refine r_ rfl rfl rfl rfl (r_ rfl rfl rfl rfl (p_ rfl rfl (a_ (C_ rfl rfl) rfl (a_ (C_ rfl rfl) rfl (a_ (g_ rfl) rfl (e_ (b_ rfl (F_ ?_))))))))
   exact aw_ mQ_ () (y_ rfl (by subst_vars; rw [Bool.eq_iff_iff]; simp [cW_] <;> omega)) (.refl _) (fun _ _ _ => trivial)
  ·
   replace hr2 := of_decide_eq_true hr2
   refine p_ rfl rfl (a_ (d_ rfl) rfl (p_ rfl rfl (x_ (cf_ rfl rfl) rfl fun r3 hr3 => ?_)))
   refine p_ rfl rfl (a_ (H_ rfl rfl) rfl (a_ (C_ rfl rfl) rfl (a_ (g_ rfl) rfl (e_ (b_ rfl (F_ ?_))))))
   exact aw_ mQ_ () (y_ rfl (by subst_vars; rw [Bool.eq_iff_iff]; simp [cW_] <;> omega)) (.refl _) (fun _ _ _ => trivial)
 ·
  replace hr1 := of_decide_eq_true hr1
  refine p_ rfl rfl (a_ (d_ rfl) rfl (p_ rfl rfl (x_ (cf_ rfl rfl) rfl fun r4 hr4 => ?_)))
  refine a_ (H_ rfl rfl) rfl (a_ (d_ rfl) rfl ?_)
  cases r4
  ·
   replace hr4 := of_decide_eq_false hr4
   refine p_ rfl rfl (a_ (d_ rfl) rfl (p_ rfl rfl (x_ (cf_ rfl rfl) rfl fun r5 hr5 => ?_)))
   refine p_ rfl rfl (a_ (d_ rfl) rfl ?_)
   cases r5
   ·
    replace hr5 := of_decide_eq_false hr5
    refine r_ rfl rfl rfl rfl (r_ rfl rfl rfl rfl (p_ rfl rfl (a_ (C_ rfl rfl) rfl (a_ (C_ rfl rfl) rfl (a_ (g_ rfl) rfl (e_ (b_ rfl (F_ ?_))))))))
    exact aw_ mQ_ () (y_ rfl (by subst_vars; rw [Bool.eq_iff_iff]; simp [cW_] <;> omega)) (.refl _) (fun _ _ _ => trivial)
   ·
    replace hr5 := of_decide_eq_true hr5
    refine p_ rfl rfl (a_ (d_ rfl) rfl (p_ rfl rfl (x_ (cf_ rfl rfl) rfl fun r6 hr6 => ?_)))
    refine p_ rfl rfl (a_ (H_ rfl rfl) rfl (a_ (C_ rfl rfl) rfl (a_ (g_ rfl) rfl (e_ (b_ rfl (F_ ?_))))))
    exact aw_ mQ_ () (y_ rfl (by subst_vars; rw [Bool.eq_iff_iff]; simp [cW_] <;> omega)) (.refl _) (fun _ _ _ => trivial)
  ·
   replace hr4 := of_decide_eq_true hr4
   refine r_ rfl rfl rfl rfl (r_ rfl rfl rfl rfl (r_ rfl rfl rfl rfl (r_ rfl rfl rfl rfl (r_ rfl rfl rfl rfl (r_ rfl rfl rfl rfl (a_ (H_ rfl rfl) rfl (a_ (g_ rfl) rfl (e_ (b_ rfl ?_)))))))))
   refine F_ ?_
   exact aw_ mQ_ () (y_ rfl (by subst_vars; rw [Bool.eq_iff_iff]; simp [cW_] <;> omega)) (.refl _) (fun _ _ _ => trivial)
theorem lP_ (s : Str) (hs : s.length ≤ 140737488351232) :
  Fn0 Tryz.prog 213 #[str s] (.bool (gk_ s)) := by
 refine T_ Tryz.func213 rfl rfl Tryz.ntmps213 rfl fun v0 => ?_
 refine h_ (c_ (a_ (g_ rfl) rfl (e_ (b_ rfl (h_ (h_ (c_ (a_ (d_ rfl) rfl (qd_ V_ Tryz.runUnderlying242 Tryz.runUnderlying5 rfl rfl fun cap b1 hcap => ?_)))))))))
 refine a_ (am_ Tryz.runUnderlying242 rfl) rfl (a_ (d_ rfl) rfl (e_ (b_ rfl (R_ (ds_ [(6, .slice (some ⟨b1, 0, none⟩) s.length cap), (7, .int .i64 (s.length : Int)), (8, .int .i64 ((0 : Nat) : Int))] ⟨rfl, rfl, rfl, trivial⟩ ?_)))))
 refine dq_ (ι := {k : Nat // k ≤ s.length ∧ (s.take k).all dm_ = true}) (fun i => [(6, .slice (some ⟨b1, 0, none⟩) s.length cap), (7, .int .i64 (s.length : Int)), (8, .int .i64 (i.1 : Int))]) (fun _ => _) (fun _ => _) (fun i => s.length - i.1) ⟨0, by simp⟩ ?_
 rintro ⟨k, hk⟩
 refine ds_ [(6, .slice (some ⟨b1, 0, none⟩) s.length cap), (7, .int .i64 (s.length : Int)), (8, .int .i64 (k : Int))] ⟨rfl, rfl, rfl, trivial⟩ ?_
 refine h_ (c_ (x_ (av_ rfl rfl) rfl fun r1 hr1 => ?_))
 refine e_ (b_ rfl (h_ ?_))
 cases r1
 ·
  replace hr1 := of_decide_eq_false hr1
  refine v_ rfl (au_ rfl (b_ rfl (h_ (c_ (a_ (g_ rfl) rfl (e_ (b_ rfl (F_ ?_))))))))
  exact aw_ Tryz.results213 () (y_ rfl (by rw [gk_, fR_ dm_ s k (by omega) hk.2])) (.refl _) (fun _ _ _ => trivial)
 ·
  replace hr1 := of_decide_eq_true hr1
  have hlt : k < s.length := by omega
  obtain ⟨c, hc⟩ : ∃ c, s[k]? = some c := ⟨_, List.getElem?_eq_getElem hlt⟩
  refine t_ rfl (z_ (b_ rfl (h_ (R_ (h_ (c_ (a_ (fw_ Tryz.runUnderlying242 Tryz.sizeOf5 rfl rfl (by omega) (by omega)) rfl (a_ (u_ (u := .int .u8 (c.toNat : Int)) 0 Tryz.isAgg5 rfl rfl (by rw [show 0 + ((k : Int)).toNat * 1 = k by omega]; exact oY_ hc)) rfl (a_ (g_ rfl) rfl ?_)))))))))
  refine e_ (b_ rfl (h_ (c_ (a_ (d_ rfl) rfl (as_ (jc_ c) rfl (.refl _) (fun _ _ _ => trivial) rfl fun r2 hr2 => ?_)))))
  refine a_ (ce_ rfl) rfl (a_ (d_ rfl) rfl ?_)
  cases r2
  ·
   refine p_ rfl rfl (a_ (d_ rfl) rfl (p_ rfl rfl (x_ (bN_ rfl rfl) rfl fun r3 hr3 => ?_)))
   refine a_ (H_ rfl rfl) rfl (a_ (d_ rfl) rfl ?_)
   cases r3
   ·
    replace hr3 := bb_ hr3
    refine r_ rfl rfl rfl rfl (r_ rfl rfl rfl rfl (r_ rfl rfl rfl rfl (r_ rfl rfl rfl rfl (r_ rfl rfl rfl rfl (r_ rfl rfl rfl rfl (a_ (C_ rfl rfl) rfl (e_ (b_ rfl (v_ rfl ?_)))))))))
    refine z_ (b_ rfl (c_ (a_ (M_ rfl rfl rfl (af_ (by omega) (by omega))) rfl (a_ (d_ rfl) rfl (e_ (w_ rfl ?_))))))
    exact Z_ ⟨k + 1, hlt, ea_ _ s k c hc hk.2 (by simp [dm_, *] <;> omega)⟩ (by simp; omega) ⟨rfl, rfl, rfl, trivial⟩ (.refl _) (fun _ _ h => h)
   ·
    replace hr3 := ba_ hr3
    refine p_ rfl rfl (a_ (d_ rfl) rfl (p_ rfl rfl (x_ (av_ rfl rfl) rfl fun r4 hr4 => ?_)))
    refine p_ rfl rfl (a_ (d_ rfl) rfl ?_)
    cases r4
    ·
     replace hr4 := of_decide_eq_false hr4
     refine p_ rfl rfl (a_ (d_ rfl) rfl (p_ rfl rfl (x_ (bR_ rfl rfl) rfl fun r5 hr5 => ?_)))
     refine p_ rfl rfl (a_ (C_ rfl rfl) rfl (a_ (H_ rfl rfl) rfl (e_ (b_ rfl ?_))))
     cases r5
     ·
      replace hr5 := of_decide_eq_false hr5
      refine v_ rfl (z_ (b_ rfl (c_ (a_ (M_ rfl rfl rfl (af_ (by omega) (by omega))) rfl (a_ (d_ rfl) rfl (e_ (w_ rfl ?_)))))))
      exact Z_ ⟨k + 1, hlt, ea_ _ s k c hc hk.2 (by simp [dm_, *] <;> omega)⟩ (by simp; omega) ⟨rfl, rfl, rfl, trivial⟩ (.refl _) (fun _ _ h => h)
     ·
      replace hr5 := of_decide_eq_true hr5
      refine t_ rfl (h_ (c_ (a_ (g_ rfl) rfl (e_ (b_ rfl (F_ ?_))))))
      exact aw_ Tryz.results213 () (y_ rfl (by rw [gk_, eS_ dm_ s k c hc (by simp [dm_, *] <;> omega)])) (.refl _) (fun _ _ _ => trivial)
    ·
     replace hr4 := of_decide_eq_true hr4
     refine r_ rfl rfl rfl rfl (r_ rfl rfl rfl rfl (p_ rfl rfl (a_ (H_ rfl rfl) rfl (a_ (H_ rfl rfl) rfl (e_ (b_ rfl (t_ rfl (h_ (c_ ?_)))))))))
     refine a_ (g_ rfl) rfl (e_ (b_ rfl (F_ ?_)))
     exact aw_ Tryz.results213 () (y_ rfl (by rw [gk_, eS_ dm_ s k c hc (by simp [dm_, *] <;> omega)])) (.refl _) (fun _ _ _ => trivial)
  ·
   refine r_ rfl rfl rfl rfl (r_ rfl rfl rfl rfl (a_ (C_ rfl rfl) rfl (a_ (d_ rfl) rfl (r_ rfl rfl rfl rfl (r_ rfl rfl rfl rfl (r_ rfl rfl rfl rfl (r_ rfl rfl rfl rfl (r_ rfl rfl rfl rfl (r_ rfl rfl rfl rfl ?_)))))))))
   refine a_ (C_ rfl rfl) rfl (e_ (b_ rfl (v_ rfl (z_ (b_ rfl (c_ (a_ (M_ rfl rfl rfl (af_ (by omega) (by omega))) rfl (a_ (d_ rfl) rfl (e_ ?_)))))))))
   refine w_ rfl ?_
   exact Z_ ⟨k + 1, hlt, ea_ _ s k c hc hk.2 (by simp [dm_, *] <;> omega)⟩ (by simp; omega) ⟨rfl, rfl, rfl, trivial⟩ (.refl _) (fun _ _ h => h)
theorem nI_ (s : Str) :
  Fn0 Tryz.prog 217 #[str s] (.bool (aW_ s)) := by
 refine T_ Tryz.func217 rfl rfl Tryz.ntmps217 rfl fun v0 => ?_
 refine h_ (c_ (a_ (g_ rfl) rfl (e_ (b_ rfl (h_ (h_ (c_ (a_ (d_ rfl) rfl (e_ ?_)))))))))
 refine b_ rfl (R_ (h_ (h_ (c_ (x_ (aq_ rfl rfl) rfl fun r1 hr1 => ?_)))))
 refine a_ (g_ rfl) rfl (e_ (b_ rfl ?_))
 cases r1
 ·
  replace hr1 := ne_of_beq_false hr1
  refine v_ rfl (h_ (c_ (x_ (aq_ rfl rfl) rfl fun r2 hr2 => ?_)))
  refine a_ (g_ rfl) rfl (e_ (b_ rfl ?_))
  cases r2
  ·
   replace hr2 := ne_of_beq_false hr2
   refine v_ rfl (h_ (c_ (x_ (aq_ rfl rfl) rfl fun r3 hr3 => ?_)))
   refine a_ (g_ rfl) rfl (e_ (b_ rfl ?_))
   cases r3
   ·
    replace hr3 := ne_of_beq_false hr3
    refine v_ rfl (h_ (c_ (x_ (aq_ rfl rfl) rfl fun r4 hr4 => ?_)))
    refine a_ (g_ rfl) rfl (e_ (b_ rfl ?_))
    cases r4
    ·
     replace hr4 := ne_of_beq_false hr4
     refine v_ rfl (h_ (c_ (x_ (aq_ rfl rfl) rfl fun r5 hr5 => ?_)))
     refine a_ (g_ rfl) rfl (e_ (b_ rfl ?_))
     cases r5
     ·
      replace hr5 := ne_of_beq_false hr5
      refine v_ rfl (h_ (c_ (x_ (aq_ rfl rfl) rfl fun r6 hr6 => ?_)))
      refine a_ (g_ rfl) rfl (e_ (b_ rfl ?_))
      cases r6
      ·
       replace hr6 := ne_of_beq_false hr6
       refine v_ rfl (h_ (c_ (x_ (aq_ rfl rfl) rfl fun r7 hr7 => ?_)))
       refine a_ (g_ rfl) rfl (e_ (b_ rfl ?_))
       cases r7
       ·
        replace hr7 := ne_of_beq_false hr7
        refine v_ rfl (h_ (c_ (x_ (aq_ rfl rfl) rfl fun r8 hr8 => ?_)))
        refine a_ (g_ rfl) rfl (e_ (b_ rfl ?_))
        cases r8
        ·
         replace hr8 := ne_of_beq_false hr8
         refine v_ rfl (h_ (c_ (x_ (aq_ rfl rfl) rfl fun r9 hr9 => ?_)))
         refine a_ (g_ rfl) rfl (e_ (b_ rfl ?_))
         cases r9
         ·
          replace hr9 := ne_of_beq_false hr9
          refine v_ rfl (h_ (c_ (x_ (aq_ rfl rfl) rfl fun r10 hr10 => ?_)))
          refine a_ (g_ rfl) rfl (e_ (b_ rfl ?_))
          cases r10
          ·
           replace hr10 := ne_of_beq_false hr10
           refine v_ rfl (h_ (c_ (x_ (aq_ rfl rfl) rfl fun r11 hr11 => ?_)))
           refine a_ (g_ rfl) rfl (e_ (b_ rfl ?_))
           cases r11
           ·
            replace hr11 := ne_of_beq_false hr11
            refine v_ rfl (h_ (c_ (x_ (aq_ rfl rfl) rfl fun r12 hr12 => ?_)))
            refine a_ (g_ rfl) rfl (e_ (b_ rfl ?_))
            cases r12
            ·
             replace hr12 := ne_of_beq_false hr12
             refine v_ rfl (h_ (c_ (x_ (aq_ rfl rfl) rfl fun r13 hr13 => ?_)))
             refine a_ (g_ rfl) rfl (e_ (b_ rfl ?_))
             cases r13
             ·
              replace hr13 := ne_of_beq_false hr13
              refine v_ rfl (h_ (c_ (x_ (aq_ rfl rfl) rfl fun r14 hr14 => ?_)))
              refine a_ (g_ rfl) rfl (e_ (b_ rfl ?_))
              cases r14
              ·
               replace hr14 := ne_of_beq_false hr14
               refine v_ rfl (h_ (c_ (x_ (aq_ rfl rfl) rfl fun r15 hr15 => ?_)))
               refine a_ (g_ rfl) rfl (e_ (b_ rfl ?_))
               cases r15
               ·
                replace hr15 := ne_of_beq_false hr15
                refine v_ rfl (h_ (c_ (x_ (aq_ rfl rfl) rfl fun r16 hr16 => ?_)))
                refine a_ (g_ rfl) rfl (e_ (b_ rfl ?_))
                cases r16
                ·
                 replace hr16 := ne_of_beq_false hr16
                 refine v_ rfl (h_ (c_ (x_ (aq_ rfl rfl) rfl fun r17 hr17 => ?_)))
                 refine a_ (g_ rfl) rfl (e_ (b_ rfl ?_))
                 cases r17
                 ·
                  replace hr17 := ne_of_beq_false hr17
                  refine v_ rfl (h_ (c_ (x_ (aq_ rfl rfl) rfl fun r18 hr18 => ?_)))
                  refine a_ (g_ rfl) rfl (e_ (b_ rfl ?_))
                  cases r18
                  ·
                   replace hr18 := ne_of_beq_false hr18
                   refine v_ rfl (h_ (c_ (x_ (aq_ rfl rfl) rfl fun r19 hr19 => ?_)))
                   refine a_ (g_ rfl) rfl (e_ (b_ rfl ?_))
                   cases r19
                   ·
                    replace hr19 := ne_of_beq_false hr19
                    refine v_ rfl (h_ (c_ (x_ (aq_ rfl rfl) rfl fun r20 hr20 => ?_)))
                    refine a_ (g_ rfl) rfl (e_ (b_ rfl ?_))
                    cases r20
                    ·
                     replace hr20 := ne_of_beq_false hr20
                     refine v_ rfl (h_ (c_ (x_ (aq_ rfl rfl) rfl fun r21 hr21 => ?_)))
                     refine a_ (g_ rfl) rfl (e_ (b_ rfl ?_))
                     cases r21
                     ·
                      replace hr21 := ne_of_beq_false hr21
                      refine v_ rfl (c_ (x_ (aq_ rfl rfl) rfl fun r22 hr22 => ?_))
                      refine a_ (g_ rfl) rfl (e_ (b_ rfl ?_))
                      cases r22
                      ·
                       replace hr22 := ne_of_beq_false hr22
                       refine v_ rfl (z_ (b_ rfl (h_ (c_ (a_ (g_ rfl) rfl (e_ (b_ rfl (F_ ?_))))))))
                       exact aw_ bo_ () (y_ rfl (by simp [aW_, kws, *])) (.refl _) (fun _ _ _ => trivial)
                      ·
                       replace hr22 := eq_of_beq hr22
                       refine t_ rfl (h_ (c_ (a_ (g_ rfl) rfl (e_ (b_ rfl (F_ ?_))))))
                       exact aw_ bo_ () (y_ rfl (by simp [aW_, kws, *])) (.refl _) (fun _ _ _ => trivial)
                     ·
                      replace hr21 := eq_of_beq hr21
                      refine t_ rfl (z_ (b_ rfl (t_ rfl (h_ (c_ (a_ (g_ rfl) rfl (e_ (b_ rfl (F_ ?_)))))))))
                      exact aw_ bo_ () (y_ rfl (by simp [aW_, kws, *])) (.refl _) (fun _ _ _ => trivial)
                    ·
                     replace hr20 := eq_of_beq hr20
                     refine t_ rfl (z_ (b_ rfl (t_ rfl (h_ (c_ (a_ (g_ rfl) rfl (e_ (b_ rfl (F_ ?_)))))))))
                     exact aw_ bo_ () (y_ rfl (by simp [aW_, kws, *])) (.refl _) (fun _ _ _ => trivial)
                   ·
                    replace hr19 := eq_of_beq hr19
                    refine t_ rfl (z_ (b_ rfl (t_ rfl (h_ (c_ (a_ (g_ rfl) rfl (e_ (b_ rfl (F_ ?_)))))))))
                    exact aw_ bo_ () (y_ rfl (by simp [aW_, kws, *])) (.refl _) (fun _ _ _ => trivial)
                  ·
                   replace hr18 := eq_of_beq hr18
                   refine t_ rfl (z_ (b_ rfl (t_ rfl (h_ (c_ (a_ (g_ rfl) rfl (e_ (b_ rfl (F_ ?_)))))))))
                   exact aw_ bo_ () (y_ rfl (by simp [aW_, kws, *])) (.refl _) (fun _ _ _ => trivial)
                 ·
                  replace hr17 := eq_of_beq hr17
                  refine t_ rfl (z_ (b_ rfl (t_ rfl (h_ (c_ (a_ (g_ rfl) rfl (e_ (b_ rfl (F_ ?_)))))))))
                  exact aw_ bo_ () (y_ rfl (by simp [aW_, kws, *])) (.refl _) (fun _ _ _ => trivial)
                ·
                 replace hr16 := eq_of_beq hr16
                 refine t_ rfl (z_ (b_ rfl (t_ rfl (h_ (c_ (a_ (g_ rfl) rfl (e_ (b_ rfl (F_ ?_)))))))))
                 exact aw_ bo_ () (y_ rfl (by simp [aW_, kws, *])) (.refl _) (fun _ _ _ => trivial)
               ·
                replace hr15 := eq_of_beq hr15
                refine t_ rfl (z_ (b_ rfl (t_ rfl (h_ (c_ (a_ (g_ rfl) rfl (e_ (b_ rfl (F_ ?_)))))))))
                exact aw_ bo_ () (y_ rfl (by simp [aW_, kws, *])) (.refl _) (fun _ _ _ => trivial)
              ·
               replace hr14 := eq_of_beq hr14
               refine t_ rfl (z_ (b_ rfl (t_ rfl (h_ (c_ (a_ (g_ rfl) rfl (e_ (b_ rfl (F_ ?_)))))))))
               exact aw_ bo_ () (y_ rfl (by simp [aW_, kws, *])) (.refl _) (fun _ _ _ => trivial)
             ·
              replace hr13 := eq_of_beq hr13
              refine t_ rfl (z_ (b_ rfl (t_ rfl (h_ (c_ (a_ (g_ rfl) rfl (e_ (b_ rfl (F_ ?_)))))))))
              exact aw_ bo_ () (y_ rfl (by simp [aW_, kws, *])) (.refl _) (fun _ _ _ => trivial)
            ·
             replace hr12 := eq_of_beq hr12
             refine t_ rfl (z_ (b_ rfl (t_ rfl (h_ (c_ (a_ (g_ rfl) rfl (e_ (b_ rfl (F_ ?_)))))))))
             exact aw_ bo_ () (y_ rfl (by simp [aW_, kws, *])) (.refl _) (fun _ _ _ => trivial)
           ·
            replace hr11 := eq_of_beq hr11
            refine t_ rfl (z_ (b_ rfl (t_ rfl (h_ (c_ (a_ (g_ rfl) rfl (e_ (b_ rfl (F_ ?_)))))))))
            exact aw_ bo_ () (y_ rfl (by simp [aW_, kws, *])) (.refl _) (fun _ _ _ => trivial)
          ·
           replace hr10 := eq_of_beq hr10
           refine t_ rfl (z_ (b_ rfl (t_ rfl (h_ (c_ (a_ (g_ rfl) rfl (e_ (b_ rfl (F_ ?_)))))))))
           exact aw_ bo_ () (y_ rfl (by simp [aW_, kws, *])) (.refl _) (fun _ _ _ => trivial)
         ·
          replace hr9 := eq_of_beq hr9
          refine t_ rfl (z_ (b_ rfl (t_ rfl (h_ (c_ (a_ (g_ rfl) rfl (e_ (b_ rfl (F_ ?_)))))))))
          exact aw_ bo_ () (y_ rfl (by simp [aW_, kws, *])) (.refl _) (fun _ _ _ => trivial)
        ·
         replace hr8 := eq_of_beq hr8
         refine t_ rfl (z_ (b_ rfl (t_ rfl (h_ (c_ (a_ (g_ rfl) rfl (e_ (b_ rfl (F_ ?_)))))))))
         exact aw_ bo_ () (y_ rfl (by simp [aW_, kws, *])) (.refl _) (fun _ _ _ => trivial)
       ·
        replace hr7 := eq_of_beq hr7
        refine t_ rfl (z_ (b_ rfl (t_ rfl (h_ (c_ (a_ (g_ rfl) rfl (e_ (b_ rfl (F_ ?_)))))))))
        exact aw_ bo_ () (y_ rfl (by simp [aW_, kws, *])) (.refl _) (fun _ _ _ => trivial)
      ·
       replace hr6 := eq_of_beq hr6
       refine t_ rfl (z_ (b_ rfl (t_ rfl (h_ (c_ (a_ (g_ rfl) rfl (e_ (b_ rfl (F_ ?_)))))))))
       exact aw_ bo_ () (y_ rfl (by simp [aW_, kws, *])) (.refl _) (fun _ _ _ => trivial)
     ·
      replace hr5 := eq_of_beq hr5
      refine t_ rfl (z_ (b_ rfl (t_ rfl (h_ (c_ (a_ (g_ rfl) rfl (e_ (b_ rfl (F_ ?_)))))))))
      exact aw_ bo_ () (y_ rfl (by simp [aW_, kws, *])) (.refl _) (fun _ _ _ => trivial)
    ·
     replace hr4 := eq_of_beq hr4
     refine t_ rfl (z_ (b_ rfl (t_ rfl (h_ (c_ (a_ (g_ rfl) rfl (e_ (b_ rfl (F_ ?_)))))))))
     exact aw_ bo_ () (y_ rfl (by simp [aW_, kws, *])) (.refl _) (fun _ _ _ => trivial)
   ·
    replace hr3 := eq_of_beq hr3
    refine t_ rfl (z_ (b_ rfl (t_ rfl (h_ (c_ (a_ (g_ rfl) rfl (e_ (b_ rfl (F_ ?_)))))))))
    exact aw_ bo_ () (y_ rfl (by simp [aW_, kws, *])) (.refl _) (fun _ _ _ => trivial)
  ·
   replace hr2 := eq_of_beq hr2
   refine t_ rfl (z_ (b_ rfl (t_ rfl (h_ (c_ (a_ (g_ rfl) rfl (e_ (b_ rfl (F_ ?_)))))))))
   exact aw_ bo_ () (y_ rfl (by simp [aW_, kws, *])) (.refl _) (fun _ _ _ => trivial)
 ·
  replace hr1 := eq_of_beq hr1
  refine t_ rfl (z_ (b_ rfl (t_ rfl (h_ (c_ (a_ (g_ rfl) rfl (e_ (b_ rfl (F_ ?_)))))))))
  exact aw_ bo_ () (y_ rfl (by simp [aW_, kws, *])) (.refl _) (fun _ _ _ => trivial)
end Go.Proofs.YtpdbbglpbngeiaaGreatDoor
namespace Go.Proofs.YtpdbbglpbngeiaaGreatDoor
open Go Go.Sx Go.Proofs
attribute [local irreducible] Code.wp wpList wpAnyH
open Go.Vs
theorem jb_ (s : Str) (hs : s.length ≤ 140737488351232) :
    Fn0 Tryz.prog 199 #[str s] (.bool (eJ_ s)) := by
  refine T_ Tryz.func199 rfl rfl Tryz.ntmps199 rfl fun v0 => ?_
  refine h_ (c_ (a_ (g_ rfl) rfl (e_ (b_ rfl (h_ (c_ (a_ (d_ rfl) rfl (x_ (dL_ rfl rfl) rfl fun r1 hr1 => ?_))))))))
  refine a_ (d_ rfl) rfl ?_
  cases r1
  · skip
    replace hr1 := bb_ hr1
    refine r_ rfl rfl rfl rfl (r_ rfl rfl rfl rfl (r_ rfl rfl rfl rfl (a_ (C_ rfl rfl) rfl (a_ (d_ rfl) rfl (r_ rfl rfl rfl rfl (r_ rfl rfl rfl rfl (a_ (C_ rfl rfl) rfl (a_ (d_ rfl) rfl (r_ rfl rfl rfl rfl ?_)))))))))
    refine r_ rfl rfl rfl rfl (r_ rfl rfl rfl rfl (a_ (C_ rfl rfl) rfl (a_ (g_ rfl) rfl (e_ (b_ rfl (F_ ?_))))))
    exact aw_ Tryz.results199 () (y_ rfl (by simp [eJ_, *])) (.refl _) (fun _ _ _ => trivial)
  · skip
    replace hr1 := ba_ hr1
    obtain ⟨c, t, rfl⟩ := List.exists_cons_of_ne_nil hr1
    refine p_ rfl rfl (a_ (d_ rfl) rfl (p_ rfl rfl (a_ (bL_ V_ rfl rfl (by decide) rfl) rfl (p_ rfl rfl (as_ (jc_ _) rfl (.refl _) (fun _ _ _ => trivial) rfl fun r2 hr2 => ?_)))))
    refine a_ (H_ rfl rfl) rfl (a_ (d_ rfl) rfl ?_)
    cases r2
    · skip
      refine r_ rfl rfl rfl rfl (r_ rfl rfl rfl rfl (a_ (C_ rfl rfl) rfl (a_ (d_ rfl) rfl (r_ rfl rfl rfl rfl (r_ rfl rfl rfl rfl (r_ rfl rfl rfl rfl (a_ (C_ rfl rfl) rfl (a_ (g_ rfl) rfl (e_ ?_)))))))))
      refine b_ rfl (F_ ?_)
      exact aw_ Tryz.results199 () (y_ rfl (by simp [eJ_, *])) (.refl _) (fun _ _ _ => trivial)
    · skip
      refine p_ rfl rfl (a_ (d_ rfl) rfl (p_ rfl rfl (as_ (lP_ _ (by assumption)) rfl (.refl _) (fun _ _ _ => trivial) rfl fun r3 hr3 => ?_)))
      refine a_ (H_ rfl rfl) rfl (a_ (d_ rfl) rfl ?_)
      cases r3
      · skip
        refine r_ rfl rfl rfl rfl (r_ rfl rfl rfl rfl (r_ rfl rfl rfl rfl (a_ (C_ rfl rfl) rfl (a_ (g_ rfl) rfl (e_ (b_ rfl (F_ ?_)))))))
        exact aw_ Tryz.results199 () (y_ rfl (by simp [eJ_, *])) (.refl _) (fun _ _ _ => trivial)
      · skip
        refine p_ rfl rfl (a_ (d_ rfl) rfl (p_ rfl rfl (as_ (nI_ _) rfl (.refl _) (fun _ _ _ => trivial) rfl fun r4 hr4 => ?_)))
        refine p_ rfl rfl (a_ (ce_ rfl) rfl (a_ (H_ rfl rfl) rfl (a_ (g_ rfl) rfl (e_ (b_ rfl (F_ ?_))))))
        exact aw_ Tryz.results199 () (y_ rfl (by simp [eJ_, *])) (.refl _) (fun _ _ _ => trivial)
theorem kz_ (s : Str) (hs : s.length ≤ 140737488351232) :
    Fn0 Tryz.prog 193 #[str s] (.bool (cg_ s)) := by
  refine T_ Tryz.func193 rfl rfl Tryz.ntmps193 rfl fun v0 => ?_
  refine h_ (c_ (a_ (g_ rfl) rfl (e_ (b_ rfl (h_ (c_ (a_ (d_ rfl) rfl (a_ (bX_ V_ rfl) rfl (x_ (cG_ rfl rfl) rfl fun r1 hr1 => ?_)))))))))
  refine a_ (d_ rfl) rfl ?_
  cases r1
  · skip
    replace hr1 := of_decide_eq_false hr1
    refine r_ rfl rfl rfl rfl (r_ rfl rfl rfl rfl (r_ rfl rfl rfl rfl (a_ (C_ rfl rfl) rfl (a_ (d_ rfl) rfl (r_ rfl rfl rfl rfl (r_ rfl rfl rfl rfl (r_ rfl rfl rfl rfl (a_ (C_ rfl rfl) rfl (a_ (d_ rfl) rfl ?_)))))))))
    refine r_ rfl rfl rfl rfl (r_ rfl rfl rfl rfl (a_ (C_ rfl rfl) rfl (a_ (g_ rfl) rfl (e_ (b_ rfl (F_ ?_))))))
    exact aw_ Tryz.results193 () (y_ rfl (by subst_vars; rw [Bool.eq_iff_iff]; simp [cg_] <;> simp at * <;> omega)) (.refl _) (fun _ _ _ => trivial)
  · skip
    replace hr1 := of_decide_eq_true hr1
    refine p_ rfl rfl (a_ (d_ rfl) rfl (p_ rfl rfl (a_ (bX_ V_ rfl) rfl (p_ rfl rfl (x_ (cf_ rfl rfl) rfl fun r2 hr2 => ?_)))))
    refine a_ (H_ rfl rfl) rfl (a_ (d_ rfl) rfl ?_)
    cases r2
    · skip
      replace hr2 := of_decide_eq_false hr2
      refine r_ rfl rfl rfl rfl (r_ rfl rfl rfl rfl (r_ rfl rfl rfl rfl (a_ (C_ rfl rfl) rfl (a_ (d_ rfl) rfl (r_ rfl rfl rfl rfl (r_ rfl rfl rfl rfl (a_ (C_ rfl rfl) rfl (a_ (g_ rfl) rfl (e_ ?_)))))))))
      refine b_ rfl (F_ ?_)
      exact aw_ Tryz.results193 () (y_ rfl (by subst_vars; rw [Bool.eq_iff_iff]; simp [cg_] <;> simp at * <;> omega)) (.refl _) (fun _ _ _ => trivial)
    · skip
      replace hr2 := of_decide_eq_true hr2
      obtain ⟨c, t, rfl⟩ := List.exists_cons_of_length_pos (l := s) (by omega)
      refine p_ rfl rfl (a_ (d_ rfl) rfl (p_ rfl rfl (a_ (bL_ V_ rfl rfl (by decide) rfl) rfl (p_ rfl rfl (x_ (aM_ rfl rfl) rfl fun r3 hr3 => ?_)))))
      refine a_ (H_ rfl rfl) rfl (a_ (d_ rfl) rfl ?_)
      cases r3
      · skip
        replace hr3 := ne_of_beq_false hr3
        refine r_ rfl rfl rfl rfl (r_ rfl rfl rfl rfl (a_ (C_ rfl rfl) rfl (a_ (g_ rfl) rfl (e_ (b_ rfl (F_ ?_))))))
        exact aw_ Tryz.results193 () (y_ rfl (by subst_vars; rw [Bool.eq_iff_iff]; simp [cg_] <;> simp at * <;> omega)) (.refl _) (fun _ _ _ => trivial)
      · skip
        replace hr3 := eq_of_beq hr3
        refine p_ rfl rfl (a_ (d_ rfl) rfl (p_ rfl rfl (as_ (lP_ _ (by assumption)) rfl (.refl _) (fun _ _ _ => trivial) rfl fun r4 hr4 => ?_)))
        refine a_ (H_ rfl rfl) rfl (a_ (g_ rfl) rfl (e_ (b_ rfl (F_ ?_))))
        exact aw_ Tryz.results193 () (y_ rfl (by subst_vars; rw [Bool.eq_iff_iff]; simp [cg_] <;> simp at * <;> omega)) (.refl _) (fun _ _ _ => trivial)
theorem ie_ (s : Str) (c : UInt8) : Fn0 Tryz.prog 225 #[str s, str [c]] (.int .i64 (Lib.indexByte s c)) :=
  gb_ (callable Tryz.func225 rfl rfl) fun w => (Tryz.stringslite_Index_one ⟨s.toArray⟩ c w).mono (by rintro e w' ⟨rfl, rfl⟩; exact ⟨rfl, rfl, rfl, rfl, rfl, Nat.le_refl _⟩)
theorem kD_ (s : Str) (c : UInt8) (hk : ixS c s = none) : Fn0 Tryz.prog 225 #[str s, str [c]] (.int .i64 (-1)) := by
  have h := ie_ s c
  rw [iq_, hk] at h
  exact h
theorem kC_ (s : Str) (c : UInt8) (k : Nat) (hk : ixS c s = some k) : Fn0 Tryz.prog 225 #[str s, str [c]] (.int .i64 (k : Int)) := by
  have h := ie_ s c
  rw [iq_, hk] at h
  exact h
theorem nT_ (s : Str) (c : UInt8) (hk : ixS c s = none) :
    Fn0 Tryz.prog 215 #[str s, str [c]] (.tuple #[str s, str [], .bool false]) := by
  refine T_ Tryz.func215 rfl rfl Tryz.ntmps215 rfl fun v0 => ?_
  refine h_ (c_ (a_ (g_ rfl) rfl (a_ (g_ rfl) rfl (a_ (g_ rfl) rfl (e_ (b_ rfl (h_ (h_ (c_ ?_)))))))))
  refine a_ (d_ rfl) rfl (a_ (d_ rfl) rfl (W_ (kD_ s c hk) rfl (.refl _) (fun _ _ _ => trivial) rfl fun _ => ?_))
  refine a_ (g_ rfl) rfl (e_ (b_ rfl (h_ (c_ (a_ (d_ rfl) rfl (x_ (cG_ rfl rfl) rfl fun r1 hr1 => ?_))))))
  refine e_ (b_ rfl ?_)
  cases r1
  · skip
    replace hr1 := of_decide_eq_false hr1
    refine v_ rfl (z_ (b_ rfl (h_ (c_ (a_ (d_ rfl) rfl (a_ (g_ rfl) rfl (a_ (g_ rfl) rfl (a_ (g_ rfl) rfl (e_ ?_)))))))))
    refine b_ rfl (F_ ?_)
    exact pY_ Tryz.results215 () rfl rfl rfl rfl (.refl _) (fun _ _ _ => trivial)
  · skip
    replace hr1 := of_decide_eq_true hr1
    exact absurd hr1 (by decide)
theorem nS_ (s : Str) (c : UInt8) (k : Nat) (hk : ixS c s = some k) (hl : k < s.length) (hs : s.length ≤ 140737488351232) :
    Fn0 Tryz.prog 215 #[str s, str [c]] (.tuple #[str (s.take k), str (s.drop (k + 1)), .bool true]) := by
  refine T_ Tryz.func215 rfl rfl Tryz.ntmps215 rfl fun v0 => ?_
  refine h_ (c_ (a_ (g_ rfl) rfl (a_ (g_ rfl) rfl (a_ (g_ rfl) rfl (e_ (b_ rfl (h_ (h_ (c_ ?_)))))))))
  refine a_ (d_ rfl) rfl (a_ (d_ rfl) rfl (W_ (kC_ s c k hk) rfl (.refl _) (fun _ _ _ => trivial) rfl fun _ => ?_))
  refine a_ (g_ rfl) rfl (e_ (b_ rfl (h_ (c_ (a_ (d_ rfl) rfl (x_ (cG_ rfl rfl) rfl fun r1 hr1 => ?_))))))
  refine e_ (b_ rfl ?_)
  cases r1
  · skip
    replace hr1 := of_decide_eq_false hr1
    exact absurd (by omega) hr1
  · skip
    replace hr1 := of_decide_eq_true hr1
    refine t_ rfl (h_ ?_)
    refine aS_ (by kernel_rfl) ?_
    refine ah_ 0 [0, 1, 2, 3, 4, 5, 6, 7, 8, 9, 10, 11] (by kernel_rfl) (fun _ a b => ⟨a, b⟩) (n_ rfl (d_ rfl) rfl (n_ rfl (d_ rfl) rfl (n_ rfl (du_ (i := 0) (j := k) (kl := .i64) V_ rfl rfl rfl (by omega) (by omega)) rfl (n_ rfl (d_ rfl) rfl (n_ rfl (d_ rfl) rfl (n_ rfl (d_ rfl) rfl (n_ rfl (bX_ V_ rfl) rfl (n_ rfl (M_ rfl rfl rfl (af_ (by simp only [List.length_cons, List.length_nil]; omega) (by simp only [List.length_cons, List.length_nil]; omega))) rfl (n_ rfl (du_ (i := k + 1) (j := s.length) (kh := .i64) V_ rfl rfl rfl (by omega) (by omega)) rfl ?_)))))))))
    refine n_ rfl (g_ rfl) rfl (n_ rfl (g_ rfl) rfl (n_ rfl (g_ rfl) rfl (ag_ (ac_ (by kernel_rfl) (b_ rfl (F_ ?_))))))
    exact pY_ Tryz.results215 () rfl rfl rfl (by simp [List.take_of_length_le]) (.refl _) (fun _ _ _ => trivial)
theorem pp_ (s : Str) (c : UInt8) (hk : ixS c s = none) :
    Fn0 Tryz.prog 198 #[str s, str [c]] (.tuple #[str s, str [], .bool false]) := by
  refine T_ Tryz.func198 rfl rfl Tryz.ntmps198 rfl fun v0 => ?_
  refine h_ (c_ (a_ (g_ rfl) rfl (a_ (g_ rfl) rfl (a_ (g_ rfl) rfl (e_ (b_ rfl (h_ (c_ (a_ (d_ rfl) rfl ?_)))))))))
  refine a_ (d_ rfl) rfl (W_ (nT_ s c hk) rfl (.refl _) (fun _ _ _ => trivial) rfl fun _ => ?_)
  refine a_ (ae_ rfl rfl) rfl (a_ (ae_ rfl rfl) rfl (a_ (ae_ rfl rfl) rfl (a_ (g_ rfl) rfl (a_ (g_ rfl) rfl (a_ (g_ rfl) rfl (e_ (b_ rfl (F_ ?_))))))))
  exact pY_ Tryz.results198 () rfl rfl rfl rfl (.refl _) (fun _ _ _ => trivial)
theorem kB_ (s : Str) (hk : ixS 58 s = none) :
    Fn0 Tryz.prog 176 #[str s] (.bool (dl_ s)) := by
  refine T_ Tryz.func176 rfl rfl Tryz.ntmps176 rfl fun v0 => ?_
  refine h_ (c_ (a_ (g_ rfl) rfl (e_ (b_ rfl (h_ (h_ (c_ (a_ (d_ rfl) rfl (a_ (bX_ V_ rfl) rfl ?_)))))))))
  refine x_ (bR_ rfl rfl) rfl fun r1 hr1 => ?_
  refine e_ (b_ rfl ?_)
  cases r1
  · skip
    replace hr1 := of_decide_eq_false hr1
    refine v_ rfl (z_ (b_ rfl (h_ (c_ (a_ (d_ rfl) rfl (W_ (pp_ s 58 hk) rfl (.refl _) (fun _ _ _ => trivial) rfl fun _ => ?_))))))
    refine a_ (d_ rfl) rfl (a_ (ae_ rfl rfl) rfl (a_ (ae_ rfl rfl) rfl (a_ (ae_ rfl rfl) rfl (a_ (g_ rfl) rfl (a_ (g_ rfl) rfl (a_ (g_ rfl) rfl (e_ (b_ rfl (h_ ?_)))))))))
    refine c_ (a_ (d_ rfl) rfl (as_ (jb_ _ (by first | omega | (simp; omega))) rfl (.refl _) (fun _ _ _ => trivial) rfl fun r2 hr2 => ?_))
    refine a_ (d_ rfl) rfl ?_
    cases r2
    · skip
      refine r_ rfl rfl rfl rfl (r_ rfl rfl rfl rfl (r_ rfl rfl rfl rfl (r_ rfl rfl rfl rfl (r_ rfl rfl rfl rfl (r_ rfl rfl rfl rfl (a_ (C_ rfl rfl) rfl (a_ (g_ rfl) rfl (e_ (b_ rfl ?_)))))))))
      refine F_ ?_
      exact aw_ hO_ () (y_ rfl (by simp [dl_, *] <;> omega)) (.refl _) (fun _ _ _ => trivial)
    · skip
      refine p_ rfl rfl (a_ (d_ rfl) rfl (p_ rfl rfl (a_ (ce_ rfl) rfl (p_ rfl rfl (a_ (d_ rfl) rfl (r_ rfl rfl rfl rfl (r_ rfl rfl rfl rfl (p_ rfl rfl (a_ (H_ rfl rfl) rfl ?_)))))))))
      refine a_ (H_ rfl rfl) rfl (a_ (g_ rfl) rfl (e_ (b_ rfl (F_ ?_))))
      exact aw_ hO_ () (y_ rfl (by simp [dl_, *] <;> omega)) (.refl _) (fun _ _ _ => trivial)
  · skip
    replace hr1 := of_decide_eq_true hr1
    refine t_ rfl (h_ (c_ (a_ (g_ rfl) rfl (e_ (b_ rfl (F_ ?_))))))
    exact aw_ hO_ () (y_ rfl (by simp [dl_, *] <;> omega)) (.refl _) (fun _ _ _ => trivial)
theorem po_ (s : Str) (c : UInt8) (k : Nat) (hk : ixS c s = some k) (hl : k < s.length) (hs : s.length ≤ 140737488351232) :
    Fn0 Tryz.prog 198 #[str s, str [c]] (.tuple #[str (s.take k), str (s.drop (k + 1)), .bool true]) := by
  refine T_ Tryz.func198 rfl rfl Tryz.ntmps198 rfl fun v0 => ?_
  refine h_ (c_ (a_ (g_ rfl) rfl (a_ (g_ rfl) rfl (a_ (g_ rfl) rfl (e_ (b_ rfl (h_ (c_ (a_ (d_ rfl) rfl ?_)))))))))
  refine a_ (d_ rfl) rfl (W_ (nS_ s c k hk hl hs) rfl (.refl _) (fun _ _ _ => trivial) rfl fun _ => ?_)
  refine a_ (ae_ rfl rfl) rfl (a_ (ae_ rfl rfl) rfl (a_ (ae_ rfl rfl) rfl (a_ (g_ rfl) rfl (a_ (g_ rfl) rfl (a_ (g_ rfl) rfl (e_ (b_ rfl (F_ ?_))))))))
  exact pY_ Tryz.results198 () rfl rfl rfl rfl (.refl _) (fun _ _ _ => trivial)
theorem kA_ (s : Str) (k : Nat) (hk : ixS 58 s = some k) (hl : k < s.length) :
    Fn0 Tryz.prog 176 #[str s] (.bool (dl_ s)) := by
  refine T_ Tryz.func176 rfl rfl Tryz.ntmps176 rfl fun v0 => ?_
  refine h_ (c_ (a_ (g_ rfl) rfl (e_ (b_ rfl (h_ (h_ (c_ (a_ (d_ rfl) rfl (a_ (bX_ V_ rfl) rfl ?_)))))))))
  refine x_ (bR_ rfl rfl) rfl fun r1 hr1 => ?_
  refine e_ (b_ rfl ?_)
  cases r1
  · skip
    replace hr1 := of_decide_eq_false hr1
    refine v_ rfl (z_ (b_ rfl (h_ (c_ (a_ (d_ rfl) rfl (W_ (po_ s 58 k hk hl (by omega)) rfl (.refl _) (fun _ _ _ => trivial) rfl fun _ => ?_))))))
    refine a_ (d_ rfl) rfl (a_ (ae_ rfl rfl) rfl (a_ (ae_ rfl rfl) rfl (a_ (ae_ rfl rfl) rfl (a_ (g_ rfl) rfl (a_ (g_ rfl) rfl (a_ (g_ rfl) rfl (e_ (b_ rfl (h_ ?_)))))))))
    refine c_ (a_ (d_ rfl) rfl (as_ (jb_ _ (by first | omega | (simp; omega))) rfl (.refl _) (fun _ _ _ => trivial) rfl fun r2 hr2 => ?_))
    refine a_ (d_ rfl) rfl ?_
    cases r2
    · skip
      refine r_ rfl rfl rfl rfl (r_ rfl rfl rfl rfl (r_ rfl rfl rfl rfl (r_ rfl rfl rfl rfl (r_ rfl rfl rfl rfl (r_ rfl rfl rfl rfl (a_ (C_ rfl rfl) rfl (a_ (g_ rfl) rfl (e_ (b_ rfl ?_)))))))))
      refine F_ ?_
      exact aw_ hO_ () (y_ rfl (by simp [dl_, *] <;> omega)) (.refl _) (fun _ _ _ => trivial)
    · skip
      refine p_ rfl rfl (a_ (d_ rfl) rfl (p_ rfl rfl (a_ (ce_ rfl) rfl (p_ rfl rfl (a_ (d_ rfl) rfl (p_ rfl rfl (a_ (d_ rfl) rfl (p_ rfl rfl (as_ (jb_ _ (by first | omega | (simp; omega))) rfl (.refl _) (fun _ _ _ => trivial) rfl fun r3 hr3 => ?_)))))))))
      refine p_ rfl rfl (a_ (C_ rfl rfl) rfl (a_ (H_ rfl rfl) rfl (a_ (g_ rfl) rfl (e_ (b_ rfl (F_ ?_))))))
      exact aw_ hO_ () (y_ rfl (by simp [dl_, *] <;> omega)) (.refl _) (fun _ _ _ => trivial)
  · skip
    replace hr1 := of_decide_eq_true hr1
    refine t_ rfl (h_ (c_ (a_ (g_ rfl) rfl (e_ (b_ rfl (F_ ?_))))))
    exact aw_ hO_ () (y_ rfl (by simp [dl_, *] <;> omega)) (.refl _) (fun _ _ _ => trivial)
theorem nO_ (s : Str) : Fn0 Tryz.prog 176 #[str s] (.bool (dl_ s)) := by
  cases hk : ixS 58 s with
  | none => exact kB_ s hk
  | some k => exact kA_ s k hk (ms_ hk)
theorem lX_ (s : Str) (hs : s.length ≤ 140737488351232) :
    Fn0 Tryz.prog 164 #[str s] (.int .i64 (if bc_ s then 0 else 20)) := by
  refine T_ Tryz.func164 rfl rfl Tryz.ntmps164 rfl fun v0 => ?_
  refine h_ (c_ (a_ (g_ rfl) rfl (e_ (b_ rfl (h_ (h_ (c_ (a_ (d_ rfl) rfl (as_ (nO_ _) rfl (.refl _) (fun _ _ _ => trivial) rfl fun r1 hr1 => ?_)))))))))
  refine a_ (d_ rfl) rfl ?_
  cases r1
  · skip
    refine p_ rfl rfl (a_ (d_ rfl) rfl (p_ rfl rfl (as_ (kz_ _ hs) rfl (.refl _) (fun _ _ _ => trivial) rfl fun r2 hr2 => ?_)))
    refine a_ (C_ rfl rfl) rfl (e_ (b_ rfl ?_))
    cases r2
    · skip
      refine v_ rfl (z_ (b_ rfl (h_ (c_ (a_ (g_ rfl) rfl (e_ (b_ rfl (F_ ?_))))))))
      exact aw_ Tryz.results164 () (cm_ rfl (by simp [bc_, *])) (.refl _) (fun _ _ _ => trivial)
    · skip
      refine t_ rfl (h_ (c_ (a_ (g_ rfl) rfl (e_ (b_ rfl (F_ ?_))))))
      exact aw_ Tryz.results164 () (cm_ rfl (by simp [bc_, *])) (.refl _) (fun _ _ _ => trivial)
  · skip
    refine r_ rfl rfl rfl rfl (r_ rfl rfl rfl rfl (a_ (H_ rfl rfl) rfl (e_ (b_ rfl (t_ rfl (h_ (c_ (a_ (g_ rfl) rfl (e_ ?_)))))))))
    refine b_ rfl (F_ ?_)
    exact aw_ Tryz.results164 () (cm_ rfl (by simp [bc_, *])) (.refl _) (fun _ _ _ => trivial)
theorem eb_ (s : Str) (hs : s.length ≤ 140737488351232) :
    Fn0 Tryz.prog 126 #[str s] (.bool (bc_ s)) := by
  refine T_ Tryz.func126 rfl rfl Tryz.ntmps126 rfl fun v0 => ?_
  refine h_ (c_ (a_ (g_ rfl) rfl (e_ (b_ rfl (h_ (c_ (a_ (d_ rfl) rfl (W_ (lX_ s hs) rfl (.refl _) (fun _ _ _ => trivial) rfl fun _ => ?_))))))))
  refine x_ (aM_ rfl rfl) rfl fun r1 hr1 => ?_
  refine a_ (g_ rfl) rfl (e_ (b_ rfl (F_ ?_)))
  exact aw_ Tryz.results126 () (y_ rfl (by subst_vars; cases bc_ s <;> rfl)) (.refl _) (fun _ _ _ => trivial)
end Go.Proofs.YtpdbbglpbngeiaaGreatDoor
namespace Go.Proofs.YtpdbbglpbngeiaaGreatDoor
open Go Go.Sx Go.Proofs
attribute [local irreducible] Code.wp wpList wpAnyH
open Go.Vs
def gP_ : Fct := az_ (some ⟨0, 0, none⟩) (oU_.flatMap NUse.cells)
end Go.Proofs.YtpdbbglpbngeiaaGreatDoor
namespace Go.Proofs.YtpdbbglpbngeiaaGreatDoor
open Go Go.Sx Go.Proofs
attribute [local irreducible] Code.wp wpList wpAnyH
open Go.Vs
theorem eqPc (p q : Pc) (w : World) : (Op.equalIn 10000 47 p.val q.val).run Tryz.prog w = .ok (decide (p = q)) w := by
  have h := run_equalIn_struct (P := Tryz.prog) w 9999 47 p.cells.toArray q.cells.toArray (by simp only [Program.fieldsOf, jN_]) Tryz.stoodInHeld47
  refine h.trans ?_
  rw [← Pc.eqb_eq]
  simp only [Program.fieldsOf, jN_]
  exact cq_ rfl P_ rfl rfl (eqI bS_ w) (cq_ rfl q_ rfl rfl (eqS bB_ w) (cq_ rfl q_ rfl rfl (eqS bB_ w) (cq_ rfl q_ rfl rfl (eqS bB_ w) (cq_ rfl q_ rfl rfl (eqS bB_ w) (cq_ rfl q_ rfl rfl (eqS bB_ w) (cq_ rfl q_ rfl rfl (eqS bB_ w) (cq_ rfl P_ rfl rfl (eqI bS_ w) (cq_ rfl P_ rfl rfl (eqI bS_ w) (cq_ rfl P_ rfl rfl (eqI bS_ w) (ir_ w))))))))))
theorem eqFc (p q : Fc) (w : World) : (Op.equalIn 10000 41 p.val q.val).run Tryz.prog w = .ok (decide (p = q)) w := by
  have h := run_equalIn_struct (P := Tryz.prog) w 9999 41 p.cells.toArray q.cells.toArray (by simp only [Program.fieldsOf, Tryz.underlying41]) Tryz.stoodInHeld41
  refine h.trans ?_
  rw [← Fc.eqb_eq]
  simp only [Program.fieldsOf, Tryz.underlying41]
  exact cq_ rfl P_ rfl rfl (eqI bS_ w) (cq_ rfl q_ rfl rfl (eqS bB_ w) (cq_ rfl q_ rfl rfl (eqS bB_ w) (cq_ rfl q_ rfl rfl (eqS bB_ w) (cq_ rfl P_ rfl rfl (eqI bS_ w) (cq_ rfl P_ rfl rfl (eqI bS_ w) (ir_ w))))))
theorem keyPc (p : Pc) : gS_ Tryz.prog 47 p.val := fun e w => by
  have hi : ∀ (n : Int) (w : World), (Instr.checkKey e (9998 + 1) 3 (.int .i64 n)).run Tryz.prog w = .ok () w := fun n w => MapKept.run_checkKey (d := .int .i64) bS_ (by simp [MapKept.IsKey]) e 9998
  have hs : ∀ (n : Str) (w : World), (Instr.checkKey e (9998 + 1) 9 (str n)).run Tryz.prog w = .ok () w := fun n w => MapKept.run_checkKey (d := .string) bB_ (by simp [MapKept.IsKey, str]) e 9998
  refine ckF (n := 9999) jN_ fun f hf => ?_
  simp only [List.mem_cons, List.not_mem_nil, or_false] at hf
  rcases hf with rfl | rfl | rfl | rfl | rfl | rfl | rfl | rfl | rfl | rfl
  · exact ⟨rfl, P_, _, rfl, hi _⟩
  · exact ⟨rfl, q_, _, rfl, hs _⟩
  · exact ⟨rfl, q_, _, rfl, hs _⟩
  · exact ⟨rfl, q_, _, rfl, hs _⟩
  · exact ⟨rfl, q_, _, rfl, hs _⟩
  · exact ⟨rfl, q_, _, rfl, hs _⟩
  · exact ⟨rfl, q_, _, rfl, hs _⟩
  · exact ⟨rfl, P_, _, rfl, hi _⟩
  · exact ⟨rfl, P_, _, rfl, hi _⟩
  · exact ⟨rfl, P_, _, rfl, hi _⟩
theorem ko_ : kR_ Tryz.prog 47 [(0, 1), (1, 1), (2, 1), (3, 1), (4, 1), (5, 1), (6, 1), (7, 1), (8, 1), (9, 1)] [.int .i64 0, str [], str [], str [], str [], str [], str [], .int .i64 0, .int .i64 0, .int .i64 0] := ⟨_, aX_, k_, fun w => by simp [L_, j_]⟩
theorem hL_ : kR_ Tryz.prog 41 [(0, 1), (1, 1), (2, 1), (3, 1), (4, 1), (5, 1)] [.int .i64 0, str [], str [], str [], .int .i64 0, .int .i64 0] := ⟨_, ak_, o_, fun w => by simp [L_, j_]⟩
end Go.Proofs.YtpdbbglpbngeiaaGreatDoor
namespace Go.Proofs.YtpdbbglpbngeiaaGreatDoor
open Go Go.Sx Go.Proofs
attribute [local irreducible] Code.wp wpList wpAnyH
open Go.Vs
theorem dX_ {N : Nat} {fr : Fr} {H : Hp} {Γ : List Fct} {ty t' : TypeId} {x y : Operand} {p q : Pc} (hx : Fr.ev fr x = some p.val) (hy : Fr.ev fr y = some q.val) : Yld Tryz.prog N fr H Γ (.binOp .eql 47 x y t') ty (.bool (decide (p = q))) :=
  fun a v h1 _ _ _ _ _ => by
    have hg : (Program.eqGuardType Tryz.prog Tryz.prog.depth 47) = false := by kernel_rfl
    have he := eqPc p q v.w
    simp only [execOp, h1.ev hx, h1.ev hy, eqGuard, Pc.val, binOp, Op.equal, Sem.run_bind, Result.andThen_ok]
    simp only [run_program, Result.andThen_ok, hg, Bool.not_false, if_true, Sem.run_pure]
    simp only [Pc.val] at he
    simp [Op.maxDepth, he]
theorem nl_ {N : Nat} {fr : Fr} {H : Hp} {Γ : List Fct} {ty t' : TypeId} {x y : Operand} {p q : Pc} (hx : Fr.ev fr x = some p.val) (hy : Fr.ev fr y = some q.val) : Yld Tryz.prog N fr H Γ (.binOp .neq 47 x y t') ty (.bool (decide (p ≠ q))) :=
  fun a v h1 _ _ _ _ _ => by
    have hg : (Program.eqGuardType Tryz.prog Tryz.prog.depth 47) = false := by kernel_rfl
    have he := eqPc p q v.w
    simp only [execOp, h1.ev hx, h1.ev hy, eqGuard, Pc.val, binOp, Op.equal, Sem.run_bind, Result.andThen_ok]
    simp only [run_program, Result.andThen_ok, hg, Bool.not_false, if_true, Sem.run_pure]
    simp only [Pc.val] at he
    simp [Op.maxDepth, he]
theorem jJ_ {N : Nat} {fr : Fr} {H : Hp} {Γ : List Fct} {ty t' : TypeId} {x y : Operand} {p q : Fc} (hx : Fr.ev fr x = some p.val) (hy : Fr.ev fr y = some q.val) : Yld Tryz.prog N fr H Γ (.binOp .eql 41 x y t') ty (.bool (decide (p = q))) :=
  fun a v h1 _ _ _ _ _ => by
    have hg : (Program.eqGuardType Tryz.prog Tryz.prog.depth 41) = false := by kernel_rfl
    have he := eqFc p q v.w
    simp only [execOp, h1.ev hx, h1.ev hy, eqGuard, Fc.val, binOp, Op.equal, Sem.run_bind, Result.andThen_ok]
    simp only [run_program, Result.andThen_ok, hg, Bool.not_false, if_true, Sem.run_pure]
    simp only [Fc.val] at he
    simp [Op.maxDepth, he]
theorem eW_ {N : Nat} {fr : Fr} {H : Hp} {Γ : List Fct} {ty t' : TypeId} {x y : Operand} {p q : Fc} (hx : Fr.ev fr x = some p.val) (hy : Fr.ev fr y = some q.val) : Yld Tryz.prog N fr H Γ (.binOp .neq 41 x y t') ty (.bool (decide (p ≠ q))) :=
  fun a v h1 _ _ _ _ _ => by
    have hg : (Program.eqGuardType Tryz.prog Tryz.prog.depth 41) = false := by kernel_rfl
    have he := eqFc p q v.w
    simp only [execOp, h1.ev hx, h1.ev hy, eqGuard, Fc.val, binOp, Op.equal, Sem.run_bind, Result.andThen_ok]
    simp only [run_program, Result.andThen_ok, hg, Bool.not_false, if_true, Sem.run_pure]
    simp only [Fc.val] at he
    simp [Op.maxDepth, he]
theorem kr_ (s : Str) (c : UInt8) : Fn0 Tryz.prog 212 #[str s, str [c]] (.int .i64 (Lib.indexByte s c)) :=
  gb_ (callable Tryz.func212 rfl rfl) fun w => (Tryz.strings_Index_one ⟨s.toArray⟩ c w).mono (by rintro e w' ⟨rfl, rfl⟩; exact ⟨rfl, rfl, rfl, rfl, rfl, Nat.le_refl _⟩)
theorem jB_ (s : Str) (c : UInt8) (k : Nat) (hk : ixS c s = some k) : Fn0 Tryz.prog 212 #[str s, str [c]] (.int .i64 (k : Int)) := by
  have h := kr_ s c
  rw [iq_, hk] at h
  exact h
theorem ow_ (s : Str) (c : UInt8) : Fn0 Tryz.prog 211 #[str s, str [c]] (.int .i64 (dN_ c s : Int)) :=
  gb_ (callable Tryz.func211 rfl rfl) fun w => (Tryz.strings_Count_one ⟨s.toArray⟩ c w).mono (by rintro e w' ⟨rfl, rfl⟩; exact ⟨rfl, rfl, rfl, rfl, rfl, Nat.le_refl _⟩)
theorem ok_H {N : Nat} {v0 : Vw} {H0 : Hp} {k : Act → World → Prop} {fr : Fr} {H H' : Hp} {Γ : List Fct} (e : H = H') (h : Ok N v0 H0 k fr H' Γ) : Ok N v0 H0 k fr H Γ := e ▸ h
theorem mx_ (s : Str) (c : UInt8) (hs : s.length ≤ 17592186044414) : Tri Tryz.prog 191 #[str s, str [c], .int .i64 0, .int .i64 (-1)] [] [] (fun b : Nat => .slice (some ⟨b, 0, none⟩) (bP_ c s).length (bP_ c s).length) (fun _ => []) (fun b => [az_ (some ⟨b, 0, none⟩) ((bP_ c s).flatMap aO_)]) := by
 have hcl := is_ c s
 refine T_ Tryz.func191 rfl rfl Tryz.ntmps191 rfl fun v0 => ?_
 refine h_ (c_ (a_ (g_ rfl) rfl (e_ (b_ rfl (h_ (h_ (c_ (a_ (d_ rfl) rfl (x_ (aM_ rfl rfl) rfl fun r1 hr1 => ?_)))))))))
 refine e_ (b_ rfl ?_)
 cases r1
 ·
  replace hr1 := ne_of_beq_false hr1
  refine v_ rfl (z_ (b_ rfl (h_ (h_ (c_ (a_ (d_ rfl) rfl (x_ (aq_ rfl rfl) rfl fun r2 hr2 => ?_)))))))
  refine e_ (b_ rfl ?_)
  cases r2
  ·
   replace hr2 := ne_of_beq_false hr2
   refine v_ rfl (z_ (b_ rfl (h_ (h_ (c_ (a_ (d_ rfl) rfl (x_ (av_ rfl rfl) rfl fun r3 hr3 => ?_)))))))
   refine e_ (b_ rfl ?_)
   cases r3
   ·
    replace hr3 := of_decide_eq_false hr3
    exact absurd (by decide) hr3
   ·
    replace hr3 := of_decide_eq_true hr3
    refine t_ rfl (c_ (a_ (d_ rfl) rfl (a_ (d_ rfl) rfl (W_ (ow_ s c) rfl (.refl _) (fun _ _ _ => trivial) rfl fun _ => ?_))))
    refine a_ (M_ rfl rfl rfl (af_ (by omega) (by omega))) rfl (a_ (g_ rfl) rfl (e_ (b_ rfl (h_ (c_ (a_ (d_ rfl) rfl (a_ (d_ rfl) rfl (a_ (bX_ V_ rfl) rfl (a_ (M_ rfl rfl rfl (af_ (by omega) (by omega))) rfl ?_)))))))))
    refine a_ (bC_ (mH_ rfl rfl) (show _ = Value.int .i64 ((dN_ c s + 1 : Nat) : Int) by rw [if_neg (by omega)]; rfl)) rfl (a_ (g_ rfl) rfl (e_ (b_ rfl (h_ (c_ (a_ (d_ rfl) rfl (nF_ (n := dN_ c s + 1) (by' := 16) jO_ (z := .string ⟨#[]⟩) (by kernel_rfl) rfl rfl rfl (by omega) (by omega) rfl fun b1 => ?_)))))))
    refine a_ (g_ rfl) rfl (e_ (b_ rfl (h_ (c_ (a_ (d_ rfl) rfl (a_ (bC_ (M_ rfl rfl rfl (af_ (by omega) (by omega))) (show _ = Value.int .i64 (dN_ c s : Int) by first | rfl | (congr 1; omega))) rfl (a_ (g_ rfl) rfl (e_ (b_ rfl ?_)))))))))
    refine h_ (c_ (a_ (g_ rfl) rfl (e_ (b_ rfl (h_ (R_ (ds_ [(0, str s), (1, str [c]), (2, .int .i64 0), (3, .int .i64 (dN_ c s : Int)), (9, .slice (some ⟨b1, 0, none⟩) (dN_ c s + 1) (dN_ c s + 1)), (10, .int .i64 ((0 : Nat) : Int))] ⟨rfl, rfl, rfl, rfl, rfl, rfl, trivial⟩ ?_)))))))
    refine dq_ (ι := {x : Nat × List Str × Str // x.2.1.length = x.1 ∧ bP_ c s = x.2.1 ++ bP_ c x.2.2 ∧ x.1 + dN_ c x.2.2 = dN_ c s ∧ x.2.2.length ≤ s.length}) (fun x => [(0, str x.1.2.2), (1, str [c]), (2, .int .i64 0), (3, .int .i64 (dN_ c s : Int)), (9, .slice (some ⟨b1, 0, none⟩) (dN_ c s + 1) (dN_ c s + 1)), (10, .int .i64 (x.1.1 : Int))]) (fun x => [(b1, .cells (x.1.2.1.map str ++ List.replicate (dN_ c s + 1 - x.1.1) (Value.string ⟨#[]⟩)).toArray 9 (0, 0))]) (fun _ => _) (fun x => dN_ c s - x.1.1) ⟨(0, [], s), rfl, rfl, by simp, by simp⟩ ?_
    rintro ⟨⟨i, dn, r⟩, hk⟩
    dsimp only at hk
    obtain ⟨hk1, hk2, hk3, hk4⟩ := hk
    refine ds_ [(0, str r), (1, str [c]), (2, .int .i64 0), (3, .int .i64 (dN_ c s : Int)), (9, .slice (some ⟨b1, 0, none⟩) (dN_ c s + 1) (dN_ c s + 1)), (10, .int .i64 (i : Int))] ⟨rfl, rfl, rfl, rfl, rfl, rfl, trivial⟩ ?_
    have hrep : ∀ k, k < dN_ c s + 1 → List.replicate (dN_ c s + 1 - k) (Value.string ⟨#[]⟩) = Value.string ⟨#[]⟩ :: List.replicate (dN_ c s - k) (Value.string ⟨#[]⟩) := fun k hk => by rw [show dN_ c s + 1 - k = (dN_ c s - k) + 1 by omega]; rfl
    refine ok_H (H' := [(b1, .cells (dn.map str ++ Value.string ⟨#[]⟩ :: List.replicate (dN_ c s - i) (Value.string ⟨#[]⟩)).toArray 9 (0, 0))]) (by dsimp only; rw [hrep i (by omega)]) ?_
    refine h_ (h_ (c_ (a_ (d_ rfl) rfl (a_ (d_ rfl) rfl (x_ (av_ rfl rfl) rfl fun r4 hr4 => ?_)))))
    refine e_ (b_ rfl ?_)
    cases r4
    ·
     replace hr4 := of_decide_eq_false hr4
     obtain rfl : i = dN_ c s := by omega
     have hr0 : bP_ c r = [r] := by
            cases hx : ixS c r with
            | none => exact fi_ hx
            | some k => have := kl_ hx; omega
     rw [hr0] at hk2
     refine v_ rfl (au_ rfl (b_ rfl (h_ (c_ (a_ (d_ rfl) rfl (a_ (d_ rfl) rfl (a_ (d_ rfl) rfl (a_ (fw_ D_ j_ rfl rfl (by omega) (by omega)) rfl (iR_ 0 j_ rfl rfl rfl (by simp [hk1]) rfl rfl ?_)))))))))
     refine e_ (b_ rfl (h_ (c_ (a_ (d_ rfl) rfl (a_ (d_ rfl) rfl (a_ (bC_ (M_ rfl rfl rfl (af_ (by omega) (by omega))) (show _ = Value.int .i64 ((dN_ c s + 1 : Nat) : Int) by first | rfl | (congr 1; omega))) rfl (a_ (bC_ (cj_ (i := 0) (j := dN_ c s + 1) (kl := .i64) (kh := .i64) D_ j_ rfl rfl rfl (by omega) (by omega)) (show _ = Value.slice (some ⟨b1, 0, none⟩) (dN_ c s + 1) (dN_ c s + 1) by rw [li_]; rfl)) rfl (a_ (g_ rfl) rfl (e_ ?_)))))))))
     refine b_ rfl (F_ (bz_ ((bP_ c s).flatMap aO_) i_ (by rw [hk2, hl_]; simp) ?_))
     have hl := dR_ c s
     exact aw_ Tryz.results191 b1 (bU_ rfl (by rw [hl])) (.refl _) (fun v _ h => ⟨h.1, trivial⟩)
    ·
     replace hr4 := of_decide_eq_true hr4
     obtain ⟨k, hix⟩ : ∃ k, ixS c r = some k := by
            cases hx : ixS c r with
            | none => have := nV_ hx; omega
            | some k => exact ⟨k, rfl⟩
     have hcs := kl_ hix
     have hkl := ms_ hix
     refine t_ rfl (z_ (b_ rfl (R_ (h_ (c_ (a_ (d_ rfl) rfl (a_ (d_ rfl) rfl (W_ (jB_ r c k hix) rfl (.refl _) (fun _ _ _ => trivial) rfl fun _ => ?_))))))))
     refine a_ (g_ rfl) rfl (e_ (b_ rfl (h_ (h_ (c_ (a_ (d_ rfl) rfl (x_ (av_ rfl rfl) rfl fun r5 hr5 => ?_)))))))
     refine e_ (b_ rfl ?_)
     cases r5
     ·
      replace hr5 := of_decide_eq_false hr5
      refine v_ rfl (z_ (b_ rfl (h_ (c_ (a_ (d_ rfl) rfl (a_ (d_ rfl) rfl (a_ (d_ rfl) rfl (a_ (d_ rfl) rfl (a_ (d_ rfl) rfl ?_)))))))))
      refine a_ (bC_ (M_ rfl rfl rfl (af_ (by omega) (by omega))) (show _ = Value.int .i64 (k : Int) by first | rfl | (congr 1; omega))) rfl (a_ (bC_ (du_ (i := 0) (j := k) (kl := .i64) (kh := .i64) V_ rfl rfl rfl (by omega) (by omega)) (show _ = str (r.take k) by simp)) rfl (a_ (fw_ D_ j_ rfl rfl (by omega) (by omega)) rfl (iR_ 0 j_ rfl rfl rfl (by simp [hk1]) rfl rfl (e_ (b_ rfl (h_ (c_ (a_ (d_ rfl) rfl (a_ (d_ rfl) rfl ?_)))))))))
      refine a_ (d_ rfl) rfl (a_ (bX_ V_ rfl) rfl (a_ (bC_ (M_ rfl rfl rfl (af_ (by simp only [List.length_cons, List.length_nil]; omega) (by simp only [List.length_cons, List.length_nil]; omega))) (show _ = Value.int .i64 ((k + 1 : Nat) : Int) by first | rfl | (congr 1; omega))) rfl (a_ (bC_ (du_ (i := k + 1) (j := r.length) (kl := .i64) (kh := .i64) V_ rfl rfl rfl (by omega) (by omega)) (show _ = str (r.drop (k + 1)) by rw [List.take_of_length_le (by simp)])) rfl (a_ (g_ rfl) rfl (e_ (b_ rfl (c_ (a_ (d_ rfl) rfl (a_ (bC_ (M_ rfl rfl rfl (af_ (by omega) (by omega))) (show _ = Value.int .i64 ((i + 1 : Nat) : Int) by first | rfl | (congr 1; omega))) rfl ?_)))))))))
      refine a_ (g_ rfl) rfl (e_ (w_ rfl ?_))
      exact Z_ ⟨(i + 1, dn ++ [r.take k], r.drop (k + 1)), by simp [hk1], by rw [hk2, fh_ hix, List.append_assoc]; rfl, by dsimp only; omega, by simp; omega⟩ (by dsimp only; omega) ⟨rfl, rfl, rfl, rfl, rfl, rfl, trivial⟩ (F := []) (List.Perm.of_eq (by simp [show dN_ c s + 1 - (i + 1) = dN_ c s - i by omega])) (fun _ _ h => h)
     ·
      replace hr5 := of_decide_eq_true hr5
      exfalso; omega
  ·
   replace hr2 := eq_of_beq hr2
   cases hr2
 ·
  replace hr1 := eq_of_beq hr1
  exact absurd hr1 (by decide)
theorem pN_ (s : Str) (c : UInt8) (hs : s.length ≤ 17592186044414) : Tri Tryz.prog 161 #[str s, str [c]] [] [] (fun b : Nat => .slice (some ⟨b, 0, none⟩) (bP_ c s).length (bP_ c s).length) (fun _ => []) (fun b => [az_ (some ⟨b, 0, none⟩) ((bP_ c s).flatMap aO_)]) := by
  refine T_ Tryz.func161 rfl rfl Tryz.ntmps161 rfl fun v0 => ?_
  refine h_ (c_ (a_ (g_ rfl) rfl (e_ (b_ rfl (h_ (c_ (a_ (d_ rfl) rfl (a_ (d_ rfl) rfl (W_ (mx_ s c hs) rfl (.refl _) (fun _ _ _ => trivial) rfl fun b => ?_)))))))))
  refine a_ (g_ rfl) rfl (e_ (b_ rfl (F_ ?_)))
  exact aw_ Tryz.results161 b rfl (.refl _) (fun v _ h => ⟨h.1, trivial⟩)
end Go.Proofs.YtpdbbglpbngeiaaGreatDoor
namespace Go.Proofs.YtpdbbglpbngeiaaGreatDoor
open Go Go.Sx Go.Proofs
attribute [local irreducible] Code.wp wpList wpAnyH
open Go.Vs
theorem kE_ {g : FuncId} {pred : Str → Bool} (xs : List Str) (ad : Option Addr) (cap : Nat) (hlen : xs.length ≤ 17592186044415) (hT : ∀ x ∈ xs, Fn0 Tryz.prog g #[str x] (.bool (pred x))) :
    Tri Tryz.prog 192 #[.slice ad (List.length xs) cap, .func (.func g) #[] #[]] [] [az_ ad (List.flatMap aO_ xs)] (fun r : {r : Int // decide (0 ≤ r) = xs.any pred} => .int .i64 r.1) (fun _ => []) (fun _ => []) := by
  refine T_ Tryz.func192 rfl rfl Tryz.ntmps192 rfl fun v0 => ?_
  refine h_ (c_ (a_ (g_ rfl) rfl (e_ (b_ rfl (h_ (h_ (c_ (a_ (d_ rfl) rfl (a_ (am_ D_ rfl) rfl ?_)))))))))
  refine a_ (d_ rfl) rfl (e_ (b_ rfl (R_ (ds_ [(0, .slice ad (List.length xs) cap), (1, .func (.func g) #[] #[]), (7, .int .i64 (List.length xs : Int)), (8, .int .i64 ((0 : Nat) : Int))] ⟨rfl, rfl, rfl, rfl, trivial⟩ ?_))))
  refine dq_ (ι := {q : Nat // q ≤ xs.length ∧ (xs.take q).any pred = false}) (fun i => [(0, .slice ad (List.length xs) cap), (1, .func (.func g) #[] #[]), (7, .int .i64 (List.length xs : Int)), (8, .int .i64 (i.1 : Int))]) (fun _ => _) (fun _ => _) (fun i => xs.length - i.1) ⟨0, by simp⟩ ?_
  rintro ⟨i, hk⟩
  refine ds_ [(0, .slice ad (List.length xs) cap), (1, .func (.func g) #[] #[]), (7, .int .i64 (List.length xs : Int)), (8, .int .i64 (i : Int))] ⟨rfl, rfl, rfl, rfl, trivial⟩ ?_
  refine h_ (c_ (x_ (av_ rfl rfl) rfl fun r1 hr1 => ?_))
  refine e_ (b_ rfl (h_ ?_))
  cases r1
  · skip
    replace hr1 := of_decide_eq_false hr1
    refine v_ rfl (au_ rfl (b_ rfl (h_ (c_ (a_ (g_ rfl) rfl (e_ (b_ rfl (F_ ?_))))))))
    exact aw_ Tryz.results192 ⟨-1, by have := hk.2; rw [List.take_of_length_le (by omega)] at this; show _ = xs.any pred; rw [this]; rfl⟩ rfl (.refl _) (fun _ _ _ => trivial)
  · skip
    replace hr1 := of_decide_eq_true hr1
    have hlx1 : i < List.length xs := by omega
    obtain ⟨x1, hx1⟩ : ∃ e0, xs[i]? = some e0 := ⟨_, List.getElem?_eq_getElem hlx1⟩
    have hmx1 : x1 ∈ xs := List.mem_of_getElem? hx1
    refine t_ rfl (z_ (b_ rfl (h_ (R_ (h_ (c_ (a_ (d_ rfl) rfl (a_ (g_ rfl) rfl (e_ ?_)))))))))
    refine b_ rfl (h_ (c_ (a_ (d_ rfl) rfl (a_ (d_ rfl) rfl (a_ (d_ rfl) rfl (a_ (aa_ D_ j_ rfl rfl (fun v _ h => ay_ (n := 1) at_ (by decide) (by exact h.1) hx1) (by omega) (by first | omega | (simp; done))) rfl (a_ (aN_ (ad := ad) q_ rfl (fun v _ h => by exact h.1) (ad_ at_ hx1 0 _ rfl)) rfl (cv_ (hT x1 hmx1) rfl rfl I_ (fun _ _ _ => by exact trivial) rfl fun r2 hr2 => ?_))))))))
    refine e_ (b_ rfl ?_)
    cases r2
    · skip
      refine v_ rfl (z_ (b_ rfl (c_ (a_ (M_ rfl rfl rfl (af_ (by omega) (by omega))) rfl (a_ (d_ rfl) rfl (e_ (w_ rfl ?_)))))))
      exact Z_ ⟨i + 1, hlx1, by rw [List.take_add_one, hx1]; simp only [Option.toList_some, List.any_append, hk.2]; simp [*]⟩ (by simp; omega) ⟨rfl, rfl, rfl, rfl, trivial⟩ (.refl _) (fun _ _ h => h)
    · skip
      refine t_ rfl (h_ (c_ (a_ (d_ rfl) rfl (a_ (g_ rfl) rfl (e_ (b_ rfl (F_ ?_)))))))
      exact aw_ Tryz.results192 ⟨(i : Int), by show _ = xs.any pred; rw [show xs.any pred = true from List.any_eq_true.2 ⟨x1, hmx1, by assumption⟩]; exact decide_eq_true (by omega)⟩ rfl (.refl _) (fun _ _ _ => trivial)
theorem ik_ {g : FuncId} {pred : Str → Bool} (xs : List Str) (ad : Option Addr) (cap : Nat) (hlen : xs.length ≤ 17592186044415) (hT : ∀ x ∈ xs, Fn0 Tryz.prog g #[str x] (.bool (pred x))) :
    Tri Tryz.prog 162 #[.slice ad (List.length xs) cap, .func (.func g) #[] #[]] [] [az_ ad (List.flatMap aO_ xs)] (fun _ : Unit => .bool (xs.any pred)) (fun _ => []) (fun _ => []) := by
  refine T_ Tryz.func162 rfl rfl Tryz.ntmps162 rfl fun v0 => ?_
  refine h_ (c_ (a_ (g_ rfl) rfl (e_ (b_ rfl (h_ (c_ (a_ (d_ rfl) rfl (a_ (d_ rfl) rfl (W_ (kE_ xs ad cap hlen hT) rfl I_ (fun v _ h => by exact ⟨h.1, trivial⟩) rfl fun x => ?_)))))))))
  refine x_ (cG_ rfl rfl) rfl fun r1 hr1 => ?_
  refine a_ (g_ rfl) rfl (e_ (b_ rfl (F_ ?_)))
  exact aw_ Tryz.results162 () (y_ rfl (hr1.symm.trans x.2)) (.refl _) (fun _ _ _ => trivial)
theorem nN_ (s : Str) (hs : s.length ≤ 140737488351232) : Fn0 Tryz.prog 163 #[str s] (.bool (!bc_ s)) := by
  refine T_ Tryz.func163 rfl rfl Tryz.ntmps163 rfl fun v0 => ?_
  refine h_ (c_ (a_ (g_ rfl) rfl (e_ (b_ rfl (h_ (c_ (a_ (d_ rfl) rfl (as_ (eb_ s hs) rfl I_ (fun _ _ _ => by exact trivial) rfl fun r1 hr1 => ?_))))))))
  refine a_ (ce_ rfl) rfl (a_ (g_ rfl) rfl (e_ (b_ rfl (F_ ?_))))
  exact aw_ Tryz.results163 () (y_ rfl (by simp [*])) (.refl _) (fun _ _ _ => trivial)
theorem fS_ {c : UInt8} : ∀ {s x : Str}, x ∈ bP_ c s → x.length ≤ s.length
  | [], x, h => by simp [bP_] at h; simp [h]
  | b :: s, x, h => by
    simp only [bP_] at h
    split at h
    · rcases List.mem_cons.1 h with rfl | h
      · simp
      · have := fS_ h; simp only [List.length_cons]; omega
    · cases hs : bP_ c s with
      | nil => exact absurd hs (jR_ c s)
      | cons y t =>
        rw [hs] at h
        rcases List.mem_cons.1 h with rfl | h
        · have := fS_ (c := c) (s := s) (x := y) (by rw [hs]; simp); simp only [List.length_cons]; omega
        · have := fS_ (c := c) (s := s) (x := x) (by rw [hs]; simp [h]); simp only [List.length_cons]; omega
theorem gt_ (s : Str) (hs : s.length ≤ 17592186044414) : Fn0 Tryz.prog 125 #[str s] (.bool (bY_ s)) := by
  refine T_ Tryz.func125 rfl rfl Tryz.ntmps125 rfl fun v0 => ?_
  have hsl := dR_ 46 s
  have hcl := is_ 46 s
  refine h_ (c_ (a_ (g_ rfl) rfl (e_ (b_ rfl (h_ (c_ (a_ (d_ rfl) rfl (W_ (pN_ s 46 hs) rfl I_ (fun _ _ _ => by exact trivial) rfl fun b => ?_))))))))
  refine a_ (g_ rfl) rfl (e_ (b_ rfl (h_ (c_ (a_ (d_ rfl) rfl (a_ (am_ D_ rfl) rfl (x_ (cf_ rfl rfl) rfl fun r1 hr1 => ?_)))))))
  refine a_ (d_ rfl) rfl ?_
  cases r1
  · skip
    replace hr1 := of_decide_eq_false hr1
    refine r_ rfl rfl rfl rfl (r_ rfl rfl rfl rfl (r_ rfl rfl rfl rfl (a_ (C_ rfl rfl) rfl (a_ (g_ rfl) rfl (e_ (b_ rfl (F_ ?_)))))))
    exact aw_ Tryz.results125 () (y_ rfl (by unfold bY_; subst_vars; rw [Bool.eq_iff_iff]; simp_all <;> omega)) (.refl _) (fun _ _ _ => trivial)
  · skip
    replace hr1 := of_decide_eq_true hr1
    refine p_ rfl rfl (a_ (d_ rfl) rfl (p_ rfl rfl (as_ (ik_ (pred := fun r => !bc_ r) (bP_ 46 s) _ _ (by omega) (fun x hx => nN_ x (by have := fS_ hx; omega))) rfl I_ (fun v _ h => by exact ⟨h.1, trivial⟩) rfl fun r2 hr2 => ?_)))
    refine p_ rfl rfl (a_ (ce_ rfl) rfl (a_ (H_ rfl rfl) rfl (a_ (g_ rfl) rfl (e_ (b_ rfl (F_ ?_))))))
    exact aw_ Tryz.results125 () (y_ rfl (by unfold bY_; subst_vars; rw [Bool.eq_iff_iff]; simp_all <;> omega)) (.refl _) (fun _ _ _ => trivial)
theorem fD_ (s : Str) (hs : s.length ≤ 140737488351232) : Fn0 Tryz.prog 127 #[str s] (.bool (bf_ s)) := by
 refine T_ Tryz.func127 rfl rfl Tryz.ntmps127 rfl fun v0 => ?_
 refine h_ (c_ (a_ (g_ rfl) rfl (e_ (b_ rfl (h_ (c_ (a_ (d_ rfl) rfl (a_ (bX_ V_ rfl) rfl (a_ (g_ rfl) rfl ?_)))))))))
 refine e_ (b_ rfl (h_ (R_ (h_ (c_ (a_ (d_ rfl) rfl (x_ (aq_ rfl rfl) rfl fun r1 hr1 => ?_)))))))
 refine a_ (d_ rfl) rfl ?_
 cases r1
 ·
  replace hr1 := ne_of_beq_false hr1
  refine p_ rfl rfl (a_ (d_ rfl) rfl (p_ rfl rfl (x_ (aq_ rfl rfl) rfl fun r2 hr2 => ?_)))
  refine a_ (C_ rfl rfl) rfl (a_ (g_ rfl) rfl (e_ (b_ rfl ?_)))
  cases r2
  ·
   replace hr2 := ne_of_beq_false hr2
   refine v_ rfl (h_ (c_ (a_ (d_ rfl) rfl (x_ (cG_ rfl rfl) rfl fun r3 hr3 => ?_))))
   refine a_ (d_ rfl) rfl ?_
   cases r3
   ·
    replace hr3 := of_decide_eq_false hr3
    refine r_ rfl rfl rfl rfl (r_ rfl rfl rfl rfl (r_ rfl rfl rfl rfl (a_ (C_ rfl rfl) rfl (a_ (d_ rfl) rfl (r_ rfl rfl rfl rfl (r_ rfl rfl rfl rfl (r_ rfl rfl rfl rfl (r_ rfl rfl rfl rfl (r_ rfl rfl rfl rfl ?_)))))))))
    refine a_ (C_ rfl rfl) rfl (a_ (g_ rfl) rfl (e_ (b_ rfl (v_ rfl (h_ (c_ (a_ (d_ rfl) rfl (x_ (cG_ rfl rfl) rfl fun r4 hr4 => ?_))))))))
    refine a_ (d_ rfl) rfl ?_
    cases r4
    ·
     replace hr4 := of_decide_eq_false hr4
     refine r_ rfl rfl rfl rfl (r_ rfl rfl rfl rfl (r_ rfl rfl rfl rfl (a_ (C_ rfl rfl) rfl (a_ (d_ rfl) rfl (r_ rfl rfl rfl rfl (r_ rfl rfl rfl rfl (r_ rfl rfl rfl rfl (r_ rfl rfl rfl rfl (r_ rfl rfl rfl rfl ?_)))))))))
     refine a_ (C_ rfl rfl) rfl (a_ (g_ rfl) rfl (e_ (b_ rfl (v_ rfl (z_ (b_ rfl (h_ (c_ (a_ (d_ rfl) rfl ?_)))))))))
     refine as_ (eb_ _ (by first | exact hs | (simp; omega))) rfl I_ (fun _ _ _ => by exact trivial) rfl fun r5 hr5 => ?_
     refine a_ (g_ rfl) rfl (e_ (b_ rfl (F_ ?_)))
     exact aw_ cO_ () (y_ rfl (by unfold bf_; (repeat (any_goals split)) <;> first | rfl | (simp_all; done) | (exfalso; simp_all; omega) | (exfalso; simp_all; done))) (.refl _) (fun _ _ _ => trivial)
    ·
     replace hr4 := of_decide_eq_true hr4
     exfalso; omega
   ·
    replace hr3 := of_decide_eq_true hr3
    obtain ⟨c, hc⟩ : ∃ c, s[0]? = some c := ⟨_, List.getElem?_eq_getElem (by omega)⟩
    obtain ⟨e, he⟩ : ∃ e, s[s.length - 1]? = some e := ⟨_, List.getElem?_eq_getElem (by omega)⟩
    have hc123 : (s[0]? = some 123) ↔ ((c.toNat : Int) = 123) := by
              rw [hc]; simp only [Option.some.injEq]; exact ⟨fun q => by subst q; rfl, fun q => UInt8.toNat_inj.1 (by show c.toNat = 123; omega)⟩
    have he125 : (s[s.length - 1]? = some 125) ↔ ((e.toNat : Int) = 125) := by
              rw [he]; simp only [Option.some.injEq]; exact ⟨fun q => by subst q; rfl, fun q => UInt8.toNat_inj.1 (by show e.toNat = 125; omega)⟩
    have hc60 : (s[0]? = some 60) ↔ ((c.toNat : Int) = 60) := by
              rw [hc]; simp only [Option.some.injEq]; exact ⟨fun q => by subst q; rfl, fun q => UInt8.toNat_inj.1 (by show c.toNat = 60; omega)⟩
    have he62 : (s[s.length - 1]? = some 62) ↔ ((e.toNat : Int) = 62) := by
              rw [he]; simp only [Option.some.injEq]; exact ⟨fun q => by subst q; rfl, fun q => UInt8.toNat_inj.1 (by show e.toNat = 62; omega)⟩
    refine p_ rfl rfl (a_ (d_ rfl) rfl (p_ rfl rfl (a_ (bL_ V_ rfl rfl (by decide) hc) rfl (p_ rfl rfl (x_ (aM_ rfl rfl) rfl fun r6 hr6 => ?_)))))
    refine a_ (H_ rfl rfl) rfl (a_ (d_ rfl) rfl ?_)
    cases r6
    ·
     replace hr6 := ne_of_beq_false hr6
     refine r_ rfl rfl rfl rfl (r_ rfl rfl rfl rfl (r_ rfl rfl rfl rfl (r_ rfl rfl rfl rfl (r_ rfl rfl rfl rfl (a_ (C_ rfl rfl) rfl (a_ (g_ rfl) rfl (e_ (b_ rfl (v_ rfl ?_)))))))))
     refine h_ (c_ (a_ (d_ rfl) rfl (x_ (cG_ rfl rfl) rfl fun r7 hr7 => ?_)))
     refine a_ (d_ rfl) rfl ?_
     cases r7
     ·
      replace hr7 := of_decide_eq_false hr7
      refine r_ rfl rfl rfl rfl (r_ rfl rfl rfl rfl (r_ rfl rfl rfl rfl (a_ (C_ rfl rfl) rfl (a_ (d_ rfl) rfl (r_ rfl rfl rfl rfl (r_ rfl rfl rfl rfl (r_ rfl rfl rfl rfl (r_ rfl rfl rfl rfl (r_ rfl rfl rfl rfl ?_)))))))))
      refine a_ (C_ rfl rfl) rfl (a_ (g_ rfl) rfl (e_ (b_ rfl (v_ rfl (z_ (b_ rfl (h_ (c_ (a_ (d_ rfl) rfl ?_)))))))))
      refine as_ (eb_ _ (by first | exact hs | (simp; omega))) rfl I_ (fun _ _ _ => by exact trivial) rfl fun r8 hr8 => ?_
      refine a_ (g_ rfl) rfl (e_ (b_ rfl (F_ ?_)))
      exact aw_ cO_ () (y_ rfl (by unfold bf_; (repeat (any_goals split)) <;> first | rfl | (simp_all; done) | (exfalso; simp_all; omega) | (exfalso; simp_all; done))) (.refl _) (fun _ _ _ => trivial)
     ·
      replace hr7 := of_decide_eq_true hr7
      refine p_ rfl rfl (a_ (d_ rfl) rfl (p_ rfl rfl (a_ (bL_ V_ rfl rfl (by decide) hc) rfl (p_ rfl rfl (x_ (aM_ rfl rfl) rfl fun r9 hr9 => ?_)))))
      refine a_ (H_ rfl rfl) rfl (a_ (d_ rfl) rfl ?_)
      cases r9
      ·
       replace hr9 := ne_of_beq_false hr9
       refine r_ rfl rfl rfl rfl (r_ rfl rfl rfl rfl (r_ rfl rfl rfl rfl (r_ rfl rfl rfl rfl (r_ rfl rfl rfl rfl (a_ (C_ rfl rfl) rfl (a_ (g_ rfl) rfl (e_ (b_ rfl (v_ rfl ?_)))))))))
       refine z_ (b_ rfl (h_ (c_ (a_ (d_ rfl) rfl (as_ (eb_ _ (by first | exact hs | (simp; omega))) rfl I_ (fun _ _ _ => by exact trivial) rfl fun r10 hr10 => ?_)))))
       refine a_ (g_ rfl) rfl (e_ (b_ rfl (F_ ?_)))
       exact aw_ cO_ () (y_ rfl (by unfold bf_; (repeat (any_goals split)) <;> first | rfl | (simp_all; done) | (exfalso; simp_all; omega) | (exfalso; simp_all; done))) (.refl _) (fun _ _ _ => trivial)
      ·
       replace hr9 := eq_of_beq hr9
       refine p_ rfl rfl (a_ (d_ rfl) rfl (p_ rfl rfl (a_ (d_ rfl) rfl (p_ rfl rfl (a_ (M_ rfl rfl rfl (af_ (by omega) (by omega))) rfl (p_ rfl rfl (a_ (bL_ V_ rfl rfl (by omega) (show s[((s.length : Int) - 1).toNat]? = some e by rw [show ((s.length : Int) - 1).toNat = s.length - 1 by omega]; exact he)) rfl (p_ rfl rfl (x_ (aM_ rfl rfl) rfl fun r11 hr11 => ?_)))))))))
       refine a_ (H_ rfl rfl) rfl (a_ (g_ rfl) rfl (e_ (b_ rfl ?_)))
       cases r11
       ·
        replace hr11 := ne_of_beq_false hr11
        refine v_ rfl (z_ (b_ rfl (h_ (c_ (a_ (d_ rfl) rfl (as_ (eb_ _ (by first | exact hs | (simp; omega))) rfl I_ (fun _ _ _ => by exact trivial) rfl fun r12 hr12 => ?_))))))
        refine a_ (g_ rfl) rfl (e_ (b_ rfl (F_ ?_)))
        exact aw_ cO_ () (y_ rfl (by unfold bf_; (repeat (any_goals split)) <;> first | rfl | (simp_all; done) | (exfalso; simp_all; omega) | (exfalso; simp_all; done))) (.refl _) (fun _ _ _ => trivial)
       ·
        replace hr11 := eq_of_beq hr11
        refine t_ rfl (h_ (c_ (a_ (g_ rfl) rfl (e_ (b_ rfl (F_ ?_))))))
        exact aw_ cO_ () (y_ rfl (by unfold bf_; (repeat (any_goals split)) <;> first | rfl | (simp_all; done) | (exfalso; simp_all; omega) | (exfalso; simp_all; done))) (.refl _) (fun _ _ _ => trivial)
    ·
     replace hr6 := eq_of_beq hr6
     refine p_ rfl rfl (a_ (d_ rfl) rfl (p_ rfl rfl (a_ (d_ rfl) rfl (p_ rfl rfl (a_ (M_ rfl rfl rfl (af_ (by omega) (by omega))) rfl (p_ rfl rfl (a_ (bL_ V_ rfl rfl (by omega) (show s[((s.length : Int) - 1).toNat]? = some e by rw [show ((s.length : Int) - 1).toNat = s.length - 1 by omega]; exact he)) rfl (p_ rfl rfl (x_ (aM_ rfl rfl) rfl fun r13 hr13 => ?_)))))))))
     refine a_ (H_ rfl rfl) rfl (a_ (g_ rfl) rfl (e_ (b_ rfl ?_)))
     cases r13
     ·
      replace hr13 := ne_of_beq_false hr13
      refine v_ rfl (h_ (c_ (a_ (d_ rfl) rfl (x_ (cG_ rfl rfl) rfl fun r14 hr14 => ?_))))
      refine a_ (d_ rfl) rfl ?_
      cases r14
      ·
       replace hr14 := of_decide_eq_false hr14
       refine r_ rfl rfl rfl rfl (r_ rfl rfl rfl rfl (r_ rfl rfl rfl rfl (a_ (C_ rfl rfl) rfl (a_ (d_ rfl) rfl (r_ rfl rfl rfl rfl (r_ rfl rfl rfl rfl (r_ rfl rfl rfl rfl (r_ rfl rfl rfl rfl (r_ rfl rfl rfl rfl ?_)))))))))
       refine a_ (C_ rfl rfl) rfl (a_ (g_ rfl) rfl (e_ (b_ rfl (v_ rfl (z_ (b_ rfl (h_ (c_ (a_ (d_ rfl) rfl ?_)))))))))
       refine as_ (eb_ _ (by first | exact hs | (simp; omega))) rfl I_ (fun _ _ _ => by exact trivial) rfl fun r15 hr15 => ?_
       refine a_ (g_ rfl) rfl (e_ (b_ rfl (F_ ?_)))
       exact aw_ cO_ () (y_ rfl (by unfold bf_; (repeat (any_goals split)) <;> first | rfl | (simp_all; done) | (exfalso; simp_all; omega) | (exfalso; simp_all; done))) (.refl _) (fun _ _ _ => trivial)
      ·
       replace hr14 := of_decide_eq_true hr14
       refine p_ rfl rfl (a_ (d_ rfl) rfl (p_ rfl rfl (a_ (bL_ V_ rfl rfl (by decide) hc) rfl (p_ rfl rfl (x_ (aM_ rfl rfl) rfl fun r16 hr16 => ?_)))))
       refine a_ (H_ rfl rfl) rfl (a_ (d_ rfl) rfl ?_)
       cases r16
       ·
        replace hr16 := ne_of_beq_false hr16
        refine r_ rfl rfl rfl rfl (r_ rfl rfl rfl rfl (r_ rfl rfl rfl rfl (r_ rfl rfl rfl rfl (r_ rfl rfl rfl rfl (a_ (C_ rfl rfl) rfl (a_ (g_ rfl) rfl (e_ (b_ rfl (v_ rfl ?_)))))))))
        refine z_ (b_ rfl (h_ (c_ (a_ (d_ rfl) rfl (as_ (eb_ _ (by first | exact hs | (simp; omega))) rfl I_ (fun _ _ _ => by exact trivial) rfl fun r17 hr17 => ?_)))))
        refine a_ (g_ rfl) rfl (e_ (b_ rfl (F_ ?_)))
        exact aw_ cO_ () (y_ rfl (by unfold bf_; (repeat (any_goals split)) <;> first | rfl | (simp_all; done) | (exfalso; simp_all; omega) | (exfalso; simp_all; done))) (.refl _) (fun _ _ _ => trivial)
       ·
        replace hr16 := eq_of_beq hr16
        refine p_ rfl rfl (a_ (d_ rfl) rfl (p_ rfl rfl (a_ (d_ rfl) rfl (p_ rfl rfl (a_ (M_ rfl rfl rfl (af_ (by omega) (by omega))) rfl (p_ rfl rfl (a_ (bL_ V_ rfl rfl (by omega) (show s[((s.length : Int) - 1).toNat]? = some e by rw [show ((s.length : Int) - 1).toNat = s.length - 1 by omega]; exact he)) rfl (p_ rfl rfl (x_ (aM_ rfl rfl) rfl fun r18 hr18 => ?_)))))))))
        refine a_ (H_ rfl rfl) rfl (a_ (g_ rfl) rfl (e_ (b_ rfl ?_)))
        cases r18
        ·
         replace hr18 := ne_of_beq_false hr18
         refine v_ rfl (z_ (b_ rfl (h_ (c_ (a_ (d_ rfl) rfl (as_ (eb_ _ (by first | exact hs | (simp; omega))) rfl I_ (fun _ _ _ => by exact trivial) rfl fun r19 hr19 => ?_))))))
         refine a_ (g_ rfl) rfl (e_ (b_ rfl (F_ ?_)))
         exact aw_ cO_ () (y_ rfl (by unfold bf_; (repeat (any_goals split)) <;> first | rfl | (simp_all; done) | (exfalso; simp_all; omega) | (exfalso; simp_all; done))) (.refl _) (fun _ _ _ => trivial)
        ·
         replace hr18 := eq_of_beq hr18
         refine t_ rfl (h_ (c_ (a_ (g_ rfl) rfl (e_ (b_ rfl (F_ ?_))))))
         exact aw_ cO_ () (y_ rfl (by unfold bf_; (repeat (any_goals split)) <;> first | rfl | (simp_all; done) | (exfalso; simp_all; omega) | (exfalso; simp_all; done))) (.refl _) (fun _ _ _ => trivial)
     ·
      replace hr13 := eq_of_beq hr13
      refine t_ rfl (h_ (c_ (a_ (d_ rfl) rfl (a_ (d_ rfl) rfl (a_ (M_ rfl rfl rfl (af_ (by omega) (by omega))) rfl (a_ (du_ (i := 1) (j := s.length - 1) (kl := .i64) (kh := .i64) V_ rfl rfl (show _ = some (Value.int .i64 ((s.length - 1 : Nat) : Int)) by rw [show ((s.length - 1 : Nat) : Int) = (s.length : Int) - 1 by omega]; rfl) (by omega) (by omega)) rfl (as_ (eb_ _ (by first | exact hs | (simp; omega))) rfl I_ (fun _ _ _ => by exact trivial) rfl fun r20 hr20 => ?_)))))))
      refine a_ (g_ rfl) rfl (e_ (b_ rfl (F_ ?_)))
      exact aw_ cO_ () (y_ rfl (by unfold bf_; (repeat (any_goals split)) <;> first | rfl | (simp_all; done) | (exfalso; simp_all; omega) | (exfalso; simp_all; done))) (.refl _) (fun _ _ _ => trivial)
  ·
   replace hr2 := eq_of_beq hr2
   refine t_ rfl (h_ (c_ (a_ (g_ rfl) rfl (e_ (b_ rfl (F_ ?_))))))
   exact aw_ cO_ () (y_ rfl (by unfold bf_; (repeat (any_goals split)) <;> first | rfl | (simp_all; done) | (exfalso; simp_all; omega) | (exfalso; simp_all; done))) (.refl _) (fun _ _ _ => trivial)
 ·
  replace hr1 := eq_of_beq hr1
  refine r_ rfl rfl rfl rfl (r_ rfl rfl rfl rfl (a_ (H_ rfl rfl) rfl (a_ (g_ rfl) rfl (e_ (b_ rfl (t_ rfl (h_ (c_ (a_ (g_ rfl) rfl ?_)))))))))
  refine e_ (b_ rfl (F_ ?_))
  exact aw_ cO_ () (y_ rfl (by unfold bf_; (repeat (any_goals split)) <;> first | rfl | (simp_all; done) | (exfalso; simp_all; omega) | (exfalso; simp_all; done))) (.refl _) (fun _ _ _ => trivial)
end Go.Proofs.YtpdbbglpbngeiaaGreatDoor
namespace Go.Proofs.YtpdbbglpbngeiaaGreatDoor
open Go Go.Sx Go.Proofs
attribute [local irreducible] Code.wp wpList wpAnyH
open Go.Vs
theorem ei_ {g : FuncId} (used : Bool) (s : Str) (q : Str → Bool) (hT : Fn0 Tryz.prog g #[str s] (.bool (q s))) : Fn0 Tryz.prog 124 #[.bool used, str s, .func (.func g) #[] #[]] (.bool (ct_ used s q)) := by
  refine T_ Tryz.func124 rfl rfl Tryz.ntmps124 rfl fun v0 => ?_
  refine h_ (c_ (a_ (g_ rfl) rfl (e_ (b_ rfl (h_ (c_ (a_ (d_ rfl) rfl (a_ (d_ rfl) rfl ?_))))))))
  cases used
  · skip
    refine r_ rfl rfl rfl rfl (r_ rfl rfl rfl rfl (r_ rfl rfl rfl rfl (a_ (C_ rfl rfl) rfl (a_ (d_ rfl) rfl (p_ rfl rfl (a_ (d_ rfl) rfl (p_ rfl rfl (a_ (ce_ rfl) rfl (p_ rfl rfl ?_)))))))))
    refine a_ (d_ rfl) rfl (p_ rfl rfl (a_ (d_ rfl) rfl (p_ rfl rfl (x_ (aq_ rfl rfl) rfl fun r1 hr1 => ?_))))
    refine p_ rfl rfl (a_ (H_ rfl rfl) rfl (a_ (C_ rfl rfl) rfl (a_ (g_ rfl) rfl (e_ (b_ rfl (F_ ?_))))))
    exact aw_ Tryz.results124 () (y_ rfl (by unfold ct_; subst_vars; rw [Bool.eq_iff_iff]; simp_all)) (.refl _) (fun _ _ _ => trivial)
  · skip
    refine p_ rfl rfl (a_ (d_ rfl) rfl (p_ rfl rfl (a_ (d_ rfl) rfl (p_ rfl rfl (cv_ (hT) rfl rfl I_ (fun _ _ _ => by exact trivial) rfl fun r2 hr2 => ?_)))))
    refine a_ (H_ rfl rfl) rfl (a_ (d_ rfl) rfl ?_)
    cases r2
    · skip
      refine p_ rfl rfl (a_ (d_ rfl) rfl (p_ rfl rfl (a_ (ce_ rfl) rfl (p_ rfl rfl (a_ (d_ rfl) rfl (r_ rfl rfl rfl rfl (r_ rfl rfl rfl rfl (p_ rfl rfl (a_ (C_ rfl rfl) rfl ?_)))))))))
      refine a_ (C_ rfl rfl) rfl (a_ (g_ rfl) rfl (e_ (b_ rfl (F_ ?_))))
      exact aw_ Tryz.results124 () (y_ rfl (by unfold ct_; subst_vars; rw [Bool.eq_iff_iff]; simp_all)) (.refl _) (fun _ _ _ => trivial)
    · skip
      refine r_ rfl rfl rfl rfl (r_ rfl rfl rfl rfl (r_ rfl rfl rfl rfl (r_ rfl rfl rfl rfl (r_ rfl rfl rfl rfl (r_ rfl rfl rfl rfl (a_ (H_ rfl rfl) rfl (a_ (g_ rfl) rfl (e_ (b_ rfl ?_)))))))))
      refine F_ ?_
      exact aw_ Tryz.results124 () (y_ rfl (by unfold ct_; subst_vars; rw [Bool.eq_iff_iff]; simp_all)) (.refl _) (fun _ _ _ => trivial)
theorem nM_ (p : Pc) (hp : p.sm) : Tri Tryz.prog 77 #[Pc.val p] [] [gP_] (fun _ : Unit => .bool p.valid) (fun _ => []) (fun _ => []) := by
 refine T_ Tryz.func77 rfl rfl Tryz.ntmps77 rfl fun v0 => ?_
 obtain ⟨ha, hb, hc, hr, hs, ht⟩ := hp
 refine h_ (c_ (bs_ rfl rfl fun b1 => ?_))
 refine a_ (g_ rfl) rfl (e_ (b_ rfl (h_ (h_ (c_ (a_ (l_ k_ rfl rfl rfl L_) rfl (a_ (u_ 0 P_ rfl rfl rfl) rfl (x_ (av_ rfl rfl) rfl fun r1 hr1 => ?_))))))))
 refine a_ (d_ rfl) rfl ?_
 refine aT_ 4 ((decide ((Pc.kind p) < 1)) || (decide (9 < (Pc.kind p)))) (fun r => [(1, zp_ b1 0), (2, .bool false), (13, .bool r)]) ?_ fun r2 hr2 => ?_
 ·
  cases r1
  ·
   have qr2 := hr1
   replace hr1 := of_decide_eq_false hr1
   refine p_ rfl rfl (a_ (l_ k_ rfl rfl rfl L_) rfl (p_ rfl rfl (a_ (u_ 0 P_ rfl rfl rfl) rfl (p_ rfl rfl (x_ (bR_ rfl rfl) rfl fun r3 hr3 => ?_)))))
   refine a_ (C_ rfl rfl) rfl (e_ (w_ rfl ?_))
   exact met ⟨rfl, rfl, (y_ rfl (jof qr2 hr3)), trivial⟩
  ·
   have qr2 := hr1
   replace hr1 := of_decide_eq_true hr1
   refine r_ rfl rfl rfl rfl (r_ rfl rfl rfl rfl (r_ rfl rfl rfl rfl (a_ (H_ rfl rfl) rfl (e_ (w_ rfl ?_)))))
   exact met ⟨rfl, rfl, (y_ rfl (jot qr2)), trivial⟩
 ·
  refine a_ (d_ rfl) rfl ?_
  refine aT_ 4 ((((decide ((Pc.kind p) < 1)) || (decide (9 < (Pc.kind p))))) || (decide ((Pc.frm p) < (-1)))) (fun r => [(1, zp_ b1 0), (2, .bool false), (18, .bool r)]) ?_ fun r4 hr4 => ?_
  ·
   cases r2
   ·
    have qr4 := hr2
    simp at hr2
    refine p_ rfl rfl (a_ (l_ k_ rfl rfl rfl L_) rfl (p_ rfl rfl (a_ (u_ 0 P_ rfl rfl rfl) rfl (p_ rfl rfl (x_ (av_ rfl rfl) rfl fun r5 hr5 => ?_)))))
    refine a_ (C_ rfl rfl) rfl (e_ (w_ rfl ?_))
    exact met ⟨rfl, rfl, (y_ rfl (jof qr4 hr5)), trivial⟩
   ·
    have qr4 := hr2
    simp at hr2
    refine r_ rfl rfl rfl rfl (r_ rfl rfl rfl rfl (r_ rfl rfl rfl rfl (a_ (H_ rfl rfl) rfl (e_ (w_ rfl ?_)))))
    exact met ⟨rfl, rfl, (y_ rfl (jot qr4)), trivial⟩
  ·
   refine a_ (d_ rfl) rfl ?_
   refine aT_ 4 ((((((decide ((Pc.kind p) < 1)) || (decide (9 < (Pc.kind p))))) || (decide ((Pc.frm p) < (-1))))) || (decide (1024 ≤ (Pc.frm p)))) (fun r => [(1, zp_ b1 0), (2, .bool false), (23, .bool r)]) ?_ fun r6 hr6 => ?_
   ·
    cases r4
    ·
     have qr6 := hr4
     simp at hr4
     refine p_ rfl rfl (a_ (l_ k_ rfl rfl rfl L_) rfl (p_ rfl rfl (a_ (u_ 0 P_ rfl rfl rfl) rfl (p_ rfl rfl (x_ (cG_ rfl rfl) rfl fun r7 hr7 => ?_)))))
     refine a_ (C_ rfl rfl) rfl (e_ (w_ rfl ?_))
     exact met ⟨rfl, rfl, (y_ rfl (jof qr6 hr7)), trivial⟩
    ·
     have qr6 := hr4
     simp at hr4
     refine r_ rfl rfl rfl rfl (r_ rfl rfl rfl rfl (r_ rfl rfl rfl rfl (a_ (H_ rfl rfl) rfl (e_ (w_ rfl ?_)))))
     exact met ⟨rfl, rfl, (y_ rfl (jot qr6)), trivial⟩
   ·
    refine e_ (b_ rfl ?_)
    cases r6
    ·
     simp at hr6
     obtain ⟨u, hx⟩ : ∃ u, oU_[p.kind.toNat]? = some u := ⟨_, List.getElem?_eq_getElem (show p.kind.toNat < 10 by omega)⟩
     have hus : nus p.kind = u := by simp [nus, hx]
     obtain ⟨ua, ub, uc, ur, us, ut, un⟩ := u
     refine v_ rfl (z_ (b_ rfl (h_ (c_ (a_ (l_ k_ rfl rfl rfl L_) rfl (a_ (u_ 0 P_ rfl rfl rfl) rfl (a_ (fM_ Tryz.runUnderlying153 Tryz.sizeOf152 rfl rfl (by show (0 : Int) ≤ (Pc.kind p); omega) (by show (Pc.kind p) < (10 : Int); omega)) rfl (a_ (aU_ (ad := some ⟨0, 0, none⟩) (us := NUse.cells ⟨ua, ub, uc, ur, us, ut, un⟩) Tryz.isAgg152 Tryz.sizeOf152 rfl (fun v _ h => h.1) (NUse.cells_len _) (ad_ NUse.cells_len hx)) rfl (ao_ Tryz.zeroValue152 rfl fun b2 => ?_)))))))))
     refine Q_ 0 Tryz.sizeOf152 rfl rfl rfl rfl rfl rfl (e_ (b_ rfl (h_ (c_ (a_ (g_ rfl) rfl (e_ (b_ rfl (h_ (c_ ?_)))))))))
     refine a_ (g_ rfl) rfl (e_ (b_ rfl (h_ (h_ (c_ (a_ (l_ bK_ rfl rfl rfl dz_) rfl (a_ (u_ 0 dP_ rfl rfl rfl) rfl (e_ (b_ rfl ?_)))))))))
     cases un
     ·
      refine v_ rfl (h_ (c_ (a_ (l_ k_ rfl rfl rfl L_) rfl (a_ (u_ 1 P_ rfl rfl rfl) rfl (x_ (bN_ rfl rfl) rfl fun r8 hr8 => ?_)))))
      refine a_ (d_ rfl) rfl ?_
      refine aT_ 4 (((Pc.lo p) != 0) || ((Pc.hi p) != 0)) (fun r => [(1, zp_ b1 0), (2, .bool false), (3, zp_ b2 0), (4, .func (.func 124) #[] #[]), (5, .func (.func 125) #[] #[]), (52, .bool r)]) ?_ fun r9 hr9 => ?_
      ·
       cases r8
       ·
        have qr9 := hr8
        replace hr8 := bb_ hr8
        refine p_ rfl rfl (a_ (l_ k_ rfl rfl rfl L_) rfl (p_ rfl rfl (a_ (u_ 1 P_ rfl rfl rfl) rfl (p_ rfl rfl (x_ (bN_ rfl rfl) rfl fun r10 hr10 => ?_)))))
        refine a_ (C_ rfl rfl) rfl (e_ (w_ rfl ?_))
        exact met ⟨rfl, rfl, rfl, rfl, rfl, (y_ rfl (jof qr9 hr10)), trivial⟩
       ·
        have qr9 := hr8
        replace hr8 := ba_ hr8
        refine r_ rfl rfl rfl rfl (r_ rfl rfl rfl rfl (r_ rfl rfl rfl rfl (a_ (H_ rfl rfl) rfl (e_ (w_ rfl ?_)))))
        exact met ⟨rfl, rfl, rfl, rfl, rfl, (y_ rfl (jot qr9)), trivial⟩
      ·
       refine e_ (b_ rfl ?_)
       cases r9
       ·
        simp at hr9
        refine v_ rfl (z_ (b_ rfl (h_ (c_ (a_ (d_ rfl) rfl (a_ (l_ bK_ rfl rfl rfl dz_) rfl (a_ (u_ 0 dP_ rfl rfl rfl) rfl (a_ (l_ k_ rfl rfl rfl j_) rfl (a_ (u_ 1 q_ rfl rfl rfl) rfl ?_)))))))))
        refine cv_ (ei_ ua (Pc.a p) bf_ (fD_ _ (by omega))) rfl rfl I_ (fun _ _ _ => by exact trivial) rfl fun r11 hr11 => ?_
        refine a_ (d_ rfl) rfl ?_
        refine aT_ 7 ((ct_ ua (Pc.a p) bf_) && (ct_ ub (Pc.b p) bf_)) (fun r => [(1, zp_ b1 0), (2, .bool false), (3, zp_ b2 0), (4, .func (.func 124) #[] #[]), (5, .func (.func 125) #[] #[]), (66, .bool r)]) ?_ fun r12 hr12 => ?_
        ·
         cases r11
         ·
          have qr12 := hr11
          refine r_ rfl rfl rfl rfl (r_ rfl rfl rfl rfl (r_ rfl rfl rfl rfl (r_ rfl rfl rfl rfl (r_ rfl rfl rfl rfl (r_ rfl rfl rfl rfl (a_ (C_ rfl rfl) rfl (e_ (w_ rfl ?_))))))))
          exact met ⟨rfl, rfl, rfl, rfl, rfl, (y_ rfl (jaf qr12)), trivial⟩
         ·
          have qr12 := hr11
          refine p_ rfl rfl (a_ (d_ rfl) rfl (p_ rfl rfl (a_ (l_ bK_ rfl rfl rfl dz_) rfl (p_ rfl rfl (a_ (u_ 0 dP_ rfl rfl rfl) rfl (p_ rfl rfl (a_ (l_ k_ rfl rfl rfl j_) rfl (p_ rfl rfl (a_ (u_ 1 q_ rfl rfl rfl) rfl ?_)))))))))
          refine p_ rfl rfl (cv_ (ei_ ub (Pc.b p) bf_ (fD_ _ (by omega))) rfl rfl I_ (fun _ _ _ => by exact trivial) rfl fun r13 hr13 => ?_)
          refine a_ (H_ rfl rfl) rfl (e_ (w_ rfl ?_))
          exact met ⟨rfl, rfl, rfl, rfl, rfl, (y_ rfl (jat qr12 hr13)), trivial⟩
        ·
         refine a_ (d_ rfl) rfl ?_
         refine aT_ 7 ((((ct_ ua (Pc.a p) bf_) && (ct_ ub (Pc.b p) bf_))) && (ct_ uc (Pc.c p) bf_)) (fun r => [(1, zp_ b1 0), (2, .bool false), (3, zp_ b2 0), (4, .func (.func 124) #[] #[]), (5, .func (.func 125) #[] #[]), (74, .bool r)]) ?_ fun r14 hr14 => ?_
         ·
          cases r12
          ·
           have qr14 := hr12
           simp at hr12
           refine r_ rfl rfl rfl rfl (r_ rfl rfl rfl rfl (r_ rfl rfl rfl rfl (r_ rfl rfl rfl rfl (r_ rfl rfl rfl rfl (r_ rfl rfl rfl rfl (a_ (C_ rfl rfl) rfl (e_ (w_ rfl ?_))))))))
           exact met ⟨rfl, rfl, rfl, rfl, rfl, (y_ rfl (jaf qr14)), trivial⟩
          ·
           have qr14 := hr12
           simp at hr12
           refine p_ rfl rfl (a_ (d_ rfl) rfl (p_ rfl rfl (a_ (l_ bK_ rfl rfl rfl dz_) rfl (p_ rfl rfl (a_ (u_ 0 dP_ rfl rfl rfl) rfl (p_ rfl rfl (a_ (l_ k_ rfl rfl rfl j_) rfl (p_ rfl rfl (a_ (u_ 1 q_ rfl rfl rfl) rfl ?_)))))))))
           refine p_ rfl rfl (cv_ (ei_ uc (Pc.c p) bf_ (fD_ _ (by omega))) rfl rfl I_ (fun _ _ _ => by exact trivial) rfl fun r15 hr15 => ?_)
           refine a_ (H_ rfl rfl) rfl (e_ (w_ rfl ?_))
           exact met ⟨rfl, rfl, rfl, rfl, rfl, (y_ rfl (jat qr14 hr15)), trivial⟩
         ·
          refine a_ (d_ rfl) rfl ?_
          refine aT_ 8 ((((((ct_ ua (Pc.a p) bf_) && (ct_ ub (Pc.b p) bf_))) && (ct_ uc (Pc.c p) bf_))) && (ct_ ur (Pc.r p) bY_)) (fun r => [(1, zp_ b1 0), (2, .bool false), (3, zp_ b2 0), (4, .func (.func 124) #[] #[]), (83, .bool r)]) ?_ fun r16 hr16 => ?_
          ·
           cases r14
           ·
            have qr16 := hr14
            simp at hr14
            refine r_ rfl rfl rfl rfl (r_ rfl rfl rfl rfl (r_ rfl rfl rfl rfl (r_ rfl rfl rfl rfl (r_ rfl rfl rfl rfl (r_ rfl rfl rfl rfl (r_ rfl rfl rfl rfl (a_ (C_ rfl rfl) rfl (e_ (w_ rfl ?_)))))))))
            exact met ⟨rfl, rfl, rfl, rfl, (y_ rfl (jaf qr16)), trivial⟩
           ·
            have qr16 := hr14
            simp at hr14
            refine p_ rfl rfl (a_ (d_ rfl) rfl (p_ rfl rfl (a_ (l_ bK_ rfl rfl rfl dz_) rfl (p_ rfl rfl (a_ (u_ 0 dP_ rfl rfl rfl) rfl (p_ rfl rfl (a_ (l_ k_ rfl rfl rfl j_) rfl (p_ rfl rfl (a_ (u_ 1 q_ rfl rfl rfl) rfl ?_)))))))))
            refine p_ rfl rfl (a_ (d_ rfl) rfl (p_ rfl rfl (cv_ (ei_ ur (Pc.r p) bY_ (gt_ _ (by omega))) rfl rfl I_ (fun _ _ _ => by exact trivial) rfl fun r17 hr17 => ?_)))
            refine a_ (H_ rfl rfl) rfl (e_ (w_ rfl ?_))
            exact met ⟨rfl, rfl, rfl, rfl, (y_ rfl (jat qr16 hr17)), trivial⟩
          ·
           refine a_ (d_ rfl) rfl ?_
           refine aT_ 7 ((((((((ct_ ua (Pc.a p) bf_) && (ct_ ub (Pc.b p) bf_))) && (ct_ uc (Pc.c p) bf_))) && (ct_ ur (Pc.r p) bY_))) && (ct_ us (Pc.s p) bY_)) (fun r => [(1, zp_ b1 0), (2, .bool false), (3, zp_ b2 0), (4, .func (.func 124) #[] #[]), (91, .bool r)]) ?_ fun r18 hr18 => ?_
           ·
            cases r16
            ·
             have qr18 := hr16
             simp at hr16
             refine r_ rfl rfl rfl rfl (r_ rfl rfl rfl rfl (r_ rfl rfl rfl rfl (r_ rfl rfl rfl rfl (r_ rfl rfl rfl rfl (r_ rfl rfl rfl rfl (a_ (C_ rfl rfl) rfl (e_ (w_ rfl ?_))))))))
             exact met ⟨rfl, rfl, rfl, rfl, (y_ rfl (jaf qr18)), trivial⟩
            ·
             have qr18 := hr16
             simp at hr16
             refine p_ rfl rfl (a_ (d_ rfl) rfl (p_ rfl rfl (a_ (l_ bK_ rfl rfl rfl dz_) rfl (p_ rfl rfl (a_ (u_ 0 dP_ rfl rfl rfl) rfl (p_ rfl rfl (a_ (l_ k_ rfl rfl rfl j_) rfl (p_ rfl rfl (a_ (u_ 1 q_ rfl rfl rfl) rfl ?_)))))))))
             refine p_ rfl rfl (cv_ (ei_ us (Pc.s p) bY_ (gt_ _ (by omega))) rfl rfl I_ (fun _ _ _ => by exact trivial) rfl fun r19 hr19 => ?_)
             refine a_ (H_ rfl rfl) rfl (e_ (w_ rfl ?_))
             exact met ⟨rfl, rfl, rfl, rfl, (y_ rfl (jat qr18 hr19)), trivial⟩
           ·
            refine a_ (d_ rfl) rfl ?_
            refine aT_ 7 ((((((((((ct_ ua (Pc.a p) bf_) && (ct_ ub (Pc.b p) bf_))) && (ct_ uc (Pc.c p) bf_))) && (ct_ ur (Pc.r p) bY_))) && (ct_ us (Pc.s p) bY_))) && (ct_ ut (Pc.t p) bY_)) (fun r => [(2, .bool false), (99, .bool r)]) ?_ fun r20 hr20 => ?_
            ·
             cases r18
             ·
              have qr20 := hr18
              simp at hr18
              refine r_ rfl rfl rfl rfl (r_ rfl rfl rfl rfl (r_ rfl rfl rfl rfl (r_ rfl rfl rfl rfl (r_ rfl rfl rfl rfl (r_ rfl rfl rfl rfl (a_ (C_ rfl rfl) rfl (e_ (w_ rfl ?_))))))))
              exact met ⟨rfl, (y_ rfl (jaf qr20)), trivial⟩
             ·
              have qr20 := hr18
              simp at hr18
              refine p_ rfl rfl (a_ (d_ rfl) rfl (p_ rfl rfl (a_ (l_ bK_ rfl rfl rfl dz_) rfl (p_ rfl rfl (a_ (u_ 0 dP_ rfl rfl rfl) rfl (p_ rfl rfl (a_ (l_ k_ rfl rfl rfl j_) rfl (p_ rfl rfl (a_ (u_ 1 q_ rfl rfl rfl) rfl ?_)))))))))
              refine p_ rfl rfl (cv_ (ei_ ut (Pc.t p) bY_ (gt_ _ (by omega))) rfl rfl I_ (fun _ _ _ => by exact trivial) rfl fun r21 hr21 => ?_)
              refine a_ (H_ rfl rfl) rfl (e_ (w_ rfl ?_))
              exact met ⟨rfl, (y_ rfl (jat qr20 hr21)), trivial⟩
            ·
             refine a_ (g_ rfl) rfl (e_ (b_ rfl (F_ ?_)))
             exact aw_ oC_ () (y_ rfl (by unfold Pc.valid; rw [if_neg (by omega)]; simp only [hus]; rw [if_neg (by simp <;> omega), if_neg (by simp <;> omega)]; exact hr20.symm)) (.refl _) (fun _ _ _ => trivial)
       ·
        simp at hr9
        refine t_ rfl (h_ (c_ (a_ (g_ rfl) rfl (e_ (b_ rfl (F_ ?_))))))
        exact aw_ oC_ () (y_ rfl (by unfold Pc.valid; rw [if_neg (by omega)]; simp only [hus]; first | (rw [if_pos (by first | (simp; omega) | omega)]) | (rw [if_neg (by simp), if_pos (by simp; omega)]))) (.refl _) (fun _ _ _ => trivial)
     ·
      refine t_ rfl (h_ (c_ (a_ (g_ rfl) rfl (e_ (b_ rfl (h_ (c_ (a_ (l_ k_ rfl rfl rfl L_) rfl (a_ (u_ 1 P_ rfl rfl rfl) rfl ?_)))))))))
      refine x_ (av_ rfl rfl) rfl fun r22 hr22 => ?_
      refine a_ (d_ rfl) rfl ?_
      refine aT_ 6 ((decide ((Pc.lo p) < (-1099511627776))) || (decide ((Pc.hi p) < (Pc.lo p)))) (fun r => [(1, zp_ b1 0), (2, .bool false), (3, zp_ b2 0), (4, .func (.func 124) #[] #[]), (5, .func (.func 126) #[] #[]), (39, .bool r)]) ?_ fun r23 hr23 => ?_
      ·
       cases r22
       ·
        have qr23 := hr22
        replace hr22 := of_decide_eq_false hr22
        refine p_ rfl rfl (a_ (l_ k_ rfl rfl rfl L_) rfl (p_ rfl rfl (a_ (u_ 1 P_ rfl rfl rfl) rfl (p_ rfl rfl (a_ (l_ k_ rfl rfl rfl L_) rfl (p_ rfl rfl (a_ (u_ 1 P_ rfl rfl rfl) rfl (p_ rfl rfl (x_ (bR_ rfl rfl) rfl fun r24 hr24 => ?_)))))))))
        refine a_ (C_ rfl rfl) rfl (e_ (w_ rfl ?_))
        exact met ⟨rfl, rfl, rfl, rfl, rfl, (y_ rfl (jof qr23 hr24)), trivial⟩
       ·
        have qr23 := hr22
        replace hr22 := of_decide_eq_true hr22
        refine r_ rfl rfl rfl rfl (r_ rfl rfl rfl rfl (r_ rfl rfl rfl rfl (r_ rfl rfl rfl rfl (r_ rfl rfl rfl rfl (a_ (H_ rfl rfl) rfl (e_ (w_ rfl ?_)))))))
        exact met ⟨rfl, rfl, rfl, rfl, rfl, (y_ rfl (jot qr23)), trivial⟩
      ·
       refine a_ (d_ rfl) rfl ?_
       refine aT_ 4 ((((decide ((Pc.lo p) < (-1099511627776))) || (decide ((Pc.hi p) < (Pc.lo p))))) || (decide (1099511627776 < (Pc.hi p)))) (fun r => [(1, zp_ b1 0), (2, .bool false), (3, zp_ b2 0), (4, .func (.func 124) #[] #[]), (5, .func (.func 126) #[] #[]), (44, .bool r)]) ?_ fun r25 hr25 => ?_
       ·
        cases r23
        ·
         have qr25 := hr23
         simp at hr23
         refine p_ rfl rfl (a_ (l_ k_ rfl rfl rfl L_) rfl (p_ rfl rfl (a_ (u_ 1 P_ rfl rfl rfl) rfl (p_ rfl rfl (x_ (bR_ rfl rfl) rfl fun r26 hr26 => ?_)))))
         refine a_ (C_ rfl rfl) rfl (e_ (w_ rfl ?_))
         exact met ⟨rfl, rfl, rfl, rfl, rfl, (y_ rfl (jof qr25 hr26)), trivial⟩
        ·
         have qr25 := hr23
         simp at hr23
         refine r_ rfl rfl rfl rfl (r_ rfl rfl rfl rfl (r_ rfl rfl rfl rfl (a_ (H_ rfl rfl) rfl (e_ (w_ rfl ?_)))))
         exact met ⟨rfl, rfl, rfl, rfl, rfl, (y_ rfl (jot qr25)), trivial⟩
       ·
        refine e_ (b_ rfl ?_)
        cases r25
        ·
         simp at hr25
         refine v_ rfl (z_ (b_ rfl (h_ (c_ (a_ (d_ rfl) rfl (a_ (l_ bK_ rfl rfl rfl dz_) rfl (a_ (u_ 0 dP_ rfl rfl rfl) rfl (a_ (l_ k_ rfl rfl rfl j_) rfl (a_ (u_ 1 q_ rfl rfl rfl) rfl ?_)))))))))
         refine cv_ (ei_ ua (Pc.a p) bf_ (fD_ _ (by omega))) rfl rfl I_ (fun _ _ _ => by exact trivial) rfl fun r27 hr27 => ?_
         refine a_ (d_ rfl) rfl ?_
         refine aT_ 7 ((ct_ ua (Pc.a p) bf_) && (ct_ ub (Pc.b p) bf_)) (fun r => [(1, zp_ b1 0), (2, .bool false), (3, zp_ b2 0), (4, .func (.func 124) #[] #[]), (5, .func (.func 126) #[] #[]), (66, .bool r)]) ?_ fun r28 hr28 => ?_
         ·
          cases r27
          ·
           have qr28 := hr27
           refine r_ rfl rfl rfl rfl (r_ rfl rfl rfl rfl (r_ rfl rfl rfl rfl (r_ rfl rfl rfl rfl (r_ rfl rfl rfl rfl (r_ rfl rfl rfl rfl (a_ (C_ rfl rfl) rfl (e_ (w_ rfl ?_))))))))
           exact met ⟨rfl, rfl, rfl, rfl, rfl, (y_ rfl (jaf qr28)), trivial⟩
          ·
           have qr28 := hr27
           refine p_ rfl rfl (a_ (d_ rfl) rfl (p_ rfl rfl (a_ (l_ bK_ rfl rfl rfl dz_) rfl (p_ rfl rfl (a_ (u_ 0 dP_ rfl rfl rfl) rfl (p_ rfl rfl (a_ (l_ k_ rfl rfl rfl j_) rfl (p_ rfl rfl (a_ (u_ 1 q_ rfl rfl rfl) rfl ?_)))))))))
           refine p_ rfl rfl (cv_ (ei_ ub (Pc.b p) bf_ (fD_ _ (by omega))) rfl rfl I_ (fun _ _ _ => by exact trivial) rfl fun r29 hr29 => ?_)
           refine a_ (H_ rfl rfl) rfl (e_ (w_ rfl ?_))
           exact met ⟨rfl, rfl, rfl, rfl, rfl, (y_ rfl (jat qr28 hr29)), trivial⟩
         ·
          refine a_ (d_ rfl) rfl ?_
          refine aT_ 7 ((((ct_ ua (Pc.a p) bf_) && (ct_ ub (Pc.b p) bf_))) && (ct_ uc (Pc.c p) bf_)) (fun r => [(1, zp_ b1 0), (2, .bool false), (3, zp_ b2 0), (4, .func (.func 124) #[] #[]), (5, .func (.func 126) #[] #[]), (74, .bool r)]) ?_ fun r30 hr30 => ?_
          ·
           cases r28
           ·
            have qr30 := hr28
            simp at hr28
            refine r_ rfl rfl rfl rfl (r_ rfl rfl rfl rfl (r_ rfl rfl rfl rfl (r_ rfl rfl rfl rfl (r_ rfl rfl rfl rfl (r_ rfl rfl rfl rfl (a_ (C_ rfl rfl) rfl (e_ (w_ rfl ?_))))))))
            exact met ⟨rfl, rfl, rfl, rfl, rfl, (y_ rfl (jaf qr30)), trivial⟩
           ·
            have qr30 := hr28
            simp at hr28
            refine p_ rfl rfl (a_ (d_ rfl) rfl (p_ rfl rfl (a_ (l_ bK_ rfl rfl rfl dz_) rfl (p_ rfl rfl (a_ (u_ 0 dP_ rfl rfl rfl) rfl (p_ rfl rfl (a_ (l_ k_ rfl rfl rfl j_) rfl (p_ rfl rfl (a_ (u_ 1 q_ rfl rfl rfl) rfl ?_)))))))))
            refine p_ rfl rfl (cv_ (ei_ uc (Pc.c p) bf_ (fD_ _ (by omega))) rfl rfl I_ (fun _ _ _ => by exact trivial) rfl fun r31 hr31 => ?_)
            refine a_ (H_ rfl rfl) rfl (e_ (w_ rfl ?_))
            exact met ⟨rfl, rfl, rfl, rfl, rfl, (y_ rfl (jat qr30 hr31)), trivial⟩
          ·
           refine a_ (d_ rfl) rfl ?_
           refine aT_ 8 ((((((ct_ ua (Pc.a p) bf_) && (ct_ ub (Pc.b p) bf_))) && (ct_ uc (Pc.c p) bf_))) && (ct_ ur (Pc.r p) bc_)) (fun r => [(1, zp_ b1 0), (2, .bool false), (3, zp_ b2 0), (4, .func (.func 124) #[] #[]), (83, .bool r)]) ?_ fun r32 hr32 => ?_
           ·
            cases r30
            ·
             have qr32 := hr30
             simp at hr30
             refine r_ rfl rfl rfl rfl (r_ rfl rfl rfl rfl (r_ rfl rfl rfl rfl (r_ rfl rfl rfl rfl (r_ rfl rfl rfl rfl (r_ rfl rfl rfl rfl (r_ rfl rfl rfl rfl (a_ (C_ rfl rfl) rfl (e_ (w_ rfl ?_)))))))))
             exact met ⟨rfl, rfl, rfl, rfl, (y_ rfl (jaf qr32)), trivial⟩
            ·
             have qr32 := hr30
             simp at hr30
             refine p_ rfl rfl (a_ (d_ rfl) rfl (p_ rfl rfl (a_ (l_ bK_ rfl rfl rfl dz_) rfl (p_ rfl rfl (a_ (u_ 0 dP_ rfl rfl rfl) rfl (p_ rfl rfl (a_ (l_ k_ rfl rfl rfl j_) rfl (p_ rfl rfl (a_ (u_ 1 q_ rfl rfl rfl) rfl ?_)))))))))
             refine p_ rfl rfl (a_ (d_ rfl) rfl (p_ rfl rfl (cv_ (ei_ ur (Pc.r p) bc_ (eb_ _ (by omega))) rfl rfl I_ (fun _ _ _ => by exact trivial) rfl fun r33 hr33 => ?_)))
             refine a_ (H_ rfl rfl) rfl (e_ (w_ rfl ?_))
             exact met ⟨rfl, rfl, rfl, rfl, (y_ rfl (jat qr32 hr33)), trivial⟩
           ·
            refine a_ (d_ rfl) rfl ?_
            refine aT_ 7 ((((((((ct_ ua (Pc.a p) bf_) && (ct_ ub (Pc.b p) bf_))) && (ct_ uc (Pc.c p) bf_))) && (ct_ ur (Pc.r p) bc_))) && (ct_ us (Pc.s p) bY_)) (fun r => [(1, zp_ b1 0), (2, .bool false), (3, zp_ b2 0), (4, .func (.func 124) #[] #[]), (91, .bool r)]) ?_ fun r34 hr34 => ?_
            ·
             cases r32
             ·
              have qr34 := hr32
              simp at hr32
              refine r_ rfl rfl rfl rfl (r_ rfl rfl rfl rfl (r_ rfl rfl rfl rfl (r_ rfl rfl rfl rfl (r_ rfl rfl rfl rfl (r_ rfl rfl rfl rfl (a_ (C_ rfl rfl) rfl (e_ (w_ rfl ?_))))))))
              exact met ⟨rfl, rfl, rfl, rfl, (y_ rfl (jaf qr34)), trivial⟩
             ·
              have qr34 := hr32
              simp at hr32
              refine p_ rfl rfl (a_ (d_ rfl) rfl (p_ rfl rfl (a_ (l_ bK_ rfl rfl rfl dz_) rfl (p_ rfl rfl (a_ (u_ 0 dP_ rfl rfl rfl) rfl (p_ rfl rfl (a_ (l_ k_ rfl rfl rfl j_) rfl (p_ rfl rfl (a_ (u_ 1 q_ rfl rfl rfl) rfl ?_)))))))))
              refine p_ rfl rfl (cv_ (ei_ us (Pc.s p) bY_ (gt_ _ (by omega))) rfl rfl I_ (fun _ _ _ => by exact trivial) rfl fun r35 hr35 => ?_)
              refine a_ (H_ rfl rfl) rfl (e_ (w_ rfl ?_))
              exact met ⟨rfl, rfl, rfl, rfl, (y_ rfl (jat qr34 hr35)), trivial⟩
            ·
             refine a_ (d_ rfl) rfl ?_
             refine aT_ 7 ((((((((((ct_ ua (Pc.a p) bf_) && (ct_ ub (Pc.b p) bf_))) && (ct_ uc (Pc.c p) bf_))) && (ct_ ur (Pc.r p) bc_))) && (ct_ us (Pc.s p) bY_))) && (ct_ ut (Pc.t p) bY_)) (fun r => [(2, .bool false), (99, .bool r)]) ?_ fun r36 hr36 => ?_
             ·
              cases r34
              ·
               have qr36 := hr34
               simp at hr34
               refine r_ rfl rfl rfl rfl (r_ rfl rfl rfl rfl (r_ rfl rfl rfl rfl (r_ rfl rfl rfl rfl (r_ rfl rfl rfl rfl (r_ rfl rfl rfl rfl (a_ (C_ rfl rfl) rfl (e_ (w_ rfl ?_))))))))
               exact met ⟨rfl, (y_ rfl (jaf qr36)), trivial⟩
              ·
               have qr36 := hr34
               simp at hr34
               refine p_ rfl rfl (a_ (d_ rfl) rfl (p_ rfl rfl (a_ (l_ bK_ rfl rfl rfl dz_) rfl (p_ rfl rfl (a_ (u_ 0 dP_ rfl rfl rfl) rfl (p_ rfl rfl (a_ (l_ k_ rfl rfl rfl j_) rfl (p_ rfl rfl (a_ (u_ 1 q_ rfl rfl rfl) rfl ?_)))))))))
               refine p_ rfl rfl (cv_ (ei_ ut (Pc.t p) bY_ (gt_ _ (by omega))) rfl rfl I_ (fun _ _ _ => by exact trivial) rfl fun r37 hr37 => ?_)
               refine a_ (H_ rfl rfl) rfl (e_ (w_ rfl ?_))
               exact met ⟨rfl, (y_ rfl (jat qr36 hr37)), trivial⟩
             ·
              refine a_ (g_ rfl) rfl (e_ (b_ rfl (F_ ?_)))
              exact aw_ oC_ () (y_ rfl (by unfold Pc.valid; rw [if_neg (by omega)]; simp only [hus]; rw [if_neg (by simp <;> omega), if_neg (by simp <;> omega)]; exact hr36.symm)) (.refl _) (fun _ _ _ => trivial)
        ·
         simp at hr25
         refine t_ rfl (h_ (c_ (a_ (g_ rfl) rfl (e_ (b_ rfl (F_ ?_))))))
         exact aw_ oC_ () (y_ rfl (by unfold Pc.valid; rw [if_neg (by omega)]; simp only [hus]; first | (rw [if_pos (by first | (simp; omega) | omega)]) | (rw [if_neg (by simp), if_pos (by simp; omega)]))) (.refl _) (fun _ _ _ => trivial)
    ·
     simp at hr6
     refine t_ rfl (h_ (c_ (a_ (g_ rfl) rfl (e_ (b_ rfl (F_ ?_))))))
     exact aw_ oC_ () (y_ rfl (by unfold Pc.valid; rw [if_pos (by omega)])) (.refl _) (fun _ _ _ => trivial)
theorem kK_ (l : List Pc) (ad : Option Addr) (cap : Nat) (hl : l.length ≤ 17592186044414) (hsm : ∀ p ∈ l, p.sm) : Tri Tryz.prog 29 #[.slice ad (List.length l) cap] [] [az_ ad (List.flatMap Pc.cells l), gP_] (fun _ : Unit => .int .i64 (bM_ l)) (fun _ => []) (fun _ => []) := by
  refine T_ Tryz.func29 rfl rfl Tryz.ntmps29 rfl fun v0 => ?_
  refine h_ (c_ (a_ (g_ rfl) rfl (e_ (b_ rfl (h_ (h_ (c_ (a_ (d_ rfl) rfl (a_ (am_ A_ rfl) rfl ?_)))))))))
  refine x_ (bR_ rfl rfl) rfl fun r1 hr1 => ?_
  refine e_ (b_ rfl ?_)
  cases r1
  · skip
    replace hr1 := of_decide_eq_false hr1
    refine v_ rfl (z_ (b_ rfl (h_ (h_ (c_ (a_ (d_ rfl) rfl (a_ (am_ A_ rfl) rfl (a_ (d_ rfl) rfl (e_ ?_)))))))))
    refine b_ rfl (R_ (ds_ [(8, .slice ad (List.length l) cap), (9, .int .i64 (List.length l : Int)), (10, .int .i64 ((0 : Nat) : Int))] ⟨rfl, rfl, rfl, trivial⟩ ?_))
    refine dq_ (ι := {q : Nat // q ≤ l.length ∧ (l.take q).all Pc.valid = true}) (fun i => [(8, .slice ad (List.length l) cap), (9, .int .i64 (List.length l : Int)), (10, .int .i64 (i.1 : Int))]) (fun _ => _) (fun _ => _) (fun i => l.length - i.1) ⟨0, by simp⟩ ?_
    rintro ⟨i, hk⟩
    refine ds_ [(8, .slice ad (List.length l) cap), (9, .int .i64 (List.length l : Int)), (10, .int .i64 (i : Int))] ⟨rfl, rfl, rfl, trivial⟩ ?_
    refine h_ (c_ (x_ (av_ rfl rfl) rfl fun r2 hr2 => ?_))
    refine e_ (b_ rfl (h_ ?_))
    cases r2
    · skip
      replace hr2 := of_decide_eq_false hr2
      refine v_ rfl (au_ rfl (b_ rfl (h_ (c_ (a_ (g_ rfl) rfl (e_ (b_ rfl (F_ ?_))))))))
      exact aw_ Tryz.results29 () (cm_ rfl (by unfold bM_; rw [if_neg (by omega), if_pos (by have := hk.2; rwa [List.take_of_length_le (by omega)] at this)])) (.refl _) (fun _ _ _ => trivial)
    · skip
      replace hr2 := of_decide_eq_true hr2
      have hlx1 : i < List.length l := by omega
      obtain ⟨x1, hx1⟩ : ∃ e0, l[i]? = some e0 := ⟨_, List.getElem?_eq_getElem hlx1⟩
      have hmx1 : x1 ∈ l := List.mem_of_getElem? hx1
      refine t_ rfl (z_ (b_ rfl (h_ (R_ (h_ (c_ (a_ (aa_ A_ K_ rfl rfl (fun v _ h => ay_ (n := 10) Pc.cells_len (by decide) (by exact h.1) hx1) (by omega) (by first | omega | (simp; done))) rfl (a_ (aU_ (ad := ad) (us := Pc.cells x1) aG_ K_ rfl (fun v _ h => by exact h.1) (Pc.cells_len _) (ad_ Pc.cells_len hx1)) rfl (ao_ aX_ rfl fun b1 => ?_)))))))))
      refine Q_ 0 K_ rfl rfl rfl rfl rfl rfl (e_ (b_ rfl (h_ (c_ (a_ (Y_ 0 aG_ K_ rfl rfl rfl) rfl (as_ (nM_ x1 (hsm x1 hmx1)) rfl I_ (fun v _ h => by exact ⟨h.2.1, trivial⟩) rfl fun r3 hr3 => ?_))))))
      refine a_ (ce_ rfl) rfl (e_ (b_ rfl ?_))
      cases r3
      · skip
        refine t_ rfl (h_ (c_ (a_ (g_ rfl) rfl (e_ (b_ rfl (F_ ?_))))))
        exact aw_ Tryz.results29 () (cm_ rfl (by unfold bM_; rw [if_neg (by omega), if_neg (by rw [show l.all Pc.valid = false from List.all_eq_false.2 ⟨x1, hmx1, by simp [*]⟩]; simp)])) (.refl _) (fun _ _ _ => trivial)
      · skip
        refine v_ rfl (z_ (b_ rfl (c_ (a_ (M_ rfl rfl rfl (af_ (by omega) (by omega))) rfl (a_ (d_ rfl) rfl (e_ (w_ rfl ?_)))))))
        exact Z_ ⟨i + 1, hlx1, by rw [List.take_add_one, hx1]; simp only [Option.toList_some, List.all_append, hk.2]; simp [*]⟩ (by simp; omega) ⟨rfl, rfl, rfl, trivial⟩ (@List.perm_append_comm _ [_] _) (fun _ _ h => h)
  · skip
    replace hr1 := of_decide_eq_true hr1
    refine t_ rfl (h_ (c_ (a_ (g_ rfl) rfl (e_ (b_ rfl (F_ ?_))))))
    exact aw_ Tryz.results29 () (cm_ rfl (by unfold bM_; rw [if_pos (by omega)])) (.refl _) (fun _ _ _ => trivial)
end Go.Proofs.YtpdbbglpbngeiaaGreatDoor
namespace Go.Vs
open Go Go.Sx
def vw (W : World) : Vw := ⟨fun b => b < W.heap.size, W, True⟩
theorem vw_sat (W : World) : (vw W).sat [] := ⟨(fun _ h => by cases h), (by simp), fun _ h => h⟩
section
variable {H : Type} {enc : TypeId × Value → H} {P : Program} {W : World}
abbrev wok (l : List Nat) : Prop := l.all (· ≤ reachBytes) = true
theorem fO_ {a b : List Nat} : wok (a ++ b) ↔ wok a ∧ wok b := by simp [wok, List.all_append]
theorem og_ {n : Nat} {b : List Nat} : wok (n :: b) ↔ n ≤ reachBytes ∧ wok b := by simp [wok]
theorem oh_ {e : TypeId} : ∀ {ds : List (DataW H)}, wok (DataW.weightsAll P e ds) → ∀ d ∈ ds, wok (d.weights P e)
  | [], _, _, h => by cases h
  | x :: ds, hw, d, hd => by
    rw [DataW.weightsAll, fO_] at hw
    rcases List.mem_cons.1 hd with rfl | hd
    · exact hw.1
    · exact oh_ hw.2 d hd
theorem mN_ {α : Type} [Inhabited α] (f : α → List Value) (k : Nat) (hk : ∀ x, (f x).length = k) (hk0 : 0 < k) (Q : α → Prop) {ts te : TypeId} (hs : P.underlying ts = some (.slice te)) (hc : P.cellsOf te = k) {n : Nat} {cs : List Value} {x : DataW H × List MemPlace}
    (hread : ∀ m, m < n → ∀ cs' y, DataW.trod enc P W 0 (fun _ => true) true m te cs' = some y → wok (y.1.weights P te) → ∃ c, cs' = f c ∧ Q c)
    (h : DataW.trod enc P W 0 (fun _ => true) true n ts cs = some x) (hw : wok (x.1.weights P ts)) :
    ∃ (l : List α) (ad : Option Addr) (cap : Nat), cs = [.slice ad l.length cap] ∧ bv_ (vw W) ad (l.flatMap f) ∧ (∀ c ∈ l, Q c) ∧ l.length ≤ cap ∧ cap * P.bytesOf te ≤ reachBytes := by
  rcases DataW.trod_slice hs h with ⟨h0, _⟩ | ⟨a, len, cap, elems, rest, m, hn, rfl, rfl, _, hl, _, hlen, hel, hsp, _⟩
  · exact ⟨[], none, 0, h0, .inl rfl, (fun _ h => by cases h), Nat.le_refl _, by simp⟩
  · obtain ⟨hr, _⟩ := hsp rfl
    simp only [DataW.weights, hs, og_, fO_, List.length_map] at hw
    have hcap : cap * P.bytesOf te ≤ reachBytes := by
      have e : elems.length + rest.length = cap := by omega
      rw [← e]; exact hw.1
    have hone : ∀ i, i < len → ∃ c : α, W.cells? 0 (a.add (i * k)) k = some (f c) ∧ Q c := fun i hi => by
      have he := hel i hi
      rw [hc, List.getElem?_eq_getElem (by omega)] at he
      obtain ⟨cs', h1, h2⟩ := Option.bind_eq_some_iff.1 he
      obtain ⟨c, rfl, hq⟩ := hread m (by omega) cs' _ h2 (oh_ hw.2.1 _ (List.mem_map_of_mem (List.getElem_mem (by omega))))
      exact ⟨c, h1, hq⟩
    obtain ⟨C, hC⟩ := Deep.choose_lt hone
    refine ⟨(List.range len).map C, some a, cap, by simp, ?_, ?_, by simpa using hl, hcap⟩
    · by_cases h0 : len = 0
      · left; simp [h0]
      · have h1 := (hC 0 (by omega)).1
        obtain ⟨_, _, hcell⟩ := World.cells?_some h1
        have hc0 := hcell 0 hk0
        have hlt : 0 < (f (C 0)).length := by rw [hk]; exact hk0
        rw [List.getElem?_eq_getElem hlt] at hc0
        cases hb : W.heap[a.block]? with
        | none => simp [World.cell?, Addr.add, hb] at hc0
        | some o =>
          cases o with
          | cells arr T fz =>
            have hspot : a.spot = none := by
              cases hsp2 : a.spot with
              | none => rfl
              | some s => simp [World.cell?, Addr.add, hb, hsp2] at hc0
            obtain ⟨b, off, sp⟩ := a
            simp only at hspot hb
            subst hspot
            right
            refine ⟨b, off, arr, T, fz, rfl, (Array.getElem?_eq_some_iff.1 hb).1, hb, fun j y hj => ?_⟩
            have hjlt : j < len * k := by
              have := (List.getElem?_eq_some_iff.1 hj).1
              rw [bp_ f k hk] at this
              simpa using this
            have hi : j / k < len := Nat.div_lt_of_lt_mul (by rw [Nat.mul_comm]; exact hjlt)
            have hr' : j % k < k := Nat.mod_lt _ hk0
            have e : j = (j / k) * k + j % k := by rw [Nat.mul_comm]; exact (Nat.div_add_mod j k).symm
            have hget : ((List.range len).map C)[j / k]? = some (C (j / k)) := by simp [hi]
            rw [e, kF_ f k hk _ (j / k) (j % k) _ hget hr'] at hj
            obtain ⟨_, _, hcell⟩ := World.cells?_some (hC (j / k) hi).1
            have := hcell (j % k) hr'
            rw [hj, cU_, cU_] at this
            rw [e]
            simpa [World.cell?, hb, Nat.add_assoc] using this
          | _ => simp [World.cell?, Addr.add, hb] at hc0
    · intro c hc'
      obtain ⟨i, hi, rfl⟩ := List.mem_map.1 hc'
      exact (hC i (by simpa using hi)).2
end
instance : Inhabited Con := ⟨.mk 0 [] 0 0 none 0 []⟩
instance : Inhabited Ax := ⟨⟨0, false, default, default, none, 0, [], [], [], []⟩⟩
instance : Inhabited Pc := ⟨⟨0, [], [], [], [], [], [], 0, 0, 0⟩⟩
structure Tys (P : Program) (tI tB tS tSs tC tCs tA tAs tP tPs : TypeId) : Prop where
  i : P.underlying tI = some (.int .i64)
  b : P.underlying tB = some .bool
  s : P.underlying tS = some .string
  ss : P.underlying tSs = some (.slice tS)
  c : ∃ fs, P.underlying tC = some (.struct fs) ∧ fs.toList.map (fun f => (f.type, f.offset)) = [(tI, 0), (tS, 1), (tI, 2), (tI, 3), (tCs, 4)]
  cs : P.underlying tCs = some (.slice tC)
  a : ∃ fs, P.underlying tA = some (.struct fs) ∧ fs.toList.map (fun f => (f.type, f.offset)) = [(tI, 0), (tB, 1), (tC, 2), (tC, 7), (tSs, 12), (tS, 13), (tS, 14), (tS, 15)]
  axs : P.underlying tAs = some (.slice tA)
  p : ∃ fs, P.underlying tP = some (.struct fs) ∧ fs.toList.map (fun f => (f.type, f.offset)) = [(tI, 0), (tS, 1), (tS, 2), (tS, 3), (tS, 4), (tS, 5), (tS, 6), (tI, 7), (tI, 8), (tI, 9)]
  ps : P.underlying tPs = some (.slice tP)
  ci : P.cellsOf tI = 1
  cb : P.cellsOf tB = 1
  cs1 : P.cellsOf tS = 1
  css : P.cellsOf tSs = 1
  cc : P.cellsOf tC = 5
  ccs : P.cellsOf tCs = 1
  ca : P.cellsOf tA = 16
  cp : P.cellsOf tP = 10
  bs : P.bytesOf tS = 16
  bc : P.bytesOf tC = 64
  ba : P.bytesOf tA = 216
  bp : P.bytesOf tP = 128
section
variable {H : Type} {enc : TypeId × Value → H} {P : Program} {W : World} {tI tB tS tSs tC tCs tA tAs tP tPs : TypeId} (X : Tys P tI tB tS tSs tC tCs tA tAs tP tPs)
theorem fields_of {t : TypeId} {fs : Array Field} {L : List (TypeId × Nat)} {cs : List Value} {n : Nat} {x : DataW H × List MemPlace} (ht : P.underlying t = some (.struct fs)) (hL : fs.toList.map (fun f => (f.type, f.offset)) = L) (h : DataW.trod enc P W 0 (fun _ => true) true n t cs = some x) :
    ∃ (xs : List (DataW H × List MemPlace)) (m : Nat), n = m + 1 ∧ x.1 = .agg (xs.map (·.1)) ∧ cs.length = P.cellsOf t ∧ xs.length = L.length ∧ (∀ (i : Nat) q, L[i]? = some q → DataW.trod enc P W 0 (fun _ => true) true m q.1 ((cs.drop q.2).take (P.cellsOf q.1)) = xs[i]?) ∧
      (x.1.weights P t = DataW.weightsEach P (L.map (·.1)) (xs.map (·.1))) := by
  obtain ⟨xs, m, hn, hx, hl, hlen, hf⟩ := DataW.trod_struct ht h
  refine ⟨xs, m, hn, by rw [hx], hl, by rw [hlen, ← hL]; simp, fun i q hq => ?_, ?_⟩
  · rw [← hL, List.getElem?_map, Option.map_eq_some_iff] at hq
    obtain ⟨f, hf', rfl⟩ := hq
    exact hf i f (by simpa using hf')
  · rw [hx]; simp only [DataW.weights, ht]
    congr 1
    rw [← hL, List.map_map]; rfl
include X
theorem jd_ {n : Nat} {cs : List Value} {x : DataW H × List MemPlace} (h : DataW.trod enc P W 0 (fun _ => true) true n tI cs = some x) : ∃ k : Int, cs = [.int .i64 k] ∧ -9223372036854775808 ≤ k ∧ k ≤ 9223372036854775807 := by
  obtain ⟨k, h1, _, h3⟩ := DataW.trod_int X.i h
  have := bounds_i64 h3
  exact ⟨k, h1, this.1, this.2⟩
theorem str_of {n : Nat} {cs : List Value} {x : DataW H × List MemPlace} (h : DataW.trod enc P W 0 (fun _ => true) true n tS cs = some x) (hw : wok (x.1.weights P tS)) : ∃ s : Str, cs = [str s] ∧ s.length ≤ 140737488351232 := by
  obtain ⟨s, h1, h2, _⟩ := DataW.trod_string X.s h
  rw [h2] at hw
  simp [wok, DataW.weights, reachBytes] at hw
  refine ⟨s.data.toList, by rw [h1]; rfl, by have := of_decide_eq_true hw; simpa using this⟩
structure Pc.big (p : Pc) : Prop where
  a : p.a.length ≤ 140737488351232
  b : p.b.length ≤ 140737488351232
  c : p.c.length ≤ 140737488351232
  r : p.r.length ≤ 140737488351232
  s : p.s.length ≤ 140737488351232
  t : p.t.length ≤ 140737488351232
theorem pc_of {n : Nat} {cs : List Value} {x : DataW H × List MemPlace} (h : DataW.trod enc P W 0 (fun _ => true) true n tP cs = some x) (hw : wok (x.1.weights P tP)) : ∃ p : Pc, cs = p.cells ∧ p.big := by
  obtain ⟨fs, hu, hL⟩ := X.p
  obtain ⟨xs, m, hn, hx, hl, hlen, hf, hwe⟩ := fields_of hu hL h
  rw [hwe] at hw
  match xs, hlen with
  | [x0, x1, x2, x3, x4, x5, x6, x7, x8, x9], _ =>
  simp only [List.map_cons, List.map_nil, DataW.weightsEach, fO_] at hw
  have f0 := hf 0 _ rfl; have f1 := hf 1 _ rfl; have f2 := hf 2 _ rfl; have f3 := hf 3 _ rfl; have f4 := hf 4 _ rfl; have f5 := hf 5 _ rfl; have f6 := hf 6 _ rfl; have f7 := hf 7 _ rfl; have f8 := hf 8 _ rfl; have f9 := hf 9 _ rfl
  simp only [List.getElem?_cons_zero, List.getElem?_cons_succ, X.ci, X.cs1] at f0 f1 f2 f3 f4 f5 f6 f7 f8 f9
  obtain ⟨k, e0, _, _⟩ := jd_ X f0
  obtain ⟨a, e1, n1⟩ := str_of X f1 hw.2.1
  obtain ⟨b, e2, n2⟩ := str_of X f2 hw.2.2.1
  obtain ⟨c, e3, n3⟩ := str_of X f3 hw.2.2.2.1
  obtain ⟨r, e4, n4⟩ := str_of X f4 hw.2.2.2.2.1
  obtain ⟨s, e5, n5⟩ := str_of X f5 hw.2.2.2.2.2.1
  obtain ⟨t, e6, n6⟩ := str_of X f6 hw.2.2.2.2.2.2.1
  obtain ⟨lo, e7, _, _⟩ := jd_ X f7
  obtain ⟨hi, e8, _, _⟩ := jd_ X f8
  obtain ⟨fr, e9, _, _⟩ := jd_ X f9
  rw [X.cp] at hl
  match cs, hl with
  | [c0, c1, c2, c3, c4, c5, c6, c7, c8, c9], _ =>
  simp only [List.drop_succ_cons, List.drop_zero, List.take_succ_cons, List.take_zero, List.cons.injEq, and_true] at e0 e1 e2 e3 e4 e5 e6 e7 e8 e9
  subst e0 e1 e2 e3 e4 e5 e6 e7 e8 e9
  exact ⟨⟨k, a, b, c, r, s, t, lo, hi, fr⟩, rfl, n1, n2, n3, n4, n5, n6⟩
theorem pcs_of {n : Nat} {cs : List Value} {x : DataW H × List MemPlace} (h : DataW.trod enc P W 0 (fun _ => true) true n tPs cs = some x) (hw : wok (x.1.weights P tPs)) :
    ∃ (l : List Pc) (ad : Option Addr) (cap : Nat), cs = [.slice ad l.length cap] ∧ bv_ (vw W) ad (l.flatMap Pc.cells) ∧ (∀ y ∈ l, y.big) ∧ l.length ≤ cap ∧ cap ≤ 1099511627744 := by
  obtain ⟨l, ad, cap, e, hrow, hq, hlc, hcap⟩ := mN_ Pc.cells 10 Pc.cells_len (by decide) Pc.big X.ps X.cp (fun m' _ cs' y hy hwy => pc_of X hy hwy) h hw
  rw [X.bp] at hcap; simp only [reachBytes] at hcap
  exact ⟨l, ad, cap, e, hrow, hq, hlc, by omega⟩
end
end Go.Vs
namespace Go.Vs
open Go Go.Sx Go.ChangeShapes Go.WideShapes Go.ChangeAt Go.RowKit
section
variable {H : Type} {enc : TypeId × Value → H} {P : Program} {w : World}
mutual
def fV_ {H : Type} : DataW H → List Value
  | .lit (.int k n) => [.int k n]
  | .lit (.bool b) => [.bool b]
  | .agg ps => hs_ ps
  | _ => []
def hs_ {H : Type} : List (DataW H) → List Value
  | [] => []
  | d :: r => fV_ d ++ hs_ r
end
def fW_ (P : Program) : Nat → TypeId → Bool
  | 0, _ => false
  | n + 1, t => match P.underlying t with
    | some .bool => true
    | some (.int _) => true
    | some (.struct fs) => fs.toList.all fun f => fW_ P n f.type
    | some (.array _ e) => fW_ P n e
    | _ => false
theorem gW_ : ∀ l : List (DataW H), hs_ l = l.flatMap fV_
  | [] => by simp [hs_]
  | d :: r => by simp only [hs_, gW_ r, List.flatMap_cons]
theorem tile : ∀ (ls : List Nat) (cs : List Value) (g : List (List Value)), cs.length = ls.sum → g.length = ls.length → (∀ j n, ls[j]? = some n → some ((cs.drop (ls.take j).sum).take n) = g[j]?) → cs = g.flatten
  | [], cs, g, h, hg, _ => by
    simp only [List.sum_nil] at h
    have h1 := List.eq_nil_of_length_eq_zero h
    have h2 : g = [] := List.eq_nil_of_length_eq_zero hg
    simp [h1, h2]
  | n :: ls, cs, [], h, hg, hp => by simp at hg
  | n :: ls, cs, x :: g, h, hg, hp => by
    have h0 := hp 0 n rfl
    simp only [List.take_zero, List.sum_nil, List.drop_zero, List.getElem?_cons_zero, Option.some.injEq] at h0
    have ih := tile ls (cs.drop n) g (by rw [List.length_drop, h]; simp) (by simpa using hg) (fun j m hj => by
      have := hp (j + 1) m hj
      simp only [List.take_succ_cons, List.sum_cons, List.getElem?_cons_succ] at this
      rw [← this, List.drop_drop])
    rw [List.flatten_cons, ← ih, ← h0, List.take_append_drop]
theorem oM_ {T : TypeId → Prop} {held : Bool} (K : Kids P T) : ∀ (n m : Nat) (t : TypeId) (cs : List Value) (x : DataW H × List MemPlace), T t → fW_ P m t = true → DataW.trod enc P w 0 (fun _ => true) held n t cs = some x → cs = fV_ x.1 := by
  intro n
  induction n with
  | zero => intro m t cs x _ _ h; simp [DataW.trod] at h
  | succ n ih =>
    intro m t cs x hT hb h
    cases m with
    | zero => simp [fW_] at hb
    | succ m =>
    cases hu : P.underlying t with
    | none => simp [fW_, hu] at hb
    | some d =>
      cases d with
      | bool => obtain ⟨b, rfl, rfl⟩ := DataW.trod_bool hu h; simp [fV_]
      | int k => obtain ⟨b, rfl, rfl, _⟩ := DataW.trod_int hu h; simp [fV_]
      | struct fs =>
        obtain ⟨xs, m', hn, rfl, hl, hlen, hf⟩ := DataW.trod_struct hu h
        obtain rfl : m' = n := by omega
        obtain ⟨k1, k2, k3⟩ := K.struct hT hu
        simp only [fW_, hu] at hb
        simp only [fV_]
        rw [gW_, List.flatMap_def, List.map_map]
        refine tile (fs.toList.map fun f => P.cellsOf f.type) cs _ (by rw [hl, k2]) (by simp [hlen]) fun j q hq => ?_
        rw [List.getElem?_map, Option.map_eq_some_iff] at hq
        obtain ⟨f, hf', rfl⟩ := hq
        have h1 := hf j f (by simpa using hf')
        have h2 := k3 j f hf'
        have hj : j < xs.length := by rw [hlen]; have := (List.getElem?_eq_some_iff.1 hf').1; simpa using this
        rw [List.getElem?_eq_getElem hj] at h1
        have h3 := ih m f.type _ _ (k1 f (List.mem_of_getElem? hf')) (List.all_eq_true.1 hb f (List.mem_of_getElem? hf')) h1
        rw [List.getElem?_map, List.getElem?_eq_getElem hj, ← List.map_take, ← h2, h3]
        rfl
      | array len e =>
        obtain ⟨xs, m', hn, rfl, hl, hlen, hf⟩ := DataW.trod_array hu h
        obtain rfl : m' = n := by omega
        obtain ⟨k1, k2⟩ := K.array hT hu
        simp only [fW_, hu] at hb
        simp only [fV_]
        rw [gW_, List.flatMap_def, List.map_map]
        refine tile (List.replicate len (P.cellsOf e)) cs _ (by rw [hl, k2]; simp) (by simp [hlen]) fun j q hq => ?_
        rw [List.getElem?_replicate] at hq
        split at hq
        · rename_i hj
          simp only [Option.some.injEq] at hq
          subst hq
          have h1 := hf j hj
          have hjx : j < xs.length := by omega
          rw [List.getElem?_eq_getElem hjx] at h1
          have h3 := ih m e _ _ k1 hb h1
          rw [List.getElem?_map, List.getElem?_eq_getElem hjx, List.take_replicate, List.sum_replicate_nat, Nat.min_eq_left (by omega), h3]
          rfl
        · cases hq
      | _ => simp [fW_, hu] at hb
end
section
variable {H : Type} {enc : TypeId × Value → H} {P : Program} {W W' : World}
theorem gR_ : ∀ {ts : List TypeId} {vs : List Value} {ds : List (DataW H)} {ps : List MemPlace} {sp : Nat → Bool}, DataW.TrodAll enc P W 0 sp true ts vs ds ps → (∀ p ∈ ps, W.sameAt W' p) → DataW.TrodAll enc P W' 0 sp true ts vs ds ps
  | [], [], [], _, _, h, _ => h
  | _ :: _, _ :: _, _ :: _, _, _, ⟨p, q, ⟨n, h1⟩, h2, e⟩, hs => ⟨p, q, ⟨n, DataW.trod_carry n _ _ _ h1 (fun x hx => hs x (by rw [e]; exact List.mem_append_left _ hx))⟩, gR_ h2 (fun x hx => hs x (by rw [e]; exact List.mem_append_right _ hx)), e⟩
theorem pa_ {T : TypeId → Prop} (K : Kids P T) (hz : ∀ t e, T t → P.underlying t = some (.slice e) → 0 < P.cellsOf e) {f : Func} {s : ChangeSpec} {args : Array Value} {ds : List (DataW H)} {before : List MemPlace} {tb : TypeId} (hts : ∀ t ∈ f.params.toList, T t) (hvars : s.vars = [])
    (hW : DataW.Whole enc P f.params.toList s.vars false W args.toList ds [] before) (hs : s.fn H (ds ++ []) = { results := [.lit (.bool true)], args := ds }) (hres : f.resultTypes = #[tb]) (hb : P.underlying tb = some .bool) {v' : Vw} (hto : (vw W).to [] v' []) :
    s.post enc P f false true false false W args (.bool true) v'.w := by
  have hW' := hW
  obtain ⟨p, q, hA, hV, hp, _, _⟩ := hW
  have hq : q = [] := by rw [hvars] at hV; exact hV
  subst hq
  simp only [List.append_nil] at hp
  subst hp
  have hblk : ∀ b, b < W.heap.size → v'.w.heap[b]? = W.heap[b]? := fun b hb => hto.block b hb (by simp)
  have hsame : ∀ x ∈ before, W.sameAt v'.w x := fun x hx => by
    have hlt := DataW.TrodAll.lt hA x hx
    cases x with
    | cell b off => exact World.cell?_of_block (hblk b hlt)
    | map b => exact hblk b hlt
  have hA' := gR_ hA hsame
  have hA'' := DataW.TrodAll.respare K hz (spare' := fun b => decide (b < W.heap.size)) hts hA' (fun x hx => by simpa using DataW.TrodAll.lt hA x hx)
  refine ⟨ds, [], before, [], before, [], hW', ?_, ?_, ?_, ⟨hto.os, hto.output, fun i hi => ?_⟩, fun h => by cases h⟩
  · rw [hs, hres]; exact trodAll_mk1 (shut_bool hb true)
  · rw [hs]; exact hA''
  · rw [hs, hvars]; rfl
  · rw [hblk i hi]
    have hsome : ∃ o, W.heap[i]? = some o := ⟨_, Array.getElem?_eq_getElem hi⟩
    obtain ⟨o, ho⟩ := hsome
    rw [ho]
    cases o <;> simp
section
variable {tI tB tS tSs tC tCs tA tAs tP tPs : TypeId} (X : Tys P tI tB tS tSs tC tCs tA tAs tP tPs) {base : Nat} {v : Value} {d : DataW H} {ps : List MemPlace}
include X
theorem qy_ (hval : Value.okWide P W .any base tI v) (h : DataW.Trod enc P W 0 (fun _ => true) true tI v d ps) : ∃ k : Int, v = .int .i64 k ∧ -9223372036854775808 ≤ k ∧ k ≤ 9223372036854775807 := by
  obtain ⟨k, e, _, _, hw⟩ := open_int X.i hval h
  have := bounds_i64 hw
  exact ⟨k, e, this.1, this.2⟩
end
theorem om_ {T : TypeId → Prop} (K : Kids P T) {name : String} {d : DataW Unit} {laid : List (String × DataW Unit)} {W : World} (h : laidMet P laid W) (hm : (name, d) ∈ laid) {g : Nat} {t : TypeId} (hg : P.globalNamed name = some g) (ht' : (P.globals[g]?).map (·.type) = some t) (hT : T t) {m : Nat} (hb : fW_ P m t = true) :
    ∃ T' fz, W.heap[g]? = some (.cells (fV_ d).toArray T' fz) := by
  obtain ⟨ps, hl, _, _⟩ := h
  have key : ∀ (l : List (String × DataW Unit)) (ps : List MemPlace), DataW.LaidVars P W l ps → (name, d) ∈ l → ∃ g t cs n p, P.globalNamed name = some g ∧ (P.globals[g]?).map (·.type) = some t ∧ W.var? P name = some cs ∧ DataW.trod (fun _ => ()) P W 0 (fun _ => true) false n t cs.toList = some (d, p) := by
    intro l
    induction l with
    | nil => intro ps _ h; cases h
    | cons x r ih =>
      intro ps h hm
      obtain ⟨n', d'⟩ := x
      obtain ⟨g, t, cs, fuel, p, q, h1, h2, h3, h4, h5, _⟩ := h
      rcases List.mem_cons.1 hm with e | hm
      · cases e; exact ⟨g, t, cs, fuel, p, h1, h2, h3, h4⟩
      · exact ih q h5 hm
  obtain ⟨g', t', cs, n, p, h1, h2, h3, h4⟩ := key laid ps hl hm
  obtain rfl : g' = g := Option.some.inj (h1.symm.trans hg)
  obtain rfl : t' = t := Option.some.inj (h2.symm.trans ht')
  have e := oM_ K n m t' cs.toList _ hT hb h4
  simp only [World.var?, hg, Option.bind_some] at h3
  split at h3
  · rename_i c T' fz hc
    simp only [Option.some.injEq] at h3
    subst h3
    exact ⟨T', fz, by rw [hc, ← e]⟩
  · cases h3
end
end Go.Vs
namespace Go.Proofs.YtpdbbglpbngeiaaGreatDoor
open Go Go.Sx Go.Proofs
attribute [local irreducible] Code.wp wpList wpAnyH
open Go.Vs
theorem jY_ (c : UInt8) :
  Fn0 Tryz.prog 242 #[.int .u8 (c.toNat : Int)] (.bool (cW_ c)) := by
 refine T_ Tryz.func242 rfl rfl Tryz.ntmps242 rfl fun v0 => ?_
 refine h_ (c_ (a_ (g_ rfl) rfl (e_ (b_ rfl (h_ (c_ (a_ (d_ rfl) rfl (x_ (cG_ rfl rfl) rfl fun r1 hr1 => ?_))))))))
 refine a_ (d_ rfl) rfl ?_
 cases r1
 ·
  replace hr1 := of_decide_eq_false hr1
  refine r_ rfl rfl rfl rfl (r_ rfl rfl rfl rfl (a_ (C_ rfl rfl) rfl (a_ (d_ rfl) rfl (p_ rfl rfl (a_ (d_ rfl) rfl (p_ rfl rfl (x_ (cG_ rfl rfl) rfl fun r2 hr2 => ?_)))))))
  refine p_ rfl rfl (a_ (d_ rfl) rfl ?_)
  cases r2
  ·
   replace hr2 := of_decide_eq_false hr2
   refine r_ rfl rfl rfl rfl (r_ rfl rfl rfl rfl (p_ rfl rfl (a_ (C_ rfl rfl) rfl (a_ (C_ rfl rfl) rfl (a_ (g_ rfl) rfl (e_ (b_ rfl (F_ ?_))))))))
   exact aw_ mO_ () (y_ rfl (by subst_vars; rw [Bool.eq_iff_iff]; simp [cW_] <;> omega)) (.refl _) (fun _ _ _ => trivial)
  ·
   replace hr2 := of_decide_eq_true hr2
   refine p_ rfl rfl (a_ (d_ rfl) rfl (p_ rfl rfl (x_ (cf_ rfl rfl) rfl fun r3 hr3 => ?_)))
   refine p_ rfl rfl (a_ (H_ rfl rfl) rfl (a_ (C_ rfl rfl) rfl (a_ (g_ rfl) rfl (e_ (b_ rfl (F_ ?_))))))
   exact aw_ mO_ () (y_ rfl (by subst_vars; rw [Bool.eq_iff_iff]; simp [cW_] <;> omega)) (.refl _) (fun _ _ _ => trivial)
 ·
  replace hr1 := of_decide_eq_true hr1
  refine p_ rfl rfl (a_ (d_ rfl) rfl (p_ rfl rfl (x_ (cf_ rfl rfl) rfl fun r4 hr4 => ?_)))
  refine a_ (H_ rfl rfl) rfl (a_ (d_ rfl) rfl ?_)
  cases r4
  ·
   replace hr4 := of_decide_eq_false hr4
   refine p_ rfl rfl (a_ (d_ rfl) rfl (p_ rfl rfl (x_ (cG_ rfl rfl) rfl fun r5 hr5 => ?_)))
   refine p_ rfl rfl (a_ (d_ rfl) rfl ?_)
   cases r5
   ·
    replace hr5 := of_decide_eq_false hr5
    refine r_ rfl rfl rfl rfl (r_ rfl rfl rfl rfl (p_ rfl rfl (a_ (C_ rfl rfl) rfl (a_ (C_ rfl rfl) rfl (a_ (g_ rfl) rfl (e_ (b_ rfl (F_ ?_))))))))
    exact aw_ mO_ () (y_ rfl (by subst_vars; rw [Bool.eq_iff_iff]; simp [cW_] <;> omega)) (.refl _) (fun _ _ _ => trivial)
   ·
    replace hr5 := of_decide_eq_true hr5
    refine p_ rfl rfl (a_ (d_ rfl) rfl (p_ rfl rfl (x_ (cf_ rfl rfl) rfl fun r6 hr6 => ?_)))
    refine p_ rfl rfl (a_ (H_ rfl rfl) rfl (a_ (C_ rfl rfl) rfl (a_ (g_ rfl) rfl (e_ (b_ rfl (F_ ?_))))))
    exact aw_ mO_ () (y_ rfl (by subst_vars; rw [Bool.eq_iff_iff]; simp [cW_] <;> omega)) (.refl _) (fun _ _ _ => trivial)
  ·
   replace hr4 := of_decide_eq_true hr4
   refine r_ rfl rfl rfl rfl (r_ rfl rfl rfl rfl (r_ rfl rfl rfl rfl (r_ rfl rfl rfl rfl (r_ rfl rfl rfl rfl (r_ rfl rfl rfl rfl (a_ (H_ rfl rfl) rfl (a_ (g_ rfl) rfl (e_ (b_ rfl ?_)))))))))
   refine F_ ?_
   exact aw_ mO_ () (y_ rfl (by subst_vars; rw [Bool.eq_iff_iff]; simp [cW_] <;> omega)) (.refl _) (fun _ _ _ => trivial)
theorem lq_ (c : UInt8) :
    Fn0 Tryz.prog 221 #[.int .u8 (c.toNat : Int)] (.bool (dm_ c)) := by
  refine T_ Tryz.func221 rfl rfl Tryz.ntmps221 rfl fun v0 => ?_
  refine h_ (c_ (a_ (g_ rfl) rfl (e_ (b_ rfl (h_ (c_ (a_ (d_ rfl) rfl (as_ (jY_ _) rfl (.refl _) (fun _ _ _ => trivial) rfl fun r1 hr1 => ?_))))))))
  refine a_ (d_ rfl) rfl ?_
  cases r1
  · skip
    refine p_ rfl rfl (a_ (d_ rfl) rfl (p_ rfl rfl (x_ (cG_ rfl rfl) rfl fun r2 hr2 => ?_)))
    refine p_ rfl rfl (a_ (d_ rfl) rfl ?_)
    cases r2
    · skip
      replace hr2 := of_decide_eq_false hr2
      refine r_ rfl rfl rfl rfl (r_ rfl rfl rfl rfl (p_ rfl rfl (a_ (C_ rfl rfl) rfl (a_ (C_ rfl rfl) rfl (a_ (d_ rfl) rfl (p_ rfl rfl (a_ (d_ rfl) rfl (p_ rfl rfl (x_ (aM_ rfl rfl) rfl fun r3 hr3 => ?_)))))))))
      refine a_ (C_ rfl rfl) rfl (a_ (g_ rfl) rfl (e_ (b_ rfl (F_ ?_))))
      exact aw_ Tryz.results221 () (y_ rfl (by subst_vars; rw [Bool.eq_iff_iff]; simp [dm_, *] <;> omega)) (.refl _) (fun _ _ _ => trivial)
    · skip
      replace hr2 := of_decide_eq_true hr2
      refine p_ rfl rfl (a_ (d_ rfl) rfl (p_ rfl rfl (x_ (cf_ rfl rfl) rfl fun r4 hr4 => ?_)))
      refine p_ rfl rfl (a_ (H_ rfl rfl) rfl (a_ (C_ rfl rfl) rfl (a_ (d_ rfl) rfl ?_)))
      cases r4
      · skip
        replace hr4 := of_decide_eq_false hr4
        refine p_ rfl rfl (a_ (d_ rfl) rfl (p_ rfl rfl (x_ (aM_ rfl rfl) rfl fun r5 hr5 => ?_)))
        refine a_ (C_ rfl rfl) rfl (a_ (g_ rfl) rfl (e_ (b_ rfl (F_ ?_))))
        exact aw_ Tryz.results221 () (y_ rfl (by subst_vars; rw [Bool.eq_iff_iff]; simp [dm_, *] <;> omega)) (.refl _) (fun _ _ _ => trivial)
      · skip
        replace hr4 := of_decide_eq_true hr4
        refine r_ rfl rfl rfl rfl (r_ rfl rfl rfl rfl (a_ (H_ rfl rfl) rfl (a_ (g_ rfl) rfl (e_ (b_ rfl (F_ ?_))))))
        exact aw_ Tryz.results221 () (y_ rfl (by subst_vars; rw [Bool.eq_iff_iff]; simp [dm_, *] <;> omega)) (.refl _) (fun _ _ _ => trivial)
  · skip
    refine r_ rfl rfl rfl rfl (r_ rfl rfl rfl rfl (r_ rfl rfl rfl rfl (r_ rfl rfl rfl rfl (r_ rfl rfl rfl rfl (r_ rfl rfl rfl rfl (a_ (H_ rfl rfl) rfl (a_ (d_ rfl) rfl (r_ rfl rfl rfl rfl (r_ rfl rfl rfl rfl ?_)))))))))
    refine a_ (H_ rfl rfl) rfl (a_ (g_ rfl) rfl (e_ (b_ rfl (F_ ?_))))
    exact aw_ Tryz.results221 () (y_ rfl (by subst_vars; rw [Bool.eq_iff_iff]; simp [dm_, *] <;> omega)) (.refl _) (fun _ _ _ => trivial)
theorem mh_ (s : Str) :
  Fn0 Tryz.prog 243 #[str s] (.bool (aW_ s)) := by
 refine T_ Tryz.func243 rfl rfl Tryz.ntmps243 rfl fun v0 => ?_
 refine h_ (c_ (a_ (g_ rfl) rfl (e_ (b_ rfl (h_ (h_ (c_ (a_ (d_ rfl) rfl (e_ ?_)))))))))
 refine b_ rfl (R_ (h_ (h_ (c_ (x_ (aq_ rfl rfl) rfl fun r1 hr1 => ?_)))))
 refine a_ (g_ rfl) rfl (e_ (b_ rfl ?_))
 cases r1
 ·
  replace hr1 := ne_of_beq_false hr1
  refine v_ rfl (h_ (c_ (x_ (aq_ rfl rfl) rfl fun r2 hr2 => ?_)))
  refine a_ (g_ rfl) rfl (e_ (b_ rfl ?_))
  cases r2
  ·
   replace hr2 := ne_of_beq_false hr2
   refine v_ rfl (h_ (c_ (x_ (aq_ rfl rfl) rfl fun r3 hr3 => ?_)))
   refine a_ (g_ rfl) rfl (e_ (b_ rfl ?_))
   cases r3
   ·
    replace hr3 := ne_of_beq_false hr3
    refine v_ rfl (h_ (c_ (x_ (aq_ rfl rfl) rfl fun r4 hr4 => ?_)))
    refine a_ (g_ rfl) rfl (e_ (b_ rfl ?_))
    cases r4
    ·
     replace hr4 := ne_of_beq_false hr4
     refine v_ rfl (h_ (c_ (x_ (aq_ rfl rfl) rfl fun r5 hr5 => ?_)))
     refine a_ (g_ rfl) rfl (e_ (b_ rfl ?_))
     cases r5
     ·
      replace hr5 := ne_of_beq_false hr5
      refine v_ rfl (h_ (c_ (x_ (aq_ rfl rfl) rfl fun r6 hr6 => ?_)))
      refine a_ (g_ rfl) rfl (e_ (b_ rfl ?_))
      cases r6
      ·
       replace hr6 := ne_of_beq_false hr6
       refine v_ rfl (h_ (c_ (x_ (aq_ rfl rfl) rfl fun r7 hr7 => ?_)))
       refine a_ (g_ rfl) rfl (e_ (b_ rfl ?_))
       cases r7
       ·
        replace hr7 := ne_of_beq_false hr7
        refine v_ rfl (h_ (c_ (x_ (aq_ rfl rfl) rfl fun r8 hr8 => ?_)))
        refine a_ (g_ rfl) rfl (e_ (b_ rfl ?_))
        cases r8
        ·
         replace hr8 := ne_of_beq_false hr8
         refine v_ rfl (h_ (c_ (x_ (aq_ rfl rfl) rfl fun r9 hr9 => ?_)))
         refine a_ (g_ rfl) rfl (e_ (b_ rfl ?_))
         cases r9
         ·
          replace hr9 := ne_of_beq_false hr9
          refine v_ rfl (h_ (c_ (x_ (aq_ rfl rfl) rfl fun r10 hr10 => ?_)))
          refine a_ (g_ rfl) rfl (e_ (b_ rfl ?_))
          cases r10
          ·
           replace hr10 := ne_of_beq_false hr10
           refine v_ rfl (h_ (c_ (x_ (aq_ rfl rfl) rfl fun r11 hr11 => ?_)))
           refine a_ (g_ rfl) rfl (e_ (b_ rfl ?_))
           cases r11
           ·
            replace hr11 := ne_of_beq_false hr11
            refine v_ rfl (h_ (c_ (x_ (aq_ rfl rfl) rfl fun r12 hr12 => ?_)))
            refine a_ (g_ rfl) rfl (e_ (b_ rfl ?_))
            cases r12
            ·
             replace hr12 := ne_of_beq_false hr12
             refine v_ rfl (h_ (c_ (x_ (aq_ rfl rfl) rfl fun r13 hr13 => ?_)))
             refine a_ (g_ rfl) rfl (e_ (b_ rfl ?_))
             cases r13
             ·
              replace hr13 := ne_of_beq_false hr13
              refine v_ rfl (h_ (c_ (x_ (aq_ rfl rfl) rfl fun r14 hr14 => ?_)))
              refine a_ (g_ rfl) rfl (e_ (b_ rfl ?_))
              cases r14
              ·
               replace hr14 := ne_of_beq_false hr14
               refine v_ rfl (h_ (c_ (x_ (aq_ rfl rfl) rfl fun r15 hr15 => ?_)))
               refine a_ (g_ rfl) rfl (e_ (b_ rfl ?_))
               cases r15
               ·
                replace hr15 := ne_of_beq_false hr15
                refine v_ rfl (h_ (c_ (x_ (aq_ rfl rfl) rfl fun r16 hr16 => ?_)))
                refine a_ (g_ rfl) rfl (e_ (b_ rfl ?_))
                cases r16
                ·
                 replace hr16 := ne_of_beq_false hr16
                 refine v_ rfl (h_ (c_ (x_ (aq_ rfl rfl) rfl fun r17 hr17 => ?_)))
                 refine a_ (g_ rfl) rfl (e_ (b_ rfl ?_))
                 cases r17
                 ·
                  replace hr17 := ne_of_beq_false hr17
                  refine v_ rfl (h_ (c_ (x_ (aq_ rfl rfl) rfl fun r18 hr18 => ?_)))
                  refine a_ (g_ rfl) rfl (e_ (b_ rfl ?_))
                  cases r18
                  ·
                   replace hr18 := ne_of_beq_false hr18
                   refine v_ rfl (h_ (c_ (x_ (aq_ rfl rfl) rfl fun r19 hr19 => ?_)))
                   refine a_ (g_ rfl) rfl (e_ (b_ rfl ?_))
                   cases r19
                   ·
                    replace hr19 := ne_of_beq_false hr19
                    refine v_ rfl (h_ (c_ (x_ (aq_ rfl rfl) rfl fun r20 hr20 => ?_)))
                    refine a_ (g_ rfl) rfl (e_ (b_ rfl ?_))
                    cases r20
                    ·
                     replace hr20 := ne_of_beq_false hr20
                     refine v_ rfl (h_ (c_ (x_ (aq_ rfl rfl) rfl fun r21 hr21 => ?_)))
                     refine a_ (g_ rfl) rfl (e_ (b_ rfl ?_))
                     cases r21
                     ·
                      replace hr21 := ne_of_beq_false hr21
                      refine v_ rfl (c_ (x_ (aq_ rfl rfl) rfl fun r22 hr22 => ?_))
                      refine a_ (g_ rfl) rfl (e_ (b_ rfl ?_))
                      cases r22
                      ·
                       replace hr22 := ne_of_beq_false hr22
                       refine v_ rfl (z_ (b_ rfl (h_ (c_ (a_ (g_ rfl) rfl (e_ (b_ rfl (F_ ?_))))))))
                       exact aw_ bn_ () (y_ rfl (by simp [aW_, kws, *])) (.refl _) (fun _ _ _ => trivial)
                      ·
                       replace hr22 := eq_of_beq hr22
                       refine t_ rfl (h_ (c_ (a_ (g_ rfl) rfl (e_ (b_ rfl (F_ ?_))))))
                       exact aw_ bn_ () (y_ rfl (by simp [aW_, kws, *])) (.refl _) (fun _ _ _ => trivial)
                     ·
                      replace hr21 := eq_of_beq hr21
                      refine t_ rfl (z_ (b_ rfl (t_ rfl (h_ (c_ (a_ (g_ rfl) rfl (e_ (b_ rfl (F_ ?_)))))))))
                      exact aw_ bn_ () (y_ rfl (by simp [aW_, kws, *])) (.refl _) (fun _ _ _ => trivial)
                    ·
                     replace hr20 := eq_of_beq hr20
                     refine t_ rfl (z_ (b_ rfl (t_ rfl (h_ (c_ (a_ (g_ rfl) rfl (e_ (b_ rfl (F_ ?_)))))))))
                     exact aw_ bn_ () (y_ rfl (by simp [aW_, kws, *])) (.refl _) (fun _ _ _ => trivial)
                   ·
                    replace hr19 := eq_of_beq hr19
                    refine t_ rfl (z_ (b_ rfl (t_ rfl (h_ (c_ (a_ (g_ rfl) rfl (e_ (b_ rfl (F_ ?_)))))))))
                    exact aw_ bn_ () (y_ rfl (by simp [aW_, kws, *])) (.refl _) (fun _ _ _ => trivial)
                  ·
                   replace hr18 := eq_of_beq hr18
                   refine t_ rfl (z_ (b_ rfl (t_ rfl (h_ (c_ (a_ (g_ rfl) rfl (e_ (b_ rfl (F_ ?_)))))))))
                   exact aw_ bn_ () (y_ rfl (by simp [aW_, kws, *])) (.refl _) (fun _ _ _ => trivial)
                 ·
                  replace hr17 := eq_of_beq hr17
                  refine t_ rfl (z_ (b_ rfl (t_ rfl (h_ (c_ (a_ (g_ rfl) rfl (e_ (b_ rfl (F_ ?_)))))))))
                  exact aw_ bn_ () (y_ rfl (by simp [aW_, kws, *])) (.refl _) (fun _ _ _ => trivial)
                ·
                 replace hr16 := eq_of_beq hr16
                 refine t_ rfl (z_ (b_ rfl (t_ rfl (h_ (c_ (a_ (g_ rfl) rfl (e_ (b_ rfl (F_ ?_)))))))))
                 exact aw_ bn_ () (y_ rfl (by simp [aW_, kws, *])) (.refl _) (fun _ _ _ => trivial)
               ·
                replace hr15 := eq_of_beq hr15
                refine t_ rfl (z_ (b_ rfl (t_ rfl (h_ (c_ (a_ (g_ rfl) rfl (e_ (b_ rfl (F_ ?_)))))))))
                exact aw_ bn_ () (y_ rfl (by simp [aW_, kws, *])) (.refl _) (fun _ _ _ => trivial)
              ·
               replace hr14 := eq_of_beq hr14
               refine t_ rfl (z_ (b_ rfl (t_ rfl (h_ (c_ (a_ (g_ rfl) rfl (e_ (b_ rfl (F_ ?_)))))))))
               exact aw_ bn_ () (y_ rfl (by simp [aW_, kws, *])) (.refl _) (fun _ _ _ => trivial)
             ·
              replace hr13 := eq_of_beq hr13
              refine t_ rfl (z_ (b_ rfl (t_ rfl (h_ (c_ (a_ (g_ rfl) rfl (e_ (b_ rfl (F_ ?_)))))))))
              exact aw_ bn_ () (y_ rfl (by simp [aW_, kws, *])) (.refl _) (fun _ _ _ => trivial)
            ·
             replace hr12 := eq_of_beq hr12
             refine t_ rfl (z_ (b_ rfl (t_ rfl (h_ (c_ (a_ (g_ rfl) rfl (e_ (b_ rfl (F_ ?_)))))))))
             exact aw_ bn_ () (y_ rfl (by simp [aW_, kws, *])) (.refl _) (fun _ _ _ => trivial)
           ·
            replace hr11 := eq_of_beq hr11
            refine t_ rfl (z_ (b_ rfl (t_ rfl (h_ (c_ (a_ (g_ rfl) rfl (e_ (b_ rfl (F_ ?_)))))))))
            exact aw_ bn_ () (y_ rfl (by simp [aW_, kws, *])) (.refl _) (fun _ _ _ => trivial)
          ·
           replace hr10 := eq_of_beq hr10
           refine t_ rfl (z_ (b_ rfl (t_ rfl (h_ (c_ (a_ (g_ rfl) rfl (e_ (b_ rfl (F_ ?_)))))))))
           exact aw_ bn_ () (y_ rfl (by simp [aW_, kws, *])) (.refl _) (fun _ _ _ => trivial)
         ·
          replace hr9 := eq_of_beq hr9
          refine t_ rfl (z_ (b_ rfl (t_ rfl (h_ (c_ (a_ (g_ rfl) rfl (e_ (b_ rfl (F_ ?_)))))))))
          exact aw_ bn_ () (y_ rfl (by simp [aW_, kws, *])) (.refl _) (fun _ _ _ => trivial)
        ·
         replace hr8 := eq_of_beq hr8
         refine t_ rfl (z_ (b_ rfl (t_ rfl (h_ (c_ (a_ (g_ rfl) rfl (e_ (b_ rfl (F_ ?_)))))))))
         exact aw_ bn_ () (y_ rfl (by simp [aW_, kws, *])) (.refl _) (fun _ _ _ => trivial)
       ·
        replace hr7 := eq_of_beq hr7
        refine t_ rfl (z_ (b_ rfl (t_ rfl (h_ (c_ (a_ (g_ rfl) rfl (e_ (b_ rfl (F_ ?_)))))))))
        exact aw_ bn_ () (y_ rfl (by simp [aW_, kws, *])) (.refl _) (fun _ _ _ => trivial)
      ·
       replace hr6 := eq_of_beq hr6
       refine t_ rfl (z_ (b_ rfl (t_ rfl (h_ (c_ (a_ (g_ rfl) rfl (e_ (b_ rfl (F_ ?_)))))))))
       exact aw_ bn_ () (y_ rfl (by simp [aW_, kws, *])) (.refl _) (fun _ _ _ => trivial)
     ·
      replace hr5 := eq_of_beq hr5
      refine t_ rfl (z_ (b_ rfl (t_ rfl (h_ (c_ (a_ (g_ rfl) rfl (e_ (b_ rfl (F_ ?_)))))))))
      exact aw_ bn_ () (y_ rfl (by simp [aW_, kws, *])) (.refl _) (fun _ _ _ => trivial)
    ·
     replace hr4 := eq_of_beq hr4
     refine t_ rfl (z_ (b_ rfl (t_ rfl (h_ (c_ (a_ (g_ rfl) rfl (e_ (b_ rfl (F_ ?_)))))))))
     exact aw_ bn_ () (y_ rfl (by simp [aW_, kws, *])) (.refl _) (fun _ _ _ => trivial)
   ·
    replace hr3 := eq_of_beq hr3
    refine t_ rfl (z_ (b_ rfl (t_ rfl (h_ (c_ (a_ (g_ rfl) rfl (e_ (b_ rfl (F_ ?_)))))))))
    exact aw_ bn_ () (y_ rfl (by simp [aW_, kws, *])) (.refl _) (fun _ _ _ => trivial)
  ·
   replace hr2 := eq_of_beq hr2
   refine t_ rfl (z_ (b_ rfl (t_ rfl (h_ (c_ (a_ (g_ rfl) rfl (e_ (b_ rfl (F_ ?_)))))))))
   exact aw_ bn_ () (y_ rfl (by simp [aW_, kws, *])) (.refl _) (fun _ _ _ => trivial)
 ·
  replace hr1 := eq_of_beq hr1
  refine t_ rfl (z_ (b_ rfl (t_ rfl (h_ (c_ (a_ (g_ rfl) rfl (e_ (b_ rfl (F_ ?_)))))))))
  exact aw_ bn_ () (y_ rfl (by simp [aW_, kws, *])) (.refl _) (fun _ _ _ => trivial)
theorem ku_ (s : Str) (hs : s.length ≤ 140737488351232) :
  Fn0 Tryz.prog 220 #[str s] (.bool (eJ_ s)) := by
 refine T_ Tryz.func220 rfl rfl Tryz.ntmps220 rfl fun v0 => ?_
 refine h_ (c_ (a_ (g_ rfl) rfl (e_ (b_ rfl (h_ (h_ (c_ (a_ (d_ rfl) rfl (a_ (bX_ V_ rfl) rfl ?_)))))))))
 refine x_ (aM_ rfl rfl) rfl fun r1 hr1 => ?_
 refine a_ (d_ rfl) rfl ?_
 cases r1
 ·
  replace hr1 := ne_of_beq_false hr1
  obtain ⟨c, t, es⟩ := List.exists_cons_of_length_pos (l := s) (by omega)
  refine p_ rfl rfl (a_ (d_ rfl) rfl (p_ rfl rfl (a_ (bL_ V_ rfl rfl (by decide) (show s[(0 : Int).toNat]? = some c by rw [es]; rfl)) rfl (p_ rfl rfl (as_ (jY_ _) rfl (.refl _) (fun _ _ _ => trivial) rfl fun r2 hr2 => ?_)))))
  refine p_ rfl rfl (a_ (ce_ rfl) rfl (a_ (C_ rfl rfl) rfl (a_ (d_ rfl) rfl ?_)))
  cases r2
  ·
   refine r_ rfl rfl rfl rfl (r_ rfl rfl rfl rfl (a_ (H_ rfl rfl) rfl (e_ (b_ rfl (t_ rfl (h_ (c_ (a_ (g_ rfl) rfl (e_ ?_)))))))))
   refine b_ rfl (F_ ?_)
   exact aw_ mP_ () (y_ rfl (by simp_all [eJ_])) (.refl _) (fun _ _ _ => trivial)
  ·
   refine p_ rfl rfl (a_ (d_ rfl) rfl (p_ rfl rfl (as_ (mh_ _) rfl (.refl _) (fun _ _ _ => trivial) rfl fun r3 hr3 => ?_)))
   refine a_ (C_ rfl rfl) rfl (e_ (b_ rfl ?_))
   cases r3
   ·
    have hw : s ≠ [] ∧ cW_ (s.headD 0) = true := by subst es; simp_all
    refine v_ rfl (z_ (b_ rfl (h_ (h_ (c_ (a_ (g_ rfl) rfl (e_ (b_ rfl (R_ ?_)))))))))
    refine ds_ [(0, str s), (3, .int .i64 ((0 : Nat) : Int))] ⟨rfl, rfl, trivial⟩ ?_
    refine dq_ (ι := {k : Nat // k ≤ s.length ∧ (s.take k).all dm_ = true}) (fun i => [(0, str s), (3, .int .i64 (i.1 : Int))]) (fun _ => _) (fun _ => _) (fun i => s.length - i.1) ⟨0, by simp⟩ ?_
    rintro ⟨k, hk⟩
    refine ds_ [(0, str s), (3, .int .i64 (k : Int))] ⟨rfl, rfl, trivial⟩ ?_
    refine h_ (h_ (c_ (a_ (d_ rfl) rfl (a_ (d_ rfl) rfl (a_ (bX_ V_ rfl) rfl (x_ (av_ rfl rfl) rfl fun r4 hr4 => ?_))))))
    refine e_ (b_ rfl ?_)
    cases r4
    ·
     replace hr4 := of_decide_eq_false hr4
     refine v_ rfl (au_ rfl (b_ rfl (h_ (c_ (a_ (g_ rfl) rfl (e_ (b_ rfl (F_ ?_))))))))
     exact aw_ mP_ () (y_ rfl (by have := fR_ dm_ s k (by omega) hk.2; simp_all [eJ_, gk_])) (.refl _) (fun _ _ _ => trivial)
    ·
     replace hr4 := of_decide_eq_true hr4
     have hlt : k < s.length := by omega
     obtain ⟨c, hc⟩ : ∃ c, s[k]? = some c := ⟨_, List.getElem?_eq_getElem hlt⟩
     refine t_ rfl (z_ (b_ rfl (h_ (R_ (h_ (c_ (a_ (d_ rfl) rfl (a_ (d_ rfl) rfl (a_ (bL_ V_ rfl rfl (by omega) hc) rfl ?_)))))))))
     refine as_ (lq_ _) rfl (.refl _) (fun _ _ _ => trivial) rfl fun r5 hr5 => ?_
     refine a_ (ce_ rfl) rfl (e_ (b_ rfl ?_))
     cases r5
     ·
      refine t_ rfl (h_ (c_ (a_ (g_ rfl) rfl (e_ (b_ rfl (F_ ?_))))))
      exact aw_ mP_ () (y_ rfl (by have := eS_ dm_ s k c hc (by simp [*]); simp_all [eJ_, gk_])) (.refl _) (fun _ _ _ => trivial)
     ·
      refine v_ rfl (z_ (b_ rfl (c_ (a_ (d_ rfl) rfl (a_ (M_ rfl rfl rfl (af_ (by omega) (by omega))) rfl (a_ (g_ rfl) rfl (e_ (w_ rfl ?_))))))))
      exact Z_ ⟨k + 1, hlt, ea_ _ s k c hc hk.2 (by simp [*])⟩ (by simp; omega) ⟨rfl, rfl, trivial⟩ (.refl _) (fun _ _ h => h)
   ·
    refine t_ rfl (h_ (c_ (a_ (g_ rfl) rfl (e_ (b_ rfl (F_ ?_))))))
    exact aw_ mP_ () (y_ rfl (by simp_all [eJ_])) (.refl _) (fun _ _ _ => trivial)
 ·
  replace hr1 := eq_of_beq hr1
  have he : s = [] := List.eq_nil_of_length_eq_zero (by omega)
  refine r_ rfl rfl rfl rfl (r_ rfl rfl rfl rfl (r_ rfl rfl rfl rfl (r_ rfl rfl rfl rfl (a_ (H_ rfl rfl) rfl (a_ (d_ rfl) rfl (r_ rfl rfl rfl rfl (r_ rfl rfl rfl rfl (a_ (H_ rfl rfl) rfl (e_ ?_)))))))))
  refine b_ rfl (t_ rfl (h_ (c_ (a_ (g_ rfl) rfl (e_ (b_ rfl (F_ ?_)))))))
  exact aw_ mP_ () (y_ rfl (by simp_all [eJ_])) (.refl _) (fun _ _ _ => trivial)
theorem oF_ (s : Str) :
  Fn0 Tryz.prog 208 #[str s] (.bool (dl_ s)) := by
 refine T_ Tryz.func208 rfl rfl Tryz.ntmps208 rfl fun v0 => ?_
 refine h_ (c_ (a_ (g_ rfl) rfl (e_ (b_ rfl (h_ (h_ (c_ (a_ (d_ rfl) rfl (a_ (bX_ V_ rfl) rfl ?_)))))))))
 refine x_ (bR_ rfl rfl) rfl fun r1 hr1 => ?_
 refine e_ (b_ rfl ?_)
 cases r1
 ·
  replace hr1 := of_decide_eq_false hr1
  refine v_ rfl (z_ (b_ rfl (h_ (h_ (c_ (a_ (g_ rfl) rfl (e_ (b_ rfl (R_ ?_)))))))))
  refine ds_ [(0, str s), (3, .int .i64 ((0 : Nat) : Int))] ⟨rfl, rfl, trivial⟩ ?_
  refine dq_ (ι := {k : Nat // k ≤ s.length ∧ ixS 58 (s.take k) = none}) (fun i => [(0, str s), (3, .int .i64 (i.1 : Int))]) (fun _ => _) (fun _ => _) (fun i => s.length - i.1) ⟨0, by simp [ixS]⟩ ?_
  rintro ⟨k, hk⟩
  refine ds_ [(0, str s), (3, .int .i64 (k : Int))] ⟨rfl, rfl, trivial⟩ ?_
  refine h_ (h_ (c_ (a_ (d_ rfl) rfl (a_ (d_ rfl) rfl (a_ (bX_ V_ rfl) rfl (x_ (av_ rfl rfl) rfl fun r2 hr2 => ?_))))))
  refine e_ (b_ rfl ?_)
  cases r2
  ·
   replace hr2 := of_decide_eq_false hr2
   refine v_ rfl (au_ rfl (b_ rfl (h_ (c_ (a_ (d_ rfl) rfl (as_ (ku_ _ (by first | omega | (simp; omega))) rfl (.refl _) (fun _ _ _ => trivial) rfl fun r3 hr3 => ?_))))))
   refine a_ (g_ rfl) rfl (e_ (b_ rfl (F_ ?_)))
   exact aw_ Tryz.results208 () (y_ rfl (by rw [dl_, pf_ s k (by omega) hk.2]; simp_all <;> omega)) (.refl _) (fun _ _ _ => trivial)
  ·
   replace hr2 := of_decide_eq_true hr2
   have hlt : k < s.length := by omega
   obtain ⟨c, hc⟩ : ∃ c, s[k]? = some c := ⟨_, List.getElem?_eq_getElem hlt⟩
   refine t_ rfl (z_ (b_ rfl (h_ (R_ (h_ (c_ (a_ (d_ rfl) rfl (a_ (d_ rfl) rfl (a_ (bL_ V_ rfl rfl (by omega) hc) rfl ?_)))))))))
   refine x_ (aM_ rfl rfl) rfl fun r4 hr4 => ?_
   refine e_ (b_ rfl ?_)
   cases r4
   ·
    replace hr4 := ne_of_beq_false hr4
    refine v_ rfl (z_ (b_ rfl (c_ (a_ (d_ rfl) rfl (a_ (M_ rfl rfl rfl (af_ (by omega) (by omega))) rfl (a_ (g_ rfl) rfl (e_ (w_ rfl ?_))))))))
    exact Z_ ⟨k + 1, hlt, lN_ s k c hc hk.2 (by intro e; subst e; simp_all)⟩ (by simp; omega) ⟨rfl, rfl, trivial⟩ (.refl _) (fun _ _ h => h)
   ·
    replace hr4 := eq_of_beq hr4
    obtain rfl : c = 58 := UInt8.toNat_inj.1 (by show c.toNat = 58; omega)
    refine t_ rfl (h_ (c_ (a_ (d_ rfl) rfl (a_ (d_ rfl) rfl (a_ (du_ (i := 0) (j := k) (kl := .i64) V_ rfl rfl rfl (by omega) (by omega)) rfl (as_ (ku_ _ (by first | omega | (simp; omega))) rfl (.refl _) (fun _ _ _ => trivial) rfl fun r5 hr5 => ?_))))))
    refine a_ (d_ rfl) rfl ?_
    cases r5
    ·
     refine r_ rfl rfl rfl rfl (r_ rfl rfl rfl rfl (r_ rfl rfl rfl rfl (r_ rfl rfl rfl rfl (r_ rfl rfl rfl rfl (a_ (C_ rfl rfl) rfl (a_ (g_ rfl) rfl (e_ (b_ rfl (F_ ?_)))))))))
     exact aw_ Tryz.results208 () (y_ rfl (by rw [dl_, mt_ s k hc hk.2]; simp_all [List.take_of_length_le] <;> omega)) (.refl _) (fun _ _ _ => trivial)
    ·
     refine p_ rfl rfl (a_ (d_ rfl) rfl (p_ rfl rfl (a_ (d_ rfl) rfl (p_ rfl rfl (a_ (M_ rfl rfl rfl (af_ (by omega) (by omega))) rfl (p_ rfl rfl (a_ (du_ (i := k + 1) (j := s.length) (kh := .i64) V_ rfl rfl rfl (by omega) (by omega)) rfl (p_ rfl rfl (as_ (ku_ _ (by first | omega | (simp; omega))) rfl (.refl _) (fun _ _ _ => trivial) rfl fun r6 hr6 => ?_)))))))))
     refine a_ (H_ rfl rfl) rfl (a_ (g_ rfl) rfl (e_ (b_ rfl (F_ ?_))))
     exact aw_ Tryz.results208 () (y_ rfl (by rw [dl_, mt_ s k hc hk.2]; simp_all [List.take_of_length_le] <;> omega)) (.refl _) (fun _ _ _ => trivial)
 ·
  replace hr1 := of_decide_eq_true hr1
  refine t_ rfl (h_ (c_ (a_ (g_ rfl) rfl (e_ (b_ rfl (F_ ?_))))))
  exact aw_ Tryz.results208 () (y_ rfl (by simp [dl_] <;> omega)) (.refl _) (fun _ _ _ => trivial)
theorem lr_ (s : Str) :
  Fn0 Tryz.prog 209 #[str s] (.bool (cg_ s)) := by
 refine T_ Tryz.func209 rfl rfl Tryz.ntmps209 rfl fun v0 => ?_
 refine h_ (c_ (a_ (g_ rfl) rfl (e_ (b_ rfl (h_ (h_ (c_ (a_ (d_ rfl) rfl (a_ (bX_ V_ rfl) rfl ?_)))))))))
 refine x_ (av_ rfl rfl) rfl fun r1 hr1 => ?_
 refine a_ (d_ rfl) rfl ?_
 cases r1
 ·
  replace hr1 := of_decide_eq_false hr1
  refine p_ rfl rfl (a_ (d_ rfl) rfl (p_ rfl rfl (a_ (bX_ V_ rfl) rfl (p_ rfl rfl (x_ (bR_ rfl rfl) rfl fun r2 hr2 => ?_)))))
  refine a_ (C_ rfl rfl) rfl (a_ (d_ rfl) rfl ?_)
  cases r2
  ·
   replace hr2 := of_decide_eq_false hr2
   obtain ⟨c, t, es⟩ := List.exists_cons_of_length_pos (l := s) (by omega)
   refine p_ rfl rfl (a_ (d_ rfl) rfl (p_ rfl rfl (a_ (bL_ V_ rfl rfl (by decide) (show s[(0 : Int).toNat]? = some c by rw [es]; rfl)) rfl (p_ rfl rfl (x_ (bN_ rfl rfl) rfl fun r3 hr3 => ?_)))))
   refine a_ (C_ rfl rfl) rfl (e_ (b_ rfl ?_))
   cases r3
   ·
    replace hr3 := bb_ hr3
    have hq : c.toNat = 95 := by omega
    refine v_ rfl (z_ (b_ rfl (h_ (h_ (c_ (a_ (g_ rfl) rfl (e_ (b_ rfl (R_ ?_)))))))))
    refine ds_ [(0, str s), (3, .int .i64 ((1 : Nat) : Int))] ⟨rfl, rfl, trivial⟩ ?_
    refine dq_ (ι := {k : Nat // k ≤ s.length ∧ (s.take k).all dm_ = true}) (fun i => [(0, str s), (3, .int .i64 (i.1 : Int))]) (fun _ => _) (fun _ => _) (fun i => s.length - i.1) ⟨1, by omega, by subst es; simp [dm_, hq]⟩ ?_
    rintro ⟨k, hk⟩
    refine ds_ [(0, str s), (3, .int .i64 (k : Int))] ⟨rfl, rfl, trivial⟩ ?_
    refine h_ (h_ (c_ (a_ (d_ rfl) rfl (a_ (d_ rfl) rfl (a_ (bX_ V_ rfl) rfl (x_ (av_ rfl rfl) rfl fun r4 hr4 => ?_))))))
    refine e_ (b_ rfl ?_)
    cases r4
    ·
     replace hr4 := of_decide_eq_false hr4
     refine v_ rfl (au_ rfl (b_ rfl (h_ (c_ (a_ (g_ rfl) rfl (e_ (b_ rfl (F_ ?_))))))))
     exact aw_ mR_ () (y_ rfl (by have := fR_ dm_ s k (by omega) hk.2; subst es; simp [cg_, gk_, this, hq] <;> simp at * <;> omega)) (.refl _) (fun _ _ _ => trivial)
    ·
     replace hr4 := of_decide_eq_true hr4
     have hlt : k < s.length := by omega
     obtain ⟨c, hc⟩ : ∃ c, s[k]? = some c := ⟨_, List.getElem?_eq_getElem hlt⟩
     refine t_ rfl (z_ (b_ rfl (h_ (R_ (h_ (c_ (a_ (d_ rfl) rfl (a_ (d_ rfl) rfl (a_ (bL_ V_ rfl rfl (by omega) hc) rfl ?_)))))))))
     refine as_ (lq_ _) rfl (.refl _) (fun _ _ _ => trivial) rfl fun r5 hr5 => ?_
     refine a_ (ce_ rfl) rfl (e_ (b_ rfl ?_))
     cases r5
     ·
      refine t_ rfl (h_ (c_ (a_ (g_ rfl) rfl (e_ (b_ rfl (F_ ?_))))))
      exact aw_ mR_ () (y_ rfl (by have := eS_ dm_ s k c hc (by simp [*]); simp [cg_, gk_, this])) (.refl _) (fun _ _ _ => trivial)
     ·
      refine v_ rfl (z_ (b_ rfl (c_ (a_ (d_ rfl) rfl (a_ (M_ rfl rfl rfl (af_ (by omega) (by omega))) rfl (a_ (g_ rfl) rfl (e_ (w_ rfl ?_))))))))
      exact Z_ ⟨k + 1, hlt, ea_ _ s k c hc hk.2 (by simp [*])⟩ (by simp; omega) ⟨rfl, rfl, trivial⟩ (.refl _) (fun _ _ h => h)
   ·
    replace hr3 := ba_ hr3
    refine t_ rfl (h_ (c_ (a_ (g_ rfl) rfl (e_ (b_ rfl (F_ ?_))))))
    exact aw_ mR_ () (y_ rfl (by first | (simp [cg_] <;> omega) | (subst es; simp [cg_] <;> omega))) (.refl _) (fun _ _ _ => trivial)
  ·
   replace hr2 := of_decide_eq_true hr2
   refine r_ rfl rfl rfl rfl (r_ rfl rfl rfl rfl (r_ rfl rfl rfl rfl (a_ (H_ rfl rfl) rfl (e_ (b_ rfl (t_ rfl (h_ (c_ (a_ (g_ rfl) rfl ?_)))))))))
   refine e_ (b_ rfl (F_ ?_))
   exact aw_ mR_ () (y_ rfl (by first | (simp [cg_] <;> omega) | (subst es; simp [cg_] <;> omega))) (.refl _) (fun _ _ _ => trivial)
 ·
  replace hr1 := of_decide_eq_true hr1
  refine r_ rfl rfl rfl rfl (r_ rfl rfl rfl rfl (r_ rfl rfl rfl rfl (a_ (H_ rfl rfl) rfl (a_ (d_ rfl) rfl (r_ rfl rfl rfl rfl (r_ rfl rfl rfl rfl (r_ rfl rfl rfl rfl (a_ (H_ rfl rfl) rfl (e_ ?_)))))))))
  refine b_ rfl (t_ rfl (h_ (c_ (a_ (g_ rfl) rfl (e_ (b_ rfl (F_ ?_)))))))
  exact aw_ mR_ () (y_ rfl (by first | (simp [cg_] <;> omega) | (subst es; simp [cg_] <;> omega))) (.refl _) (fun _ _ _ => trivial)
theorem nv_ (s : Str) :
    Fn0 Tryz.prog 190 #[str s] (.bool (bc_ s)) := by
  refine T_ Tryz.func190 rfl rfl Tryz.ntmps190 rfl fun v0 => ?_
  refine h_ (c_ (a_ (g_ rfl) rfl (e_ (b_ rfl (h_ (c_ (a_ (d_ rfl) rfl (as_ (oF_ _) rfl (.refl _) (fun _ _ _ => trivial) rfl fun r1 hr1 => ?_))))))))
  refine a_ (d_ rfl) rfl ?_
  cases r1
  · skip
    refine p_ rfl rfl (a_ (d_ rfl) rfl (p_ rfl rfl (as_ (lr_ _) rfl (.refl _) (fun _ _ _ => trivial) rfl fun r2 hr2 => ?_)))
    refine a_ (C_ rfl rfl) rfl (a_ (g_ rfl) rfl (e_ (b_ rfl (F_ ?_))))
    exact aw_ Tryz.results190 () (y_ rfl (by simp [bc_, *])) (.refl _) (fun _ _ _ => trivial)
  · skip
    refine r_ rfl rfl rfl rfl (r_ rfl rfl rfl rfl (a_ (H_ rfl rfl) rfl (a_ (g_ rfl) rfl (e_ (b_ rfl (F_ ?_))))))
    exact aw_ Tryz.results190 () (y_ rfl (by simp [bc_, *])) (.refl _) (fun _ _ _ => trivial)
theorem dY_ (s : Str) :
    Fn0 Tryz.prog 157 #[str s] (.int .i64 (if bc_ s then 0 else 20)) := by
  refine T_ Tryz.func157 rfl rfl Tryz.ntmps157 rfl fun v0 => ?_
  refine h_ (c_ (a_ (g_ rfl) rfl (e_ (b_ rfl (h_ (h_ (c_ (a_ (d_ rfl) rfl (as_ (nv_ _) rfl (.refl _) (fun _ _ _ => trivial) rfl fun r1 hr1 => ?_)))))))))
  refine a_ (ce_ rfl) rfl (e_ (b_ rfl ?_))
  cases r1
  · skip
    refine t_ rfl (h_ (c_ (a_ (g_ rfl) rfl (e_ (b_ rfl (F_ ?_))))))
    exact aw_ Tryz.results157 () (cm_ rfl (by simp [*])) (.refl _) (fun _ _ _ => trivial)
  · skip
    refine v_ rfl (z_ (b_ rfl (h_ (c_ (a_ (g_ rfl) rfl (e_ (b_ rfl (F_ ?_))))))))
    exact aw_ Tryz.results157 () (cm_ rfl (by simp [*])) (.refl _) (fun _ _ _ => trivial)
end Go.Proofs.YtpdbbglpbngeiaaGreatDoor
namespace Go.Vs
open Go Go.Sx
theorem mI_ {s : Str} (h : eJ_ s = true) : ∃ c t, s = c :: t ∧ cW_ c = true ∧ gk_ s = true := by
  cases s with
  | nil => simp [eJ_] at h
  | cons c t =>
    simp only [eJ_, Bool.and_eq_true] at h
    exact ⟨c, t, rfl, h.1.1.2, h.1.2⟩
theorem mk_ {s : Str} (h : dl_ s = true) : ∃ c t, s = c :: t ∧ cW_ c = true := by
  unfold dl_ at h
  simp only [Bool.and_eq_true] at h
  cases hx : ixS 58 s with
  | none => rw [hx] at h; obtain ⟨c, t, h1, h2, _⟩ := mI_ h.2; exact ⟨c, t, h1, h2⟩
  | some k =>
    rw [hx] at h
    simp only [Bool.and_eq_true] at h
    obtain ⟨c, t, h1, h2, _⟩ := mI_ h.2.1
    cases s with
    | nil => simp at h1
    | cons d u =>
      cases k with
      | zero => simp at h1
      | succ k => simp only [List.take_succ_cons, List.cons.injEq] at h1; exact ⟨d, u, rfl, h1.1 ▸ h2⟩
namespace Con
end Con
end Go.Vs
namespace Go.Sx
open Go
section
variable {P : Program} {N : Nat} {fr : Fr} {H : Hp} {Γ : List Fct}
theorem lZ_ : ∀ (x y : List UInt8), Op.bytesLess x y = decide (x < y)
  | [], [] => by simp [Op.bytesLess]
  | _ :: _, [] => by simp [Op.bytesLess]
  | [], _ :: _ => by simp [Op.bytesLess]
  | a :: x, b :: y => by
    rw [Op.bytesLess, lZ_ x y]
    simp only [List.cons_lt_cons_iff]
    by_cases h1 : a < b <;> by_cases h2 : a = b <;> by_cases h3 : x < y <;> simp [h1, h2, h3]
theorem gi_ {t t' ty : TypeId} {x y : Operand} {m n : List UInt8} (hx : Fr.ev fr x = some (str m)) (hy : Fr.ev fr y = some (str n)) : Yld P N fr H Γ (.binOp .lss t x y t') ty (.bool (decide (m < n))) :=
  fun a v h1 _ _ _ _ _ => by rw [← lZ_]; simp [execOp, h1.ev hx, h1.ev hy, str, eqGuard, binOp, Op.stringOp]
theorem iA_ {f : FuncId} {args : Array Value} {r : Value} {g : Nat} {cur : Array Value} {T : TypeId} {d : Array (List UInt8)} (hc : fK_ P f)
    (h : ∀ v : Vw, v.sat [(g, .cells cur T (0, 0))] → Calls P f args v.w fun e w' => e = .returned r ∧ ∃ n os, w' = Sort.grow (Sort.putRow Go.Proofs.encStr (Sort.ahead v.w n) g 0 d) os) :
    Tri P f args [(g, .cells cur T (0, 0))] Γ (fun _ : Unit => r) (fun _ => [(g, .cells (Sort.putCells Go.Proofs.encStr 0 d cur) T (0, 0))]) (fun _ => []) :=
  ⟨hc, fun v h1 _ => (h v h1).mono fun e w' ⟨he, n, os, hw⟩ => by
    have hg := (h1.own _ List.mem_cons_self)
    have hlt : g < v.w.heap.size := (Array.getElem?_eq_some_iff.1 hg.1).1
    have hb : ∀ b, b < v.w.heap.size → w'.heap[b]? = if b = g then some (.cells (Sort.putCells Go.Proofs.encStr 0 d cur) T (0, 0)) else v.w.heap[b]? := fun b hb => by
      rw [hw]
      simp only [Sort.grow, Sort.putRow, Sort.mapBlock, Sort.ahead]
      rw [Array.getElem?_append_left (by simpa using hb), Array.getElem?_modify]
      by_cases e : b = g
      · subst e
        simp only [if_true, hg.1, Option.map_some, Sort.onCells]
      · rw [if_neg (fun q => e q.symm), if_neg e]
    have hsz : v.w.heap.size ≤ w'.heap.size := by rw [hw]; simp [Sort.grow, Sort.putRow, Sort.mapBlock, Sort.ahead]
    refine ⟨(), ⟨v.im, w', v.sl⟩, he, rfl, ⟨fun p hp => ?_, by simp, fun b hbb => Nat.lt_of_lt_of_le (h1.lt b hbb) hsz⟩, trivial, ⟨by rw [hw]; rfl, by rw [hw]; rfl, by rw [hw]; rfl, hsz, fun b hbb hn => ?_, fun _ h => h, fun _ h => .inl h, fun b hm => .inl (by simpa using hm), rfl, .inr (by rw [hw]; exact Nat.le_add_right _ _)⟩⟩
    · simp only [List.mem_singleton] at hp
      subst hp
      exact ⟨by show w'.heap[g]? = _; rw [hb g hlt, if_pos rfl], hg.2⟩
    · have hn' : b ≠ g := by simpa using hn
      show w'.heap[b]? = _
      rw [hb b hbb, if_neg hn']⟩
theorem lt_ {cur : Array Value} {d : List (List UInt8)} (hs : d.length ≤ cur.size) : (Sort.putCells Go.Proofs.encStr 0 d.toArray cur).toList.take d.length = d.flatMap aO_ := by
  rw [hl_]
  apply List.ext_getElem?
  intro j
  rw [List.getElem?_take, List.getElem?_map]
  split
  · rename_i hj
    simp only [Sort.putCells, Array.getElem?_toList, Array.getElem?_mapIdx]
    rw [Array.getElem?_eq_getElem (by omega)]
    simp only [Option.map_some, Nat.zero_le, true_and, Nat.zero_add, List.size_toArray, hj, if_true, Nat.sub_zero]
    rw [List.getElem?_eq_getElem hj]
    simp only [Option.map_some]
    rw [getElem!_pos d.toArray j (by simpa using hj)]
    rfl
  · rename_i hj
    rw [List.getElem?_eq_none (by omega)]; rfl
theorem lu_ {cur : Array Value} {d : Array (List UInt8)} : (Sort.putCells Go.Proofs.encStr 0 d cur).size = cur.size := by simp [Sort.putCells]
end
end Go.Sx
namespace Go.Vs
open Go Go.Sx
def hd_ (p : Pc) : List Str := [p.a, p.b, p.c].filter fun s => !(s == [])
def cw_ (l : List Pc) : List Str := l.flatMap hd_
def dH_ (l : List Pc) : List Str := Lib.compact ((cw_ l).mergeSort fun x y => decide (x ≤ y))
theorem ha_ : ∀ l : List Pc, (cw_ l).length ≤ 3 * l.length
  | [] => by simp [cw_]
  | p :: r => by
    have h1 := ha_ r
    have h2 : (hd_ p).length ≤ 3 := by unfold hd_; exact List.length_filter_le _ _
    simp only [cw_, List.flatMap_cons, List.length_append, List.length_cons] at h1 ⊢
    omega
theorem lh_ (l : List Str) : (l.mergeSort fun x y => decide (x ≤ y)).Pairwise fun x y => x ≤ y := by
  have h := List.pairwise_mergeSort (le := fun x y : Str => decide (x ≤ y)) (fun a b c h1 h2 => by simp only [decide_eq_true_eq] at *; exact List.le_trans h1 h2) (fun a b => by
    simp only [Bool.or_eq_true, decide_eq_true_eq]; exact List.le_total a b) l
  exact h.imp (fun h => of_decide_eq_true h)
theorem gx_ {zs : List Str} : Lib.compact zs = ((List.range zs.length).filter fun j => decide (j = 0 ∨ zs[j]! ≠ zs[j - 1]!)).map fun j => zs[j]! := by
  unfold Lib.compact Lib.compactUpTo Lib.keeps
  have e : ∀ j, zs.toArray[j]! = zs[j]! := fun j => by
    by_cases h : j < zs.length
    · rw [getElem!_pos zs.toArray j (by simpa using h), getElem!_pos zs j h]; simp
    · rw [getElem!_neg zs.toArray j (by simpa using h), getElem!_neg zs j h]
  rw [List.map_congr_left fun j _ => e j]
  congr 2
  funext j
  rw [e, e]
theorem gw_ (zs : List Str) : (Lib.compact zs).length ≤ zs.length := by
  rw [gx_, List.length_map]
  have := List.length_filter_le (fun j => decide (j = 0 ∨ zs[j]! ≠ zs[j - 1]!)) (List.range zs.length)
  simpa using this
theorem if_ {zs : List Str} (x : Str) : x ∈ Lib.compact zs ↔ x ∈ zs := by
  rw [gx_, List.mem_map]
  constructor
  · rintro ⟨j, hj, rfl⟩
    have hl := List.mem_range.1 (List.mem_filter.1 hj).1
    rw [getElem!_pos zs j hl]
    exact List.getElem_mem hl
  · intro hx
    obtain ⟨j, hj, e⟩ := List.mem_iff_getElem.1 hx
    clear hx
    induction j with
    | zero => exact ⟨0, List.mem_filter.2 ⟨List.mem_range.2 hj, by simp⟩, by rw [getElem!_pos zs 0 hj]; exact e⟩
    | succ j ih =>
      by_cases h : zs[j + 1]! = zs[j]!
      · have hj' : j < zs.length := by omega
        refine ih hj' ?_
        rw [getElem!_pos zs (j + 1) hj, getElem!_pos zs j hj'] at h
        rw [← h]; exact e
      · exact ⟨j + 1, List.mem_filter.2 ⟨List.mem_range.2 hj, decide_eq_true (.inr h)⟩, by rw [getElem!_pos zs (j + 1) hj]; exact e⟩
theorem jr_ {zs : List Str} (hs : zs.Pairwise fun x y => x ≤ y) : (Lib.compact zs).Pairwise fun x y => x < y := by
  rw [gx_, List.pairwise_map]
  have hr : (List.range zs.length).Pairwise (· < ·) := List.pairwise_lt_range
  have hf := hr.filter (fun j => decide (j = 0 ∨ zs[j]! ≠ zs[j - 1]!))
  refine List.Pairwise.imp_of_mem ?_ hf
  intro j k hj hk hlt
  have hkl := List.mem_range.1 (List.mem_filter.1 hk).1
  have hkk := (List.mem_filter.1 hk).2
  simp only [decide_eq_true_eq] at hkk
  have hne : zs[k]! ≠ zs[k - 1]! := by
    rcases hkk with h | h
    · omega
    · exact h
  have hle : ∀ a b, a ≤ b → b < zs.length → zs[a]! ≤ zs[b]! := by
    intro a b hab hb
    rcases Nat.lt_or_eq_of_le hab with h | h
    · rw [getElem!_pos zs a (by omega), getElem!_pos zs b hb]
      exact List.pairwise_iff_getElem.1 hs a b (by omega) hb h
    · subst h; exact List.le_refl _
  have h1 := hle j (k - 1) (by omega) (by omega)
  have h2 := hle (k - 1) k (by omega) hkl
  have h3 : zs[k - 1]! < zs[k]! := by
    apply Decidable.byContradiction
    intro h
    exact hne (List.le_antisymm (List.not_lt.1 h) h2)
  exact List.lt_of_le_of_lt h1 h3
theorem eF_ (l : List Pc) (x : Str) : x ∈ dH_ l ↔ x ∈ cw_ l := by
  unfold dH_
  rw [if_, List.mem_mergeSort]
theorem nY_ (l : List Pc) : (dH_ l).Pairwise fun x y => x < y := jr_ (lh_ _)
theorem eG_ (l : List Pc) : (dH_ l).length ≤ 3 * l.length := by
  have h1 := gw_ ((cw_ l).mergeSort fun x y => decide (x ≤ y))
  rw [List.length_mergeSort] at h1
  have h2 := ha_ l
  unfold dH_
  omega
end Go.Vs
namespace Go.Proofs.YtpdbbglpbngeiaaGreatDoor
open Go Go.Sx Go.Proofs
attribute [local irreducible] Code.wp wpList wpAnyH
open Go.Vs
theorem jE_ : Elt Tryz.prog 25 9 1 16 := ne_ jO_ (z := .string ⟨#[]⟩) (by kernel_rfl) rfl (by decide)
theorem ki_ {g n cap : Nat} {cur : Array Value} {xs : List Str} {v : Vw} (hs : v.sat [(g, .cells cur 9 (0, 0))]) (ht : cur.toList.take (xs.length * 1) = xs.flatMap aO_) : Sort.Holds encStr v.w g 0 xs.toArray := by
  intro j hj
  have hb := (hs.own _ List.mem_cons_self).1
  simp only [List.size_toArray] at hj
  have hc : cur[j]? = some (str xs[j]) := np_ ht j xs[j] (List.getElem?_eq_getElem hj)
  refine ⟨?_, ?_⟩
  · simp only [World.cell?, Nat.zero_add, hb, Option.isSome_none, Bool.false_eq_true, if_false]
    rw [hc, getElem!_pos xs.toArray j (by simpa using hj)]
    rfl
  · simp [World.frozen?, hb]
theorem mL_ {sv : Value} {xs : List Str} {Hr : Hp} (h : aQ_ 9 1 sv xs.length (xs.flatMap aO_) Hr) (hl : xs.length ≤ 1000000000000) :
    Tri Tryz.prog 87 #[sv] Hr [] (fun _ : {y : Hp // aQ_ 9 1 sv xs.length ((xs.mergeSort fun x y => decide (x ≤ y)).flatMap aO_) y} => .tuple #[]) (fun y => y.1) (fun _ => []) := by
  rcases h.2 with ⟨rfl, h2, rfl⟩ | ⟨g, cap, cur, rfl, rfl, h3, h4, h5, h6⟩
  · obtain rfl : xs = [] := List.eq_nil_of_length_eq_zero h2
    have T := eo_ (P := Tryz.prog) (H := []) (Γ := []) (callable Tryz.func87 rfl rfl) (fun v _ _ => (Tryz.slices_Sort_string_none none 0 v.w).mono (by rintro e w' ⟨rfl, rfl⟩; exact ⟨rfl, ⟨rfl, rfl, rfl, Nat.le_refl _, fun _ _ => rfl⟩, .inr (Nat.le_refl _)⟩))
    exact ⟨T.callable, fun v a b => (T.run v a b).mono (by rintro e w' ⟨x, v', e1, e2, e3, e4, e5⟩; exact ⟨⟨[], by simpa using aQ_.nil _ _⟩, v', e1, e2, e3, e4, e5⟩)⟩
  · have T := iA_ (P := Tryz.prog) (Γ := []) (d := (xs.mergeSort fun x y => decide (x ≤ y)).toArray) (callable Tryz.func87 rfl rfl) (fun v hs => Tryz.slices_Sort_string g 0 cap xs v.w (ki_ (n := 0) (cap := 0) hs h6) (Array.getElem?_eq_some_iff.1 (hs.own _ List.mem_cons_self).1).1 (by omega))
    have hsz : (xs.mergeSort fun x y => decide (x ≤ y)).length = xs.length := List.length_mergeSort _
    refine ⟨T.callable, fun v a b => (T.run v a b).mono ?_⟩
    rintro e w' ⟨x, v', e1, e2, e3, e4, e5⟩
    refine ⟨⟨_, by rw [bp_ aO_ 1 at_, hsz], .inr ⟨g, cap, _, rfl, rfl, h3, h4, by rw [lu_]; exact h5, ?_⟩⟩, v', e1, e2, e3, e4, e5⟩
    have := lt_ (cur := cur) (d := xs.mergeSort fun x y => decide (x ≤ y)) (by rw [hsz, h5]; omega)
    rw [hsz] at this
    rw [Nat.mul_one]; exact this
theorem js_ {sv : Value} {xs : List Str} {Hr : Hp} (h : aQ_ 9 1 sv xs.length (xs.flatMap aO_) Hr) (hl : xs.length ≤ 1000000000000) :
    Tri Tryz.prog 88 #[sv] Hr [] (fun y : {y : Value × Hp // aQ_ 9 1 y.1 (Lib.compact xs).length ((Lib.compact xs).flatMap aO_) y.2} => y.1.1) (fun y => y.1.2) (fun _ => []) := by
  rcases h.2 with ⟨rfl, h2, rfl⟩ | ⟨g, cap, cur, rfl, rfl, h3, h4, h5, h6⟩
  · obtain rfl : xs = [] := List.eq_nil_of_length_eq_zero h2
    have T := eo_ (P := Tryz.prog) (H := []) (Γ := []) (callable Tryz.func88 rfl rfl) (fun v _ _ => (Tryz.slices_Compact_string_empty none 0 v.w).mono (by rintro e w' ⟨rfl, rfl⟩; exact ⟨rfl, ⟨rfl, rfl, rfl, Nat.le_refl _, fun _ _ => rfl⟩, .inr (Nat.le_refl _)⟩))
    exact ⟨T.callable, fun v a b => (T.run v a b).mono (by rintro e w' ⟨x, v', e1, e2, e3, e4, e5⟩; exact ⟨⟨(.slice none 0 0, []), by simpa [Lib.compact, Lib.compactUpTo] using aQ_.nil _ _⟩, v', e1, e2, e3, e4, e5⟩)⟩
  · have hcl := gw_ xs
    have T := iA_ (P := Tryz.prog) (Γ := []) (r := .slice (some ⟨g, 0, none⟩) (Lib.compact xs).length cap) (d := (Lib.compact xs ++ List.replicate (xs.length - (Lib.compact xs).length) []).toArray) (callable Tryz.func88 rfl rfl) (fun v hs => (Tryz.slices_Compact_string g 0 cap xs v.w (ki_ (n := 0) (cap := 0) hs h6) (by omega) h3).mono (by
      rintro e w' ⟨rfl, q, rfl⟩
      exact ⟨rfl, q, #[], by rw [Sort.grow_empty]⟩))
    refine ⟨T.callable, fun v a b => (T.run v a b).mono ?_⟩
    rintro e w' ⟨x, v', e1, e2, e3, e4, e5⟩
    refine ⟨⟨(.slice (some ⟨g, 0, none⟩) (Lib.compact xs).length cap, _), by rw [bp_ aO_ 1 at_], .inr ⟨g, cap, _, rfl, rfl, by omega, h4, by rw [lu_]; exact h5, ?_⟩⟩, v', e1, e2, e3, e4, e5⟩
    have hd : (Lib.compact xs ++ List.replicate (xs.length - (Lib.compact xs).length) ([] : Str)).length = xs.length := by simp; omega
    have := lt_ (cur := cur) (d := Lib.compact xs ++ List.replicate (xs.length - (Lib.compact xs).length) []) (by rw [hd, h5]; omega)
    rw [hd] at this
    have h7 := congrArg (List.take (Lib.compact xs).length) this
    rw [List.take_take, Nat.min_eq_left hcl, List.flatMap_append, List.take_append_of_le_length (by rw [bp_ aO_ 1 at_]; omega), List.take_of_length_le (l := (Lib.compact xs).flatMap aO_) (by rw [bp_ aO_ 1 at_]; omega)] at h7
    rw [Nat.mul_one]; exact h7
theorem qt_ (l : List Pc) (ad : Option Addr) (cap : Nat) (hl : l.length ≤ 100000000000) : Tri Tryz.prog 98 #[.slice ad (List.length l) cap] [] [az_ ad (List.flatMap Pc.cells l)] (fun y : {y : Option Addr × Nat // (dH_ l).length ≤ y.2 ∧ y.2 ≤ maxLen} => .slice y.1.1 (dH_ l).length y.1.2) (fun _ => []) (fun y => [az_ y.1.1 ((dH_ l).flatMap aO_)]) := by
 refine T_ Tryz.func98 rfl rfl Tryz.ntmps98 rfl fun v0 => ?_
 refine h_ (c_ (a_ (g_ rfl) rfl (e_ (b_ rfl (h_ (h_ (c_ (a_ (d_ rfl) rfl (a_ (am_ A_ rfl) rfl ?_)))))))))
 refine a_ (d_ rfl) rfl (e_ (b_ rfl (R_ (ds_ [(2, .slice none 0 0), (7, .slice ad (List.length l) cap), (8, .int .i64 (List.length l : Int)), (9, .int .i64 ((0 : Nat) : Int))] ⟨rfl, rfl, rfl, rfl, trivial⟩ ?_))))
 refine dq_ (ι := {y : Nat × Value × Hp // y.1 ≤ l.length ∧ aQ_ 9 1 y.2.1 (cw_ (l.take y.1)).length ((cw_ (l.take y.1)).flatMap aO_) y.2.2}) (fun y => [(2, y.1.2.1), (7, .slice ad (List.length l) cap), (8, .int .i64 (List.length l : Int)), (9, .int .i64 (y.1.1 : Int))]) (fun y => y.1.2.2) (fun _ => _) (fun y => l.length - y.1.1) ⟨(0, .slice none 0 0, []), by simp, aQ_.nil _ _⟩ ?_
 rintro ⟨⟨i, sv, Hr⟩, hi, hrow⟩
 dsimp only at hi hrow
 dsimp only
 have hol := ha_ (l.take i)
 rw [List.length_take] at hol
 refine ds_ [(2, sv), (7, .slice ad (List.length l) cap), (8, .int .i64 (List.length l : Int)), (9, .int .i64 (i : Int))] ⟨rfl, rfl, rfl, rfl, trivial⟩ ?_
 refine h_ (c_ (x_ (av_ rfl rfl) rfl fun r1 hr1 => ?_))
 refine e_ (b_ rfl (h_ ?_))
 cases r1
 ·
  replace hr1 := of_decide_eq_false hr1
  refine v_ rfl (au_ rfl (b_ rfl (h_ ?_)))
  have et : l.take i = l := List.take_of_length_le (by omega)
  rw [et] at hrow hol
  refine c_ (a_ (d_ rfl) rfl (W_ (mL_ hrow (by omega)) rfl aD_ (fun _ _ _ => by exact trivial) rfl fun ⟨Hs, hs⟩ => ?_))
  dsimp only
  refine aj_ (List.Perm.symm aD_) ?_
  have hs2 : aQ_ 9 1 sv ((cw_ l).mergeSort fun x y => decide (x ≤ y)).length (((cw_ l).mergeSort fun x y => decide (x ≤ y)).flatMap aO_) Hs := by rw [List.length_mergeSort]; exact hs
  refine e_ (b_ rfl (h_ (c_ (a_ (d_ rfl) rfl (W_ (js_ hs2 (by rw [List.length_mergeSort]; omega)) rfl aD_ (fun _ _ _ => by exact trivial) rfl fun ⟨⟨sc, Hc⟩, hc⟩ => ?_)))))
  dsimp only
  refine aj_ (List.Perm.symm aD_) (a_ (g_ rfl) rfl (e_ (b_ rfl (F_ (iU_ hc aD_ fun ad2 cp2 hsv hc1 hc2 => ?_)))))
  exact aw_ Tryz.results98 ⟨(ad2, cp2), hc1, hc2⟩ (bU_ rfl hsv) I_ (fun v _ h => ⟨h.1, trivial⟩)
 ·
  replace hr1 := of_decide_eq_true hr1
  have hlx1 : i < List.length l := by omega
  obtain ⟨x1, hx1⟩ : ∃ e0, l[i]? = some e0 := ⟨_, List.getElem?_eq_getElem hlx1⟩
  have hmx1 : x1 ∈ l := List.mem_of_getElem? hx1
  refine t_ rfl (z_ (b_ rfl (h_ (R_ (h_ (c_ (a_ (aa_ A_ K_ rfl rfl (fun v _ h => ay_ (n := 10) Pc.cells_len (by decide) (by exact h.1) hx1) (by omega) (by first | omega | (simp; done))) rfl (a_ (aU_ (ad := ad) (us := Pc.cells x1) aG_ K_ rfl (fun v _ h => by exact h.1) (Pc.cells_len _) (ad_ Pc.cells_len hx1)) rfl (ao_ aX_ rfl fun b1 => ?_)))))))))
  refine Q_ 0 K_ rfl rfl rfl rfl rfl rfl (e_ (b_ rfl (h_ (c_ (a_ (l_ k_ rfl rfl rfl j_) rfl (a_ (u_ 0 q_ rfl rfl rfl) rfl (a_ (l_ k_ rfl rfl rfl j_) rfl (a_ (u_ 0 q_ rfl rfl rfl) rfl (a_ (l_ k_ rfl rfl rfl j_) rfl ?_)))))))))
  refine a_ (u_ 0 q_ rfl rfl rfl) rfl (aJ_ D_ j_ bm_ rfl rfl rfl rfl rfl rfl fun b2 => ?_)
  refine bz_ (List.flatMap aO_ [(Pc.a x1), (Pc.b x1), (Pc.c x1)]) i_ rfl ?_
  refine a_ (am_ D_ rfl) rfl (a_ (d_ rfl) rfl (e_ (b_ rfl (R_ (ds_ [(2, sv), (7, .slice ad (List.length l) cap), (8, .int .i64 (List.length l : Int)), (9, .int .i64 (i : Int)), (19, .slice (some ⟨b2, 0, none⟩) (List.length [(Pc.a x1), (Pc.b x1), (Pc.c x1)]) 3), (20, .int .i64 3), (21, .int .i64 ((0 : Nat) : Int))] ⟨rfl, rfl, rfl, rfl, rfl, rfl, rfl, trivial⟩ ?_)))))
  refine dq_ (ι := {y : Nat × Value × Hp // y.1 ≤ 3 ∧ aQ_ 9 1 y.2.1 (cw_ (l.take i) ++ (List.take y.1 [x1.a, x1.b, x1.c]).filter fun s => !(s == [])).length ((cw_ (l.take i) ++ (List.take y.1 [x1.a, x1.b, x1.c]).filter fun s => !(s == [])).flatMap aO_) y.2.2}) (fun y => [(2, y.1.2.1), (7, .slice ad (List.length l) cap), (8, .int .i64 (List.length l : Int)), (9, .int .i64 (i : Int)), (19, .slice (some ⟨b2, 0, none⟩) (List.length [(Pc.a x1), (Pc.b x1), (Pc.c x1)]) 3), (20, .int .i64 3), (21, .int .i64 (y.1.1 : Int))]) (fun y => _ ::  y.1.2.2) (fun _ => _) (fun y => 3 - y.1.1) ⟨(0, sv, Hr), by simp, by simpa using hrow⟩ ?_
  rintro ⟨⟨k, sw, Hw⟩, hk, hkr⟩
  dsimp only at hk hkr
  dsimp only
  have hfl : ((cw_ (l.take i) ++ (List.take k [x1.a, x1.b, x1.c]).filter fun s => !(s == []))).length ≤ (cw_ (l.take i)).length + 3 := by
   have := List.length_filter_le (fun s => !(s == [])) (List.take k [x1.a, x1.b, x1.c])
   simp only [List.length_append, List.length_take, List.length_cons, List.length_nil] at this ⊢
   omega
  refine ds_ [(2, sw), (7, .slice ad (List.length l) cap), (8, .int .i64 (List.length l : Int)), (9, .int .i64 (i : Int)), (19, .slice (some ⟨b2, 0, none⟩) (List.length [(Pc.a x1), (Pc.b x1), (Pc.c x1)]) 3), (20, .int .i64 3), (21, .int .i64 (k : Int))] ⟨rfl, rfl, rfl, rfl, rfl, rfl, rfl, trivial⟩ ?_
  refine h_ (c_ (x_ (av_ rfl rfl) rfl fun r2 hr2 => ?_))
  refine e_ (b_ rfl (h_ ?_))
  cases r2
  ·
   replace hr2 := of_decide_eq_false hr2
   refine v_ rfl (au_ rfl (b_ rfl (c_ (a_ (M_ rfl rfl rfl (af_ (by omega) (by omega))) rfl (a_ (d_ rfl) rfl (e_ (w_ rfl ?_)))))))
   have hst : cw_ (l.take (i + 1)) = cw_ (l.take i) ++ hd_ x1 := by unfold cw_; rw [List.take_add_one, hx1, List.flatMap_append]; simp
   exact Z_ ⟨(i + 1, sw, Hw), hlx1, by dsimp only; rw [hst]; have := hkr; rw [List.take_of_length_le (show [x1.a, x1.b, x1.c].length ≤ k by simp; omega)] at this; exact this⟩ (by dsimp only; omega) ⟨rfl, rfl, rfl, rfl, trivial⟩ (f_ aD_) (fun _ _ h => h.2)
  ·
   replace hr2 := of_decide_eq_true hr2
   have hly1 : k < List.length [(Pc.a x1), (Pc.b x1), (Pc.c x1)] := by simp; omega
   obtain ⟨y1, hy1⟩ : ∃ e0, [(Pc.a x1), (Pc.b x1), (Pc.c x1)][k]? = some e0 := ⟨_, List.getElem?_eq_getElem hly1⟩
   have hmy1 : y1 ∈ [(Pc.a x1), (Pc.b x1), (Pc.c x1)] := List.mem_of_getElem? hy1
   refine t_ rfl (z_ (b_ rfl (h_ (R_ (h_ (c_ (a_ (aa_ D_ j_ rfl rfl (fun v _ h => ay_ (n := 1) at_ (by decide) (by exact h.1) hy1) (by omega) (by first | omega | (simp; done))) rfl (a_ (aN_ (ad := (some ⟨b2, 0, none⟩)) q_ rfl (fun v _ h => by exact h.1) (ad_ at_ hy1 0 _ rfl)) rfl (a_ (g_ rfl) rfl ?_)))))))))
   refine e_ (b_ rfl (h_ (c_ (a_ (d_ rfl) rfl (x_ (dL_ rfl rfl) rfl fun r3 hr3 => ?_)))))
   refine e_ (b_ rfl ?_)
   cases r3
   ·
    replace hr3 := bb_ hr3
    refine v_ rfl (z_ (b_ rfl (c_ (a_ (M_ rfl rfl rfl (af_ (by omega) (by omega))) rfl (a_ (d_ rfl) rfl (e_ (w_ rfl ?_)))))))
    have hst : (cw_ (l.take i) ++ (List.take (k + 1) [x1.a, x1.b, x1.c]).filter fun s => !(s == [])) = (cw_ (l.take i) ++ (List.take k [x1.a, x1.b, x1.c]).filter fun s => !(s == [])) ++ [y1].filter (fun s => !(s == [])) := by rw [List.append_assoc, ← List.filter_append, List.take_add_one, hy1]; simp
    rw [show [y1].filter (fun s => !(s == [])) = [] by simp [*], List.append_nil] at hst
    exact Z_ ⟨(k + 1, sw, Hw), by dsimp only; omega, by dsimp only; rw [hst]; exact hkr⟩ (by dsimp only; omega) ⟨rfl, rfl, rfl, rfl, rfl, rfl, rfl, trivial⟩ (m_ i_ aD_) (fun _ _ h => h)
   ·
    replace hr3 := ba_ hr3
    refine t_ rfl (c_ (a_ (d_ rfl) rfl (a_ (d_ rfl) rfl (aJ_ D_ j_ bm_ rfl rfl rfl rfl rfl rfl fun b3 => ?_))))
    refine bi_ (news := [str y1]) jE_ hkr rfl rfl (f_ (f_ aD_)) rfl (cy_ 0 rfl) (io_ rfl) (by simp only [maxLen]; omega) (by omega) rfl fun sv2 Hr2 hrow2 => ?_
    refine aj_ (@List.perm_append_comm _ _ [_, _]) (a_ (g_ rfl) rfl (e_ (b_ rfl (c_ (a_ (M_ rfl rfl rfl (af_ (by omega) (by omega))) rfl (a_ (d_ rfl) rfl (e_ (w_ rfl ?_))))))))
    have hst : (cw_ (l.take i) ++ (List.take (k + 1) [x1.a, x1.b, x1.c]).filter fun s => !(s == [])) = (cw_ (l.take i) ++ (List.take k [x1.a, x1.b, x1.c]).filter fun s => !(s == [])) ++ [y1].filter (fun s => !(s == [])) := by rw [List.append_assoc, ← List.filter_append, List.take_add_one, hy1]; simp
    rw [show [y1].filter (fun s => !(s == [])) = [y1] by simp [*]] at hst
    exact Z_ ⟨(k + 1, sv2, Hr2), by dsimp only; omega, by dsimp only; rw [hst]; rw [List.length_append (bs := [y1]), List.flatMap_append (ys := [y1])]; exact hrow2⟩ (by dsimp only; omega) ⟨rfl, rfl, rfl, rfl, rfl, rfl, rfl, trivial⟩ (m_ (f_ i_) (f_ aD_)) (fun _ _ h => h)
end Go.Proofs.YtpdbbglpbngeiaaGreatDoor
namespace Go.Sx
open Go
section
variable {P : Program} {N : Nat} {v0 : Vw} {H0 : Hp} {R : Exit → Act → World → Prop} {K : List Kt} {fr : Fr} {H : Hp} {Γ : List Fct}
variable {ops : Array Oper} {l : List Oper} {d : Nat} {ty : TypeId} {ps : String} {af : Array Edge}
end
end Go.Sx
namespace Go.Vs
open Go Go.Sx
def Cov (hs : List Bool) (L S : List Str) : Prop := hs.length = L.length ∧ ∀ (n : Nat) (s : Str), L[n]? = some s → s ∈ S → hs[n]? = some true
theorem Cov.nil (L : List Str) : Cov (List.replicate L.length false) L [] := ⟨by simp, fun _ _ _ h => by simp at h⟩
theorem Cov.set {hs : List Bool} {L S : List Str} (h : Cov hs L S) (n : Nat) : Cov (hs.set n true) L S := ⟨by rw [List.length_set]; exact h.1, fun m s h1 h2 => by
  have h3 := h.2 m s h1 h2
  rw [List.getElem?_set]
  split
  · rename_i e
    subst e
    rw [if_pos (List.getElem?_eq_some_iff.1 h3).1]
  · exact h3⟩
def jH_ (hs : List Bool) (L S : List Str) (y : Str) (n : Nat) : Prop := Cov hs L S ∧ ∀ m, m < n → L[m]? = some y → hs[m]? = some true
theorem jH_.zero {hs : List Bool} {L S : List Str} {y : Str} (h : Cov hs L S) : jH_ hs L S y 0 := ⟨h, fun _ h => by omega⟩
theorem jH_.hit {hs : List Bool} {L S : List Str} {y : Str} {n : Nat} (h : jH_ hs L S y n) (hn : n < L.length) : jH_ (hs.set n true) L S y (n + 1) := ⟨h.1.set n, fun m hm e => by
  rw [List.getElem?_set]
  split
  · rename_i e
    rw [if_pos (by rw [h.1.1]; omega)]
  · rename_i e2
    exact h.2 m (by omega) e⟩
theorem jH_.miss {hs : List Bool} {L S : List Str} {y z : Str} {n : Nat} (h : jH_ hs L S y n) (hz : L[n]? = some z) (hne : z ≠ y) : jH_ hs L S y (n + 1) := ⟨h.1, fun m hm e => by
  by_cases e2 : m = n
  · subst e2
    rw [hz, Option.some.injEq] at e
    exact absurd e hne
  · exact h.2 m (by omega) e⟩
theorem jH_.done {hs : List Bool} {L S : List Str} {y : Str} {n : Nat} (h : jH_ hs L S y n) (hn : L.length ≤ n) : Cov hs L (S ++ [y]) := ⟨h.1.1, fun m s h1 h2 => by
  rcases List.mem_append.1 h2 with h2 | h2
  · exact h.1.2 m s h1 h2
  · simp only [List.mem_singleton] at h2
    subst h2
    have := (List.getElem?_eq_some_iff.1 h1).1
    exact h.2 m (by omega) h1⟩
def three (p : Pc) : List Str := [p.a, p.b, p.c]
theorem Cov.all {hs : List Bool} {l : List Pc} (h : Cov hs (dH_ l) (l.flatMap three)) {n : Nat} (hn : n < (dH_ l).length) : hs[n]? = some true := by
  have hm := (eF_ l _).1 (List.getElem_mem hn)
  refine h.2 n _ (List.getElem?_eq_getElem hn) ?_
  simp only [cw_, List.mem_flatMap, hd_, List.mem_filter] at hm
  obtain ⟨p, h1, h2⟩ := hm
  exact List.mem_flatMap.2 ⟨p, h1, h2.1⟩
theorem nX_ {l : List Pc} {s : Str} (h : s ∈ dH_ l) : s ≠ [] := by
  have hm := (eF_ l _).1 h
  simp only [cw_, List.mem_flatMap, hd_, List.mem_filter] at hm
  obtain ⟨p, h1, h2⟩ := hm
  simpa using h2.2
end Go.Vs
namespace Go.Vs
open Go Go.Sx
theorem mU_ (s : Str) : ((if bc_ s then (0 : Int) else 20) == 0) = bc_ s := by cases bc_ s <;> rfl
theorem qE_ (s : Str) : ((if bc_ s then (0 : Int) else 20) != 0) = !bc_ s := by cases bc_ s <;> rfl
-- valid pieces, kind by kind
section
variable {a b c r s t : Str} {lo hi f : Int}
theorem vp_no (k : Int) (hk : k ≠ 1 ∧ k ≠ 2 ∧ k ≠ 3 ∧ k ≠ 4 ∧ k ≠ 5 ∧ k ≠ 6 ∧ k ≠ 7 ∧ k ≠ 8 ∧ k ≠ 9) : Pc.valid ⟨k, a, b, c, r, s, t, lo, hi, f⟩ = false := by
  unfold Pc.valid
  rw [if_pos (by dsimp only; omega)]
theorem fP_ (k : Int) (u : NUse) (hu : nus k = u) (h1 : ¬(k < 1 ∨ 9 < k ∨ f < -1 ∨ 1024 ≤ f)) : Pc.valid ⟨k, a, b, c, r, s, t, lo, hi, f⟩ = true ↔
    ((u.numbers = true → -1099511627776 ≤ lo ∧ lo ≤ hi ∧ hi ≤ 1099511627776) ∧ (u.numbers = false → lo = 0 ∧ hi = 0)) ∧ (((((ct_ u.a a bf_ = true ∧ ct_ u.b b bf_ = true) ∧ ct_ u.c c bf_ = true) ∧ ct_ u.r r (if u.numbers then bc_ else bY_) = true) ∧ ct_ u.s s bY_ = true) ∧ ct_ u.t t bY_ = true) := by
  unfold Pc.valid
  dsimp only
  rw [if_neg h1, hu]
  by_cases h2 : u.numbers = true ∧ (lo < -1099511627776 ∨ hi < lo ∨ 1099511627776 < hi)
  · rw [if_pos h2]
    constructor
    · intro h; cases h
    · rintro ⟨⟨q, _⟩, _⟩
      have := q h2.1
      omega
  · rw [if_neg h2]
    by_cases h3 : u.numbers = false ∧ (lo ≠ 0 ∨ hi ≠ 0)
    · rw [if_pos h3]
      constructor
      · intro h; cases h
      · rintro ⟨⟨_, q⟩, _⟩
        have := q h3.1
        omega
    · rw [if_neg h3]
      simp only [Bool.and_eq_true]
      constructor
      · intro h
        refine ⟨⟨fun q => ?_, fun q => ?_⟩, h⟩
        · have : ¬ (lo < -1099511627776 ∨ hi < lo ∨ 1099511627776 < hi) := fun e => h2 ⟨q, e⟩
          omega
        · have : ¬ (lo ≠ 0 ∨ hi ≠ 0) := fun e => h3 ⟨q, e⟩
          omega
      · exact fun h => h.2
theorem hB_ (s : Str) (q : Str → Bool) : (ct_ true s q = true) = (q s = true) := by simp [ct_]
theorem hC_ (s : Str) (q : Str → Bool) : (ct_ false s q = true) = (s = []) := by simp [ct_]
end
-- atoms
def eC_ (s : Str) : Bool :=
  (s == [42] || s == [33]) || bc_ s || (decide (3 ≤ s.length) && ((decide (s[0]? = some 123) && decide (s[s.length - 1]? = some 125) && bc_ ((s.drop 1).take (s.length - 1 - 1))) || (decide (s[0]? = some 60) && decide (s[s.length - 1]? = some 62))))
theorem lz_ {s : Str} (h : bc_ s = true) : ∃ c t, s = c :: t ∧ (cW_ c = true ∨ c.toNat = 95) := by
  unfold bc_ at h
  rw [Bool.or_eq_true] at h
  rcases h with h | h
  · obtain ⟨c, t, e, h2⟩ := mk_ h
    exact ⟨c, t, e, .inl h2⟩
  · unfold cg_ at h
    simp only [Bool.and_eq_true, decide_eq_true_eq] at h
    cases s with
    | nil => simp at h
    | cons c t => exact ⟨c, t, rfl, .inr (by simpa using h.1.2)⟩
theorem nB_ {s : Str} {c : UInt8} (h0 : s[0]? = some c) (h : c = 123 ∨ c = 60) : bc_ s = false := by
  cases hp : bc_ s with
  | false => rfl
  | true =>
    obtain ⟨d, t, rfl, h2⟩ := lz_ hp
    simp only [List.getElem?_cons_zero, Option.some.injEq] at h0
    subst h0
    rcases h with rfl | rfl <;> simp [cW_] at h2
theorem dT_ (s : Str) : eC_ s = bf_ s := by
  unfold eC_ bf_
  by_cases h1 : s = [42] ∨ s = [33]
  · rw [if_pos h1]
    rcases h1 with rfl | rfl <;> rfl
  · rw [if_neg h1]
    have e1 : (s == [42] || s == [33]) = false := by
      rw [Bool.or_eq_false_iff]
      exact ⟨beq_eq_false_iff_ne.2 fun e => h1 (.inl e), beq_eq_false_iff_ne.2 fun e => h1 (.inr e)⟩
    rw [e1, Bool.false_or]
    by_cases h2 : s[0]? = some 123
    · have hp := nB_ h2 (.inl rfl)
      rw [hp, Bool.false_or]
      by_cases h3 : s[s.length - 1]? = some 125
      · by_cases hl : 2 ≤ s.length
        · rw [if_pos ⟨hl, h2, h3⟩]
          by_cases h4 : 3 ≤ s.length
          · simp [h2, h3, h4]
          · have : s.length = 2 := by omega
            have hq : bc_ (List.take (s.length - 1 - 1) (List.drop 1 s)) = false := by rw [this]; rfl
            rw [hq]; simp [h4]
        · rw [if_neg (by simp [hl]), if_neg (by simp; omega)]
          simp [show ¬ 3 ≤ s.length by omega]
      · rw [if_neg (by simp [h3]), if_neg (by simp [h2])]
        simp [h2, h3]
    · rw [if_neg (by simp [h2])]
      by_cases h5 : 3 ≤ s.length ∧ s[0]? = some 60 ∧ s[s.length - 1]? = some 62
      · rw [if_pos h5]
        simp [h5.1, h5.2.1, h5.2.2]
      · rw [if_neg h5]
        have : (decide (3 ≤ s.length) && ((decide (s[0]? = some 123) && decide (s[s.length - 1]? = some 125) && bc_ ((s.drop 1).take (s.length - 1 - 1))) || (decide (s[0]? = some 60) && decide (s[s.length - 1]? = some 62)))) = false := by
          rw [show decide (s[0]? = some 123) = false from decide_eq_false h2]
          simp only [Bool.false_and, Bool.false_or]
          rw [Bool.eq_false_iff]
          intro h
          simp only [Bool.and_eq_true, decide_eq_true_eq] at h
          exact h5 ⟨h.1, h.2.1, h.2.2⟩
        rw [this, Bool.or_false]
-- roles
structure RInv (s : Str) (a i : Nat) (dn : List Str) : Prop where
  le : a ≤ i
  il : i ≤ s.length
  no : ixS 46 ((s.drop a).take (i - a)) = none
  sp : bP_ 46 s = dn ++ bP_ 46 (s.drop a)
  al : dn.all bc_ = true
structure REnd (s : Str) (i : Nat) (dn : List Str) : Prop where
  il : i = s.length + 1
  sp : bP_ 46 s = dn
  al : dn.all bc_ = true
def gV_ (s : Str) (a i : Nat) : Str := (s.drop a).take (i - a)
theorem RInv.start (s : Str) : RInv s 0 0 [] := ⟨Nat.le_refl _, Nat.zero_le _, by simp [ixS], by simp, rfl⟩
theorem RInv.len {s : Str} {a i : Nat} {dn : List Str} (h : RInv s a i dn) : dn.length ≤ s.length + 1 := by
  have h1 := dR_ 46 s
  have h2 := is_ 46 s
  rw [h.sp, List.length_append] at h1
  omega
theorem REnd.len {s : Str} {i : Nat} {dn : List Str} (h : REnd s i dn) : dn.length ≤ s.length + 1 := by
  have h1 := dR_ 46 s
  have h2 := is_ 46 s
  rw [h.sp] at h1
  omega
theorem RInv.next {s : Str} {a i : Nat} {dn : List Str} {c : UInt8} (h : RInv s a i dn) (hc : s[i]? = some c) (hne : c ≠ 46) : RInv s a (i + 1) dn := by
  have hi := (List.getElem?_eq_some_iff.1 hc).1
  have hle := h.le
  refine ⟨by omega, by omega, ?_, h.sp, h.al⟩
  rw [show i + 1 - a = (i - a) + 1 by omega]
  exact lN_ (s.drop a) (i - a) c (by rw [List.getElem?_drop, show a + (i - a) = i by omega]; exact hc) h.no hne
theorem RInv.dot {s : Str} {a i : Nat} {dn : List Str} (h : RInv s a i dn) (hc : s[i]? = some 46) : bP_ 46 s = dn ++ gV_ s a i :: bP_ 46 (s.drop (i + 1)) := by
  have hle := h.le
  have h2 := mt_ (s.drop a) (i - a) (by rw [List.getElem?_drop, show a + (i - a) = i by omega]; exact hc) h.no
  rw [h.sp, fh_ h2, List.drop_drop, show a + (i - a + 1) = i + 1 by omega]
  rfl
theorem RInv.fin {s : Str} {a i : Nat} {dn : List Str} (h : RInv s a i dn) (hi : ¬ i < s.length) : bP_ 46 s = dn ++ [gV_ s a i] := by
  have hle := h.le
  have hil := h.il
  have e : (s.drop a).take (i - a) = s.drop a := List.take_of_length_le (by rw [List.length_drop]; omega)
  have hn := h.no
  rw [e] at hn
  rw [h.sp, fi_ hn, gV_, e]
theorem RInv.dotN {s : Str} {a i : Nat} {dn : List Str} (h : RInv s a i dn) (hc : s[i]? = some 46) (hp : bc_ (gV_ s a i) = true) : RInv s (i + 1) (i + 1) (dn ++ [gV_ s a i]) := by
  have hi := (List.getElem?_eq_some_iff.1 hc).1
  refine ⟨Nat.le_refl _, by omega, by simp [ixS], by rw [h.dot hc]; simp, by simp [h.al, hp]⟩
theorem RInv.finN {s : Str} {a i : Nat} {dn : List Str} (h : RInv s a i dn) (hi : ¬ i < s.length) (hp : bc_ (gV_ s a i) = true) : REnd s (i + 1) (dn ++ [gV_ s a i]) := by
  have hil := h.il
  exact ⟨by omega, h.fin hi, by simp [h.al, hp]⟩
theorem lm_ {s : Str} {x : Str} (hm : x ∈ bP_ 46 s) (hp : bc_ x = false) : bY_ s = false := by
  unfold bY_
  rw [show (bP_ 46 s).any (fun r => !bc_ r) = true from List.any_eq_true.2 ⟨x, hm, by simp [hp]⟩]
  simp
theorem REnd.role {s : Str} {i : Nat} {dn : List Str} (h : REnd s i dn) : bY_ s = decide ((dn.length : Int) ≤ 4) := by
  unfold bY_
  rw [h.sp]
  have : dn.any (fun r => !bc_ r) = false := by
    rw [List.any_eq_false]
    intro x hx
    have := List.all_eq_true.1 h.al x hx
    simp [this]
  rw [this]
  simp
  omega
-- sorted insertion
def kS (l : List Str) (s : Str) : Nat := (l.takeWhile fun x => decide (x < s)).length
theorem lL_ {s : Str} : ∀ {l : List Str} {k : Nat}, k ≤ l.length → (∀ x ∈ l.take k, x < s) → (∀ x, l[k]? = some x → ¬ x < s) → kS l s = k
  | [], k, h1, _, _ => by simp at h1; simp [kS, h1]
  | y :: r, 0, _, _, h3 => by
    have := h3 y rfl
    unfold kS
    rw [List.takeWhile_cons_of_neg (by simpa using this)]
    rfl
  | y :: r, k + 1, h1, h2, h3 => by
    have hy : y < s := h2 y (by simp)
    have ih := lL_ (l := r) (k := k) (by simpa using h1) (fun x hx => h2 x (by simp [hx])) (fun x hx => h3 x (by simpa using hx))
    unfold kS at ih ⊢
    rw [List.takeWhile_cons_of_pos (by simpa using hy), List.length_cons, ih]
def bw_ (l : List Str) (s : Str) : List Str := if s = [] ∨ l[kS l s]? = some s then l else l.take (kS l s) ++ [s] ++ l.drop (kS l s)
theorem kS_le (l : List Str) (s : Str) : kS l s ≤ l.length := (List.takeWhile_sublist _).length_le
theorem ey_ (l : List Str) (s : Str) : (bw_ l s).length ≤ l.length + 1 := by
  have := kS_le l s
  unfold bw_
  split
  · omega
  · simp only [List.length_append, List.length_take, List.length_cons, List.length_nil, List.length_drop]
    omega
theorem gC_ {l : List Str} {s x : Str} : x ∈ bw_ l s ↔ x ∈ l ∨ (x = s ∧ s ≠ []) := by
  unfold bw_
  split
  · rename_i h
    constructor
    · exact .inl
    · rintro (h2 | ⟨rfl, h2⟩)
      · exact h2
      · rcases h with h | h
        · exact absurd h h2
        · exact List.mem_of_getElem? h
  · rename_i h
    simp only [not_or] at h
    have e : x ∈ l ↔ x ∈ l.take (kS l s) ∨ x ∈ l.drop (kS l s) := by
      rw [← List.mem_append, List.take_append_drop]
    rw [e]
    simp only [List.mem_append, List.mem_singleton]
    constructor
    · rintro ((h1 | h1) | h1)
      · exact .inl (.inl h1)
      · exact .inr ⟨h1, h1 ▸ h.1⟩
      · exact .inl (.inr h1)
    · rintro ((h1 | h1) | h1)
      · exact .inl (.inl h1)
      · exact .inr h1
      · exact .inl (.inr h1.1)
theorem ok_ {s : Str} : ∀ (l : List Str), ∀ x ∈ l.take (kS l s), x < s := by
  intro l x hx
  have e : l.take (kS l s) = l.takeWhile fun x => decide (x < s) := by
    unfold kS
    exact (List.prefix_iff_eq_take.1 (List.takeWhile_prefix _)).symm
  rw [e] at hx
  induction l with
  | nil => simp at hx
  | cons y r ih =>
    by_cases hy : y < s
    · rw [List.takeWhile_cons_of_pos (by simpa using hy)] at hx
      rcases List.mem_cons.1 hx with rfl | hx
      · exact hy
      · refine ih hx ?_
        unfold kS
        exact (List.prefix_iff_eq_take.1 (List.takeWhile_prefix _)).symm
    · rw [List.takeWhile_cons_of_neg (by simpa using hy)] at hx
      simp at hx
theorem mJ_ {s : Str} : ∀ (l : List Str) (x : Str), l[kS l s]? = some x → ¬ x < s
  | [], x, h => by simp at h
  | y :: r, x, h => by
    unfold kS at h
    by_cases hy : y < s
    · rw [List.takeWhile_cons_of_pos (by simpa using hy), List.length_cons, List.getElem?_cons_succ] at h
      exact mJ_ r x h
    · rw [List.takeWhile_cons_of_neg (by simpa using hy)] at h
      simp only [List.length_nil, List.getElem?_cons_zero, Option.some.injEq] at h
      subst h
      exact hy
theorem hi_ {l : List Str} {s : Str} (h : l.Pairwise fun x y => x < y) : (bw_ l s).Pairwise fun x y => x < y := by
  unfold bw_
  split
  · exact h
  · rename_i hn
    simp only [not_or] at hn
    have hd : ∀ y ∈ l.drop (kS l s), s < y := by
      intro y hy
      obtain ⟨j, hj, rfl⟩ := List.mem_iff_getElem.1 hy
      rw [List.getElem_drop]
      rw [List.length_drop] at hj
      have hk : kS l s < l.length := by omega
      have h0 := mJ_ l _ (List.getElem?_eq_getElem hk)
      have h1 : s < l[kS l s] := by
        apply Decidable.byContradiction
        intro q
        apply hn.2
        rw [List.getElem?_eq_getElem hk, Option.some.injEq]
        exact List.le_antisymm (List.not_lt.1 q) (List.not_lt.1 h0)
      rcases Nat.eq_zero_or_pos j with rfl | hp
      · exact h1
      · exact List.lt_trans h1 (List.pairwise_iff_getElem.1 h _ _ hk (by omega) (by omega))
    rw [List.pairwise_append, List.pairwise_append]
    refine ⟨⟨h.sublist (List.take_sublist _ _), List.pairwise_singleton _ _, fun x hx y hy => ?_⟩, h.sublist (List.drop_sublist _ _), fun x hx y hy => ?_⟩
    · rw [List.mem_singleton] at hy
      subst hy
      exact ok_ l x hx
    · rcases List.mem_append.1 hx with hx | hx
      · exact List.lt_trans (ok_ l x hx) (hd y hy)
      · rw [List.mem_singleton] at hx
        subst hx
        exact hd y hy
def cQ_ (l : List Pc) : List Str := l.foldl (fun L p => bw_ (bw_ (bw_ L p.a) p.b) p.c) []
theorem ma_ {l : List Pc} {i : Nat} {p : Pc} (h : l[i]? = some p) : cQ_ (l.take (i + 1)) = bw_ (bw_ (bw_ (cQ_ (l.take i)) p.a) p.b) p.c := by
  rw [List.take_add_one, h, Option.toList_some]
  simp [cQ_, List.foldl_append]
theorem hc_ : ∀ (l : List Pc) (L : List Str), L.Pairwise (fun x y => x < y) → (l.foldl (fun L p => bw_ (bw_ (bw_ L p.a) p.b) p.c) L).Pairwise (fun x y => x < y) ∧ (∀ x, x ∈ l.foldl (fun L p => bw_ (bw_ (bw_ L p.a) p.b) p.c) L ↔ x ∈ L ∨ x ∈ cw_ l) ∧ (l.foldl (fun L p => bw_ (bw_ (bw_ L p.a) p.b) p.c) L).length ≤ L.length + 3 * l.length
  | [], L, h => ⟨h, fun x => by simp [cw_], by simp⟩
  | p :: r, L, h => by
    obtain ⟨h1, h2, h3⟩ := hc_ r (bw_ (bw_ (bw_ L p.a) p.b) p.c) (hi_ (hi_ (hi_ h)))
    refine ⟨h1, fun x => ?_, ?_⟩
    · rw [List.foldl_cons, h2, gC_, gC_, gC_]
      simp only [cw_, List.flatMap_cons, List.mem_append, hd_, List.mem_filter, List.mem_cons, List.not_mem_nil, or_false]
      constructor
      · rintro ((((h | ⟨rfl, h⟩) | ⟨rfl, h⟩) | ⟨rfl, h⟩) | h)
        · exact .inl h
        · exact .inr (.inl ⟨.inl rfl, by simpa using h⟩)
        · exact .inr (.inl ⟨.inr (.inl rfl), by simpa using h⟩)
        · exact .inr (.inl ⟨.inr (.inr rfl), by simpa using h⟩)
        · exact .inr (.inr h)
      · rintro (h | ⟨h, h5⟩ | h)
        · exact .inl (.inl (.inl (.inl h)))
        · have h6 : x ≠ [] := by simpa using h5
          rcases h with rfl | rfl | rfl
          · exact .inl (.inl (.inl (.inr ⟨rfl, h6⟩)))
          · exact .inl (.inl (.inr ⟨rfl, h6⟩))
          · exact .inl (.inr ⟨rfl, h6⟩)
        · exact .inr h
    · rw [List.foldl_cons]
      have a1 := ey_ L p.a
      have a2 := ey_ (bw_ L p.a) p.b
      have a3 := ey_ (bw_ (bw_ L p.a) p.b) p.c
      simp only [List.length_cons]
      omega
theorem jS_ : ∀ {l m : List Str}, l.Pairwise (fun x y => x < y) → m.Pairwise (fun x y => x < y) → (∀ x, x ∈ l ↔ x ∈ m) → l = m
  | [], [], _, _, _ => rfl
  | [], y :: m, _, _, h => by have := (h y).2 (by simp); simp at this
  | x :: l, [], _, _, h => by have := (h x).1 (by simp); simp at this
  | x :: l, y :: m, h1, h2, h => by
    rw [List.pairwise_cons] at h1 h2
    have e : x = y := by
      have hx := (h x).1 (by simp)
      have hy := (h y).2 (by simp)
      rcases List.mem_cons.1 hx with e | hx
      · exact e
      rcases List.mem_cons.1 hy with e | hy
      · exact e.symm
      exact absurd (List.lt_trans (h1.1 y hy) (h2.1 x hx)) (List.lt_irrefl _)
    subst e
    congr 1
    refine jS_ h1.2 h2.2 fun z => ?_
    have hz := h z
    simp only [List.mem_cons] at hz
    constructor
    · intro q
      rcases hz.1 (.inr q) with e | e
      · subst e
        exact absurd (h1.1 z q) (List.lt_irrefl _)
      · exact e
    · intro q
      rcases hz.2 (.inr q) with e | e
      · subst e
        exact absurd (h2.1 z q) (List.lt_irrefl _)
      · exact e
theorem jy_ (l : List Pc) : dH_ l = cQ_ l := by
  obtain ⟨h1, h2, _⟩ := hc_ l [] List.Pairwise.nil
  refine jS_ (nY_ l) h1 fun x => ?_
  have := h2 x
  rw [eF_]
  simp only [List.not_mem_nil, false_or] at this
  exact this.symm
theorem hb_ (l : List Pc) : (cQ_ l).length ≤ 3 * l.length := by
  have := (hc_ l [] List.Pairwise.nil).2.2
  simpa [cQ_] using this
end Go.Vs
