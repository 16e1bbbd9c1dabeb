/-
  Part of the proof of the law CheckerChecks over this seat: the small logic, the data, the contracts of functions (no condition).
-/
import Derived.Test.YtaffcjgphlhppaaGreatDoorQCheckerChecks8
import Derived.Test.YtaffcjgphlhppaaGreatDoorQCheckerChecks5
import Derived.Test.YtaffcjgphlhppaaGreatDoorQCheckerChecks6
import Derived.Test.YtaffcjgphlhppaaGreatDoorQCheckerChecks3
import Derived.Test.YtaffcjgphlhppaaGreatDoorQCheckerChecks7
set_option linter.unusedVariables false
set_option linter.unusedSimpArgs false
set_option linter.unusedSectionVars false
namespace Go.Proofs.YtaffcjgphlhppaaGreatDoor
open Go Go.Sx Go.Proofs
attribute [local irreducible] Code.wp wpList wpAnyH
open Go.Vs
theorem dh_ (s : Str) (hs : s.length ≤ 140737488351232) : Fn0 Tryz.prog 148 #[str s] (.bool (aN_ s)) := by
  refine V_ Tryz.func148 rfl rfl Tryz.ntmps148 rfl fun v0 => ?_
  refine g_ (c_ (a_ (e_ rfl) rfl (d_ (b_ rfl (g_ (c_ (a_ (f_ rfl) rfl (S_ (eS_ s hs) rfl D_ (fun _ _ _ => by exact trivial) rfl fun _ => ?_))))))))
  refine C_ (ab_ rfl rfl) rfl fun r1 hr1 => ?_
  refine a_ (e_ rfl) rfl (d_ (b_ rfl (y_ ?_)))
  exact U_ Tryz.results148 () (q_ rfl (by cases h : aN_ s <;> simp_all)) (.refl _) (fun _ _ _ => trivial)
theorem fj_ (s : Str) (hs : s.length ≤ 140737488351232) : Fn0 Tryz.prog 146 #[str s] (.bool (aR_ s)) := by
 refine V_ Tryz.func146 rfl rfl Tryz.ntmps146 rfl fun v0 => ?_
 refine g_ (c_ (a_ (e_ rfl) rfl (d_ (b_ rfl (g_ (c_ (a_ (f_ rfl) rfl (a_ (bu_ Q_ rfl) rfl (a_ (e_ rfl) rfl ?_)))))))))
 refine d_ (b_ rfl (g_ (ae_ (g_ (c_ (a_ (f_ rfl) rfl (C_ (az_ rfl rfl) rfl fun r1 hr1 => ?_)))))))
 refine a_ (f_ rfl) rfl ?_
 cases r1
 ·
  replace hr1 := ne_of_beq_false hr1
  refine i_ rfl rfl (a_ (f_ rfl) rfl (i_ rfl rfl (C_ (az_ rfl rfl) rfl fun r2 hr2 => ?_)))
  refine a_ (p_ rfl rfl) rfl (a_ (e_ rfl) rfl (d_ (b_ rfl ?_)))
  cases r2
  ·
   replace hr2 := ne_of_beq_false hr2
   refine B_ rfl (g_ (c_ (a_ (f_ rfl) rfl (C_ (bQ_ rfl rfl) rfl fun r3 hr3 => ?_))))
   refine a_ (f_ rfl) rfl ?_
   cases r3
   ·
    replace hr3 := of_decide_eq_false hr3
    refine j_ rfl rfl rfl rfl (j_ rfl rfl rfl rfl (j_ rfl rfl rfl rfl (a_ (p_ rfl rfl) rfl (a_ (f_ rfl) rfl (j_ rfl rfl rfl rfl (j_ rfl rfl rfl rfl (j_ rfl rfl rfl rfl (j_ rfl rfl rfl rfl (j_ rfl rfl rfl rfl ?_)))))))))
    refine a_ (p_ rfl rfl) rfl (a_ (e_ rfl) rfl (d_ (b_ rfl (B_ rfl (g_ (c_ (a_ (f_ rfl) rfl (C_ (bQ_ rfl rfl) rfl fun r4 hr4 => ?_))))))))
    refine a_ (f_ rfl) rfl ?_
    cases r4
    ·
     replace hr4 := of_decide_eq_false hr4
     refine j_ rfl rfl rfl rfl (j_ rfl rfl rfl rfl (j_ rfl rfl rfl rfl (a_ (p_ rfl rfl) rfl (a_ (f_ rfl) rfl (j_ rfl rfl rfl rfl (j_ rfl rfl rfl rfl (j_ rfl rfl rfl rfl (j_ rfl rfl rfl rfl (j_ rfl rfl rfl rfl ?_)))))))))
     refine a_ (p_ rfl rfl) rfl (a_ (e_ rfl) rfl (d_ (b_ rfl (B_ rfl (J_ (b_ rfl (g_ (c_ (a_ (f_ rfl) rfl ?_)))))))))
     refine X_ (dh_ _ (by first | exact hs | (simp; omega))) rfl D_ (fun _ _ _ => by exact trivial) rfl fun r5 hr5 => ?_
     refine a_ (e_ rfl) rfl (d_ (b_ rfl (y_ ?_)))
     exact U_ ct_ () (q_ rfl (by unfold aR_; (repeat (any_goals split)) <;> first | rfl | (simp_all; done) | (exfalso; simp_all; omega) | (exfalso; simp_all; done))) (.refl _) (fun _ _ _ => trivial)
    ·
     replace hr4 := of_decide_eq_true hr4
     exfalso; omega
   ·
    replace hr3 := of_decide_eq_true hr3
    obtain ⟨c, hc⟩ : ∃ c, s[0]? = some c := ⟨_, List.getElem?_eq_getElem (by omega)⟩
    obtain ⟨e, he⟩ : ∃ e, s[s.length - 1]? = some e := ⟨_, List.getElem?_eq_getElem (by omega)⟩
    have hc123 : (s[0]? = some 123) ↔ ((c.toNat : Int) = 123) := by
              rw [hc]; simp only [Option.some.injEq]; exact ⟨fun q => by subst q; rfl, fun q => UInt8.toNat_inj.1 (by show c.toNat = 123; omega)⟩
    have he125 : (s[s.length - 1]? = some 125) ↔ ((e.toNat : Int) = 125) := by
              rw [he]; simp only [Option.some.injEq]; exact ⟨fun q => by subst q; rfl, fun q => UInt8.toNat_inj.1 (by show e.toNat = 125; omega)⟩
    have hc60 : (s[0]? = some 60) ↔ ((c.toNat : Int) = 60) := by
              rw [hc]; simp only [Option.some.injEq]; exact ⟨fun q => by subst q; rfl, fun q => UInt8.toNat_inj.1 (by show c.toNat = 60; omega)⟩
    have he62 : (s[s.length - 1]? = some 62) ↔ ((e.toNat : Int) = 62) := by
              rw [he]; simp only [Option.some.injEq]; exact ⟨fun q => by subst q; rfl, fun q => UInt8.toNat_inj.1 (by show e.toNat = 62; omega)⟩
    refine i_ rfl rfl (a_ (f_ rfl) rfl (i_ rfl rfl (a_ (bm_ Q_ rfl rfl (by decide) hc) rfl (i_ rfl rfl (C_ (ab_ rfl rfl) rfl fun r6 hr6 => ?_)))))
    refine a_ (A_ rfl rfl) rfl (a_ (f_ rfl) rfl ?_)
    cases r6
    ·
     replace hr6 := ne_of_beq_false hr6
     refine j_ rfl rfl rfl rfl (j_ rfl rfl rfl rfl (j_ rfl rfl rfl rfl (j_ rfl rfl rfl rfl (j_ rfl rfl rfl rfl (a_ (p_ rfl rfl) rfl (a_ (e_ rfl) rfl (d_ (b_ rfl (B_ rfl ?_)))))))))
     refine g_ (c_ (a_ (f_ rfl) rfl (C_ (bQ_ rfl rfl) rfl fun r7 hr7 => ?_)))
     refine a_ (f_ rfl) rfl ?_
     cases r7
     ·
      replace hr7 := of_decide_eq_false hr7
      refine j_ rfl rfl rfl rfl (j_ rfl rfl rfl rfl (j_ rfl rfl rfl rfl (a_ (p_ rfl rfl) rfl (a_ (f_ rfl) rfl (j_ rfl rfl rfl rfl (j_ rfl rfl rfl rfl (j_ rfl rfl rfl rfl (j_ rfl rfl rfl rfl (j_ rfl rfl rfl rfl ?_)))))))))
      refine a_ (p_ rfl rfl) rfl (a_ (e_ rfl) rfl (d_ (b_ rfl (B_ rfl (J_ (b_ rfl (g_ (c_ (a_ (f_ rfl) rfl ?_)))))))))
      refine X_ (dh_ _ (by first | exact hs | (simp; omega))) rfl D_ (fun _ _ _ => by exact trivial) rfl fun r8 hr8 => ?_
      refine a_ (e_ rfl) rfl (d_ (b_ rfl (y_ ?_)))
      exact U_ ct_ () (q_ rfl (by unfold aR_; (repeat (any_goals split)) <;> first | rfl | (simp_all; done) | (exfalso; simp_all; omega) | (exfalso; simp_all; done))) (.refl _) (fun _ _ _ => trivial)
     ·
      replace hr7 := of_decide_eq_true hr7
      refine i_ rfl rfl (a_ (f_ rfl) rfl (i_ rfl rfl (a_ (bm_ Q_ rfl rfl (by decide) hc) rfl (i_ rfl rfl (C_ (ab_ rfl rfl) rfl fun r9 hr9 => ?_)))))
      refine a_ (A_ rfl rfl) rfl (a_ (f_ rfl) rfl ?_)
      cases r9
      ·
       replace hr9 := ne_of_beq_false hr9
       refine j_ rfl rfl rfl rfl (j_ rfl rfl rfl rfl (j_ rfl rfl rfl rfl (j_ rfl rfl rfl rfl (j_ rfl rfl rfl rfl (a_ (p_ rfl rfl) rfl (a_ (e_ rfl) rfl (d_ (b_ rfl (B_ rfl ?_)))))))))
       refine J_ (b_ rfl (g_ (c_ (a_ (f_ rfl) rfl (X_ (dh_ _ (by first | exact hs | (simp; omega))) rfl D_ (fun _ _ _ => by exact trivial) rfl fun r10 hr10 => ?_)))))
       refine a_ (e_ rfl) rfl (d_ (b_ rfl (y_ ?_)))
       exact U_ ct_ () (q_ rfl (by unfold aR_; (repeat (any_goals split)) <;> first | rfl | (simp_all; done) | (exfalso; simp_all; omega) | (exfalso; simp_all; done))) (.refl _) (fun _ _ _ => trivial)
      ·
       replace hr9 := eq_of_beq hr9
       refine i_ rfl rfl (a_ (f_ rfl) rfl (i_ rfl rfl (a_ (f_ rfl) rfl (i_ rfl rfl (a_ (ac_ rfl rfl rfl (aE_ (by omega) (by omega))) rfl (i_ rfl rfl (a_ (bm_ Q_ rfl rfl (by omega) (show s[((s.length : Int) - 1).toNat]? = some e by rw [show ((s.length : Int) - 1).toNat = s.length - 1 by omega]; exact he)) rfl (i_ rfl rfl (C_ (ab_ rfl rfl) rfl fun r11 hr11 => ?_)))))))))
       refine a_ (A_ rfl rfl) rfl (a_ (e_ rfl) rfl (d_ (b_ rfl ?_)))
       cases r11
       ·
        replace hr11 := ne_of_beq_false hr11
        refine B_ rfl (J_ (b_ rfl (g_ (c_ (a_ (f_ rfl) rfl (X_ (dh_ _ (by first | exact hs | (simp; omega))) rfl D_ (fun _ _ _ => by exact trivial) rfl fun r12 hr12 => ?_))))))
        refine a_ (e_ rfl) rfl (d_ (b_ rfl (y_ ?_)))
        exact U_ ct_ () (q_ rfl (by unfold aR_; (repeat (any_goals split)) <;> first | rfl | (simp_all; done) | (exfalso; simp_all; omega) | (exfalso; simp_all; done))) (.refl _) (fun _ _ _ => trivial)
       ·
        replace hr11 := eq_of_beq hr11
        refine v_ rfl (g_ (c_ (a_ (e_ rfl) rfl (d_ (b_ rfl (y_ ?_))))))
        exact U_ ct_ () (q_ rfl (by unfold aR_; (repeat (any_goals split)) <;> first | rfl | (simp_all; done) | (exfalso; simp_all; omega) | (exfalso; simp_all; done))) (.refl _) (fun _ _ _ => trivial)
    ·
     replace hr6 := eq_of_beq hr6
     refine i_ rfl rfl (a_ (f_ rfl) rfl (i_ rfl rfl (a_ (f_ rfl) rfl (i_ rfl rfl (a_ (ac_ rfl rfl rfl (aE_ (by omega) (by omega))) rfl (i_ rfl rfl (a_ (bm_ Q_ rfl rfl (by omega) (show s[((s.length : Int) - 1).toNat]? = some e by rw [show ((s.length : Int) - 1).toNat = s.length - 1 by omega]; exact he)) rfl (i_ rfl rfl (C_ (ab_ rfl rfl) rfl fun r13 hr13 => ?_)))))))))
     refine a_ (A_ rfl rfl) rfl (a_ (e_ rfl) rfl (d_ (b_ rfl ?_)))
     cases r13
     ·
      replace hr13 := ne_of_beq_false hr13
      refine B_ rfl (g_ (c_ (a_ (f_ rfl) rfl (C_ (bQ_ rfl rfl) rfl fun r14 hr14 => ?_))))
      refine a_ (f_ rfl) rfl ?_
      cases r14
      ·
       replace hr14 := of_decide_eq_false hr14
       refine j_ rfl rfl rfl rfl (j_ rfl rfl rfl rfl (j_ rfl rfl rfl rfl (a_ (p_ rfl rfl) rfl (a_ (f_ rfl) rfl (j_ rfl rfl rfl rfl (j_ rfl rfl rfl rfl (j_ rfl rfl rfl rfl (j_ rfl rfl rfl rfl (j_ rfl rfl rfl rfl ?_)))))))))
       refine a_ (p_ rfl rfl) rfl (a_ (e_ rfl) rfl (d_ (b_ rfl (B_ rfl (J_ (b_ rfl (g_ (c_ (a_ (f_ rfl) rfl ?_)))))))))
       refine X_ (dh_ _ (by first | exact hs | (simp; omega))) rfl D_ (fun _ _ _ => by exact trivial) rfl fun r15 hr15 => ?_
       refine a_ (e_ rfl) rfl (d_ (b_ rfl (y_ ?_)))
       exact U_ ct_ () (q_ rfl (by unfold aR_; (repeat (any_goals split)) <;> first | rfl | (simp_all; done) | (exfalso; simp_all; omega) | (exfalso; simp_all; done))) (.refl _) (fun _ _ _ => trivial)
      ·
       replace hr14 := of_decide_eq_true hr14
       refine i_ rfl rfl (a_ (f_ rfl) rfl (i_ rfl rfl (a_ (bm_ Q_ rfl rfl (by decide) hc) rfl (i_ rfl rfl (C_ (ab_ rfl rfl) rfl fun r16 hr16 => ?_)))))
       refine a_ (A_ rfl rfl) rfl (a_ (f_ rfl) rfl ?_)
       cases r16
       ·
        replace hr16 := ne_of_beq_false hr16
        refine j_ rfl rfl rfl rfl (j_ rfl rfl rfl rfl (j_ rfl rfl rfl rfl (j_ rfl rfl rfl rfl (j_ rfl rfl rfl rfl (a_ (p_ rfl rfl) rfl (a_ (e_ rfl) rfl (d_ (b_ rfl (B_ rfl ?_)))))))))
        refine J_ (b_ rfl (g_ (c_ (a_ (f_ rfl) rfl (X_ (dh_ _ (by first | exact hs | (simp; omega))) rfl D_ (fun _ _ _ => by exact trivial) rfl fun r17 hr17 => ?_)))))
        refine a_ (e_ rfl) rfl (d_ (b_ rfl (y_ ?_)))
        exact U_ ct_ () (q_ rfl (by unfold aR_; (repeat (any_goals split)) <;> first | rfl | (simp_all; done) | (exfalso; simp_all; omega) | (exfalso; simp_all; done))) (.refl _) (fun _ _ _ => trivial)
       ·
        replace hr16 := eq_of_beq hr16
        refine i_ rfl rfl (a_ (f_ rfl) rfl (i_ rfl rfl (a_ (f_ rfl) rfl (i_ rfl rfl (a_ (ac_ rfl rfl rfl (aE_ (by omega) (by omega))) rfl (i_ rfl rfl (a_ (bm_ Q_ rfl rfl (by omega) (show s[((s.length : Int) - 1).toNat]? = some e by rw [show ((s.length : Int) - 1).toNat = s.length - 1 by omega]; exact he)) rfl (i_ rfl rfl (C_ (ab_ rfl rfl) rfl fun r18 hr18 => ?_)))))))))
        refine a_ (A_ rfl rfl) rfl (a_ (e_ rfl) rfl (d_ (b_ rfl ?_)))
        cases r18
        ·
         replace hr18 := ne_of_beq_false hr18
         refine B_ rfl (J_ (b_ rfl (g_ (c_ (a_ (f_ rfl) rfl (X_ (dh_ _ (by first | exact hs | (simp; omega))) rfl D_ (fun _ _ _ => by exact trivial) rfl fun r19 hr19 => ?_))))))
         refine a_ (e_ rfl) rfl (d_ (b_ rfl (y_ ?_)))
         exact U_ ct_ () (q_ rfl (by unfold aR_; (repeat (any_goals split)) <;> first | rfl | (simp_all; done) | (exfalso; simp_all; omega) | (exfalso; simp_all; done))) (.refl _) (fun _ _ _ => trivial)
        ·
         replace hr18 := eq_of_beq hr18
         refine v_ rfl (g_ (c_ (a_ (e_ rfl) rfl (d_ (b_ rfl (y_ ?_))))))
         exact U_ ct_ () (q_ rfl (by unfold aR_; (repeat (any_goals split)) <;> first | rfl | (simp_all; done) | (exfalso; simp_all; omega) | (exfalso; simp_all; done))) (.refl _) (fun _ _ _ => trivial)
     ·
      replace hr13 := eq_of_beq hr13
      refine v_ rfl (g_ (c_ (a_ (f_ rfl) rfl (a_ (f_ rfl) rfl (a_ (ac_ rfl rfl rfl (aE_ (by omega) (by omega))) rfl (a_ (cC_ (i := 1) (j := s.length - 1) (kl := .i64) (kh := .i64) Q_ rfl rfl (show _ = some (Value.int .i64 ((s.length - 1 : Nat) : Int)) by rw [show ((s.length - 1 : Nat) : Int) = (s.length : Int) - 1 by omega]; rfl) (by omega) (by omega)) rfl (X_ (dh_ _ (by first | exact hs | (simp; omega))) rfl D_ (fun _ _ _ => by exact trivial) rfl fun r20 hr20 => ?_)))))))
      refine a_ (e_ rfl) rfl (d_ (b_ rfl (y_ ?_)))
      exact U_ ct_ () (q_ rfl (by unfold aR_; (repeat (any_goals split)) <;> first | rfl | (simp_all; done) | (exfalso; simp_all; omega) | (exfalso; simp_all; done))) (.refl _) (fun _ _ _ => trivial)
  ·
   replace hr2 := eq_of_beq hr2
   refine v_ rfl (g_ (c_ (a_ (e_ rfl) rfl (d_ (b_ rfl (y_ ?_))))))
   exact U_ ct_ () (q_ rfl (by unfold aR_; (repeat (any_goals split)) <;> first | rfl | (simp_all; done) | (exfalso; simp_all; omega) | (exfalso; simp_all; done))) (.refl _) (fun _ _ _ => trivial)
 ·
  replace hr1 := eq_of_beq hr1
  refine j_ rfl rfl rfl rfl (j_ rfl rfl rfl rfl (a_ (A_ rfl rfl) rfl (a_ (e_ rfl) rfl (d_ (b_ rfl (v_ rfl (g_ (c_ (a_ (e_ rfl) rfl ?_)))))))))
  refine d_ (b_ rfl (y_ ?_))
  exact U_ ct_ () (q_ rfl (by unfold aR_; (repeat (any_goals split)) <;> first | rfl | (simp_all; done) | (exfalso; simp_all; omega) | (exfalso; simp_all; done))) (.refl _) (fun _ _ _ => trivial)
theorem nl_ (s : Str) (hs : s.length ≤ 17592186044414) : Fn0 Tryz.prog 147 #[str s] (.bool (bO_ s)) := by
  refine V_ Tryz.func147 rfl rfl Tryz.ntmps147 rfl fun v0 => ?_
  have hsl := dc_ 46 s
  have hcl := gV_ 46 s
  refine g_ (c_ (a_ (e_ rfl) rfl (d_ (b_ rfl (g_ (c_ (a_ (f_ rfl) rfl (S_ (me_ s 46 hs) rfl D_ (fun _ _ _ => by exact trivial) rfl fun b => ?_))))))))
  refine a_ (e_ rfl) rfl (d_ (b_ rfl (g_ (g_ (c_ (a_ (f_ rfl) rfl (a_ (aC_ aQ_ rfl) rfl (a_ (f_ rfl) rfl (d_ ?_)))))))))
  refine b_ rfl (ae_ ?_)
  refine bF_ (ι := {y : Nat // y ≤ List.length (br_ 46 s) ∧ (List.any (List.take y (br_ 46 s)) fun r => !aN_ r) = false}) (fun y => [(2, .bool false), (3, .slice (some ⟨b, 0, none⟩) (List.length (br_ 46 s)) ((br_ 46 s).length)), (8, .slice (some ⟨b, 0, none⟩) (List.length (br_ 46 s)) ((br_ 46 s).length)), (9, .int .i64 (List.length (br_ 46 s) : Int)), (10, .int .i64 (y.1 : Int))]) (fun y => ([])) (fun y => [aW_ (some ⟨b, 0, none⟩) (List.flatMap dx_ (br_ 46 s))]) (fun y => List.length (br_ 46 s) - y.1) ⟨(0 : Nat), by simp, by simp⟩ ⟨rfl, rfl, rfl, rfl, rfl, trivial⟩ D_ (fun _ _ h => h) ?_
  rintro ⟨i, hi_i, hA⟩
  dsimp only at hi_i hA ⊢
  refine g_ (c_ (C_ (as_ rfl rfl) rfl fun r1 hr1 => ?_))
  refine d_ (b_ rfl (g_ ?_))
  cases r1
  · skip
    replace hr1 := of_decide_eq_false hr1
    refine B_ rfl (bd_ rfl (b_ rfl (g_ (c_ (a_ (f_ rfl) rfl (a_ (aC_ aQ_ rfl) rfl (C_ (bC_ rfl rfl) rfl fun r2 hr2 => ?_)))))))
    refine a_ (e_ rfl) rfl (d_ (b_ rfl (y_ ?_)))
    exact U_ Tryz.results147 () (q_ rfl (by unfold bO_; rw [show (br_ 46 s).any (fun r => !aN_ r) = false from by have q := hA; rw [List.take_of_length_le (by omega)] at q; exact q]; subst_vars; rw [Bool.eq_iff_iff]; simp <;> omega)) D_ (fun _ _ _ => trivial)
  · skip
    replace hr1 := of_decide_eq_true hr1
    have hlx1 : i < List.length (br_ 46 s) := by omega
    obtain ⟨x1, hx1⟩ : ∃ e0, (br_ 46 s)[i]? = some e0 := ⟨_, List.getElem?_eq_getElem hlx1⟩
    have hmx1 : x1 ∈ (br_ 46 s) := List.mem_of_getElem? hx1
    refine v_ rfl (J_ (b_ rfl (g_ (ae_ (g_ (c_ (a_ (ag_ aQ_ o_ rfl rfl (fun v _ h => aH_ (n := 1) cs_ (by decide) (by exact h.1) hx1) (by omega) (by first | omega | (simp; done))) rfl (a_ (bb_ (ad := (some ⟨b, 0, none⟩)) x_ rfl (fun v _ h => by exact h.1) (ak_ cs_ hx1 0 _ rfl)) rfl (a_ (e_ rfl) rfl ?_)))))))))
    refine d_ (b_ rfl (g_ (c_ (a_ (f_ rfl) rfl (X_ (dh_ x1 (by have := ex_ hmx1; omega)) rfl D_ (fun _ _ _ => by exact trivial) rfl fun r3 hr3 => ?_)))))
    refine a_ (bq_ rfl) rfl (d_ (b_ rfl ?_))
    cases r3
    · skip
      refine v_ rfl (g_ (c_ (a_ (e_ rfl) rfl (d_ (b_ rfl (y_ ?_))))))
      exact U_ Tryz.results147 () (q_ rfl (by unfold bO_; rw [show (br_ 46 s).any (fun r => !aN_ r) = true from List.any_eq_true.2 ⟨x1, hmx1, by simp [*]⟩]; simp)) D_ (fun _ _ _ => trivial)
    · skip
      refine B_ rfl (J_ (b_ rfl (c_ (a_ (ac_ rfl rfl rfl (aE_ (by omega) (by omega))) rfl (a_ (f_ rfl) rfl (d_ (z_ rfl ?_)))))))
      exact aP_ ⟨i + 1, hlx1, by rw [List.take_add_one, hx1]; simp only [Option.toList_some, List.any_append, hA]; simp [*]⟩ (by dsimp only; omega) ⟨rfl, rfl, rfl, rfl, rfl, trivial⟩ D_ (fun _ _ h => h)
theorem bM_ (a b : Str) : Fn0 Tryz.prog 129 #[str a, str b] (Fc.val (aJ_ a b)) := by
  refine V_ Tryz.func129 rfl rfl Tryz.ntmps129 rfl fun v0 => ?_
  refine g_ (c_ (am_ bc_ rfl fun b1 => ?_))
  refine d_ (b_ rfl (g_ (c_ (a_ (f_ rfl) rfl (a_ (f_ rfl) rfl (a_ (ax_ dK_ rfl rfl) rfl (W_ 0 n_ rfl rfl rfl rfl rfl rfl (d_ (b_ rfl ?_)))))))))
  refine y_ ?_
  exact fI_ () (fun aa v h1 h2 => co_ (us := Fc.cells (aJ_ a b)) 0 Tryz.results129 N_ n_ rfl rfl rfl aa v h1 h2) D_ (fun _ _ _ => trivial)
theorem dY_ (a r b : Str) : Fn0 Tryz.prog 134 #[str a, str r, str b] (Fc.val (bw_ a r b)) := by
  refine V_ Tryz.func134 rfl rfl Tryz.ntmps134 rfl fun v0 => ?_
  refine g_ (c_ (am_ bc_ rfl fun b1 => ?_))
  refine d_ (b_ rfl (g_ (c_ (a_ (f_ rfl) rfl (a_ (f_ rfl) rfl (a_ (f_ rfl) rfl (a_ (ax_ dK_ rfl rfl) rfl (W_ 0 n_ rfl rfl rfl rfl rfl rfl (d_ ?_)))))))))
  refine b_ rfl (y_ ?_)
  exact fI_ () (fun aa v h1 h2 => co_ (us := Fc.cells (bw_ a r b)) 0 Tryz.results134 N_ n_ rfl rfl rfl aa v h1 h2) D_ (fun _ _ _ => trivial)
theorem es_ (a r : Str) (lo hi : Int) : Fn0 Tryz.prog 149 #[str a, str r, .int .i64 lo, .int .i64 hi] (Fc.val (ap_ a r lo hi)) := by
  refine V_ Tryz.func149 rfl rfl Tryz.ntmps149 rfl fun v0 => ?_
  refine g_ (c_ (am_ bc_ rfl fun b1 => ?_))
  refine d_ (b_ rfl (g_ (c_ (a_ (f_ rfl) rfl (a_ (f_ rfl) rfl (a_ (f_ rfl) rfl (a_ (f_ rfl) rfl (a_ (ax_ dK_ rfl rfl) rfl (W_ 0 n_ rfl rfl rfl rfl rfl rfl ?_)))))))))
  refine d_ (b_ rfl (y_ ?_))
  exact fI_ () (fun aa v h1 h2 => co_ (us := Fc.cells (ap_ a r lo hi)) 0 Tryz.results149 N_ n_ rfl rfl rfl aa v h1 h2) D_ (fun _ _ _ => trivial)
theorem qf_ (f : Fc) (hsm : f.sml) : Fn0 Tryz.prog 75 #[Fc.val f] (.bool (wf2 f)) := by
 refine V_ Tryz.func75 rfl rfl Tryz.ntmps75 rfl fun v0 => ?_
 obtain ⟨hsa, hsb, hsr⟩ := hsm
 refine g_ (c_ (aO_ rfl rfl fun b1 => ?_))
 refine a_ (e_ rfl) rfl (d_ (b_ rfl (g_ (g_ (c_ (a_ (h_ k_ rfl rfl rfl w_) rfl (a_ (m_ 0 E_ rfl rfl rfl) rfl (d_ (b_ rfl ?_)))))))))
 refine ae_ (g_ (c_ (C_ (ab_ rfl rfl) rfl fun r1 hr1 => ?_)))
 refine a_ (e_ rfl) rfl (d_ (b_ rfl ?_))
 cases r1
 ·
  replace hr1 := ne_of_beq_false hr1
  refine B_ rfl (g_ (c_ (C_ (ab_ rfl rfl) rfl fun r2 hr2 => ?_)))
  refine a_ (e_ rfl) rfl (d_ (b_ rfl ?_))
  cases r2
  ·
   replace hr2 := ne_of_beq_false hr2
   refine B_ rfl (g_ (c_ (C_ (ab_ rfl rfl) rfl fun r3 hr3 => ?_)))
   refine a_ (e_ rfl) rfl (d_ (b_ rfl ?_))
   cases r3
   ·
    replace hr3 := ne_of_beq_false hr3
    refine B_ rfl (J_ (b_ rfl (g_ (c_ (a_ (e_ rfl) rfl (d_ (b_ rfl (y_ ?_))))))))
    exact U_ ch_ () (q_ rfl (by have p1 := eq_false hr1; have p2 := eq_false hr2; have p3 := eq_false hr3; simp only [wf2, p1, p2, p3, if_true, if_false, decide_true, decide_false, Bool.and_true, Bool.and_false, Bool.true_and, Bool.false_and, Bool.or_true, Bool.or_false, Bool.true_or, Bool.false_or, Bool.not_true, Bool.not_false, ne_eq, not_true_eq_false, not_false_eq_true, true_and, and_true, false_and, and_false, true_or, or_true, false_or, or_false, ite_true, ite_false, Bool.false_eq_true])) D_ (fun _ _ _ => trivial)
   ·
    replace hr3 := eq_of_beq hr3
    refine v_ rfl (g_ ?_)
    refine aw_ (by kernel_rfl) ?_
    refine I_ 37 [0, 1] (by kernel_rfl) (fun _ a b => ⟨a, b⟩) (l_ rfl (h_ k_ rfl rfl rfl o_) rfl (l_ rfl (m_ 0 x_ rfl rfl rfl) rfl (H_ (P_ 2 rfl (by kernel_rfl) (X_ (fj_ (Fc.a f) (by omega)) rfl D_ (fun _ _ _ => by exact trivial) rfl fun r4 hr4 => ?_)))))
    refine d_ (z_ rfl (F_ (fun _ a b => ⟨a, b⟩) (I_ 35 [3] (by kernel_rfl) (fun _ a b => ⟨a, b⟩) (l_ rfl (f_ rfl) rfl (H_ ?_)))))
    cases r4
    ·
     refine I_ 0 [4, 5, 6, 7, 8, 9, 10, 11, 12, 13, 14, 15, 16, 17, 18, 19, 20, 21, 22, 23, 24, 25, 26, 27, 28, 29, 30, 31, 32, 33, 34, 35, 36, 37, 38] (by kernel_rfl) (fun _ a b => ⟨a, b⟩) (t_ rfl rfl rfl rfl rfl (t_ rfl rfl rfl rfl rfl (t_ rfl rfl rfl rfl rfl (l_ rfl (p_ rfl rfl) rfl (l_ rfl (f_ rfl) rfl (t_ rfl rfl rfl rfl rfl (t_ rfl rfl rfl rfl rfl (t_ rfl rfl rfl rfl rfl (t_ rfl rfl rfl rfl rfl ?_)))))))))
     refine t_ rfl rfl rfl rfl rfl (t_ rfl rfl rfl rfl rfl (t_ rfl rfl rfl rfl rfl (t_ rfl rfl rfl rfl rfl (t_ rfl rfl rfl rfl rfl (t_ rfl rfl rfl rfl rfl (t_ rfl rfl rfl rfl rfl (l_ rfl (p_ rfl rfl) rfl (l_ rfl (f_ rfl) rfl (t_ rfl rfl rfl rfl rfl ?_)))))))))
     refine t_ rfl rfl rfl rfl rfl (t_ rfl rfl rfl rfl rfl (l_ rfl (p_ rfl rfl) rfl (l_ rfl (f_ rfl) rfl (t_ rfl rfl rfl rfl rfl (t_ rfl rfl rfl rfl rfl (t_ rfl rfl rfl rfl rfl (t_ rfl rfl rfl rfl rfl (t_ rfl rfl rfl rfl rfl (l_ rfl (p_ rfl rfl) rfl ?_)))))))))
     refine l_ rfl (f_ rfl) rfl (t_ rfl rfl rfl rfl rfl (t_ rfl rfl rfl rfl rfl (t_ rfl rfl rfl rfl rfl (l_ rfl (p_ rfl rfl) rfl (l_ rfl (e_ rfl) rfl (H_ (R_ (by kernel_rfl) (b_ rfl (y_ ?_)))))))))
     exact U_ ch_ () (q_ rfl (by have p1 := eq_false hr1; have p2 := eq_false hr2; have p3 := eq_true hr3; simp only [wf2, p1, p2, p3, hr4, if_true, if_false, decide_true, decide_false, Bool.and_true, Bool.and_false, Bool.true_and, Bool.false_and, Bool.or_true, Bool.or_false, Bool.true_or, Bool.false_or, Bool.not_true, Bool.not_false, ne_eq, not_true_eq_false, not_false_eq_true, true_and, and_true, false_and, and_false, true_or, or_true, false_or, or_false, ite_true, ite_false, Bool.false_eq_true])) D_ (fun _ _ _ => trivial)
    ·
     refine I_ 33 [4, 5] (by kernel_rfl) (fun _ a b => ⟨a, b⟩) (u_ rfl rfl rfl (h_ k_ rfl rfl rfl o_) rfl (u_ rfl rfl rfl (m_ 0 x_ rfl rfl rfl) rfl (H_ (P_ 6 rfl (by kernel_rfl) (i_ rfl rfl (X_ (dh_ (Fc.r f) (by omega)) rfl D_ (fun _ _ _ => by exact trivial) rfl fun r5 hr5 => ?_))))))
     refine d_ (z_ rfl (F_ (fun _ a b => ⟨a, b⟩) (I_ 30 [7, 8] (by kernel_rfl) (fun _ a b => ⟨a, b⟩) (l_ rfl (A_ rfl rfl) rfl (l_ rfl (f_ rfl) rfl (H_ ?_))))))
     cases r5
     ·
      refine I_ 0 [9, 10, 11, 12, 13, 14, 15, 16, 17, 18, 19, 20, 21, 22, 23, 24, 25, 26, 27, 28, 29, 30, 31, 32, 33, 34, 35, 36, 37, 38] (by kernel_rfl) (fun _ a b => ⟨a, b⟩) (t_ rfl rfl rfl rfl rfl (t_ rfl rfl rfl rfl rfl (t_ rfl rfl rfl rfl rfl (t_ rfl rfl rfl rfl rfl (t_ rfl rfl rfl rfl rfl (t_ rfl rfl rfl rfl rfl (t_ rfl rfl rfl rfl rfl (t_ rfl rfl rfl rfl rfl (t_ rfl rfl rfl rfl rfl ?_)))))))))
      refine t_ rfl rfl rfl rfl rfl (t_ rfl rfl rfl rfl rfl (l_ rfl (p_ rfl rfl) rfl (l_ rfl (f_ rfl) rfl (t_ rfl rfl rfl rfl rfl (t_ rfl rfl rfl rfl rfl (t_ rfl rfl rfl rfl rfl (l_ rfl (p_ rfl rfl) rfl (l_ rfl (f_ rfl) rfl (t_ rfl rfl rfl rfl rfl ?_)))))))))
      refine t_ rfl rfl rfl rfl rfl (t_ rfl rfl rfl rfl rfl (t_ rfl rfl rfl rfl rfl (t_ rfl rfl rfl rfl rfl (l_ rfl (p_ rfl rfl) rfl (l_ rfl (f_ rfl) rfl (t_ rfl rfl rfl rfl rfl (t_ rfl rfl rfl rfl rfl (t_ rfl rfl rfl rfl rfl (l_ rfl (p_ rfl rfl) rfl ?_)))))))))
      refine l_ rfl (e_ rfl) rfl (H_ (R_ (by kernel_rfl) (b_ rfl (y_ ?_))))
      exact U_ ch_ () (q_ rfl (by have p1 := eq_false hr1; have p2 := eq_false hr2; have p3 := eq_true hr3; simp only [wf2, p1, p2, p3, hr4, hr5, if_true, if_false, decide_true, decide_false, Bool.and_true, Bool.and_false, Bool.true_and, Bool.false_and, Bool.or_true, Bool.or_false, Bool.true_or, Bool.false_or, Bool.not_true, Bool.not_false, ne_eq, not_true_eq_false, not_false_eq_true, true_and, and_true, false_and, and_false, true_or, or_true, false_or, or_false, ite_true, ite_false, Bool.false_eq_true])) D_ (fun _ _ _ => trivial)
     ·
      refine I_ 21 [9, 10, 11, 12, 13, 14, 15, 16, 17] (by kernel_rfl) (fun _ a b => ⟨a, b⟩) (u_ rfl rfl rfl (M_ 0 N_ n_ rfl rfl rfl) rfl (u_ rfl rfl rfl (h_ k_ rfl rfl rfl o_) rfl (u_ rfl rfl rfl (m_ 0 x_ rfl rfl rfl) rfl (u_ rfl rfl rfl (h_ k_ rfl rfl rfl o_) rfl (u_ rfl rfl rfl (m_ 0 x_ rfl rfl rfl) rfl (u_ rfl rfl rfl (h_ k_ rfl rfl rfl w_) rfl (u_ rfl rfl rfl (m_ 0 E_ rfl rfl rfl) rfl (u_ rfl rfl rfl (h_ k_ rfl rfl rfl w_) rfl (u_ rfl rfl rfl (m_ 0 E_ rfl rfl rfl) rfl ?_)))))))))
      refine H_ (P_ 18 rfl (by kernel_rfl) (i_ rfl rfl (S_ (es_ (Fc.a f) (Fc.r f) (Fc.lo f) (Fc.hi f)) rfl D_ (fun _ _ _ => by exact trivial) rfl fun _ => ?_)))
      refine d_ (z_ rfl (F_ (fun _ a b => ⟨a, b⟩) (I_ 17 [19, 20, 21] (by kernel_rfl) (fun _ a b => ⟨a, b⟩) ?_)))
      refine ai_ rfl rfl rfl (af_ (p := f) (q := (ap_ (Fc.a f) (Fc.r f) (Fc.lo f) (Fc.hi f))) rfl rfl) rfl fun r6 hr6 => ?_
      refine l_ rfl (A_ rfl rfl) rfl (l_ rfl (f_ rfl) rfl (H_ ?_))
      cases r6
      ·
       replace hr6 := of_decide_eq_false hr6
       refine I_ 0 [22, 23, 24, 25, 26, 27, 28, 29, 30, 31, 32, 33, 34, 35, 36, 37, 38] (by kernel_rfl) (fun _ a b => ⟨a, b⟩) (t_ rfl rfl rfl rfl rfl (t_ rfl rfl rfl rfl rfl (t_ rfl rfl rfl rfl rfl (l_ rfl (p_ rfl rfl) rfl (l_ rfl (f_ rfl) rfl (t_ rfl rfl rfl rfl rfl (t_ rfl rfl rfl rfl rfl (t_ rfl rfl rfl rfl rfl (t_ rfl rfl rfl rfl rfl ?_)))))))))
       refine t_ rfl rfl rfl rfl rfl (l_ rfl (p_ rfl rfl) rfl (l_ rfl (f_ rfl) rfl (t_ rfl rfl rfl rfl rfl (t_ rfl rfl rfl rfl rfl (t_ rfl rfl rfl rfl rfl (l_ rfl (p_ rfl rfl) rfl (l_ rfl (e_ rfl) rfl (H_ (R_ (by kernel_rfl) ?_)))))))))
       refine b_ rfl (y_ ?_)
       exact U_ ch_ () (q_ rfl (by have p1 := eq_false hr1; have p2 := eq_false hr2; have p3 := eq_true hr3; have p6 := eq_false hr6; simp only [wf2, p1, p2, p3, hr4, hr5, p6, if_true, if_false, decide_true, decide_false, Bool.and_true, Bool.and_false, Bool.true_and, Bool.false_and, Bool.or_true, Bool.or_false, Bool.true_or, Bool.false_or, Bool.not_true, Bool.not_false, ne_eq, not_true_eq_false, not_false_eq_true, true_and, and_true, false_and, and_false, true_or, or_true, false_or, or_false, ite_true, ite_false, Bool.false_eq_true])) D_ (fun _ _ _ => trivial)
      ·
       replace hr6 := of_decide_eq_true hr6
       refine I_ 12 [22, 23, 24, 25, 26] (by kernel_rfl) (fun _ a b => ⟨a, b⟩) (u_ rfl rfl rfl (h_ k_ rfl rfl rfl w_) rfl (u_ rfl rfl rfl (m_ 0 E_ rfl rfl rfl) rfl ?_))
       refine ai_ rfl rfl rfl (bC_ rfl rfl) rfl fun r7 hr7 => ?_
       refine l_ rfl (A_ rfl rfl) rfl (l_ rfl (f_ rfl) rfl (H_ ?_))
       cases r7
       ·
        replace hr7 := of_decide_eq_false hr7
        refine I_ 0 [27, 28, 29, 30, 31, 32, 33, 34, 35, 36, 37, 38] (by kernel_rfl) (fun _ a b => ⟨a, b⟩) (t_ rfl rfl rfl rfl rfl (t_ rfl rfl rfl rfl rfl (t_ rfl rfl rfl rfl rfl (t_ rfl rfl rfl rfl rfl (t_ rfl rfl rfl rfl rfl (l_ rfl (p_ rfl rfl) rfl (l_ rfl (f_ rfl) rfl (t_ rfl rfl rfl rfl rfl (t_ rfl rfl rfl rfl rfl ?_)))))))))
        refine t_ rfl rfl rfl rfl rfl (l_ rfl (p_ rfl rfl) rfl (l_ rfl (e_ rfl) rfl (H_ (R_ (by kernel_rfl) (b_ rfl (y_ ?_))))))
        exact U_ ch_ () (q_ rfl (by have p1 := eq_false hr1; have p2 := eq_false hr2; have p3 := eq_true hr3; have p6 := eq_true hr6; have p7 := eq_false hr7; simp only [wf2, p1, p2, p3, hr4, hr5, p6, p7, if_true, if_false, decide_true, decide_false, Bool.and_true, Bool.and_false, Bool.true_and, Bool.false_and, Bool.or_true, Bool.or_false, Bool.true_or, Bool.false_or, Bool.not_true, Bool.not_false, ne_eq, not_true_eq_false, not_false_eq_true, true_and, and_true, false_and, and_false, true_or, or_true, false_or, or_false, ite_true, ite_false, Bool.false_eq_true])) D_ (fun _ _ _ => trivial)
       ·
        replace hr7 := of_decide_eq_true hr7
        refine I_ 5 [27, 28, 29, 30, 31, 32, 33] (by kernel_rfl) (fun _ a b => ⟨a, b⟩) (u_ rfl rfl rfl (h_ k_ rfl rfl rfl w_) rfl (u_ rfl rfl rfl (m_ 0 E_ rfl rfl rfl) rfl (u_ rfl rfl rfl (h_ k_ rfl rfl rfl w_) rfl (u_ rfl rfl rfl (m_ 0 E_ rfl rfl rfl) rfl ?_))))
        refine ai_ rfl rfl rfl (bC_ rfl rfl) rfl fun r8 hr8 => ?_
        refine l_ rfl (A_ rfl rfl) rfl (l_ rfl (f_ rfl) rfl (H_ ?_))
        cases r8
        ·
         replace hr8 := of_decide_eq_false hr8
         refine I_ 0 [34, 35, 36, 37, 38] (by kernel_rfl) (fun _ a b => ⟨a, b⟩) (t_ rfl rfl rfl rfl rfl (t_ rfl rfl rfl rfl rfl (t_ rfl rfl rfl rfl rfl (l_ rfl (p_ rfl rfl) rfl (l_ rfl (e_ rfl) rfl (H_ (R_ (by kernel_rfl) (b_ rfl (y_ ?_)))))))))
         exact U_ ch_ () (q_ rfl (by have p1 := eq_false hr1; have p2 := eq_false hr2; have p3 := eq_true hr3; have p6 := eq_true hr6; have p7 := eq_true hr7; have p8 := eq_false hr8; simp only [wf2, p1, p2, p3, hr4, hr5, p6, p7, p8, if_true, if_false, decide_true, decide_false, Bool.and_true, Bool.and_false, Bool.true_and, Bool.false_and, Bool.or_true, Bool.or_false, Bool.true_or, Bool.false_or, Bool.not_true, Bool.not_false, ne_eq, not_true_eq_false, not_false_eq_true, true_and, and_true, false_and, and_false, true_or, or_true, false_or, or_false, ite_true, ite_false, Bool.false_eq_true])) D_ (fun _ _ _ => trivial)
        ·
         replace hr8 := of_decide_eq_true hr8
         refine I_ 0 [34, 35, 36, 37, 38] (by kernel_rfl) (fun _ a b => ⟨a, b⟩) (u_ rfl rfl rfl (h_ k_ rfl rfl rfl w_) rfl (u_ rfl rfl rfl (m_ 0 E_ rfl rfl rfl) rfl ?_))
         refine ai_ rfl rfl rfl (bC_ rfl rfl) rfl fun r9 hr9 => ?_
         refine l_ rfl (A_ rfl rfl) rfl (l_ rfl (e_ rfl) rfl (H_ (R_ (by kernel_rfl) (b_ rfl (y_ ?_)))))
         exact U_ ch_ () (q_ rfl (by have p1 := eq_false hr1; have p2 := eq_false hr2; have p3 := eq_true hr3; have p6 := eq_true hr6; have p7 := eq_true hr7; have p8 := eq_true hr8; rw [← hr9]; simp only [wf2, p1, p2, p3, hr4, hr5, p6, p7, p8, if_true, if_false, decide_true, decide_false, Bool.and_true, Bool.and_false, Bool.true_and, Bool.false_and, Bool.or_true, Bool.or_false, Bool.true_or, Bool.false_or, Bool.not_true, Bool.not_false, ne_eq, not_true_eq_false, not_false_eq_true, true_and, and_true, false_and, and_false, true_or, or_true, false_or, or_false, ite_true, ite_false, Bool.false_eq_true])) D_ (fun _ _ _ => trivial)
  ·
   replace hr2 := eq_of_beq hr2
   refine v_ rfl (g_ ?_)
   refine aw_ (by kernel_rfl) ?_
   refine I_ 23 [0, 1] (by kernel_rfl) (fun _ a b => ⟨a, b⟩) (l_ rfl (h_ k_ rfl rfl rfl o_) rfl (l_ rfl (m_ 0 x_ rfl rfl rfl) rfl (H_ (P_ 2 rfl (by kernel_rfl) (X_ (fj_ (Fc.a f) (by omega)) rfl D_ (fun _ _ _ => by exact trivial) rfl fun r10 hr10 => ?_)))))
   refine d_ (z_ rfl (F_ (fun _ a b => ⟨a, b⟩) (I_ 21 [3] (by kernel_rfl) (fun _ a b => ⟨a, b⟩) (l_ rfl (f_ rfl) rfl (H_ ?_)))))
   cases r10
   ·
    refine I_ 0 [4, 5, 6, 7, 8, 9, 10, 11, 12, 13, 14, 15, 16, 17, 18, 19, 20, 21, 22, 23, 24] (by kernel_rfl) (fun _ a b => ⟨a, b⟩) (t_ rfl rfl rfl rfl rfl (t_ rfl rfl rfl rfl rfl (t_ rfl rfl rfl rfl rfl (l_ rfl (p_ rfl rfl) rfl (l_ rfl (f_ rfl) rfl (t_ rfl rfl rfl rfl rfl (t_ rfl rfl rfl rfl rfl (t_ rfl rfl rfl rfl rfl (l_ rfl (p_ rfl rfl) rfl ?_)))))))))
    refine l_ rfl (f_ rfl) rfl (t_ rfl rfl rfl rfl rfl (t_ rfl rfl rfl rfl rfl (t_ rfl rfl rfl rfl rfl (t_ rfl rfl rfl rfl rfl (t_ rfl rfl rfl rfl rfl (t_ rfl rfl rfl rfl rfl (t_ rfl rfl rfl rfl rfl (t_ rfl rfl rfl rfl rfl (t_ rfl rfl rfl rfl rfl ?_)))))))))
    refine l_ rfl (p_ rfl rfl) rfl (l_ rfl (e_ rfl) rfl (H_ (R_ (by kernel_rfl) (b_ rfl (y_ ?_)))))
    exact U_ ch_ () (q_ rfl (by have p1 := eq_false hr1; have p2 := eq_true hr2; simp only [wf2, p1, p2, hr10, if_true, if_false, decide_true, decide_false, Bool.and_true, Bool.and_false, Bool.true_and, Bool.false_and, Bool.or_true, Bool.or_false, Bool.true_or, Bool.false_or, Bool.not_true, Bool.not_false, ne_eq, not_true_eq_false, not_false_eq_true, true_and, and_true, false_and, and_false, true_or, or_true, false_or, or_false, ite_true, ite_false, Bool.false_eq_true])) D_ (fun _ _ _ => trivial)
   ·
    refine I_ 19 [4, 5] (by kernel_rfl) (fun _ a b => ⟨a, b⟩) (u_ rfl rfl rfl (h_ k_ rfl rfl rfl o_) rfl (u_ rfl rfl rfl (m_ 0 x_ rfl rfl rfl) rfl (H_ (P_ 6 rfl (by kernel_rfl) (i_ rfl rfl (X_ (fj_ (Fc.b f) (by omega)) rfl D_ (fun _ _ _ => by exact trivial) rfl fun r11 hr11 => ?_))))))
    refine d_ (z_ rfl (F_ (fun _ a b => ⟨a, b⟩) (I_ 16 [7, 8] (by kernel_rfl) (fun _ a b => ⟨a, b⟩) (l_ rfl (A_ rfl rfl) rfl (l_ rfl (f_ rfl) rfl (H_ ?_))))))
    cases r11
    ·
     refine I_ 0 [9, 10, 11, 12, 13, 14, 15, 16, 17, 18, 19, 20, 21, 22, 23, 24] (by kernel_rfl) (fun _ a b => ⟨a, b⟩) (t_ rfl rfl rfl rfl rfl (t_ rfl rfl rfl rfl rfl (t_ rfl rfl rfl rfl rfl (l_ rfl (p_ rfl rfl) rfl (l_ rfl (f_ rfl) rfl (t_ rfl rfl rfl rfl rfl (t_ rfl rfl rfl rfl rfl (t_ rfl rfl rfl rfl rfl (t_ rfl rfl rfl rfl rfl ?_)))))))))
     refine t_ rfl rfl rfl rfl rfl (t_ rfl rfl rfl rfl rfl (t_ rfl rfl rfl rfl rfl (t_ rfl rfl rfl rfl rfl (t_ rfl rfl rfl rfl rfl (l_ rfl (p_ rfl rfl) rfl (l_ rfl (e_ rfl) rfl (H_ (R_ (by kernel_rfl) (b_ rfl ?_)))))))))
     refine y_ ?_
     exact U_ ch_ () (q_ rfl (by have p1 := eq_false hr1; have p2 := eq_true hr2; simp only [wf2, p1, p2, hr10, hr11, if_true, if_false, decide_true, decide_false, Bool.and_true, Bool.and_false, Bool.true_and, Bool.false_and, Bool.or_true, Bool.or_false, Bool.true_or, Bool.false_or, Bool.not_true, Bool.not_false, ne_eq, not_true_eq_false, not_false_eq_true, true_and, and_true, false_and, and_false, true_or, or_true, false_or, or_false, ite_true, ite_false, Bool.false_eq_true])) D_ (fun _ _ _ => trivial)
    ·
     refine I_ 14 [9, 10] (by kernel_rfl) (fun _ a b => ⟨a, b⟩) (u_ rfl rfl rfl (h_ k_ rfl rfl rfl o_) rfl (u_ rfl rfl rfl (m_ 0 x_ rfl rfl rfl) rfl (H_ (P_ 11 rfl (by kernel_rfl) (i_ rfl rfl (X_ (nl_ (Fc.r f) (by omega)) rfl D_ (fun _ _ _ => by exact trivial) rfl fun r12 hr12 => ?_))))))
     refine d_ (z_ rfl (F_ (fun _ a b => ⟨a, b⟩) (I_ 11 [12, 13] (by kernel_rfl) (fun _ a b => ⟨a, b⟩) (l_ rfl (A_ rfl rfl) rfl (l_ rfl (f_ rfl) rfl (H_ ?_))))))
     cases r12
     ·
      refine I_ 0 [14, 15, 16, 17, 18, 19, 20, 21, 22, 23, 24] (by kernel_rfl) (fun _ a b => ⟨a, b⟩) (t_ rfl rfl rfl rfl rfl (t_ rfl rfl rfl rfl rfl (t_ rfl rfl rfl rfl rfl (t_ rfl rfl rfl rfl rfl (t_ rfl rfl rfl rfl rfl (t_ rfl rfl rfl rfl rfl (t_ rfl rfl rfl rfl rfl (t_ rfl rfl rfl rfl rfl (t_ rfl rfl rfl rfl rfl ?_)))))))))
      refine l_ rfl (p_ rfl rfl) rfl (l_ rfl (e_ rfl) rfl (H_ (R_ (by kernel_rfl) (b_ rfl (y_ ?_)))))
      exact U_ ch_ () (q_ rfl (by have p1 := eq_false hr1; have p2 := eq_true hr2; simp only [wf2, p1, p2, hr10, hr11, hr12, if_true, if_false, decide_true, decide_false, Bool.and_true, Bool.and_false, Bool.true_and, Bool.false_and, Bool.or_true, Bool.or_false, Bool.true_or, Bool.false_or, Bool.not_true, Bool.not_false, ne_eq, not_true_eq_false, not_false_eq_true, true_and, and_true, false_and, and_false, true_or, or_true, false_or, or_false, ite_true, ite_false, Bool.false_eq_true])) D_ (fun _ _ _ => trivial)
     ·
      refine I_ 4 [14, 15, 16, 17, 18, 19, 20] (by kernel_rfl) (fun _ a b => ⟨a, b⟩) (u_ rfl rfl rfl (M_ 0 N_ n_ rfl rfl rfl) rfl (u_ rfl rfl rfl (h_ k_ rfl rfl rfl o_) rfl (u_ rfl rfl rfl (m_ 0 x_ rfl rfl rfl) rfl (u_ rfl rfl rfl (h_ k_ rfl rfl rfl o_) rfl (u_ rfl rfl rfl (m_ 0 x_ rfl rfl rfl) rfl (u_ rfl rfl rfl (h_ k_ rfl rfl rfl o_) rfl (u_ rfl rfl rfl (m_ 0 x_ rfl rfl rfl) rfl (H_ (P_ 21 rfl (by kernel_rfl) ?_)))))))))
      refine i_ rfl rfl (S_ (dY_ (Fc.a f) (Fc.r f) (Fc.b f)) rfl D_ (fun _ _ _ => by exact trivial) rfl fun _ => ?_)
      refine d_ (z_ rfl (F_ (fun _ a b => ⟨a, b⟩) (I_ 0 [22, 23, 24] (by kernel_rfl) (fun _ a b => ⟨a, b⟩) ?_)))
      refine ai_ rfl rfl rfl (af_ (p := f) (q := (bw_ (Fc.a f) (Fc.r f) (Fc.b f))) rfl rfl) rfl fun r13 hr13 => ?_
      refine l_ rfl (A_ rfl rfl) rfl (l_ rfl (e_ rfl) rfl (H_ (R_ (by kernel_rfl) (b_ rfl (y_ ?_)))))
      exact U_ ch_ () (q_ rfl (by have p1 := eq_false hr1; have p2 := eq_true hr2; rw [← hr13]; simp only [wf2, p1, p2, hr10, hr11, hr12, if_true, if_false, decide_true, decide_false, Bool.and_true, Bool.and_false, Bool.true_and, Bool.false_and, Bool.or_true, Bool.or_false, Bool.true_or, Bool.false_or, Bool.not_true, Bool.not_false, ne_eq, not_true_eq_false, not_false_eq_true, true_and, and_true, false_and, and_false, true_or, or_true, false_or, or_false, ite_true, ite_false, Bool.false_eq_true])) D_ (fun _ _ _ => trivial)
 ·
  replace hr1 := eq_of_beq hr1
  refine v_ rfl (g_ ?_)
  refine aw_ (by kernel_rfl) ?_
  refine I_ 16 [0, 1] (by kernel_rfl) (fun _ a b => ⟨a, b⟩) (l_ rfl (h_ k_ rfl rfl rfl o_) rfl (l_ rfl (m_ 0 x_ rfl rfl rfl) rfl (H_ (P_ 2 rfl (by kernel_rfl) (X_ (fj_ (Fc.a f) (by omega)) rfl D_ (fun _ _ _ => by exact trivial) rfl fun r14 hr14 => ?_)))))
  refine d_ (z_ rfl (F_ (fun _ a b => ⟨a, b⟩) (I_ 14 [3] (by kernel_rfl) (fun _ a b => ⟨a, b⟩) (l_ rfl (f_ rfl) rfl (H_ ?_)))))
  cases r14
  ·
   refine I_ 0 [4, 5, 6, 7, 8, 9, 10, 11, 12, 13, 14, 15, 16, 17] (by kernel_rfl) (fun _ a b => ⟨a, b⟩) (t_ rfl rfl rfl rfl rfl (t_ rfl rfl rfl rfl rfl (t_ rfl rfl rfl rfl rfl (l_ rfl (p_ rfl rfl) rfl (l_ rfl (f_ rfl) rfl (t_ rfl rfl rfl rfl rfl (t_ rfl rfl rfl rfl rfl (t_ rfl rfl rfl rfl rfl (t_ rfl rfl rfl rfl rfl ?_)))))))))
   refine t_ rfl rfl rfl rfl rfl (t_ rfl rfl rfl rfl rfl (t_ rfl rfl rfl rfl rfl (l_ rfl (p_ rfl rfl) rfl (l_ rfl (e_ rfl) rfl (H_ (R_ (by kernel_rfl) (b_ rfl (y_ ?_))))))))
   exact U_ ch_ () (q_ rfl (by have p1 := eq_true hr1; simp only [wf2, p1, hr14, if_true, if_false, decide_true, decide_false, Bool.and_true, Bool.and_false, Bool.true_and, Bool.false_and, Bool.or_true, Bool.or_false, Bool.true_or, Bool.false_or, Bool.not_true, Bool.not_false, ne_eq, not_true_eq_false, not_false_eq_true, true_and, and_true, false_and, and_false, true_or, or_true, false_or, or_false, ite_true, ite_false, Bool.false_eq_true])) D_ (fun _ _ _ => trivial)
  ·
   refine I_ 12 [4, 5] (by kernel_rfl) (fun _ a b => ⟨a, b⟩) (u_ rfl rfl rfl (h_ k_ rfl rfl rfl o_) rfl (u_ rfl rfl rfl (m_ 0 x_ rfl rfl rfl) rfl (H_ (P_ 6 rfl (by kernel_rfl) (i_ rfl rfl (X_ (fj_ (Fc.b f) (by omega)) rfl D_ (fun _ _ _ => by exact trivial) rfl fun r15 hr15 => ?_))))))
   refine d_ (z_ rfl (F_ (fun _ a b => ⟨a, b⟩) (I_ 9 [7, 8] (by kernel_rfl) (fun _ a b => ⟨a, b⟩) (l_ rfl (A_ rfl rfl) rfl (l_ rfl (f_ rfl) rfl (H_ ?_))))))
   cases r15
   ·
    refine I_ 0 [9, 10, 11, 12, 13, 14, 15, 16, 17] (by kernel_rfl) (fun _ a b => ⟨a, b⟩) (t_ rfl rfl rfl rfl rfl (t_ rfl rfl rfl rfl rfl (t_ rfl rfl rfl rfl rfl (t_ rfl rfl rfl rfl rfl (t_ rfl rfl rfl rfl rfl (t_ rfl rfl rfl rfl rfl (t_ rfl rfl rfl rfl rfl (l_ rfl (p_ rfl rfl) rfl (l_ rfl (e_ rfl) rfl ?_)))))))))
    refine H_ (R_ (by kernel_rfl) (b_ rfl (y_ ?_)))
    exact U_ ch_ () (q_ rfl (by have p1 := eq_true hr1; simp only [wf2, p1, hr14, hr15, if_true, if_false, decide_true, decide_false, Bool.and_true, Bool.and_false, Bool.true_and, Bool.false_and, Bool.or_true, Bool.or_false, Bool.true_or, Bool.false_or, Bool.not_true, Bool.not_false, ne_eq, not_true_eq_false, not_false_eq_true, true_and, and_true, false_and, and_false, true_or, or_true, false_or, or_false, ite_true, ite_false, Bool.false_eq_true])) D_ (fun _ _ _ => trivial)
   ·
    refine I_ 4 [9, 10, 11, 12, 13] (by kernel_rfl) (fun _ a b => ⟨a, b⟩) (u_ rfl rfl rfl (M_ 0 N_ n_ rfl rfl rfl) rfl (u_ rfl rfl rfl (h_ k_ rfl rfl rfl o_) rfl (u_ rfl rfl rfl (m_ 0 x_ rfl rfl rfl) rfl (u_ rfl rfl rfl (h_ k_ rfl rfl rfl o_) rfl (u_ rfl rfl rfl (m_ 0 x_ rfl rfl rfl) rfl (H_ (P_ 14 rfl (by kernel_rfl) (i_ rfl rfl (S_ (bM_ (Fc.a f) (Fc.b f)) rfl D_ (fun _ _ _ => by exact trivial) rfl fun _ => ?_)))))))))
    refine d_ (z_ rfl (F_ (fun _ a b => ⟨a, b⟩) (I_ 0 [15, 16, 17] (by kernel_rfl) (fun _ a b => ⟨a, b⟩) ?_)))
    refine ai_ rfl rfl rfl (af_ (p := f) (q := (aJ_ (Fc.a f) (Fc.b f))) rfl rfl) rfl fun r16 hr16 => ?_
    refine l_ rfl (A_ rfl rfl) rfl (l_ rfl (e_ rfl) rfl (H_ (R_ (by kernel_rfl) (b_ rfl (y_ ?_)))))
    exact U_ ch_ () (q_ rfl (by have p1 := eq_true hr1; rw [← hr16]; simp only [wf2, p1, hr14, hr15, if_true, if_false, decide_true, decide_false, Bool.and_true, Bool.and_false, Bool.true_and, Bool.false_and, Bool.or_true, Bool.or_false, Bool.true_or, Bool.false_or, Bool.not_true, Bool.not_false, ne_eq, not_true_eq_false, not_false_eq_true, true_and, and_true, false_and, and_false, true_or, or_true, false_or, or_false, ite_true, ite_false, Bool.false_eq_true])) D_ (fun _ _ _ => trivial)
theorem nr_ {P : Program} {N : Nf} {fr : Fr} {H : Hp} {Γ : List Fct} {ty t : TypeId} {x : Operand} {u : Value} {fs : Array Field} (hu : ∀ w, (underlying t).run P w = .ok (.struct fs) w) (hx : Fr.ev fr x = some u) : Yld P N fr H Γ (.makeInterface t x) ty (.iface t u) :=
  fun a v h1 _ _ _ _ _ => by simp [execOp, h1.ev hx, Instr.makeInterface, hu]
theorem oX_ : gW_ Tryz.prog 156 [] [] := ⟨_, Tryz.zeroValue156, Tryz.runUnderlying156, fun w => by simp []⟩
theorem need_t : TriX Tryz.prog 43 #[.bool true] [] [] (fun _ : {u : Unit // true = true} => .tuple #[]) (fun _ => []) (fun _ => []) (true = false) := by
  refine by_ Tryz.func43 rfl rfl Tryz.ntmps43 rfl fun v0 => ?_
  refine g_ (c_ (a_ (f_ rfl) rfl (a_ (bq_ rfl) rfl (d_ (b_ rfl (B_ rfl (J_ (gR_ rfl ?_))))))))
  refine endX ?_
  exact pL_ Tryz.results43 ⟨(), rfl⟩ rfl D_ (fun _ _ _ => trivial)
theorem need_f : TriX Tryz.prog 43 #[.bool false] [] [] (fun _ : {u : Unit // false = true} => .tuple #[]) (fun _ => []) (fun _ => []) (false = false) := by
  refine by_ Tryz.func43 rfl rfl Tryz.ntmps43 rfl fun v0 => ?_
  refine g_ (c_ (a_ (f_ rfl) rfl (a_ (bq_ rfl) rfl (d_ (b_ rfl (v_ rfl (c_ (a_ (ax_ oX_ rfl rfl) rfl (a_ (nr_ Tryz.runUnderlying156 rfl) rfl ?_)))))))))
  exact mT_ rfl (cw_ rfl)
theorem di_ (ok : Bool) : TriX Tryz.prog 43 #[.bool ok] [] [] (fun _ : {u : Unit // ok = true} => .tuple #[]) (fun _ => []) (fun _ => []) (ok = false) := by
  cases ok
  · exact need_f
  · exact need_t
end Go.Proofs.YtaffcjgphlhppaaGreatDoor
namespace Go.Vs
open Go Go.Sx
def Ky.cells (k : Ky) : List Value := [.int .i64 k.kind, str k.role, str k.atom]
theorem Ky.cells_len (k : Ky) : k.cells.length = 3 := rfl
def Ky.val (k : Ky) : Value := .agg k.cells.toArray
def Ky.eqb (p q : Ky) : Bool := (p.kind == q.kind) && ((p.role == q.role) && ((p.atom == q.atom) && true))
theorem Ky.eqb_eq (p q : Ky) : p.eqb q = decide (p = q) := by
  rw [Bool.eq_iff_iff]; cases p; cases q; simp [Ky.eqb]
theorem Fc.cells_one (p : Fc) : p.cells.all Value.oneCell' = true := rfl
end Go.Vs
namespace Go.Sx
open Go Go.Vs
structure Emt (P : Program) (tF : TypeId) where
  stp : Fc → List Fc → List Fc
  kof : List Fc → List Fc
  St : List Fc → List Fc → Hp → Prop
  fn : FuncId
  caps : List Value
  ef : Fct
  kb : Nat
  fb : Nat
  grows : Grows stp kof
  emit : ∀ f nw fm H, St nw fm H → Tri P fn (f.val :: caps).toArray H [ef] (fun _ : {H' : Hp // St (stp f nw) fm H'} => .tuple #[]) (fun y => y.1) (fun _ => [])
  known : ∀ {nw fm H}, St nw fm H → ∃ es c, (kb, Obj.map es c) ∈ H ∧ SetE Fc.val es (kof nw)
  firm : ∀ {nw fm H}, St nw fm H → ∃ es c q, (fb, Obj.map es c) ∈ H ∧ SetE Fc.val es q ∧ ∀ f, f ∈ q ↔ f ∈ fm
  setf : ∀ {nw fm H} (f : Fc), St nw fm H → ∃ es c q Hr, H.Perm ((fb, Obj.map es c) :: Hr) ∧ SetE Fc.val es q ∧ (∀ f, f ∈ q ↔ f ∈ fm) ∧ ∀ es' c', SetE Fc.val es' (if f ∈ q then q else q ++ [f]) → ∃ H', St nw (f :: fm) H' ∧ H'.Perm ((fb, Obj.map es' c') :: Hr)
section
variable {P : Program} {N : Nf} {v0 : Vw} {H0 : Hp} {R : Exit → Act → World → Prop} {K : List Kt} {fr : Fr} {H : Hp} {Γ : List Fct}
variable {ops : Array Oper} {l : List Oper} {d : Nat} {ty : TypeId} {ps : String} {af : Array Edge} {tF : TypeId} {E : Emt P tF} {nw fm : List Fc} {Hs F : Hp}
end
structure EngB where
  g : Nat
  pb : Nat
  ab : Nat
  ub : Nat
  ob : Nat
  ib : Nat
  rb : Nat
  sb : Nat
  lad : Option Addr
  lcap : Nat
  lps : List Str
def EngB.cells (B : EngB) {P : Program} {tF : TypeId} (E : Emt P tF) : List Value :=
  [.map (some B.pb), .slice B.lad B.lps.length B.lcap, .map (some E.kb), .func (.func E.fn) #[] E.caps.toArray, .map (some B.ab), .map (some B.ub), .map (some B.ob), .map (some B.ib), .map (some B.rb), .map (some B.sb), .map (some E.fb)]
end Go.Sx
namespace Go.Proofs.YtaffcjgphlhppaaGreatDoor
open Go Go.Sx Go.Proofs
attribute [local irreducible] Code.wp wpList wpAnyH
open Go.Vs
theorem jX_ : Elt Tryz.prog 47 24 6 72 := lf_ Tryz.underlying47 (z := .agg #[.int .i64 0, str [], str [], str [], .int .i64 0, .int .i64 0]) (by kernel_rfl) rfl (by decide)
theorem iq_ (s : Int) : (df_ s).all Value.oneCell' = true := rfl
end Go.Proofs.YtaffcjgphlhppaaGreatDoor
namespace Go.Proofs.YtaffcjgphlhppaaGreatDoor
open Go Go.Sx Go.Proofs
attribute [local irreducible] Code.wp wpList wpAnyH
open Go.Vs
def ivC (i : Int × Int) : List Value := [.int .i64 i.1, .int .i64 i.2]
theorem jN_ (i : Int × Int) : (ivC i).length = 2 := rfl
def ivV (i : Int × Int) : Value := .agg (ivC i).toArray
def dZ_ (i : Int × Int) : Int := if min i.1 i.2 < -1099511627776 ∨ 1099511627776 < max i.1 i.2 then 1 else if i.2 < i.1 then 80 else 0
def gp_ (e : Int) (i : Int × Int) : Int := if e ≠ 0 then e else dZ_ i
def en_ (l : List (Int × Int)) : Int := l.foldl gp_ 0
theorem kR_ {l : List (Int × Int)} {i : Nat} {x : Int × Int} (h : l[i]? = some x) : en_ (List.take (i + 1) l) = gp_ (en_ (List.take i l)) x := by
  unfold en_; rw [List.take_add_one, h, Option.toList_some, List.foldl_append]; rfl
def mZ_ (a b : Int × Int) : Bool := decide (en_ [a, b] = 0) && (decide (b.1 ≤ a.1) && decide (a.2 ≤ b.2))
theorem pF_ {a b : Int × Int} (ha : -1099511627776 ≤ a.1 ∧ a.1 ≤ a.2 ∧ a.2 ≤ 1099511627776) (hb : -1099511627776 ≤ b.1 ∧ b.1 ≤ b.2 ∧ b.2 ≤ 1099511627776) : mZ_ a b = decide (b.1 ≤ a.1 ∧ a.2 ≤ b.2) := by
  have e : ∀ i : Int × Int, -1099511627776 ≤ i.1 ∧ i.1 ≤ i.2 ∧ i.2 ≤ 1099511627776 → dZ_ i = 0 := fun i h => by
    unfold dZ_; rw [if_neg (by omega), if_neg (by omega)]
  have e2 : en_ [a, b] = 0 := by simp [en_, gp_, e a ha, e b hb]
  unfold mZ_; rw [e2, Bool.eq_iff_iff]; simp
theorem fr_ : gW_ Tryz.prog 196 [(0, 1), (1, 1)] [.int .i64 0, .int .i64 0] := ⟨_, ay_, L_, fun w => by simp [w_]⟩
theorem nb_ (i : Int × Int) : Fn0 Tryz.prog 223 #[ivV i] (.int .i64 (dZ_ i)) := by
  refine V_ Tryz.func223 rfl rfl Tryz.ntmps223 rfl fun v0 => ?_
  refine g_ (c_ (aO_ rfl rfl fun b1 => ?_))
  refine a_ (e_ rfl) rfl (d_ (b_ rfl (g_ (g_ (c_ (a_ (h_ L_ rfl rfl rfl w_) rfl (a_ (m_ 0 E_ rfl rfl rfl) rfl (a_ (h_ L_ rfl rfl rfl w_) rfl (a_ (m_ 0 E_ rfl rfl rfl) rfl ?_)))))))))
  refine a_ (kh_ rfl rfl) rfl (C_ (as_ rfl rfl) rfl fun r1 hr1 => ?_)
  refine a_ (f_ rfl) rfl ?_
  cases r1
  · skip
    replace hr1 := of_decide_eq_false hr1
    refine i_ rfl rfl (a_ (h_ L_ rfl rfl rfl w_) rfl (i_ rfl rfl (a_ (m_ 0 E_ rfl rfl rfl) rfl (i_ rfl rfl (a_ (h_ L_ rfl rfl rfl w_) rfl (i_ rfl rfl (a_ (m_ 0 E_ rfl rfl rfl) rfl (i_ rfl rfl (a_ (ki_ rfl rfl) rfl ?_)))))))))
    refine i_ rfl rfl (C_ (bD_ rfl rfl) rfl fun r2 hr2 => ?_)
    refine a_ (p_ rfl rfl) rfl (d_ (b_ rfl ?_))
    cases r2
    · skip
      replace hr2 := of_decide_eq_false hr2
      refine B_ rfl (J_ (b_ rfl (g_ (g_ (c_ (a_ (h_ L_ rfl rfl rfl w_) rfl (a_ (m_ 0 E_ rfl rfl rfl) rfl (a_ (h_ L_ rfl rfl rfl w_) rfl (a_ (m_ 0 E_ rfl rfl rfl) rfl ?_)))))))))
      refine C_ (bD_ rfl rfl) rfl fun r3 hr3 => ?_
      refine d_ (b_ rfl ?_)
      cases r3
      · skip
        replace hr3 := of_decide_eq_false hr3
        refine B_ rfl (J_ (b_ rfl (g_ (c_ (a_ (e_ rfl) rfl (d_ (b_ rfl (y_ ?_))))))))
        exact U_ Tryz.results223 () (ar_ rfl (by unfold dZ_; first | (rw [if_pos (by omega)]) | (rw [if_neg (by omega), if_pos (by omega)]) | (rw [if_neg (by omega), if_neg (by omega)]))) D_ (fun _ _ _ => trivial)
      · skip
        replace hr3 := of_decide_eq_true hr3
        refine v_ rfl (g_ (c_ (a_ (e_ rfl) rfl (d_ (b_ rfl (y_ ?_))))))
        exact U_ Tryz.results223 () (ar_ rfl (by unfold dZ_; first | (rw [if_pos (by omega)]) | (rw [if_neg (by omega), if_pos (by omega)]) | (rw [if_neg (by omega), if_neg (by omega)]))) D_ (fun _ _ _ => trivial)
    · skip
      replace hr2 := of_decide_eq_true hr2
      refine v_ rfl (g_ (c_ (a_ (e_ rfl) rfl (d_ (b_ rfl (y_ ?_))))))
      exact U_ Tryz.results223 () (ar_ rfl (by unfold dZ_; first | (rw [if_pos (by omega)]) | (rw [if_neg (by omega), if_pos (by omega)]) | (rw [if_neg (by omega), if_neg (by omega)]))) D_ (fun _ _ _ => trivial)
  · skip
    replace hr1 := of_decide_eq_true hr1
    refine j_ rfl rfl rfl rfl (j_ rfl rfl rfl rfl (j_ rfl rfl rfl rfl (j_ rfl rfl rfl rfl (j_ rfl rfl rfl rfl (j_ rfl rfl rfl rfl (a_ (A_ rfl rfl) rfl (d_ (b_ rfl (v_ rfl ?_)))))))))
    refine g_ (c_ (a_ (e_ rfl) rfl (d_ (b_ rfl (y_ ?_)))))
    exact U_ Tryz.results223 () (ar_ rfl (by unfold dZ_; first | (rw [if_pos (by omega)]) | (rw [if_neg (by omega), if_pos (by omega)]) | (rw [if_neg (by omega), if_neg (by omega)]))) D_ (fun _ _ _ => trivial)
theorem pC_ (e : Int) (i : Int × Int) : Fn0 Tryz.prog 222 #[.int .i64 e, ivV i] (.int .i64 (gp_ e i)) := by
  refine V_ Tryz.func222 rfl rfl Tryz.ntmps222 rfl fun v0 => ?_
  refine g_ (c_ (aO_ rfl rfl fun b1 => ?_))
  refine a_ (e_ rfl) rfl (d_ (b_ rfl (g_ (g_ (c_ (a_ (f_ rfl) rfl (C_ (bA_ rfl rfl) rfl fun r1 hr1 => ?_)))))))
  refine d_ (b_ rfl ?_)
  cases r1
  · skip
    replace hr1 := bt_ hr1
    refine B_ rfl (J_ (b_ rfl (g_ (c_ (a_ (M_ 0 cl_ ah_ rfl rfl rfl) rfl (S_ (nb_ i) rfl D_ (fun _ _ _ => by exact trivial) rfl fun _ => ?_))))))
    refine a_ (e_ rfl) rfl (d_ (b_ rfl (y_ ?_)))
    exact U_ Tryz.results222 () (ar_ rfl (by unfold gp_; first | (rw [if_pos (by assumption)]) | (rw [if_neg (by omega)]))) D_ (fun _ _ _ => trivial)
  · skip
    replace hr1 := bs_ hr1
    refine v_ rfl (g_ (c_ (a_ (f_ rfl) rfl (a_ (e_ rfl) rfl (d_ (b_ rfl (y_ ?_)))))))
    exact U_ Tryz.results222 () (ar_ rfl (by unfold gp_; first | (rw [if_pos (by assumption)]) | (rw [if_neg (by omega)]))) D_ (fun _ _ _ => trivial)
theorem lH_ (l : List (Int × Int)) (ad : Option Addr) (cap : Nat) (hl : l.length ≤ 1000000) : Tri Tryz.prog 221 #[.slice ad (List.length l) cap, .int .i64 0, .func (.func 222) #[] #[]] [] [aW_ ad (List.flatMap ivC l)] (fun _ : Unit => .int .i64 (en_ l)) (fun _ => []) (fun _ => []) := by
  refine V_ Tryz.func221 rfl rfl Tryz.ntmps221 rfl fun v0 => ?_
  refine g_ (c_ (a_ (e_ rfl) rfl (d_ (b_ rfl (g_ (g_ (c_ (a_ (f_ rfl) rfl (a_ (aC_ mL_ rfl) rfl ?_)))))))))
  refine a_ (f_ rfl) rfl (d_ (b_ rfl (ae_ ?_)))
  refine bF_ (ι := {y : Nat // y ≤ l.length}) (fun y => [(1, .int .i64 (en_ (List.take y.1 l))), (2, .func (.func 222) #[] #[]), (9, .slice ad (List.length l) cap), (10, .int .i64 (List.length l : Int)), (11, .int .i64 (y.1 : Int))]) (fun y => ([])) (fun y => [aW_ ad (List.flatMap ivC l)]) (fun y => l.length - y.1) ⟨(0 : Nat), by simp⟩ ⟨rfl, rfl, rfl, rfl, rfl, trivial⟩ D_ (fun _ _ h => h) ?_
  rintro ⟨i, hi⟩
  dsimp only at hi ⊢
  refine g_ (c_ (C_ (as_ rfl rfl) rfl fun r1 hr1 => ?_))
  refine d_ (b_ rfl (g_ ?_))
  cases r1
  · skip
    replace hr1 := of_decide_eq_false hr1
    refine B_ rfl (bd_ rfl (b_ rfl (g_ (c_ (a_ (f_ rfl) rfl (a_ (e_ rfl) rfl (d_ (b_ rfl (y_ ?_)))))))))
    exact U_ Tryz.results221 () (ar_ rfl (by rw [List.take_of_length_le (by omega)])) D_ (fun _ _ _ => trivial)
  · skip
    replace hr1 := of_decide_eq_true hr1
    have hlx1 : i < List.length l := by omega
    obtain ⟨x1, hx1⟩ : ∃ e0, l[i]? = some e0 := ⟨_, List.getElem?_eq_getElem hlx1⟩
    have hmx1 : x1 ∈ l := List.mem_of_getElem? hx1
    refine v_ rfl (J_ (b_ rfl (g_ (ae_ (g_ (c_ (a_ (ag_ mL_ ah_ rfl rfl (fun v _ h => aH_ (n := 2) jN_ (by decide) (by exact h.1) hx1) (by omega) (by first | omega | (simp; done))) rfl (a_ (aM_ (ad := ad) (us := ivC x1) cl_ ah_ rfl (fun v _ h => by exact h.1) (jN_ _) (ak_ jN_ hx1)) rfl (am_ ay_ rfl fun b1 => ?_)))))))))
    refine W_ 0 ah_ rfl rfl rfl rfl rfl rfl (d_ (b_ rfl (c_ (a_ (f_ rfl) rfl (a_ (f_ rfl) rfl (a_ (M_ 0 cl_ ah_ rfl rfl rfl) rfl (jd_ (pC_ (en_ (List.take i l)) x1) rfl rfl D_ (fun _ _ _ => by exact trivial) rfl fun _ => ?_)))))))
    refine a_ (e_ rfl) rfl (d_ (b_ rfl (c_ (a_ (ac_ rfl rfl rfl (aE_ (by omega) (by omega))) rfl (a_ (f_ rfl) rfl (d_ (z_ rfl ?_)))))))
    exact aP_ ⟨i + 1, hlx1⟩ (by dsimp only; omega) ⟨(ar_ rfl (kR_ hx1).symm), rfl, rfl, rfl, rfl, trivial⟩ D_ (fun _ _ h => h)
theorem ms_ (l : List (Int × Int)) (ad : Option Addr) (cap : Nat) (hl : l.length ≤ 1000000) : Tri Tryz.prog 196 #[.slice ad (List.length l) cap] [] [aW_ ad (List.flatMap ivC l)] (fun _ : Unit => .int .i64 (en_ l)) (fun _ => []) (fun _ => []) := by
  refine V_ Tryz.func196 rfl rfl Tryz.ntmps196 rfl fun v0 => ?_
  refine g_ (c_ (a_ (e_ rfl) rfl (d_ (b_ rfl (g_ (c_ (a_ (f_ rfl) rfl (S_ (lH_ l ad cap hl) rfl D_ (fun v _ h => by exact ⟨h.1, trivial⟩) rfl fun _ => ?_))))))))
  refine a_ (e_ rfl) rfl (d_ (b_ rfl (y_ ?_)))
  exact U_ Tryz.results196 () rfl D_ (fun _ _ _ => trivial)
theorem nw_ (i j : Int × Int) : Fn0 Tryz.prog 162 #[ivV i, ivV j] (.bool (mZ_ i j)) := by
  refine V_ Tryz.func162 rfl rfl Tryz.ntmps162 rfl fun v0 => ?_
  refine g_ (c_ (aO_ rfl rfl fun b1 => ?_))
  refine aO_ rfl rfl fun b2 => ?_
  refine a_ (e_ rfl) rfl (d_ (b_ rfl (g_ (c_ (a_ (M_ 1 cl_ ah_ rfl rfl rfl) rfl (a_ (M_ 0 cl_ ah_ rfl rfl rfl) rfl (bk_ mL_ ah_ ay_ rfl rfl rfl rfl rfl rfl fun b3 => ?_)))))))
  refine bS_ (List.flatMap ivC [i, j]) G_ rfl ?_
  refine S_ (ms_ [i, j] (some ⟨b3, 0, none⟩) 2 (by simp)) rfl D_ (fun v _ h => by exact ⟨h.1, trivial⟩) rfl fun _ => ?_
  refine C_ (ab_ rfl rfl) rfl fun r1 hr1 => ?_
  refine a_ (f_ rfl) rfl ?_
  cases r1
  · skip
    replace hr1 := ne_of_beq_false hr1
    refine j_ rfl rfl rfl rfl (j_ rfl rfl rfl rfl (j_ rfl rfl rfl rfl (j_ rfl rfl rfl rfl (j_ rfl rfl rfl rfl (a_ (p_ rfl rfl) rfl (a_ (f_ rfl) rfl (j_ rfl rfl rfl rfl (j_ rfl rfl rfl rfl (j_ rfl rfl rfl rfl ?_)))))))))
    refine j_ rfl rfl rfl rfl (j_ rfl rfl rfl rfl (a_ (p_ rfl rfl) rfl (a_ (e_ rfl) rfl (d_ (b_ rfl (y_ ?_))))))
    exact U_ Tryz.results162 () (q_ rfl (by unfold mZ_; simp_all <;> omega)) D_ (fun _ _ _ => trivial)
  · skip
    replace hr1 := eq_of_beq hr1
    refine i_ rfl rfl (a_ (h_ L_ rfl rfl rfl w_) rfl (i_ rfl rfl (a_ (m_ 0 E_ rfl rfl rfl) rfl (i_ rfl rfl (a_ (h_ L_ rfl rfl rfl w_) rfl (i_ rfl rfl (a_ (m_ 1 E_ rfl rfl rfl) rfl (i_ rfl rfl (C_ (bC_ rfl rfl) rfl fun r2 hr2 => ?_)))))))))
    refine a_ (A_ rfl rfl) rfl (a_ (f_ rfl) rfl ?_)
    cases r2
    · skip
      replace hr2 := of_decide_eq_false hr2
      refine j_ rfl rfl rfl rfl (j_ rfl rfl rfl rfl (j_ rfl rfl rfl rfl (j_ rfl rfl rfl rfl (j_ rfl rfl rfl rfl (a_ (p_ rfl rfl) rfl (a_ (e_ rfl) rfl (d_ (b_ rfl (y_ ?_)))))))))
      exact U_ Tryz.results162 () (q_ rfl (by unfold mZ_; simp_all <;> omega)) D_ (fun _ _ _ => trivial)
    · skip
      replace hr2 := of_decide_eq_true hr2
      refine i_ rfl rfl (a_ (h_ L_ rfl rfl rfl w_) rfl (i_ rfl rfl (a_ (m_ 1 E_ rfl rfl rfl) rfl (i_ rfl rfl (a_ (h_ L_ rfl rfl rfl w_) rfl (i_ rfl rfl (a_ (m_ 0 E_ rfl rfl rfl) rfl (i_ rfl rfl (C_ (bC_ rfl rfl) rfl fun r3 hr3 => ?_)))))))))
      refine a_ (A_ rfl rfl) rfl (a_ (e_ rfl) rfl (d_ (b_ rfl (y_ ?_))))
      exact U_ Tryz.results162 () (q_ rfl (by unfold mZ_; simp_all <;> omega)) D_ (fun _ _ _ => trivial)
theorem hK_ (a b c d : Int) (ha : -1099511627776 ≤ a ∧ a ≤ b ∧ b ≤ 1099511627776) (hb : -1099511627776 ≤ c ∧ c ≤ d ∧ d ≤ 1099511627776) : Fn0 Tryz.prog 162 #[ivV (a, b), ivV (c, d)] (.bool (decide (c ≤ a ∧ b ≤ d))) := by
  have := nw_ (a, b) (c, d)
  rw [pF_ ha hb] at this
  exact this
end Go.Proofs.YtaffcjgphlhppaaGreatDoor
