/-
  Part of the proof of the law CheckerChecks over this seat: the small logic, the data, the contracts of functions (no condition).
-/
import Derived.Test.YtaffcjgphlhppaaGreatDoorQCheckerChecks6
import Derived.Test.YtaffcjgphlhppaaGreatDoorQCheckerChecks5
import Derived.Test.YtaffcjgphlhppaaGreatDoorQCheckerChecks2
set_option linter.unusedVariables false
set_option linter.unusedSimpArgs false
set_option linter.unusedSectionVars false
namespace Go.Proofs.YtaffcjgphlhppaaGreatDoor
open Go Go.Sx Go.Proofs
attribute [local irreducible] Code.wp wpList wpAnyH
open Go.Vs
theorem dj_ (s : Str) (hs : s.length ≤ 140737488351232) : Fn0 Tryz.prog 150 #[str s] (.bool (aR_ s)) := by
 refine V_ Tryz.func150 rfl rfl Tryz.ntmps150 rfl fun v0 => ?_
 refine g_ (c_ (a_ (e_ rfl) rfl (d_ (b_ rfl (g_ (c_ (a_ (f_ rfl) rfl (a_ (bu_ Q_ rfl) rfl (a_ (e_ rfl) rfl ?_)))))))))
 refine d_ (b_ rfl (g_ (g_ (c_ (a_ (f_ rfl) rfl (C_ (az_ rfl rfl) rfl fun r1 hr1 => ?_))))))
 refine a_ (f_ rfl) rfl ?_
 cases r1
 ·
  replace hr1 := ne_of_beq_false hr1
  refine i_ rfl rfl (a_ (f_ rfl) rfl (i_ rfl rfl (C_ (az_ rfl rfl) rfl fun r2 hr2 => ?_)))
  refine a_ (p_ rfl rfl) rfl (a_ (f_ rfl) rfl ?_)
  cases r2
  ·
   replace hr2 := ne_of_beq_false hr2
   refine i_ rfl rfl (a_ (f_ rfl) rfl (i_ rfl rfl (S_ (dd_ _) rfl D_ (fun _ _ _ => by exact trivial) rfl fun _ => ?_)))
   refine i_ rfl rfl (C_ (bP_ (ab_ rfl rfl) (congrArg Value.bool (kA_ _))) rfl fun r3 hr3 => ?_)
   refine a_ (p_ rfl rfl) rfl (d_ (b_ rfl ?_))
   cases r3
   ·
    refine B_ rfl (J_ (b_ rfl (g_ (g_ (c_ (a_ (f_ rfl) rfl (C_ (as_ rfl rfl) rfl fun r4 hr4 => ?_)))))))
    refine d_ (b_ rfl ?_)
    cases r4
    ·
     replace hr4 := of_decide_eq_false hr4
     obtain ⟨c, hc⟩ : ∃ c, s[0]? = some c := ⟨_, List.getElem?_eq_getElem (by omega)⟩
     obtain ⟨e, he⟩ : ∃ e, s[s.length - 1]? = some e := ⟨_, List.getElem?_eq_getElem (by omega)⟩
     have hc123 : (s[0]? = some 123) ↔ ((c.toNat : Int) = 123) := by
                  rw [hc]; simp only [Option.some.injEq]; exact ⟨fun q => by subst q; rfl, fun q => UInt8.toNat_inj.1 (by show c.toNat = 123; omega)⟩
     have he125 : (s[s.length - 1]? = some 125) ↔ ((e.toNat : Int) = 125) := by
                  rw [he]; simp only [Option.some.injEq]; exact ⟨fun q => by subst q; rfl, fun q => UInt8.toNat_inj.1 (by show e.toNat = 125; omega)⟩
     have hc60 : (s[0]? = some 60) ↔ ((c.toNat : Int) = 60) := by
                  rw [hc]; simp only [Option.some.injEq]; exact ⟨fun q => by subst q; rfl, fun q => UInt8.toNat_inj.1 (by show c.toNat = 60; omega)⟩
     have he62 : (s[s.length - 1]? = some 62) ↔ ((e.toNat : Int) = 62) := by
                  rw [he]; simp only [Option.some.injEq]; exact ⟨fun q => by subst q; rfl, fun q => UInt8.toNat_inj.1 (by show e.toNat = 62; omega)⟩
     refine B_ rfl (J_ (b_ rfl (g_ (c_ (a_ (f_ rfl) rfl (a_ (bm_ Q_ rfl rfl (by decide) hc) rfl (C_ (ab_ rfl rfl) rfl fun r5 hr5 => ?_)))))))
     refine a_ (f_ rfl) rfl ?_
     cases r5
     ·
      replace hr5 := ne_of_beq_false hr5
      refine j_ rfl rfl rfl rfl (j_ rfl rfl rfl rfl (j_ rfl rfl rfl rfl (j_ rfl rfl rfl rfl (j_ rfl rfl rfl rfl (a_ (p_ rfl rfl) rfl (a_ (f_ rfl) rfl (j_ rfl rfl rfl rfl (j_ rfl rfl rfl rfl (j_ rfl rfl rfl rfl ?_)))))))))
      refine j_ rfl rfl rfl rfl (j_ rfl rfl rfl rfl (j_ rfl rfl rfl rfl (a_ (p_ rfl rfl) rfl (a_ (f_ rfl) rfl (i_ rfl rfl (a_ (f_ rfl) rfl (i_ rfl rfl (a_ (bm_ Q_ rfl rfl (by decide) hc) rfl (i_ rfl rfl ?_)))))))))
      refine C_ (ab_ rfl rfl) rfl fun r6 hr6 => ?_
      refine i_ rfl rfl (a_ (f_ rfl) rfl ?_)
      cases r6
      ·
       replace hr6 := ne_of_beq_false hr6
       refine j_ rfl rfl rfl rfl (j_ rfl rfl rfl rfl (j_ rfl rfl rfl rfl (j_ rfl rfl rfl rfl (j_ rfl rfl rfl rfl (i_ rfl rfl (a_ (p_ rfl rfl) rfl (a_ (p_ rfl rfl) rfl (a_ (e_ rfl) rfl (d_ ?_)))))))))
       refine b_ rfl (y_ ?_)
       exact U_ cK_ () (q_ rfl (by rw [← dp_]; unfold dU_; first | (simp only [hc123, he125, hc60, he62]; subst_vars; rw [Bool.eq_iff_iff]; simp [*] <;> omega) | (simp_all; done) | (simp_all; omega))) (.refl _) (fun _ _ _ => trivial)
      ·
       replace hr6 := eq_of_beq hr6
       refine i_ rfl rfl (a_ (f_ rfl) rfl (i_ rfl rfl (a_ (f_ rfl) rfl (i_ rfl rfl (a_ (ac_ rfl rfl rfl (aE_ (by omega) (by omega))) rfl (i_ rfl rfl (a_ (bm_ Q_ rfl rfl (by omega) (show s[((s.length : Int) - 1).toNat]? = some e by rw [show ((s.length : Int) - 1).toNat = s.length - 1 by omega]; exact he)) rfl (i_ rfl rfl (C_ (ab_ rfl rfl) rfl fun r7 hr7 => ?_)))))))))
       refine i_ rfl rfl (a_ (A_ rfl rfl) rfl (a_ (p_ rfl rfl) rfl (a_ (e_ rfl) rfl (d_ (b_ rfl (y_ ?_))))))
       exact U_ cK_ () (q_ rfl (by rw [← dp_]; unfold dU_; first | (simp only [hc123, he125, hc60, he62]; subst_vars; rw [Bool.eq_iff_iff]; simp [*] <;> omega) | (simp_all; done) | (simp_all; omega))) (.refl _) (fun _ _ _ => trivial)
     ·
      replace hr5 := eq_of_beq hr5
      refine i_ rfl rfl (a_ (f_ rfl) rfl (i_ rfl rfl (a_ (f_ rfl) rfl (i_ rfl rfl (a_ (ac_ rfl rfl rfl (aE_ (by omega) (by omega))) rfl (i_ rfl rfl (a_ (bm_ Q_ rfl rfl (by omega) (show s[((s.length : Int) - 1).toNat]? = some e by rw [show ((s.length : Int) - 1).toNat = s.length - 1 by omega]; exact he)) rfl (i_ rfl rfl (C_ (ab_ rfl rfl) rfl fun r8 hr8 => ?_)))))))))
      refine a_ (A_ rfl rfl) rfl (a_ (f_ rfl) rfl ?_)
      cases r8
      ·
       replace hr8 := ne_of_beq_false hr8
       refine j_ rfl rfl rfl rfl (j_ rfl rfl rfl rfl (j_ rfl rfl rfl rfl (j_ rfl rfl rfl rfl (j_ rfl rfl rfl rfl (j_ rfl rfl rfl rfl (a_ (p_ rfl rfl) rfl (a_ (f_ rfl) rfl (i_ rfl rfl (a_ (f_ rfl) rfl ?_)))))))))
       refine i_ rfl rfl (a_ (bm_ Q_ rfl rfl (by decide) hc) rfl (i_ rfl rfl (C_ (ab_ rfl rfl) rfl fun r9 hr9 => ?_)))
       refine i_ rfl rfl (a_ (f_ rfl) rfl ?_)
       cases r9
       ·
        replace hr9 := ne_of_beq_false hr9
        refine j_ rfl rfl rfl rfl (j_ rfl rfl rfl rfl (j_ rfl rfl rfl rfl (j_ rfl rfl rfl rfl (j_ rfl rfl rfl rfl (i_ rfl rfl (a_ (p_ rfl rfl) rfl (a_ (p_ rfl rfl) rfl (a_ (e_ rfl) rfl (d_ ?_)))))))))
        refine b_ rfl (y_ ?_)
        exact U_ cK_ () (q_ rfl (by rw [← dp_]; unfold dU_; first | (simp only [hc123, he125, hc60, he62]; subst_vars; rw [Bool.eq_iff_iff]; simp [*] <;> omega) | (simp_all; done) | (simp_all; omega))) (.refl _) (fun _ _ _ => trivial)
       ·
        replace hr9 := eq_of_beq hr9
        refine i_ rfl rfl (a_ (f_ rfl) rfl (i_ rfl rfl (a_ (f_ rfl) rfl (i_ rfl rfl (a_ (ac_ rfl rfl rfl (aE_ (by omega) (by omega))) rfl (i_ rfl rfl (a_ (bm_ Q_ rfl rfl (by omega) (show s[((s.length : Int) - 1).toNat]? = some e by rw [show ((s.length : Int) - 1).toNat = s.length - 1 by omega]; exact he)) rfl (i_ rfl rfl (C_ (ab_ rfl rfl) rfl fun r10 hr10 => ?_)))))))))
        refine i_ rfl rfl (a_ (A_ rfl rfl) rfl (a_ (p_ rfl rfl) rfl (a_ (e_ rfl) rfl (d_ (b_ rfl (y_ ?_))))))
        exact U_ cK_ () (q_ rfl (by rw [← dp_]; unfold dU_; first | (simp only [hc123, he125, hc60, he62]; subst_vars; rw [Bool.eq_iff_iff]; simp [*] <;> omega) | (simp_all; done) | (simp_all; omega))) (.refl _) (fun _ _ _ => trivial)
      ·
       replace hr8 := eq_of_beq hr8
       refine i_ rfl rfl (a_ (f_ rfl) rfl (i_ rfl rfl (a_ (f_ rfl) rfl (i_ rfl rfl (a_ (ac_ rfl rfl rfl (aE_ (by omega) (by omega))) rfl (i_ rfl rfl (a_ (cC_ (i := 1) (j := s.length - 1) (kl := .i64) (kh := .i64) Q_ rfl rfl (show _ = some (Value.int .i64 ((s.length - 1 : Nat) : Int)) by rw [show ((s.length - 1 : Nat) : Int) = (s.length : Int) - 1 by omega]; rfl) (by omega) (by omega)) rfl (i_ rfl rfl (S_ (dd_ _) rfl D_ (fun _ _ _ => by exact trivial) rfl fun _ => ?_)))))))))
       refine i_ rfl rfl (C_ (bP_ (ab_ rfl rfl) (congrArg Value.bool (kA_ _))) rfl fun r11 hr11 => ?_)
       refine a_ (A_ rfl rfl) rfl (a_ (f_ rfl) rfl ?_)
       cases r11
       ·
        refine i_ rfl rfl (a_ (f_ rfl) rfl (i_ rfl rfl (a_ (bm_ Q_ rfl rfl (by decide) hc) rfl (i_ rfl rfl (C_ (ab_ rfl rfl) rfl fun r12 hr12 => ?_)))))
        refine i_ rfl rfl (a_ (f_ rfl) rfl ?_)
        cases r12
        ·
         replace hr12 := ne_of_beq_false hr12
         refine j_ rfl rfl rfl rfl (j_ rfl rfl rfl rfl (j_ rfl rfl rfl rfl (j_ rfl rfl rfl rfl (j_ rfl rfl rfl rfl (i_ rfl rfl (a_ (p_ rfl rfl) rfl (a_ (p_ rfl rfl) rfl (a_ (e_ rfl) rfl (d_ ?_)))))))))
         refine b_ rfl (y_ ?_)
         exact U_ cK_ () (q_ rfl (by rw [← dp_]; unfold dU_; first | (simp only [hc123, he125, hc60, he62]; subst_vars; rw [Bool.eq_iff_iff]; simp [*] <;> omega) | (simp_all; done) | (simp_all; omega))) (.refl _) (fun _ _ _ => trivial)
        ·
         replace hr12 := eq_of_beq hr12
         refine i_ rfl rfl (a_ (f_ rfl) rfl (i_ rfl rfl (a_ (f_ rfl) rfl (i_ rfl rfl (a_ (ac_ rfl rfl rfl (aE_ (by omega) (by omega))) rfl (i_ rfl rfl (a_ (bm_ Q_ rfl rfl (by omega) (show s[((s.length : Int) - 1).toNat]? = some e by rw [show ((s.length : Int) - 1).toNat = s.length - 1 by omega]; exact he)) rfl (i_ rfl rfl (C_ (ab_ rfl rfl) rfl fun r13 hr13 => ?_)))))))))
         refine i_ rfl rfl (a_ (A_ rfl rfl) rfl (a_ (p_ rfl rfl) rfl (a_ (e_ rfl) rfl (d_ (b_ rfl (y_ ?_))))))
         exact U_ cK_ () (q_ rfl (by rw [← dp_]; unfold dU_; first | (simp only [hc123, he125, hc60, he62]; subst_vars; rw [Bool.eq_iff_iff]; simp [*] <;> omega) | (simp_all; done) | (simp_all; omega))) (.refl _) (fun _ _ _ => trivial)
       ·
        refine j_ rfl rfl rfl rfl (j_ rfl rfl rfl rfl (j_ rfl rfl rfl rfl (j_ rfl rfl rfl rfl (j_ rfl rfl rfl rfl (j_ rfl rfl rfl rfl (j_ rfl rfl rfl rfl (j_ rfl rfl rfl rfl (j_ rfl rfl rfl rfl (j_ rfl rfl rfl rfl ?_)))))))))
        refine a_ (A_ rfl rfl) rfl (a_ (e_ rfl) rfl (d_ (b_ rfl (y_ ?_))))
        exact U_ cK_ () (q_ rfl (by rw [← dp_]; unfold dU_; first | (simp only [hc123, he125, hc60, he62]; subst_vars; rw [Bool.eq_iff_iff]; simp [*] <;> omega) | (simp_all; done) | (simp_all; omega))) (.refl _) (fun _ _ _ => trivial)
    ·
     replace hr4 := of_decide_eq_true hr4
     refine v_ rfl (g_ (c_ (a_ (e_ rfl) rfl (d_ (b_ rfl (y_ ?_))))))
     exact U_ cK_ () (q_ rfl (by rw [← dp_]; unfold dU_; first | (simp only [hc123, he125, hc60, he62]; subst_vars; rw [Bool.eq_iff_iff]; simp [*] <;> omega) | (simp_all; done) | (simp_all; omega))) (.refl _) (fun _ _ _ => trivial)
   ·
    refine v_ rfl (g_ (c_ (a_ (e_ rfl) rfl (d_ (b_ rfl (y_ ?_))))))
    exact U_ cK_ () (q_ rfl (by rw [← dp_]; unfold dU_; first | (simp only [hc123, he125, hc60, he62]; subst_vars; rw [Bool.eq_iff_iff]; simp [*] <;> omega) | (simp_all; done) | (simp_all; omega))) (.refl _) (fun _ _ _ => trivial)
  ·
   replace hr2 := eq_of_beq hr2
   refine j_ rfl rfl rfl rfl (j_ rfl rfl rfl rfl (j_ rfl rfl rfl rfl (a_ (A_ rfl rfl) rfl (d_ (b_ rfl (v_ rfl (g_ (c_ (a_ (e_ rfl) rfl ?_)))))))))
   refine d_ (b_ rfl (y_ ?_))
   exact U_ cK_ () (q_ rfl (by rw [← dp_]; unfold dU_; first | (simp only [hc123, he125, hc60, he62]; subst_vars; rw [Bool.eq_iff_iff]; simp [*] <;> omega) | (simp_all; done) | (simp_all; omega))) (.refl _) (fun _ _ _ => trivial)
 ·
  replace hr1 := eq_of_beq hr1
  refine j_ rfl rfl rfl rfl (j_ rfl rfl rfl rfl (a_ (A_ rfl rfl) rfl (a_ (f_ rfl) rfl (j_ rfl rfl rfl rfl (j_ rfl rfl rfl rfl (j_ rfl rfl rfl rfl (a_ (A_ rfl rfl) rfl (d_ (b_ rfl ?_)))))))))
  refine v_ rfl (g_ (c_ (a_ (e_ rfl) rfl (d_ (b_ rfl (y_ ?_))))))
  exact U_ cK_ () (q_ rfl (by rw [← dp_]; unfold dU_; first | (simp only [hc123, he125, hc60, he62]; subst_vars; rw [Bool.eq_iff_iff]; simp [*] <;> omega) | (simp_all; done) | (simp_all; omega))) (.refl _) (fun _ _ _ => trivial)
theorem eq_ (s : Str) (hs : s.length ≤ 17592186044414) : Fn0 Tryz.prog 151 #[str s] (.bool (bO_ s)) := by
 refine V_ Tryz.func151 rfl rfl Tryz.ntmps151 rfl fun v0 => ?_
 refine g_ (c_ (a_ (e_ rfl) rfl (d_ (b_ rfl (g_ (c_ (a_ (e_ rfl) rfl (d_ (b_ rfl ?_)))))))))
 refine g_ (c_ (a_ (e_ rfl) rfl (d_ (b_ rfl (g_ (g_ (c_ (a_ (e_ rfl) rfl (d_ ?_)))))))))
 refine b_ rfl (ae_ (cq_ [(0, str s), (3, .int .i64 ((0 : Nat) : Int)), (4, .int .i64 (List.length ([] : List Str) : Int)), (5, .int .i64 ((0 : Nat) : Int))] ⟨rfl, rfl, rfl, rfl, trivial⟩ ?_))
 refine cx_ (ι := {z : Nat × Nat × List Str // RInv s z.1 z.2.1 z.2.2 ∨ REnd s z.2.1 z.2.2}) (fun z => [(0, str s), (3, .int .i64 (z.1.1 : Int)), (4, .int .i64 (List.length z.1.2.2 : Int)), (5, .int .i64 (z.1.2.1 : Int))]) (fun _ => _) (fun _ => _) (fun z => s.length + 1 - z.1.2.1) ⟨(0, 0, []), .inl (RInv.start s)⟩ ?_
 rintro ⟨⟨a, i, dn⟩, hz⟩
 dsimp only at hz
 dsimp only
 have hdl : dn.length ≤ s.length + 1 := hz.elim RInv.len REnd.len
 have hil : i ≤ s.length + 1 := hz.elim (fun q => by have := q.il; omega) (fun q => by have := q.il; omega)
 refine cq_ [(0, str s), (3, .int .i64 (a : Int)), (4, .int .i64 (List.length dn : Int)), (5, .int .i64 (i : Int))] ⟨rfl, rfl, rfl, rfl, trivial⟩ ?_
 refine g_ (g_ (c_ (a_ (f_ rfl) rfl (a_ (f_ rfl) rfl (a_ (bu_ Q_ rfl) rfl (C_ (bC_ rfl rfl) rfl fun r1 hr1 => ?_))))))
 refine d_ (b_ rfl ?_)
 cases r1
 ·
  replace hr1 := of_decide_eq_false hr1
  replace hz : REnd s i dn := hz.elim (fun q => by have := q.il; omega) id
  refine B_ rfl (bd_ rfl (b_ rfl (g_ (c_ (a_ (f_ rfl) rfl (C_ (bC_ rfl rfl) rfl fun r2 hr2 => ?_))))))
  refine a_ (e_ rfl) rfl (d_ (b_ rfl (y_ ?_)))
  exact U_ Tryz.results151 () (q_ rfl (by subst_vars; exact hz.role.symm)) (.refl _) (fun _ _ _ => trivial)
 ·
  replace hr1 := of_decide_eq_true hr1
  replace hz : RInv s a i dn := hz.elim id (fun q => by have := q.il; omega)
  refine v_ rfl (J_ (b_ rfl (g_ (ae_ (g_ (g_ (c_ (a_ (f_ rfl) rfl (a_ (f_ rfl) rfl ?_)))))))))
  refine a_ (bu_ Q_ rfl) rfl (C_ (as_ rfl rfl) rfl fun r3 hr3 => ?_)
  refine a_ (f_ rfl) rfl ?_
  cases r3
  ·
   replace hr3 := of_decide_eq_false hr3
   refine j_ rfl rfl rfl rfl (j_ rfl rfl rfl rfl (j_ rfl rfl rfl rfl (j_ rfl rfl rfl rfl (a_ (p_ rfl rfl) rfl (d_ (b_ rfl (B_ rfl (J_ (b_ rfl ?_)))))))))
   refine g_ (g_ (c_ (a_ (f_ rfl) rfl (a_ (f_ rfl) rfl (a_ (f_ rfl) rfl (a_ (cC_ (i := a) (j := i) (kl := .i64) (kh := .i64) Q_ rfl rfl rfl hz.le (by omega)) rfl (S_ (dd_ _) rfl D_ (fun _ _ _ => by exact trivial) rfl fun _ => ?_)))))))
   refine C_ (bP_ (bA_ rfl rfl) (congrArg Value.bool (qb_ _))) rfl fun r4 hr4 => ?_
   refine d_ (b_ rfl ?_)
   cases r4
   ·
    refine B_ rfl (J_ (b_ rfl (g_ (c_ (a_ (f_ rfl) rfl (a_ (ac_ rfl rfl rfl (aE_ (by omega) (by omega))) rfl (a_ (e_ rfl) rfl (d_ (b_ rfl ?_)))))))))
    refine c_ (a_ (f_ rfl) rfl (a_ (ac_ rfl rfl rfl (aE_ (by omega) (by omega))) rfl (a_ (e_ rfl) rfl (d_ (b_ rfl (c_ (a_ (f_ rfl) rfl (a_ (ac_ rfl rfl rfl (aE_ (by omega) (by omega))) rfl (a_ (e_ rfl) rfl ?_)))))))))
    refine d_ (z_ rfl ?_)
    exact aP_ ⟨(i + 1, i + 1, dn ++ [gk_ s a i]), .inr (hz.finN (by omega) (by simp_all [gk_]))⟩ (by dsimp only; omega) ⟨rfl, rfl, (ar_ rfl (by simp)), rfl, trivial⟩ D_ (fun _ _ h => h)
   ·
    refine v_ rfl (g_ (c_ (a_ (e_ rfl) rfl (d_ (b_ rfl (y_ ?_))))))
    exact U_ Tryz.results151 () (q_ rfl (by symm; exact kr_ (x := gk_ s a i) (by rw [hz.fin (by omega)]; simp) (by simp_all [gk_]))) (.refl _) (fun _ _ _ => trivial)
  ·
   replace hr3 := of_decide_eq_true hr3
   obtain ⟨c, hc⟩ : ∃ c, s[i]? = some c := ⟨_, List.getElem?_eq_getElem (by omega)⟩
   refine i_ rfl rfl (a_ (f_ rfl) rfl (i_ rfl rfl (a_ (f_ rfl) rfl (i_ rfl rfl (a_ (bm_ Q_ rfl rfl (by omega) hc) rfl (i_ rfl rfl (C_ (bA_ rfl rfl) rfl fun r5 hr5 => ?_)))))))
   refine a_ (A_ rfl rfl) rfl (d_ (b_ rfl ?_))
   cases r5
   ·
    replace hr5 := bt_ hr5
    obtain rfl : c = 46 := UInt8.toNat_inj.1 (by show c.toNat = 46; omega)
    refine B_ rfl (J_ (b_ rfl (g_ (g_ (c_ (a_ (f_ rfl) rfl (a_ (f_ rfl) rfl (a_ (f_ rfl) rfl (a_ (cC_ (i := a) (j := i) (kl := .i64) (kh := .i64) Q_ rfl rfl rfl hz.le (by omega)) rfl ?_)))))))))
    refine S_ (dd_ _) rfl D_ (fun _ _ _ => by exact trivial) rfl fun _ => ?_
    refine C_ (bP_ (bA_ rfl rfl) (congrArg Value.bool (qb_ _))) rfl fun r6 hr6 => ?_
    refine d_ (b_ rfl ?_)
    cases r6
    ·
     refine B_ rfl (J_ (b_ rfl (g_ (c_ (a_ (f_ rfl) rfl (a_ (ac_ rfl rfl rfl (aE_ (by omega) (by omega))) rfl (a_ (e_ rfl) rfl (d_ (b_ rfl ?_)))))))))
     refine c_ (a_ (f_ rfl) rfl (a_ (ac_ rfl rfl rfl (aE_ (by omega) (by omega))) rfl (a_ (e_ rfl) rfl (d_ (b_ rfl (c_ (a_ (f_ rfl) rfl (a_ (ac_ rfl rfl rfl (aE_ (by omega) (by omega))) rfl (a_ (e_ rfl) rfl ?_)))))))))
     refine d_ (z_ rfl ?_)
     exact aP_ ⟨(i + 1, i + 1, dn ++ [gk_ s a i]), .inl (hz.dotN hc (by simp_all [gk_]))⟩ (by dsimp only; omega) ⟨rfl, rfl, (ar_ rfl (by simp)), rfl, trivial⟩ D_ (fun _ _ h => h)
    ·
     refine v_ rfl (g_ (c_ (a_ (e_ rfl) rfl (d_ (b_ rfl (y_ ?_))))))
     exact U_ Tryz.results151 () (q_ rfl (by symm; exact kr_ (x := gk_ s a i) (by rw [hz.dot hc]; simp) (by simp_all [gk_]))) (.refl _) (fun _ _ _ => trivial)
   ·
    replace hr5 := bs_ hr5
    refine v_ rfl (bd_ rfl (b_ rfl (c_ (a_ (f_ rfl) rfl (a_ (ac_ rfl rfl rfl (aE_ (by omega) (by omega))) rfl (a_ (e_ rfl) rfl (d_ (z_ rfl ?_))))))))
    exact aP_ ⟨(a, i + 1, dn), .inl (hz.next hc (by intro q; subst q; simp_all))⟩ (by dsimp only; omega) ⟨rfl, rfl, rfl, rfl, trivial⟩ D_ (fun _ _ h => h)
set_option maxHeartbeats 4000000 in
theorem nU_ (p : Pc) (hp : p.sm) : Fn0 Tryz.prog 78 #[Pc.val p] (.bool p.valid) := by
 refine V_ Tryz.func78 rfl rfl Tryz.ntmps78 rfl fun v0 => ?_
 obtain ⟨ha, hb, hc, hr, hs, ht⟩ := hp
 refine g_ (c_ (aO_ rfl rfl fun b1 => ?_))
 refine a_ (e_ rfl) rfl (d_ (b_ rfl (g_ (g_ (c_ (a_ (h_ r_ rfl rfl rfl w_) rfl (a_ (m_ 0 E_ rfl rfl rfl) rfl (C_ (as_ rfl rfl) rfl fun r1 hr1 => ?_))))))))
 refine a_ (f_ rfl) rfl ?_
 refine aB_ 4 ((decide ((Pc.frm p) < (-1))) || (decide (1024 ≤ (Pc.frm p)))) (fun r => [(1, zp_ b1 0), (2, .bool false), (13, .bool r)]) ?_ fun r2 hr2 => ?_
 ·
  cases r1
  ·
   have qr2 := hr1
   replace hr1 := of_decide_eq_false hr1
   refine i_ rfl rfl (a_ (h_ r_ rfl rfl rfl w_) rfl (i_ rfl rfl (a_ (m_ 0 E_ rfl rfl rfl) rfl (i_ rfl rfl (C_ (bQ_ rfl rfl) rfl fun r3 hr3 => ?_)))))
   refine a_ (p_ rfl rfl) rfl (d_ (z_ rfl ?_))
   exact met ⟨rfl, rfl, (q_ rfl (jof qr2 hr3)), trivial⟩
  ·
   have qr2 := hr1
   replace hr1 := of_decide_eq_true hr1
   refine j_ rfl rfl rfl rfl (j_ rfl rfl rfl rfl (j_ rfl rfl rfl rfl (a_ (A_ rfl rfl) rfl (d_ (z_ rfl ?_)))))
   exact met ⟨rfl, rfl, (q_ rfl (jot qr2)), trivial⟩
 ·
  refine d_ (b_ rfl ?_)
  cases r2
  ·
   simp at hr2
   refine B_ rfl (J_ (b_ rfl (g_ (c_ (a_ (h_ r_ rfl rfl rfl w_) rfl (a_ (m_ 0 E_ rfl rfl rfl) rfl (a_ (h_ r_ rfl rfl rfl w_) rfl (a_ (m_ 0 E_ rfl rfl rfl) rfl (a_ (ax_ nz_ rfl rfl) rfl ?_)))))))))
   refine am_ eK_ rfl fun b2 => ?_
   refine W_ 0 Y_ rfl rfl rfl rfl rfl rfl (d_ (b_ rfl (g_ (c_ (a_ (e_ rfl) rfl (d_ (b_ rfl (g_ (g_ ?_)))))))))
   refine c_ (a_ (h_ r_ rfl rfl rfl w_) rfl (a_ (m_ 1 E_ rfl rfl rfl) rfl (d_ (b_ rfl (ae_ (g_ (c_ (C_ (ab_ rfl rfl) rfl fun r4 hr4 => ?_))))))))
   refine a_ (e_ rfl) rfl (d_ (b_ rfl ?_))
   cases r4
   ·
    replace hr4 := ne_of_beq_false hr4
    refine B_ rfl (g_ (c_ (C_ (ab_ rfl rfl) rfl fun r5 hr5 => ?_)))
    refine a_ (e_ rfl) rfl (d_ (b_ rfl ?_))
    cases r5
    ·
     replace hr5 := ne_of_beq_false hr5
     refine B_ rfl (g_ (g_ (c_ (C_ (ab_ rfl rfl) rfl fun r6 hr6 => ?_))))
     refine a_ (e_ rfl) rfl (d_ (b_ rfl ?_))
     cases r6
     ·
      replace hr6 := ne_of_beq_false hr6
      refine B_ rfl (c_ (C_ (ab_ rfl rfl) rfl fun r7 hr7 => ?_))
      refine a_ (e_ rfl) rfl (d_ (b_ rfl ?_))
      cases r7
      ·
       replace hr7 := ne_of_beq_false hr7
       refine B_ rfl (g_ (c_ (C_ (ab_ rfl rfl) rfl fun r8 hr8 => ?_)))
       refine a_ (e_ rfl) rfl (d_ (b_ rfl ?_))
       cases r8
       ·
        replace hr8 := ne_of_beq_false hr8
        refine B_ rfl (g_ (c_ (C_ (ab_ rfl rfl) rfl fun r9 hr9 => ?_)))
        refine a_ (e_ rfl) rfl (d_ (b_ rfl ?_))
        cases r9
        ·
         replace hr9 := ne_of_beq_false hr9
         refine B_ rfl (g_ (c_ (C_ (ab_ rfl rfl) rfl fun r10 hr10 => ?_)))
         refine a_ (e_ rfl) rfl (d_ (b_ rfl ?_))
         cases r10
         ·
          replace hr10 := ne_of_beq_false hr10
          refine B_ rfl (g_ (g_ (c_ (C_ (ab_ rfl rfl) rfl fun r11 hr11 => ?_))))
          refine a_ (e_ rfl) rfl (d_ (b_ rfl ?_))
          cases r11
          ·
           replace hr11 := ne_of_beq_false hr11
           refine B_ rfl (c_ (C_ (ab_ rfl rfl) rfl fun r12 hr12 => ?_))
           refine a_ (e_ rfl) rfl (d_ (b_ rfl ?_))
           cases r12
           ·
            replace hr12 := ne_of_beq_false hr12
            refine B_ rfl (J_ (b_ rfl (g_ (c_ (a_ (f_ rfl) rfl (a_ (f_ rfl) rfl (j_ rfl rfl rfl rfl (j_ rfl rfl rfl rfl (j_ rfl rfl rfl rfl ?_)))))))))
            refine a_ (p_ rfl rfl) rfl (a_ (e_ rfl) rfl (d_ (b_ rfl (y_ ?_))))
            exact U_ cV_ () (q_ rfl (by obtain ⟨kind, a, b, c, r, s, t, lo, hi, frm⟩ := p; dsimp only at *; symm; exact vp_no _ (by omega))) D_ (fun _ _ _ => trivial)
           ·
            replace hr12 := eq_of_beq hr12
            refine v_ rfl (g_ (c_ (a_ (h_ r_ rfl rfl rfl o_) rfl (a_ (m_ 1 x_ rfl rfl rfl) rfl (a_ (h_ r_ rfl rfl rfl o_) rfl (W_ 0 o_ rfl rfl rfl rfl rfl rfl (d_ (b_ rfl (g_ ?_)))))))))
            refine c_ (a_ (h_ r_ rfl rfl rfl w_) rfl (a_ (m_ 1 E_ rfl rfl rfl) rfl (a_ (h_ r_ rfl rfl rfl w_) rfl (W_ 0 w_ rfl rfl rfl rfl rfl rfl (d_ (b_ rfl (g_ (c_ (a_ (h_ r_ rfl rfl rfl w_) rfl ?_)))))))))
            refine a_ (m_ 1 E_ rfl rfl rfl) rfl (a_ (h_ r_ rfl rfl rfl w_) rfl (W_ 0 w_ rfl rfl rfl rfl rfl rfl (d_ (b_ rfl (g_ (c_ (a_ (h_ r_ rfl rfl rfl o_) rfl (a_ (m_ 1 x_ rfl rfl rfl) rfl (a_ (e_ rfl) rfl ?_)))))))))
            refine d_ (b_ rfl (g_ (g_ (c_ (a_ (h_ r_ rfl rfl rfl w_) rfl (a_ (m_ 1 E_ rfl rfl rfl) rfl (C_ (ab_ rfl rfl) rfl fun r13 hr13 => ?_)))))))
            refine d_ (b_ rfl ?_)
            cases r13
            ·
             replace hr13 := ne_of_beq_false hr13
             refine B_ rfl (g_ (c_ (a_ (h_ r_ rfl rfl rfl o_) rfl (a_ (m_ 1 x_ rfl rfl rfl) rfl (a_ (h_ r_ rfl rfl rfl o_) rfl (W_ 0 o_ rfl rfl rfl rfl rfl rfl (d_ (b_ rfl (c_ ?_)))))))))
             refine a_ (h_ r_ rfl rfl rfl o_) rfl (a_ (m_ 1 x_ rfl rfl rfl) rfl (a_ (e_ rfl) rfl (d_ (b_ rfl (c_ (a_ (f_ rfl) rfl (X_ (dj_ _ (by omega)) rfl D_ (fun _ _ _ => by exact trivial) rfl fun r14 hr14 => ?_)))))))
             refine a_ (f_ rfl) rfl ?_
             refine aB_ 5 ((aR_ (Pc.c p)) && (aN_ (Pc.r p))) (fun r => [(1, zp_ b1 0), (2, .bool false), (3, zp_ b2 0), (4, .bool false), (166, .bool r)]) ?_ fun r15 hr15 => ?_
             ·
              cases r14
              ·
               have qr15 := hr14
               refine j_ rfl rfl rfl rfl (j_ rfl rfl rfl rfl (j_ rfl rfl rfl rfl (j_ rfl rfl rfl rfl (a_ (p_ rfl rfl) rfl (d_ (z_ rfl ?_))))))
               exact met ⟨rfl, rfl, rfl, rfl, (q_ rfl (jaf qr15)), trivial⟩
              ·
               have qr15 := hr14
               refine i_ rfl rfl (a_ (h_ r_ rfl rfl rfl o_) rfl (i_ rfl rfl (a_ (m_ 1 x_ rfl rfl rfl) rfl (i_ rfl rfl (S_ (dd_ _) rfl D_ (fun _ _ _ => by exact trivial) rfl fun _ => ?_)))))
               refine i_ rfl rfl (C_ (bP_ (ab_ rfl rfl) (congrArg Value.bool (kA_ _))) rfl fun r16 hr16 => ?_)
               refine a_ (A_ rfl rfl) rfl (d_ (z_ rfl ?_))
               exact met ⟨rfl, rfl, rfl, rfl, (q_ rfl (jat qr15 hr16)), trivial⟩
             ·
              refine a_ (f_ rfl) rfl ?_
              refine aB_ 6 ((((aR_ (Pc.c p)) && (aN_ (Pc.r p)))) && (decide ((Pc.lo p) ≤ (Pc.hi p)))) (fun r => [(1, zp_ b1 0), (2, .bool false), (3, zp_ b2 0), (4, .bool false), (173, .bool r)]) ?_ fun r17 hr17 => ?_
              ·
               cases r15
               ·
                have qr17 := hr15
                simp at hr15
                refine j_ rfl rfl rfl rfl (j_ rfl rfl rfl rfl (j_ rfl rfl rfl rfl (j_ rfl rfl rfl rfl (j_ rfl rfl rfl rfl (a_ (p_ rfl rfl) rfl (d_ (z_ rfl ?_)))))))
                exact met ⟨rfl, rfl, rfl, rfl, (q_ rfl (jaf qr17)), trivial⟩
               ·
                have qr17 := hr15
                simp at hr15
                refine i_ rfl rfl (a_ (h_ r_ rfl rfl rfl w_) rfl (i_ rfl rfl (a_ (m_ 1 E_ rfl rfl rfl) rfl (i_ rfl rfl (a_ (h_ r_ rfl rfl rfl w_) rfl (i_ rfl rfl (a_ (m_ 1 E_ rfl rfl rfl) rfl (i_ rfl rfl (C_ (bC_ rfl rfl) rfl fun r18 hr18 => ?_)))))))))
                refine a_ (A_ rfl rfl) rfl (d_ (z_ rfl ?_))
                exact met ⟨rfl, rfl, rfl, rfl, (q_ rfl (jat qr17 hr18)), trivial⟩
              ·
               refine a_ (f_ rfl) rfl ?_
               refine aB_ 4 ((((((aR_ (Pc.c p)) && (aN_ (Pc.r p)))) && (decide ((Pc.lo p) ≤ (Pc.hi p))))) && (decide ((-1099511627776) ≤ (Pc.lo p)))) (fun r => [(1, zp_ b1 0), (2, .bool false), (3, zp_ b2 0), (4, .bool false), (178, .bool r)]) ?_ fun r19 hr19 => ?_
               ·
                cases r17
                ·
                 have qr19 := hr17
                 simp at hr17
                 refine j_ rfl rfl rfl rfl (j_ rfl rfl rfl rfl (j_ rfl rfl rfl rfl (a_ (p_ rfl rfl) rfl (d_ (z_ rfl ?_)))))
                 exact met ⟨rfl, rfl, rfl, rfl, (q_ rfl (jaf qr19)), trivial⟩
                ·
                 have qr19 := hr17
                 simp at hr17
                 refine i_ rfl rfl (a_ (h_ r_ rfl rfl rfl w_) rfl (i_ rfl rfl (a_ (m_ 1 E_ rfl rfl rfl) rfl (i_ rfl rfl (C_ (bQ_ rfl rfl) rfl fun r20 hr20 => ?_)))))
                 refine a_ (A_ rfl rfl) rfl (d_ (z_ rfl ?_))
                 exact met ⟨rfl, rfl, rfl, rfl, (q_ rfl (jat qr19 hr20)), trivial⟩
               ·
                refine a_ (f_ rfl) rfl ?_
                refine aB_ 4 ((((((((aR_ (Pc.c p)) && (aN_ (Pc.r p)))) && (decide ((Pc.lo p) ≤ (Pc.hi p))))) && (decide ((-1099511627776) ≤ (Pc.lo p))))) && (decide ((Pc.hi p) ≤ 1099511627776))) (fun r => [(1, zp_ b1 0), (2, .bool false), (3, zp_ b2 0), (4, .bool false), (183, .bool r)]) ?_ fun r21 hr21 => ?_
                ·
                 cases r19
                 ·
                  have qr21 := hr19
                  simp at hr19
                  refine j_ rfl rfl rfl rfl (j_ rfl rfl rfl rfl (j_ rfl rfl rfl rfl (a_ (p_ rfl rfl) rfl (d_ (z_ rfl ?_)))))
                  exact met ⟨rfl, rfl, rfl, rfl, (q_ rfl (jaf qr21)), trivial⟩
                 ·
                  have qr21 := hr19
                  simp at hr19
                  refine i_ rfl rfl (a_ (h_ r_ rfl rfl rfl w_) rfl (i_ rfl rfl (a_ (m_ 1 E_ rfl rfl rfl) rfl (i_ rfl rfl (C_ (bC_ rfl rfl) rfl fun r22 hr22 => ?_)))))
                  refine a_ (A_ rfl rfl) rfl (d_ (z_ rfl ?_))
                  exact met ⟨rfl, rfl, rfl, rfl, (q_ rfl (jat qr21 hr22)), trivial⟩
                ·
                 refine a_ (e_ rfl) rfl (d_ (b_ rfl (g_ (c_ (a_ (f_ rfl) rfl (a_ (f_ rfl) rfl ?_))))))
                 refine aB_ 4 ((((((((((aR_ (Pc.c p)) && (aN_ (Pc.r p)))) && (decide ((Pc.lo p) ≤ (Pc.hi p))))) && (decide ((-1099511627776) ≤ (Pc.lo p))))) && (decide ((Pc.hi p) ≤ 1099511627776)))) && (decide (p = (Pc.mk (Pc.kind p) [] [] (Pc.c p) (Pc.r p) [] [] (Pc.lo p) (Pc.hi p) (Pc.frm p))))) (fun r => [(2, .bool false), (189, .bool r)]) ?_ fun r23 hr23 => ?_
                 ·
                  cases r21
                  ·
                   have qr23 := hr21
                   simp at hr21
                   refine j_ rfl rfl rfl rfl (j_ rfl rfl rfl rfl (j_ rfl rfl rfl rfl (a_ (p_ rfl rfl) rfl (d_ (z_ rfl ?_)))))
                   exact met ⟨rfl, (q_ rfl (jaf qr23)), trivial⟩
                  ·
                   have qr23 := hr21
                   simp at hr21
                   refine i_ rfl rfl (a_ (M_ 1 bi_ Y_ rfl rfl rfl) rfl (i_ rfl rfl (a_ (M_ 0 bi_ Y_ rfl rfl rfl) rfl (i_ rfl rfl (C_ (ds_ (p := p) (q := (Pc.mk (Pc.kind p) [] [] (Pc.c p) (Pc.r p) [] [] (Pc.lo p) (Pc.hi p) (Pc.frm p))) rfl rfl) rfl fun r24 hr24 => ?_)))))
                   refine a_ (A_ rfl rfl) rfl (d_ (z_ rfl ?_))
                   exact met ⟨rfl, (q_ rfl (jat qr23 hr24)), trivial⟩
                 ·
                  refine a_ (e_ rfl) rfl (d_ (b_ rfl (y_ ?_)))
                  exact U_ cV_ () (q_ rfl (by rw [← hr23]; obtain ⟨kind, a, b, c, r, s, t, lo, hi, frm⟩ := p; dsimp only at *; subst kind; rw [Bool.eq_iff_iff, fp_ 9 ⟨false, false, true, true, false, false, true⟩ rfl (by omega)]; simp only [gP_, gQ_, Bool.and_eq_true, decide_eq_true_eq, Pc.mk.injEq, if_true, Bool.false_eq_true, if_false]; constructor <;> intro h <;> simp_all <;> omega)) D_ (fun _ _ _ => trivial)
            ·
             replace hr13 := eq_of_beq hr13
             exfalso; omega
          ·
           replace hr11 := eq_of_beq hr11
           refine v_ rfl (J_ (b_ rfl (v_ rfl (g_ (c_ (a_ (h_ r_ rfl rfl rfl o_) rfl (a_ (m_ 1 x_ rfl rfl rfl) rfl (a_ (h_ r_ rfl rfl rfl o_) rfl (W_ 0 o_ rfl rfl rfl rfl rfl rfl ?_)))))))))
           refine d_ (b_ rfl (g_ (c_ (a_ (h_ r_ rfl rfl rfl w_) rfl (a_ (m_ 1 E_ rfl rfl rfl) rfl (a_ (h_ r_ rfl rfl rfl w_) rfl (W_ 0 w_ rfl rfl rfl rfl rfl rfl (d_ (b_ rfl ?_)))))))))
           refine g_ (c_ (a_ (h_ r_ rfl rfl rfl w_) rfl (a_ (m_ 1 E_ rfl rfl rfl) rfl (a_ (h_ r_ rfl rfl rfl w_) rfl (W_ 0 w_ rfl rfl rfl rfl rfl rfl (d_ (b_ rfl (g_ (c_ ?_)))))))))
           refine a_ (h_ r_ rfl rfl rfl o_) rfl (a_ (m_ 1 x_ rfl rfl rfl) rfl (a_ (e_ rfl) rfl (d_ (b_ rfl (g_ (g_ (c_ (a_ (h_ r_ rfl rfl rfl w_) rfl (a_ (m_ 1 E_ rfl rfl rfl) rfl ?_)))))))))
           refine C_ (ab_ rfl rfl) rfl fun r25 hr25 => ?_
           refine d_ (b_ rfl ?_)
           cases r25
           ·
            replace hr25 := ne_of_beq_false hr25
            exfalso; omega
           ·
            replace hr25 := eq_of_beq hr25
            refine v_ rfl (c_ (a_ (h_ r_ rfl rfl rfl o_) rfl (a_ (m_ 1 x_ rfl rfl rfl) rfl (a_ (h_ r_ rfl rfl rfl o_) rfl (W_ 0 o_ rfl rfl rfl rfl rfl rfl (d_ (b_ rfl (c_ (a_ (f_ rfl) rfl ?_)))))))))
            refine X_ (dj_ _ (by omega)) rfl D_ (fun _ _ _ => by exact trivial) rfl fun r26 hr26 => ?_
            refine a_ (f_ rfl) rfl ?_
            refine aB_ 5 ((aR_ (Pc.a p)) && (aN_ (Pc.r p))) (fun r => [(1, zp_ b1 0), (2, .bool false), (3, zp_ b2 0), (4, .bool false), (166, .bool r)]) ?_ fun r27 hr27 => ?_
            ·
             cases r26
             ·
              have qr27 := hr26
              refine j_ rfl rfl rfl rfl (j_ rfl rfl rfl rfl (j_ rfl rfl rfl rfl (j_ rfl rfl rfl rfl (a_ (p_ rfl rfl) rfl (d_ (z_ rfl ?_))))))
              exact met ⟨rfl, rfl, rfl, rfl, (q_ rfl (jaf qr27)), trivial⟩
             ·
              have qr27 := hr26
              refine i_ rfl rfl (a_ (h_ r_ rfl rfl rfl o_) rfl (i_ rfl rfl (a_ (m_ 1 x_ rfl rfl rfl) rfl (i_ rfl rfl (S_ (dd_ _) rfl D_ (fun _ _ _ => by exact trivial) rfl fun _ => ?_)))))
              refine i_ rfl rfl (C_ (bP_ (ab_ rfl rfl) (congrArg Value.bool (kA_ _))) rfl fun r28 hr28 => ?_)
              refine a_ (A_ rfl rfl) rfl (d_ (z_ rfl ?_))
              exact met ⟨rfl, rfl, rfl, rfl, (q_ rfl (jat qr27 hr28)), trivial⟩
            ·
             refine a_ (f_ rfl) rfl ?_
             refine aB_ 6 ((((aR_ (Pc.a p)) && (aN_ (Pc.r p)))) && (decide ((Pc.lo p) ≤ (Pc.hi p)))) (fun r => [(1, zp_ b1 0), (2, .bool false), (3, zp_ b2 0), (4, .bool false), (173, .bool r)]) ?_ fun r29 hr29 => ?_
             ·
              cases r27
              ·
               have qr29 := hr27
               simp at hr27
               refine j_ rfl rfl rfl rfl (j_ rfl rfl rfl rfl (j_ rfl rfl rfl rfl (j_ rfl rfl rfl rfl (j_ rfl rfl rfl rfl (a_ (p_ rfl rfl) rfl (d_ (z_ rfl ?_)))))))
               exact met ⟨rfl, rfl, rfl, rfl, (q_ rfl (jaf qr29)), trivial⟩
              ·
               have qr29 := hr27
               simp at hr27
               refine i_ rfl rfl (a_ (h_ r_ rfl rfl rfl w_) rfl (i_ rfl rfl (a_ (m_ 1 E_ rfl rfl rfl) rfl (i_ rfl rfl (a_ (h_ r_ rfl rfl rfl w_) rfl (i_ rfl rfl (a_ (m_ 1 E_ rfl rfl rfl) rfl (i_ rfl rfl (C_ (bC_ rfl rfl) rfl fun r30 hr30 => ?_)))))))))
               refine a_ (A_ rfl rfl) rfl (d_ (z_ rfl ?_))
               exact met ⟨rfl, rfl, rfl, rfl, (q_ rfl (jat qr29 hr30)), trivial⟩
             ·
              refine a_ (f_ rfl) rfl ?_
              refine aB_ 4 ((((((aR_ (Pc.a p)) && (aN_ (Pc.r p)))) && (decide ((Pc.lo p) ≤ (Pc.hi p))))) && (decide ((-1099511627776) ≤ (Pc.lo p)))) (fun r => [(1, zp_ b1 0), (2, .bool false), (3, zp_ b2 0), (4, .bool false), (178, .bool r)]) ?_ fun r31 hr31 => ?_
              ·
               cases r29
               ·
                have qr31 := hr29
                simp at hr29
                refine j_ rfl rfl rfl rfl (j_ rfl rfl rfl rfl (j_ rfl rfl rfl rfl (a_ (p_ rfl rfl) rfl (d_ (z_ rfl ?_)))))
                exact met ⟨rfl, rfl, rfl, rfl, (q_ rfl (jaf qr31)), trivial⟩
               ·
                have qr31 := hr29
                simp at hr29
                refine i_ rfl rfl (a_ (h_ r_ rfl rfl rfl w_) rfl (i_ rfl rfl (a_ (m_ 1 E_ rfl rfl rfl) rfl (i_ rfl rfl (C_ (bQ_ rfl rfl) rfl fun r32 hr32 => ?_)))))
                refine a_ (A_ rfl rfl) rfl (d_ (z_ rfl ?_))
                exact met ⟨rfl, rfl, rfl, rfl, (q_ rfl (jat qr31 hr32)), trivial⟩
              ·
               refine a_ (f_ rfl) rfl ?_
               refine aB_ 4 ((((((((aR_ (Pc.a p)) && (aN_ (Pc.r p)))) && (decide ((Pc.lo p) ≤ (Pc.hi p))))) && (decide ((-1099511627776) ≤ (Pc.lo p))))) && (decide ((Pc.hi p) ≤ 1099511627776))) (fun r => [(1, zp_ b1 0), (2, .bool false), (3, zp_ b2 0), (4, .bool false), (183, .bool r)]) ?_ fun r33 hr33 => ?_
               ·
                cases r31
                ·
                 have qr33 := hr31
                 simp at hr31
                 refine j_ rfl rfl rfl rfl (j_ rfl rfl rfl rfl (j_ rfl rfl rfl rfl (a_ (p_ rfl rfl) rfl (d_ (z_ rfl ?_)))))
                 exact met ⟨rfl, rfl, rfl, rfl, (q_ rfl (jaf qr33)), trivial⟩
                ·
                 have qr33 := hr31
                 simp at hr31
                 refine i_ rfl rfl (a_ (h_ r_ rfl rfl rfl w_) rfl (i_ rfl rfl (a_ (m_ 1 E_ rfl rfl rfl) rfl (i_ rfl rfl (C_ (bC_ rfl rfl) rfl fun r34 hr34 => ?_)))))
                 refine a_ (A_ rfl rfl) rfl (d_ (z_ rfl ?_))
                 exact met ⟨rfl, rfl, rfl, rfl, (q_ rfl (jat qr33 hr34)), trivial⟩
               ·
                refine a_ (e_ rfl) rfl (d_ (b_ rfl (g_ (c_ (a_ (f_ rfl) rfl (a_ (f_ rfl) rfl ?_))))))
                refine aB_ 4 ((((((((((aR_ (Pc.a p)) && (aN_ (Pc.r p)))) && (decide ((Pc.lo p) ≤ (Pc.hi p))))) && (decide ((-1099511627776) ≤ (Pc.lo p))))) && (decide ((Pc.hi p) ≤ 1099511627776)))) && (decide (p = (Pc.mk (Pc.kind p) (Pc.a p) [] [] (Pc.r p) [] [] (Pc.lo p) (Pc.hi p) (Pc.frm p))))) (fun r => [(2, .bool false), (189, .bool r)]) ?_ fun r35 hr35 => ?_
                ·
                 cases r33
                 ·
                  have qr35 := hr33
                  simp at hr33
                  refine j_ rfl rfl rfl rfl (j_ rfl rfl rfl rfl (j_ rfl rfl rfl rfl (a_ (p_ rfl rfl) rfl (d_ (z_ rfl ?_)))))
                  exact met ⟨rfl, (q_ rfl (jaf qr35)), trivial⟩
                 ·
                  have qr35 := hr33
                  simp at hr33
                  refine i_ rfl rfl (a_ (M_ 1 bi_ Y_ rfl rfl rfl) rfl (i_ rfl rfl (a_ (M_ 0 bi_ Y_ rfl rfl rfl) rfl (i_ rfl rfl (C_ (ds_ (p := p) (q := (Pc.mk (Pc.kind p) (Pc.a p) [] [] (Pc.r p) [] [] (Pc.lo p) (Pc.hi p) (Pc.frm p))) rfl rfl) rfl fun r36 hr36 => ?_)))))
                  refine a_ (A_ rfl rfl) rfl (d_ (z_ rfl ?_))
                  exact met ⟨rfl, (q_ rfl (jat qr35 hr36)), trivial⟩
                ·
                 refine a_ (e_ rfl) rfl (d_ (b_ rfl (y_ ?_)))
                 exact U_ cV_ () (q_ rfl (by rw [← hr35]; obtain ⟨kind, a, b, c, r, s, t, lo, hi, frm⟩ := p; dsimp only at *; subst kind; rw [Bool.eq_iff_iff, fp_ 8 ⟨true, false, false, true, false, false, true⟩ rfl (by omega)]; simp only [gP_, gQ_, Bool.and_eq_true, decide_eq_true_eq, Pc.mk.injEq, if_true, Bool.false_eq_true, if_false]; constructor <;> intro h <;> simp_all <;> omega)) D_ (fun _ _ _ => trivial)
         ·
          replace hr10 := eq_of_beq hr10
          refine v_ rfl (g_ (c_ (a_ (h_ r_ rfl rfl rfl o_) rfl (a_ (m_ 1 x_ rfl rfl rfl) rfl (a_ (h_ r_ rfl rfl rfl o_) rfl (W_ 0 o_ rfl rfl rfl rfl rfl rfl (d_ (b_ rfl (c_ ?_)))))))))
          refine a_ (h_ r_ rfl rfl rfl o_) rfl (a_ (m_ 1 x_ rfl rfl rfl) rfl (X_ (eq_ _ (by omega)) rfl D_ (fun _ _ _ => by exact trivial) rfl fun r37 hr37 => ?_))
          refine a_ (e_ rfl) rfl (d_ (b_ rfl (g_ (c_ (a_ (f_ rfl) rfl (a_ (f_ rfl) rfl ?_))))))
          refine aB_ 4 ((bO_ (Pc.r p)) && (decide (p = (Pc.mk (Pc.kind p) [] [] [] (Pc.r p) [] [] 0 0 (Pc.frm p))))) (fun r => [(2, .bool false), (189, .bool r)]) ?_ fun r38 hr38 => ?_
          ·
           cases r37
           ·
            have qr38 := hr37
            refine j_ rfl rfl rfl rfl (j_ rfl rfl rfl rfl (j_ rfl rfl rfl rfl (a_ (p_ rfl rfl) rfl (d_ (z_ rfl ?_)))))
            exact met ⟨rfl, (q_ rfl (jaf qr38)), trivial⟩
           ·
            have qr38 := hr37
            refine i_ rfl rfl (a_ (M_ 1 bi_ Y_ rfl rfl rfl) rfl (i_ rfl rfl (a_ (M_ 0 bi_ Y_ rfl rfl rfl) rfl (i_ rfl rfl (C_ (ds_ (p := p) (q := (Pc.mk (Pc.kind p) [] [] [] (Pc.r p) [] [] 0 0 (Pc.frm p))) rfl rfl) rfl fun r39 hr39 => ?_)))))
            refine a_ (A_ rfl rfl) rfl (d_ (z_ rfl ?_))
            exact met ⟨rfl, (q_ rfl (jat qr38 hr39)), trivial⟩
          ·
           refine a_ (e_ rfl) rfl (d_ (b_ rfl (y_ ?_)))
           exact U_ cV_ () (q_ rfl (by rw [← hr38]; obtain ⟨kind, a, b, c, r, s, t, lo, hi, frm⟩ := p; dsimp only at *; subst kind; rw [Bool.eq_iff_iff, fp_ 7 ⟨false, false, false, true, false, false, false⟩ rfl (by omega)]; simp only [gP_, gQ_, Bool.and_eq_true, decide_eq_true_eq, Pc.mk.injEq, if_true, Bool.false_eq_true, if_false]; constructor <;> intro h <;> simp_all <;> omega)) D_ (fun _ _ _ => trivial)
        ·
         replace hr9 := eq_of_beq hr9
         refine v_ rfl (g_ (c_ (a_ (h_ r_ rfl rfl rfl o_) rfl (a_ (m_ 1 x_ rfl rfl rfl) rfl (a_ (h_ r_ rfl rfl rfl o_) rfl (W_ 0 o_ rfl rfl rfl rfl rfl rfl (d_ (b_ rfl (g_ ?_)))))))))
         refine c_ (a_ (h_ r_ rfl rfl rfl o_) rfl (a_ (m_ 1 x_ rfl rfl rfl) rfl (a_ (h_ r_ rfl rfl rfl o_) rfl (W_ 0 o_ rfl rfl rfl rfl rfl rfl (d_ (b_ rfl (g_ (c_ (a_ (h_ r_ rfl rfl rfl o_) rfl ?_)))))))))
         refine a_ (m_ 1 x_ rfl rfl rfl) rfl (a_ (h_ r_ rfl rfl rfl o_) rfl (W_ 0 o_ rfl rfl rfl rfl rfl rfl (d_ (b_ rfl (c_ (a_ (h_ r_ rfl rfl rfl o_) rfl (a_ (m_ 1 x_ rfl rfl rfl) rfl (X_ (eq_ _ (by omega)) rfl D_ (fun _ _ _ => by exact trivial) rfl fun r40 hr40 => ?_))))))))
         refine a_ (f_ rfl) rfl ?_
         refine aB_ 4 ((bO_ (Pc.r p)) && (bO_ (Pc.s p))) (fun r => [(1, zp_ b1 0), (2, .bool false), (3, zp_ b2 0), (4, .bool false), (120, .bool r)]) ?_ fun r41 hr41 => ?_
         ·
          cases r40
          ·
           have qr41 := hr40
           refine j_ rfl rfl rfl rfl (j_ rfl rfl rfl rfl (j_ rfl rfl rfl rfl (a_ (p_ rfl rfl) rfl (d_ (z_ rfl ?_)))))
           exact met ⟨rfl, rfl, rfl, rfl, (q_ rfl (jaf qr41)), trivial⟩
          ·
           have qr41 := hr40
           refine i_ rfl rfl (a_ (h_ r_ rfl rfl rfl o_) rfl (i_ rfl rfl (a_ (m_ 1 x_ rfl rfl rfl) rfl (i_ rfl rfl (X_ (eq_ _ (by omega)) rfl D_ (fun _ _ _ => by exact trivial) rfl fun r42 hr42 => ?_)))))
           refine a_ (A_ rfl rfl) rfl (d_ (z_ rfl ?_))
           exact met ⟨rfl, rfl, rfl, rfl, (q_ rfl (jat qr41 hr42)), trivial⟩
         ·
          refine a_ (f_ rfl) rfl ?_
          refine aB_ 4 ((((bO_ (Pc.r p)) && (bO_ (Pc.s p)))) && (bO_ (Pc.t p))) (fun r => [(1, zp_ b1 0), (2, .bool false), (3, zp_ b2 0), (4, .bool false), (125, .bool r)]) ?_ fun r43 hr43 => ?_
          ·
           cases r41
           ·
            have qr43 := hr41
            simp at hr41
            refine j_ rfl rfl rfl rfl (j_ rfl rfl rfl rfl (j_ rfl rfl rfl rfl (a_ (p_ rfl rfl) rfl (d_ (z_ rfl ?_)))))
            exact met ⟨rfl, rfl, rfl, rfl, (q_ rfl (jaf qr43)), trivial⟩
           ·
            have qr43 := hr41
            simp at hr41
            refine i_ rfl rfl (a_ (h_ r_ rfl rfl rfl o_) rfl (i_ rfl rfl (a_ (m_ 1 x_ rfl rfl rfl) rfl (i_ rfl rfl (X_ (eq_ _ (by omega)) rfl D_ (fun _ _ _ => by exact trivial) rfl fun r44 hr44 => ?_)))))
            refine a_ (A_ rfl rfl) rfl (d_ (z_ rfl ?_))
            exact met ⟨rfl, rfl, rfl, rfl, (q_ rfl (jat qr43 hr44)), trivial⟩
          ·
           refine a_ (e_ rfl) rfl (d_ (b_ rfl (g_ (c_ (a_ (f_ rfl) rfl (a_ (f_ rfl) rfl ?_))))))
           refine aB_ 4 ((((((bO_ (Pc.r p)) && (bO_ (Pc.s p)))) && (bO_ (Pc.t p)))) && (decide (p = (Pc.mk (Pc.kind p) [] [] [] (Pc.r p) (Pc.s p) (Pc.t p) 0 0 (Pc.frm p))))) (fun r => [(2, .bool false), (189, .bool r)]) ?_ fun r45 hr45 => ?_
           ·
            cases r43
            ·
             have qr45 := hr43
             simp at hr43
             refine j_ rfl rfl rfl rfl (j_ rfl rfl rfl rfl (j_ rfl rfl rfl rfl (a_ (p_ rfl rfl) rfl (d_ (z_ rfl ?_)))))
             exact met ⟨rfl, (q_ rfl (jaf qr45)), trivial⟩
            ·
             have qr45 := hr43
             simp at hr43
             refine i_ rfl rfl (a_ (M_ 1 bi_ Y_ rfl rfl rfl) rfl (i_ rfl rfl (a_ (M_ 0 bi_ Y_ rfl rfl rfl) rfl (i_ rfl rfl (C_ (ds_ (p := p) (q := (Pc.mk (Pc.kind p) [] [] [] (Pc.r p) (Pc.s p) (Pc.t p) 0 0 (Pc.frm p))) rfl rfl) rfl fun r46 hr46 => ?_)))))
             refine a_ (A_ rfl rfl) rfl (d_ (z_ rfl ?_))
             exact met ⟨rfl, (q_ rfl (jat qr45 hr46)), trivial⟩
           ·
            refine a_ (e_ rfl) rfl (d_ (b_ rfl (y_ ?_)))
            exact U_ cV_ () (q_ rfl (by rw [← hr45]; obtain ⟨kind, a, b, c, r, s, t, lo, hi, frm⟩ := p; dsimp only at *; subst kind; rw [Bool.eq_iff_iff, fp_ 6 ⟨false, false, false, true, true, true, false⟩ rfl (by omega)]; simp only [gP_, gQ_, Bool.and_eq_true, decide_eq_true_eq, Pc.mk.injEq, if_true, Bool.false_eq_true, if_false]; constructor <;> intro h <;> simp_all <;> omega)) D_ (fun _ _ _ => trivial)
       ·
        replace hr8 := eq_of_beq hr8
        refine v_ rfl (g_ (c_ (a_ (h_ r_ rfl rfl rfl o_) rfl (a_ (m_ 1 x_ rfl rfl rfl) rfl (a_ (h_ r_ rfl rfl rfl o_) rfl (W_ 0 o_ rfl rfl rfl rfl rfl rfl (d_ (b_ rfl (g_ ?_)))))))))
        refine c_ (a_ (h_ r_ rfl rfl rfl o_) rfl (a_ (m_ 1 x_ rfl rfl rfl) rfl (a_ (h_ r_ rfl rfl rfl o_) rfl (W_ 0 o_ rfl rfl rfl rfl rfl rfl (d_ (b_ rfl (c_ (a_ (h_ r_ rfl rfl rfl o_) rfl (a_ (m_ 1 x_ rfl rfl rfl) rfl ?_)))))))))
        refine X_ (eq_ _ (by omega)) rfl D_ (fun _ _ _ => by exact trivial) rfl fun r47 hr47 => ?_
        refine a_ (f_ rfl) rfl ?_
        refine aB_ 4 ((bO_ (Pc.r p)) && (bO_ (Pc.t p))) (fun r => [(1, zp_ b1 0), (2, .bool false), (3, zp_ b2 0), (4, .bool false), (101, .bool r)]) ?_ fun r48 hr48 => ?_
        ·
         cases r47
         ·
          have qr48 := hr47
          refine j_ rfl rfl rfl rfl (j_ rfl rfl rfl rfl (j_ rfl rfl rfl rfl (a_ (p_ rfl rfl) rfl (d_ (z_ rfl ?_)))))
          exact met ⟨rfl, rfl, rfl, rfl, (q_ rfl (jaf qr48)), trivial⟩
         ·
          have qr48 := hr47
          refine i_ rfl rfl (a_ (h_ r_ rfl rfl rfl o_) rfl (i_ rfl rfl (a_ (m_ 1 x_ rfl rfl rfl) rfl (i_ rfl rfl (X_ (eq_ _ (by omega)) rfl D_ (fun _ _ _ => by exact trivial) rfl fun r49 hr49 => ?_)))))
          refine a_ (A_ rfl rfl) rfl (d_ (z_ rfl ?_))
          exact met ⟨rfl, rfl, rfl, rfl, (q_ rfl (jat qr48 hr49)), trivial⟩
        ·
         refine a_ (e_ rfl) rfl (d_ (b_ rfl (g_ (c_ (a_ (f_ rfl) rfl (a_ (f_ rfl) rfl ?_))))))
         refine aB_ 4 ((((bO_ (Pc.r p)) && (bO_ (Pc.t p)))) && (decide (p = (Pc.mk (Pc.kind p) [] [] [] (Pc.r p) [] (Pc.t p) 0 0 (Pc.frm p))))) (fun r => [(2, .bool false), (189, .bool r)]) ?_ fun r50 hr50 => ?_
         ·
          cases r48
          ·
           have qr50 := hr48
           simp at hr48
           refine j_ rfl rfl rfl rfl (j_ rfl rfl rfl rfl (j_ rfl rfl rfl rfl (a_ (p_ rfl rfl) rfl (d_ (z_ rfl ?_)))))
           exact met ⟨rfl, (q_ rfl (jaf qr50)), trivial⟩
          ·
           have qr50 := hr48
           simp at hr48
           refine i_ rfl rfl (a_ (M_ 1 bi_ Y_ rfl rfl rfl) rfl (i_ rfl rfl (a_ (M_ 0 bi_ Y_ rfl rfl rfl) rfl (i_ rfl rfl (C_ (ds_ (p := p) (q := (Pc.mk (Pc.kind p) [] [] [] (Pc.r p) [] (Pc.t p) 0 0 (Pc.frm p))) rfl rfl) rfl fun r51 hr51 => ?_)))))
           refine a_ (A_ rfl rfl) rfl (d_ (z_ rfl ?_))
           exact met ⟨rfl, (q_ rfl (jat qr50 hr51)), trivial⟩
         ·
          refine a_ (e_ rfl) rfl (d_ (b_ rfl (y_ ?_)))
          exact U_ cV_ () (q_ rfl (by rw [← hr50]; obtain ⟨kind, a, b, c, r, s, t, lo, hi, frm⟩ := p; dsimp only at *; subst kind; rw [Bool.eq_iff_iff, fp_ 5 ⟨false, false, false, true, false, true, false⟩ rfl (by omega)]; simp only [gP_, gQ_, Bool.and_eq_true, decide_eq_true_eq, Pc.mk.injEq, if_true, Bool.false_eq_true, if_false]; constructor <;> intro h <;> simp_all <;> omega)) D_ (fun _ _ _ => trivial)
      ·
       replace hr7 := eq_of_beq hr7
       refine v_ rfl (g_ (c_ (a_ (h_ r_ rfl rfl rfl o_) rfl (a_ (m_ 1 x_ rfl rfl rfl) rfl (a_ (h_ r_ rfl rfl rfl o_) rfl (W_ 0 o_ rfl rfl rfl rfl rfl rfl (d_ (b_ rfl (g_ ?_)))))))))
       refine c_ (a_ (h_ r_ rfl rfl rfl o_) rfl (a_ (m_ 1 x_ rfl rfl rfl) rfl (a_ (h_ r_ rfl rfl rfl o_) rfl (W_ 0 o_ rfl rfl rfl rfl rfl rfl (d_ (b_ rfl (g_ (c_ (a_ (h_ r_ rfl rfl rfl o_) rfl ?_)))))))))
       refine a_ (m_ 1 x_ rfl rfl rfl) rfl (a_ (h_ r_ rfl rfl rfl o_) rfl (W_ 0 o_ rfl rfl rfl rfl rfl rfl (d_ (b_ rfl (c_ (a_ (h_ r_ rfl rfl rfl o_) rfl (a_ (m_ 1 x_ rfl rfl rfl) rfl (X_ (dj_ _ (by omega)) rfl D_ (fun _ _ _ => by exact trivial) rfl fun r52 hr52 => ?_))))))))
       refine a_ (f_ rfl) rfl ?_
       refine aB_ 4 ((aR_ (Pc.a p)) && (bO_ (Pc.r p))) (fun r => [(1, zp_ b1 0), (2, .bool false), (3, zp_ b2 0), (4, .bool false), (80, .bool r)]) ?_ fun r53 hr53 => ?_
       ·
        cases r52
        ·
         have qr53 := hr52
         refine j_ rfl rfl rfl rfl (j_ rfl rfl rfl rfl (j_ rfl rfl rfl rfl (a_ (p_ rfl rfl) rfl (d_ (z_ rfl ?_)))))
         exact met ⟨rfl, rfl, rfl, rfl, (q_ rfl (jaf qr53)), trivial⟩
        ·
         have qr53 := hr52
         refine i_ rfl rfl (a_ (h_ r_ rfl rfl rfl o_) rfl (i_ rfl rfl (a_ (m_ 1 x_ rfl rfl rfl) rfl (i_ rfl rfl (X_ (eq_ _ (by omega)) rfl D_ (fun _ _ _ => by exact trivial) rfl fun r54 hr54 => ?_)))))
         refine a_ (A_ rfl rfl) rfl (d_ (z_ rfl ?_))
         exact met ⟨rfl, rfl, rfl, rfl, (q_ rfl (jat qr53 hr54)), trivial⟩
       ·
        refine a_ (f_ rfl) rfl ?_
        refine aB_ 4 ((((aR_ (Pc.a p)) && (bO_ (Pc.r p)))) && (aR_ (Pc.c p))) (fun r => [(1, zp_ b1 0), (2, .bool false), (3, zp_ b2 0), (4, .bool false), (85, .bool r)]) ?_ fun r55 hr55 => ?_
        ·
         cases r53
         ·
          have qr55 := hr53
          simp at hr53
          refine j_ rfl rfl rfl rfl (j_ rfl rfl rfl rfl (j_ rfl rfl rfl rfl (a_ (p_ rfl rfl) rfl (d_ (z_ rfl ?_)))))
          exact met ⟨rfl, rfl, rfl, rfl, (q_ rfl (jaf qr55)), trivial⟩
         ·
          have qr55 := hr53
          simp at hr53
          refine i_ rfl rfl (a_ (h_ r_ rfl rfl rfl o_) rfl (i_ rfl rfl (a_ (m_ 1 x_ rfl rfl rfl) rfl (i_ rfl rfl (X_ (dj_ _ (by omega)) rfl D_ (fun _ _ _ => by exact trivial) rfl fun r56 hr56 => ?_)))))
          refine a_ (A_ rfl rfl) rfl (d_ (z_ rfl ?_))
          exact met ⟨rfl, rfl, rfl, rfl, (q_ rfl (jat qr55 hr56)), trivial⟩
        ·
         refine a_ (e_ rfl) rfl (d_ (b_ rfl (g_ (c_ (a_ (f_ rfl) rfl (a_ (f_ rfl) rfl ?_))))))
         refine aB_ 4 ((((((aR_ (Pc.a p)) && (bO_ (Pc.r p)))) && (aR_ (Pc.c p)))) && (decide (p = (Pc.mk (Pc.kind p) (Pc.a p) [] (Pc.c p) (Pc.r p) [] [] 0 0 (Pc.frm p))))) (fun r => [(2, .bool false), (189, .bool r)]) ?_ fun r57 hr57 => ?_
         ·
          cases r55
          ·
           have qr57 := hr55
           simp at hr55
           refine j_ rfl rfl rfl rfl (j_ rfl rfl rfl rfl (j_ rfl rfl rfl rfl (a_ (p_ rfl rfl) rfl (d_ (z_ rfl ?_)))))
           exact met ⟨rfl, (q_ rfl (jaf qr57)), trivial⟩
          ·
           have qr57 := hr55
           simp at hr55
           refine i_ rfl rfl (a_ (M_ 1 bi_ Y_ rfl rfl rfl) rfl (i_ rfl rfl (a_ (M_ 0 bi_ Y_ rfl rfl rfl) rfl (i_ rfl rfl (C_ (ds_ (p := p) (q := (Pc.mk (Pc.kind p) (Pc.a p) [] (Pc.c p) (Pc.r p) [] [] 0 0 (Pc.frm p))) rfl rfl) rfl fun r58 hr58 => ?_)))))
           refine a_ (A_ rfl rfl) rfl (d_ (z_ rfl ?_))
           exact met ⟨rfl, (q_ rfl (jat qr57 hr58)), trivial⟩
         ·
          refine a_ (e_ rfl) rfl (d_ (b_ rfl (y_ ?_)))
          exact U_ cV_ () (q_ rfl (by rw [← hr57]; obtain ⟨kind, a, b, c, r, s, t, lo, hi, frm⟩ := p; dsimp only at *; subst kind; rw [Bool.eq_iff_iff, fp_ 4 ⟨true, false, true, true, false, false, false⟩ rfl (by omega)]; simp only [gP_, gQ_, Bool.and_eq_true, decide_eq_true_eq, Pc.mk.injEq, if_true, Bool.false_eq_true, if_false]; constructor <;> intro h <;> simp_all <;> omega)) D_ (fun _ _ _ => trivial)
     ·
      replace hr6 := eq_of_beq hr6
      refine v_ rfl (J_ (b_ rfl (v_ rfl (g_ (c_ (a_ (h_ r_ rfl rfl rfl o_) rfl (a_ (m_ 1 x_ rfl rfl rfl) rfl (a_ (h_ r_ rfl rfl rfl o_) rfl (W_ 0 o_ rfl rfl rfl rfl rfl rfl ?_)))))))))
      refine d_ (b_ rfl (g_ (c_ (a_ (h_ r_ rfl rfl rfl o_) rfl (a_ (m_ 1 x_ rfl rfl rfl) rfl (a_ (h_ r_ rfl rfl rfl o_) rfl (W_ 0 o_ rfl rfl rfl rfl rfl rfl (d_ (b_ rfl ?_)))))))))
      refine g_ (c_ (a_ (h_ r_ rfl rfl rfl o_) rfl (a_ (m_ 1 x_ rfl rfl rfl) rfl (a_ (h_ r_ rfl rfl rfl o_) rfl (W_ 0 o_ rfl rfl rfl rfl rfl rfl (d_ (b_ rfl (c_ (a_ (h_ r_ rfl rfl rfl o_) rfl ?_)))))))))
      refine a_ (m_ 1 x_ rfl rfl rfl) rfl (X_ (dj_ _ (by omega)) rfl D_ (fun _ _ _ => by exact trivial) rfl fun r59 hr59 => ?_)
      refine a_ (f_ rfl) rfl ?_
      refine aB_ 4 ((aR_ (Pc.a p)) && (bO_ (Pc.r p))) (fun r => [(1, zp_ b1 0), (2, .bool false), (3, zp_ b2 0), (4, .bool false), (80, .bool r)]) ?_ fun r60 hr60 => ?_
      ·
       cases r59
       ·
        have qr60 := hr59
        refine j_ rfl rfl rfl rfl (j_ rfl rfl rfl rfl (j_ rfl rfl rfl rfl (a_ (p_ rfl rfl) rfl (d_ (z_ rfl ?_)))))
        exact met ⟨rfl, rfl, rfl, rfl, (q_ rfl (jaf qr60)), trivial⟩
       ·
        have qr60 := hr59
        refine i_ rfl rfl (a_ (h_ r_ rfl rfl rfl o_) rfl (i_ rfl rfl (a_ (m_ 1 x_ rfl rfl rfl) rfl (i_ rfl rfl (X_ (eq_ _ (by omega)) rfl D_ (fun _ _ _ => by exact trivial) rfl fun r61 hr61 => ?_)))))
        refine a_ (A_ rfl rfl) rfl (d_ (z_ rfl ?_))
        exact met ⟨rfl, rfl, rfl, rfl, (q_ rfl (jat qr60 hr61)), trivial⟩
      ·
       refine a_ (f_ rfl) rfl ?_
       refine aB_ 4 ((((aR_ (Pc.a p)) && (bO_ (Pc.r p)))) && (aR_ (Pc.c p))) (fun r => [(1, zp_ b1 0), (2, .bool false), (3, zp_ b2 0), (4, .bool false), (85, .bool r)]) ?_ fun r62 hr62 => ?_
       ·
        cases r60
        ·
         have qr62 := hr60
         simp at hr60
         refine j_ rfl rfl rfl rfl (j_ rfl rfl rfl rfl (j_ rfl rfl rfl rfl (a_ (p_ rfl rfl) rfl (d_ (z_ rfl ?_)))))
         exact met ⟨rfl, rfl, rfl, rfl, (q_ rfl (jaf qr62)), trivial⟩
        ·
         have qr62 := hr60
         simp at hr60
         refine i_ rfl rfl (a_ (h_ r_ rfl rfl rfl o_) rfl (i_ rfl rfl (a_ (m_ 1 x_ rfl rfl rfl) rfl (i_ rfl rfl (X_ (dj_ _ (by omega)) rfl D_ (fun _ _ _ => by exact trivial) rfl fun r63 hr63 => ?_)))))
         refine a_ (A_ rfl rfl) rfl (d_ (z_ rfl ?_))
         exact met ⟨rfl, rfl, rfl, rfl, (q_ rfl (jat qr62 hr63)), trivial⟩
       ·
        refine a_ (e_ rfl) rfl (d_ (b_ rfl (g_ (c_ (a_ (f_ rfl) rfl (a_ (f_ rfl) rfl ?_))))))
        refine aB_ 4 ((((((aR_ (Pc.a p)) && (bO_ (Pc.r p)))) && (aR_ (Pc.c p)))) && (decide (p = (Pc.mk (Pc.kind p) (Pc.a p) [] (Pc.c p) (Pc.r p) [] [] 0 0 (Pc.frm p))))) (fun r => [(2, .bool false), (189, .bool r)]) ?_ fun r64 hr64 => ?_
        ·
         cases r62
         ·
          have qr64 := hr62
          simp at hr62
          refine j_ rfl rfl rfl rfl (j_ rfl rfl rfl rfl (j_ rfl rfl rfl rfl (a_ (p_ rfl rfl) rfl (d_ (z_ rfl ?_)))))
          exact met ⟨rfl, (q_ rfl (jaf qr64)), trivial⟩
         ·
          have qr64 := hr62
          simp at hr62
          refine i_ rfl rfl (a_ (M_ 1 bi_ Y_ rfl rfl rfl) rfl (i_ rfl rfl (a_ (M_ 0 bi_ Y_ rfl rfl rfl) rfl (i_ rfl rfl (C_ (ds_ (p := p) (q := (Pc.mk (Pc.kind p) (Pc.a p) [] (Pc.c p) (Pc.r p) [] [] 0 0 (Pc.frm p))) rfl rfl) rfl fun r65 hr65 => ?_)))))
          refine a_ (A_ rfl rfl) rfl (d_ (z_ rfl ?_))
          exact met ⟨rfl, (q_ rfl (jat qr64 hr65)), trivial⟩
        ·
         refine a_ (e_ rfl) rfl (d_ (b_ rfl (y_ ?_)))
         exact U_ cV_ () (q_ rfl (by rw [← hr64]; obtain ⟨kind, a, b, c, r, s, t, lo, hi, frm⟩ := p; dsimp only at *; subst kind; rw [Bool.eq_iff_iff, fp_ 3 ⟨true, false, true, true, false, false, false⟩ rfl (by omega)]; simp only [gP_, gQ_, Bool.and_eq_true, decide_eq_true_eq, Pc.mk.injEq, if_true, Bool.false_eq_true, if_false]; constructor <;> intro h <;> simp_all <;> omega)) D_ (fun _ _ _ => trivial)
    ·
     replace hr5 := eq_of_beq hr5
     refine v_ rfl (g_ (c_ (a_ (h_ r_ rfl rfl rfl o_) rfl (a_ (m_ 1 x_ rfl rfl rfl) rfl (a_ (h_ r_ rfl rfl rfl o_) rfl (W_ 0 o_ rfl rfl rfl rfl rfl rfl (d_ (b_ rfl (g_ ?_)))))))))
     refine c_ (a_ (h_ r_ rfl rfl rfl o_) rfl (a_ (m_ 1 x_ rfl rfl rfl) rfl (a_ (h_ r_ rfl rfl rfl o_) rfl (W_ 0 o_ rfl rfl rfl rfl rfl rfl (d_ (b_ rfl (g_ (c_ (a_ (h_ r_ rfl rfl rfl o_) rfl ?_)))))))))
     refine a_ (m_ 1 x_ rfl rfl rfl) rfl (a_ (h_ r_ rfl rfl rfl o_) rfl (W_ 0 o_ rfl rfl rfl rfl rfl rfl (d_ (b_ rfl (c_ (a_ (h_ r_ rfl rfl rfl o_) rfl (a_ (m_ 1 x_ rfl rfl rfl) rfl (X_ (dj_ _ (by omega)) rfl D_ (fun _ _ _ => by exact trivial) rfl fun r66 hr66 => ?_))))))))
     refine a_ (f_ rfl) rfl ?_
     refine aB_ 4 ((aR_ (Pc.a p)) && (aR_ (Pc.b p))) (fun r => [(1, zp_ b1 0), (2, .bool false), (3, zp_ b2 0), (4, .bool false), (55, .bool r)]) ?_ fun r67 hr67 => ?_
     ·
      cases r66
      ·
       have qr67 := hr66
       refine j_ rfl rfl rfl rfl (j_ rfl rfl rfl rfl (j_ rfl rfl rfl rfl (a_ (p_ rfl rfl) rfl (d_ (z_ rfl ?_)))))
       exact met ⟨rfl, rfl, rfl, rfl, (q_ rfl (jaf qr67)), trivial⟩
      ·
       have qr67 := hr66
       refine i_ rfl rfl (a_ (h_ r_ rfl rfl rfl o_) rfl (i_ rfl rfl (a_ (m_ 1 x_ rfl rfl rfl) rfl (i_ rfl rfl (X_ (dj_ _ (by omega)) rfl D_ (fun _ _ _ => by exact trivial) rfl fun r68 hr68 => ?_)))))
       refine a_ (A_ rfl rfl) rfl (d_ (z_ rfl ?_))
       exact met ⟨rfl, rfl, rfl, rfl, (q_ rfl (jat qr67 hr68)), trivial⟩
     ·
      refine a_ (f_ rfl) rfl ?_
      refine aB_ 4 ((((aR_ (Pc.a p)) && (aR_ (Pc.b p)))) && (aR_ (Pc.c p))) (fun r => [(1, zp_ b1 0), (2, .bool false), (3, zp_ b2 0), (4, .bool false), (60, .bool r)]) ?_ fun r69 hr69 => ?_
      ·
       cases r67
       ·
        have qr69 := hr67
        simp at hr67
        refine j_ rfl rfl rfl rfl (j_ rfl rfl rfl rfl (j_ rfl rfl rfl rfl (a_ (p_ rfl rfl) rfl (d_ (z_ rfl ?_)))))
        exact met ⟨rfl, rfl, rfl, rfl, (q_ rfl (jaf qr69)), trivial⟩
       ·
        have qr69 := hr67
        simp at hr67
        refine i_ rfl rfl (a_ (h_ r_ rfl rfl rfl o_) rfl (i_ rfl rfl (a_ (m_ 1 x_ rfl rfl rfl) rfl (i_ rfl rfl (X_ (dj_ _ (by omega)) rfl D_ (fun _ _ _ => by exact trivial) rfl fun r70 hr70 => ?_)))))
        refine a_ (A_ rfl rfl) rfl (d_ (z_ rfl ?_))
        exact met ⟨rfl, rfl, rfl, rfl, (q_ rfl (jat qr69 hr70)), trivial⟩
      ·
       refine a_ (e_ rfl) rfl (d_ (b_ rfl (g_ (c_ (a_ (f_ rfl) rfl (a_ (f_ rfl) rfl ?_))))))
       refine aB_ 4 ((((((aR_ (Pc.a p)) && (aR_ (Pc.b p)))) && (aR_ (Pc.c p)))) && (decide (p = (Pc.mk (Pc.kind p) (Pc.a p) (Pc.b p) (Pc.c p) [] [] [] 0 0 (Pc.frm p))))) (fun r => [(2, .bool false), (189, .bool r)]) ?_ fun r71 hr71 => ?_
       ·
        cases r69
        ·
         have qr71 := hr69
         simp at hr69
         refine j_ rfl rfl rfl rfl (j_ rfl rfl rfl rfl (j_ rfl rfl rfl rfl (a_ (p_ rfl rfl) rfl (d_ (z_ rfl ?_)))))
         exact met ⟨rfl, (q_ rfl (jaf qr71)), trivial⟩
        ·
         have qr71 := hr69
         simp at hr69
         refine i_ rfl rfl (a_ (M_ 1 bi_ Y_ rfl rfl rfl) rfl (i_ rfl rfl (a_ (M_ 0 bi_ Y_ rfl rfl rfl) rfl (i_ rfl rfl (C_ (ds_ (p := p) (q := (Pc.mk (Pc.kind p) (Pc.a p) (Pc.b p) (Pc.c p) [] [] [] 0 0 (Pc.frm p))) rfl rfl) rfl fun r72 hr72 => ?_)))))
         refine a_ (A_ rfl rfl) rfl (d_ (z_ rfl ?_))
         exact met ⟨rfl, (q_ rfl (jat qr71 hr72)), trivial⟩
       ·
        refine a_ (e_ rfl) rfl (d_ (b_ rfl (y_ ?_)))
        exact U_ cV_ () (q_ rfl (by rw [← hr71]; obtain ⟨kind, a, b, c, r, s, t, lo, hi, frm⟩ := p; dsimp only at *; subst kind; rw [Bool.eq_iff_iff, fp_ 2 ⟨true, true, true, false, false, false, false⟩ rfl (by omega)]; simp only [gP_, gQ_, Bool.and_eq_true, decide_eq_true_eq, Pc.mk.injEq, if_true, Bool.false_eq_true, if_false]; constructor <;> intro h <;> simp_all <;> omega)) D_ (fun _ _ _ => trivial)
   ·
    replace hr4 := eq_of_beq hr4
    refine v_ rfl (g_ (c_ (a_ (h_ r_ rfl rfl rfl o_) rfl (a_ (m_ 1 x_ rfl rfl rfl) rfl (a_ (h_ r_ rfl rfl rfl o_) rfl (W_ 0 o_ rfl rfl rfl rfl rfl rfl (d_ (b_ rfl (g_ ?_)))))))))
    refine c_ (a_ (h_ r_ rfl rfl rfl o_) rfl (a_ (m_ 1 x_ rfl rfl rfl) rfl (a_ (h_ r_ rfl rfl rfl o_) rfl (W_ 0 o_ rfl rfl rfl rfl rfl rfl (d_ (b_ rfl (c_ (a_ (h_ r_ rfl rfl rfl o_) rfl (a_ (m_ 1 x_ rfl rfl rfl) rfl ?_)))))))))
    refine X_ (dj_ _ (by omega)) rfl D_ (fun _ _ _ => by exact trivial) rfl fun r73 hr73 => ?_
    refine a_ (f_ rfl) rfl ?_
    refine aB_ 4 ((aR_ (Pc.a p)) && (aR_ (Pc.c p))) (fun r => [(1, zp_ b1 0), (2, .bool false), (3, zp_ b2 0), (4, .bool false), (36, .bool r)]) ?_ fun r74 hr74 => ?_
    ·
     cases r73
     ·
      have qr74 := hr73
      refine j_ rfl rfl rfl rfl (j_ rfl rfl rfl rfl (j_ rfl rfl rfl rfl (a_ (p_ rfl rfl) rfl (d_ (z_ rfl ?_)))))
      exact met ⟨rfl, rfl, rfl, rfl, (q_ rfl (jaf qr74)), trivial⟩
     ·
      have qr74 := hr73
      refine i_ rfl rfl (a_ (h_ r_ rfl rfl rfl o_) rfl (i_ rfl rfl (a_ (m_ 1 x_ rfl rfl rfl) rfl (i_ rfl rfl (X_ (dj_ _ (by omega)) rfl D_ (fun _ _ _ => by exact trivial) rfl fun r75 hr75 => ?_)))))
      refine a_ (A_ rfl rfl) rfl (d_ (z_ rfl ?_))
      exact met ⟨rfl, rfl, rfl, rfl, (q_ rfl (jat qr74 hr75)), trivial⟩
    ·
     refine a_ (e_ rfl) rfl (d_ (b_ rfl (g_ (c_ (a_ (f_ rfl) rfl (a_ (f_ rfl) rfl ?_))))))
     refine aB_ 4 ((((aR_ (Pc.a p)) && (aR_ (Pc.c p)))) && (decide (p = (Pc.mk (Pc.kind p) (Pc.a p) [] (Pc.c p) [] [] [] 0 0 (Pc.frm p))))) (fun r => [(2, .bool false), (189, .bool r)]) ?_ fun r76 hr76 => ?_
     ·
      cases r74
      ·
       have qr76 := hr74
       simp at hr74
       refine j_ rfl rfl rfl rfl (j_ rfl rfl rfl rfl (j_ rfl rfl rfl rfl (a_ (p_ rfl rfl) rfl (d_ (z_ rfl ?_)))))
       exact met ⟨rfl, (q_ rfl (jaf qr76)), trivial⟩
      ·
       have qr76 := hr74
       simp at hr74
       refine i_ rfl rfl (a_ (M_ 1 bi_ Y_ rfl rfl rfl) rfl (i_ rfl rfl (a_ (M_ 0 bi_ Y_ rfl rfl rfl) rfl (i_ rfl rfl (C_ (ds_ (p := p) (q := (Pc.mk (Pc.kind p) (Pc.a p) [] (Pc.c p) [] [] [] 0 0 (Pc.frm p))) rfl rfl) rfl fun r77 hr77 => ?_)))))
       refine a_ (A_ rfl rfl) rfl (d_ (z_ rfl ?_))
       exact met ⟨rfl, (q_ rfl (jat qr76 hr77)), trivial⟩
     ·
      refine a_ (e_ rfl) rfl (d_ (b_ rfl (y_ ?_)))
      exact U_ cV_ () (q_ rfl (by rw [← hr76]; obtain ⟨kind, a, b, c, r, s, t, lo, hi, frm⟩ := p; dsimp only at *; subst kind; rw [Bool.eq_iff_iff, fp_ 1 ⟨true, false, true, false, false, false, false⟩ rfl (by omega)]; simp only [gP_, gQ_, Bool.and_eq_true, decide_eq_true_eq, Pc.mk.injEq, if_true, Bool.false_eq_true, if_false]; constructor <;> intro h <;> simp_all <;> omega)) D_ (fun _ _ _ => trivial)
  ·
   simp at hr2
   refine v_ rfl (g_ (c_ (a_ (e_ rfl) rfl (d_ (b_ rfl (y_ ?_))))))
   exact U_ cV_ () (q_ rfl (by unfold Pc.valid; rw [if_pos (by omega)])) D_ (fun _ _ _ => trivial)
theorem nY_ (l : List Pc) (ad : Option Addr) (cap : Nat) (hl : l.length ≤ 17592186044414) (hsm : ∀ p ∈ l, p.sm) : Tri Tryz.prog 33 #[.slice ad (List.length l) cap] [] [aW_ ad (List.flatMap Pc.cells l)] (fun _ : Unit => .int .i64 (cp_ l)) (fun _ => []) (fun _ => []) := by
  refine V_ Tryz.func33 rfl rfl Tryz.ntmps33 rfl fun v0 => ?_
  refine g_ (c_ (a_ (e_ rfl) rfl (d_ (b_ rfl (g_ (g_ (c_ (a_ (f_ rfl) rfl (a_ (aC_ aG_ rfl) rfl ?_)))))))))
  refine C_ (bD_ rfl rfl) rfl fun r1 hr1 => ?_
  refine d_ (b_ rfl ?_)
  cases r1
  · skip
    replace hr1 := of_decide_eq_false hr1
    refine B_ rfl (J_ (b_ rfl (g_ (g_ (c_ (a_ (e_ rfl) rfl (d_ (b_ rfl (ae_ ?_)))))))))
    refine cq_ [(0, .slice ad (List.length l) cap), (3, .int .i64 ((0 : Nat) : Int))] ⟨rfl, rfl, trivial⟩ ?_
    refine cx_ (ι := {q : Nat // q ≤ l.length ∧ (l.take q).all Pc.valid = true}) (fun i => [(0, .slice ad (List.length l) cap), (3, .int .i64 (i.1 : Int))]) (fun _ => _) (fun _ => _) (fun i => l.length - i.1) ⟨0, by simp⟩ ?_
    rintro ⟨i, hk⟩
    refine cq_ [(0, .slice ad (List.length l) cap), (3, .int .i64 (i : Int))] ⟨rfl, rfl, trivial⟩ ?_
    refine g_ (g_ (c_ (a_ (f_ rfl) rfl (a_ (f_ rfl) rfl (a_ (aC_ aG_ rfl) rfl (C_ (as_ rfl rfl) rfl fun r2 hr2 => ?_))))))
    refine d_ (b_ rfl ?_)
    cases r2
    · skip
      replace hr2 := of_decide_eq_false hr2
      refine B_ rfl (bd_ rfl (b_ rfl (g_ (c_ (a_ (e_ rfl) rfl (d_ (b_ rfl (y_ ?_))))))))
      exact U_ Tryz.results33 () (ar_ rfl (by unfold cp_; rw [if_neg (by omega), if_pos (by have := hk.2; rwa [List.take_of_length_le (by omega)] at this)])) (.refl _) (fun _ _ _ => trivial)
    · skip
      replace hr2 := of_decide_eq_true hr2
      have hlx1 : i < List.length l := by omega
      obtain ⟨x1, hx1⟩ : ∃ e0, l[i]? = some e0 := ⟨_, List.getElem?_eq_getElem hlx1⟩
      have hmx1 : x1 ∈ l := List.mem_of_getElem? hx1
      refine v_ rfl (J_ (b_ rfl (g_ (ae_ (g_ (c_ (a_ (f_ rfl) rfl (a_ (f_ rfl) rfl (a_ (ag_ aG_ Y_ rfl rfl (fun v _ h => aH_ (n := 10) Pc.cells_len (by decide) (by exact h.1) hx1) (by omega) (by first | omega | (simp; done))) rfl ?_)))))))))
      refine a_ (aM_ (ad := ad) (us := Pc.cells x1) bi_ Y_ rfl (fun v _ h => by exact h.1) (Pc.cells_len _) (ak_ Pc.cells_len hx1)) rfl (X_ (nU_ x1 (hsm x1 hmx1)) rfl D_ (fun _ _ _ => by exact trivial) rfl fun r3 hr3 => ?_)
      refine a_ (bq_ rfl) rfl (d_ (b_ rfl ?_))
      cases r3
      · skip
        refine v_ rfl (g_ (c_ (a_ (e_ rfl) rfl (d_ (b_ rfl (y_ ?_))))))
        exact U_ Tryz.results33 () (ar_ rfl (by unfold cp_; rw [if_neg (by omega), if_neg (by rw [show l.all Pc.valid = false from List.all_eq_false.2 ⟨x1, hmx1, by simp [*]⟩]; simp)])) (.refl _) (fun _ _ _ => trivial)
      · skip
        refine B_ rfl (J_ (b_ rfl (c_ (a_ (f_ rfl) rfl (a_ (ac_ rfl rfl rfl (aE_ (by omega) (by omega))) rfl (a_ (e_ rfl) rfl (d_ (z_ rfl ?_))))))))
        exact aP_ ⟨i + 1, hlx1, by rw [List.take_add_one, hx1]; simp only [Option.toList_some, List.all_append, hk.2]; simp [*]⟩ (by simp; omega) ⟨rfl, rfl, trivial⟩ (.refl _) (fun _ _ h => h)
  · skip
    replace hr1 := of_decide_eq_true hr1
    refine v_ rfl (g_ (c_ (a_ (e_ rfl) rfl (d_ (b_ rfl (y_ ?_))))))
    exact U_ Tryz.results33 () (ar_ rfl (by unfold cp_; rw [if_pos (by omega)])) (.refl _) (fun _ _ _ => trivial)
end Go.Proofs.YtaffcjgphlhppaaGreatDoor
namespace Go.Vs
open Go Go.Sx
def aJ_ (a b : Str) : Fc := ⟨1, a, b, [], 0, 0⟩
def bw_ (a r b : Str) : Fc := ⟨2, a, b, r, 0, 0⟩
def ap_ (a r : Str) (lo hi : Int) : Fc := ⟨3, a, [], r, lo, hi⟩
inductive One (p : List Pc) (A : List Str) (S : Fc → Prop) (M : Fc → Fc → Prop) : Fc → Prop
  | r1 {a : Str} (h : a ∈ A) : One p A S M (aJ_ a a)
  | r2 {a : Str} (h : a ∈ A) : One p A S M (aJ_ a [42])
  | r10 {a : Str} {x : Pc} (hx : x ∈ p) (hk : x.kind = 7) (h : a ∈ A) : One p A S M (bw_ a x.r a)
  | r3 {a : Str} {x : Pc} (hx : x ∈ p) (hk : x.kind = 1) (h : S (aJ_ a x.a)) : One p A S M (aJ_ a x.c)
  | r4 {a : Str} {x : Pc} (hx : x ∈ p) (hk : x.kind = 2) (h : S (aJ_ a x.a)) (h' : S (aJ_ a x.b)) : One p A S M (aJ_ a x.c)
  | r5 {a : Str} {x : Pc} (hx : x ∈ p) (hk : x.kind = 3) (h : S (aJ_ a x.a)) : One p A S M (bw_ a x.r x.c)
  | r6 {a b : Str} {x : Pc} (hx : x ∈ p) (hk : x.kind = 5) (h : S (bw_ a x.r b)) : One p A S M (bw_ a x.t b)
  | r7 {a b c : Str} {x : Pc} (hx : x ∈ p) (hk : x.kind = 6) (h : S (bw_ a x.r b)) (h' : S (bw_ b x.s c)) : One p A S M (bw_ a x.t c)
  | r8 {a b : Str} {x : Pc} (hx : x ∈ p) (hk : x.kind = 4) (h : S (bw_ a x.r b)) (h' : S (aJ_ b x.a)) : One p A S M (aJ_ a x.c)
  | r9 {a r b : Str} (h : S (bw_ a r b)) (h' : S (aJ_ b [33])) : One p A S M (aJ_ a [33])
  | r11 {a : Str} {x : Pc} (hx : x ∈ p) (hk : x.kind = 8) (h : S (aJ_ a x.a)) : One p A S M (ap_ a x.r x.lo x.hi)
  | r12 {a r : Str} {lo hi lo' hi' : Int} (h : S (ap_ a r lo hi)) (h' : S (ap_ a r lo' hi')) (hm : M (ap_ a r lo hi) (ap_ a r lo' hi')) (hl : max lo lo' ≤ min hi hi') : One p A S M (ap_ a r (max lo lo') (min hi hi'))
  | r13 {a r : Str} {lo hi lo' hi' : Int} (h : S (ap_ a r lo hi)) (h' : S (ap_ a r lo' hi')) (hm : M (ap_ a r lo hi) (ap_ a r lo' hi')) (hl : min hi hi' < max lo lo') : One p A S M (aJ_ a [33])
  | r14 {a : Str} {lo hi : Int} {x : Pc} (hx : x ∈ p) (hk : x.kind = 9) (h : S (ap_ a x.r lo hi)) (h1 : x.lo ≤ lo) (h2 : hi ≤ x.hi) : One p A S M (aJ_ a x.c)
abbrev pV_ (p : List Pc) (A : List Str) (S : Fc → Prop) : Fc → Prop := One p A S (fun _ _ => True)
theorem One.mono {p p' : List Pc} {A A' : List Str} {S S' : Fc → Prop} {M M' : Fc → Fc → Prop} (hp : ∀ x ∈ p, ∃ y ∈ p', ∃ n, { y with frm := n } = x) (hA : ∀ a ∈ A, a ∈ A') (hS : ∀ y, S y → S' y) (hM : ∀ x y, M x y → M' x y) {y : Fc} (h : One p A S M y) : One p' A' S' M' y := by
  cases h with
  | r1 h => exact .r1 (hA _ h)
  | r2 h => exact .r2 (hA _ h)
  | r10 hx hk h => obtain ⟨z, hz, n, rfl⟩ := hp _ hx; exact One.r10 (x := z) hz hk (hA _ h)
  | r3 hx hk h => obtain ⟨z, hz, n, rfl⟩ := hp _ hx; exact One.r3 (x := z) hz hk (hS _ h)
  | r4 hx hk h h' => obtain ⟨z, hz, n, rfl⟩ := hp _ hx; exact One.r4 (x := z) hz hk (hS _ h) (hS _ h')
  | r5 hx hk h => obtain ⟨z, hz, n, rfl⟩ := hp _ hx; exact One.r5 (x := z) hz hk (hS _ h)
  | r6 hx hk h => obtain ⟨z, hz, n, rfl⟩ := hp _ hx; exact One.r6 (x := z) hz hk (hS _ h)
  | r7 hx hk h h' => obtain ⟨z, hz, n, rfl⟩ := hp _ hx; exact One.r7 (x := z) hz hk (hS _ h) (hS _ h')
  | r8 hx hk h h' => obtain ⟨z, hz, n, rfl⟩ := hp _ hx; exact One.r8 (x := z) hz hk (hS _ h) (hS _ h')
  | r9 h h' => exact .r9 (hS _ h) (hS _ h')
  | r11 hx hk h => obtain ⟨z, hz, n, rfl⟩ := hp _ hx; exact One.r11 (x := z) hz hk (hS _ h)
  | r12 h h' hm hl => exact .r12 (hS _ h) (hS _ h') (hM _ _ hm) hl
  | r13 h h' hm hl => exact .r13 (hS _ h) (hS _ h') (hM _ _ hm) hl
  | r14 hx hk h h1 h2 => obtain ⟨z, hz, n, rfl⟩ := hp _ hx; exact One.r14 (x := z) hz hk (hS _ h) h1 h2
def Der (p : List Pc) (A : List Str) (y : Fc) : Prop := ∀ T : Fc → Prop, (∀ y, pV_ p A T y → T y) → T y
theorem Der.step {p : List Pc} {A : List Str} {y : Fc} (h : pV_ p A (Der p A) y) : Der p A y :=
  fun T hT => hT y (h.mono (fun x hx => ⟨x, hx, x.frm, rfl⟩) (fun _ h => h) (fun z hz => hz T hT) (fun _ _ h => h))
theorem Der.mono {p p' : List Pc} {A A' : List Str} (hp : ∀ x ∈ p, ∃ y ∈ p', ∃ n, { y with frm := n } = x) (hA : ∀ a ∈ A, a ∈ A') {y : Fc} (h : Der p A y) : Der p' A' y :=
  h _ fun _ hz => Der.step (hz.mono hp hA (fun _ h => h) (fun _ _ h => h))
theorem Der.least {p : List Pc} {A : List Str} {T : Fc → Prop} (hT : ∀ y, pV_ p A T y → T y) {y : Fc} (h : Der p A y) : T y := h T hT
structure Ky where
  kind : Int
  role : Str
  atom : Str
deriving DecidableEq
abbrev ln_ := Str × Str
def lat {K D : Type} [DecidableEq K] (l : List (K × D)) (k : K) : List D := (l.filter fun e => decide (e.1 = k)).map (·.2)
theorem gI_ {K D : Type} [DecidableEq K] {l : List (K × D)} {k : K} {d : D} : d ∈ lat l k ↔ (k, d) ∈ l := by
  unfold lat
  simp only [List.mem_map, List.mem_filter, decide_eq_true_eq]
  exact ⟨fun ⟨⟨a, b⟩, ⟨h1, h2⟩, h3⟩ => by subst h2; subst h3; exact h1, fun h => ⟨(k, d), ⟨h, rfl⟩, rfl⟩⟩
theorem lD_ {K D : Type} [DecidableEq K] (l m : List (K × D)) (k : K) : lat (l ++ m) k = lat l k ++ lat m k := by simp [lat]
def putL (x : Pc) : List (Ky × Pc) :=
  if x.kind = 1 ∨ x.kind = 3 ∨ x.kind = 8 then [(⟨x.kind, [], x.a⟩, x)]
  else if x.kind = 2 then if x.b ≠ x.a then [(⟨x.kind, [], x.a⟩, x), (⟨x.kind, [], x.b⟩, x)] else [(⟨x.kind, [], x.a⟩, x)]
  else if x.kind = 4 then [(⟨x.kind, [], x.a⟩, x), (⟨x.kind, x.r, x.a⟩, x)]
  else if x.kind = 5 ∨ x.kind = 9 then [(⟨x.kind, x.r, []⟩, x)]
  else if x.kind = 6 then [(⟨x.kind, x.r, []⟩, x), (⟨x.kind, [], x.s⟩, x)]
  else []
def Pc.zf (x : Pc) : Pc := { x with frm := 0 }
def pmOf (ps : List Pc) : List (Ky × Pc) := ps.flatMap putL
def mq_ (ps : List Pc) : List Str := (ps.filter fun x => decide (x.kind = 7)).map (·.r)
structure Ix where
  above : List (Str × Str)
  under : List (Str × Str)
  frm : List (ln_ × Str)
  into : List (ln_ × Str)
  ranges : List (ln_ × Fc)
  firms : List (ln_ × Fc)
def Ix.nil : Ix := ⟨[], [], [], [], [], []⟩
def Ix.add (x : Ix) (firm : Bool) (f : Fc) : Ix :=
  if f.kind = 1 then { x with above := x.above ++ [(f.a, f.b)] }
  else if f.kind = 2 then { x with under := x.under ++ [(f.b, f.a)], frm := x.frm ++ [((f.a, f.r), f.b)], into := x.into ++ [((f.b, f.r), f.a)] }
  else if f.kind = 3 then { x with ranges := x.ranges ++ [((f.a, f.r), f)], firms := if firm then x.firms ++ [((f.a, f.r), f)] else x.firms }
  else x
section
variable (pm : List (Ky × Pc)) (x : Ix) (f : Fc)
def qe_ (y : Fc) : Fc := ap_ f.a f.r (max f.lo y.lo) (min f.hi y.hi)
end
section
variable (stp : Fc → List Fc → List Fc) (kof : List Fc → List Fc)
end
structure Grows (stp : Fc → List Fc → List Fc) (kof : List Fc → List Fc) : Prop where
  up : ∀ y s z, z ∈ kof s → z ∈ kof (stp y s)
section
variable {ps : List Pc} {A : List Str} {x : Ix} {S Fm : Fc → Prop} {f : Fc} {kn : List Fc}
end
section
variable (stp : Fc → List Fc → List Fc) (kof : List Fc → List Fc) (pm : List (Ky × Pc)) (x : Ix) (f : Fc)
end
structure Cmpl (ps : List Pc) (S Fm kn good : Fc → Prop) (f : Fc) : Prop where
  c3 : ∀ z a, z ∈ ps → z.kind = 1 → f = aJ_ a z.a → good (aJ_ a z.c)
  c4 : ∀ z a, z ∈ ps → z.kind = 2 → f = aJ_ a z.a → kn (aJ_ a z.b) → good (aJ_ a z.c)
  c4' : ∀ z a, z ∈ ps → z.kind = 2 → f = aJ_ a z.b → kn (aJ_ a z.a) → good (aJ_ a z.c)
  c5 : ∀ z a, z ∈ ps → z.kind = 3 → f = aJ_ a z.a → good (bw_ a z.r z.c)
  c6 : ∀ z a b, z ∈ ps → z.kind = 5 → f = bw_ a z.r b → good (bw_ a z.t b)
  c7 : ∀ z a b c, z ∈ ps → z.kind = 6 → f = bw_ a z.r b → S (bw_ b z.s c) → good (bw_ a z.t c)
  c7' : ∀ z a b c, z ∈ ps → z.kind = 6 → f = bw_ b z.s c → S (bw_ a z.r b) → good (bw_ a z.t c)
  c8 : ∀ z a b, z ∈ ps → z.kind = 4 → f = bw_ a z.r b → S (aJ_ b z.a) → good (aJ_ a z.c)
  c8' : ∀ z a b, z ∈ ps → z.kind = 4 → f = aJ_ b z.a → S (bw_ a z.r b) → good (aJ_ a z.c)
  c9 : ∀ a r b, f = bw_ a r b → kn (aJ_ b [33]) → good (aJ_ a [33])
  c9' : ∀ a r b, f = aJ_ b [33] → S (bw_ a r b) → good (aJ_ a [33])
  c11 : ∀ z a, z ∈ ps → z.kind = 8 → f = aJ_ a z.a → good (ap_ a z.r z.lo z.hi)
  c12 : ∀ y, f.kind = 3 → S y → y.kind = 3 → y.a = f.a → y.r = f.r → (Fm f ∨ Fm y) → max f.lo y.lo ≤ min f.hi y.hi → good (qe_ f y)
  c13 : ∀ y, f.kind = 3 → S y → y.kind = 3 → y.a = f.a → y.r = f.r → (Fm f ∨ Fm y) → min f.hi y.hi < max f.lo y.lo → good (aJ_ f.a [33])
  c14 : ∀ z a lo hi, z ∈ ps → z.kind = 9 → f = ap_ a z.r lo hi → z.lo ≤ lo → hi ≤ z.hi → good (aJ_ a z.c)
section
variable {stp : Fc → List Fc → List Fc} {kof : List Fc → List Fc} {ps : List Pc} {A : List Str} {x : Ix} {S Fm : Fc → Prop} {f : Fc}
end
end Go.Vs
namespace Go.Vs
open Go Go.Sx
section
variable {ps : List Pc} {A : List Str} {m : Nat} {x : Ix} {S Fm : Fc → Prop} {f : Fc}
end
inductive Fmd (fm : List Fc) : Fc → Prop
  | base {y : Fc} (h : y ∈ fm) : Fmd fm y
  | meet {y z : Fc} (hy : Fmd fm y) (hz : Fmd fm z) (ha : z.a = y.a) (hr : z.r = y.r) (hl : max y.lo z.lo ≤ min y.hi z.hi) : Fmd fm (qe_ y z)
theorem Fmd.mono {fm fm' : List Fc} (h : ∀ y ∈ fm, y ∈ fm') {y : Fc} (hy : Fmd fm y) : Fmd fm' y := by
  induction hy with
  | base h1 => exact .base (h _ h1)
  | meet _ _ ha hr hl ih1 ih2 => exact .meet ih1 ih2 ha hr hl
section
variable {ps : List Pc} {A : List Str} {m n : Nat} {q fm : List Fc} {x : Ix} {f : Fc}
end
section
variable {ps : List Pc} {A : List Str} {m n : Nat} {q fm : List Fc} {x : Ix} {f : Fc}
end
def Fc.lt (x y : Fc) : Prop := x.kind < y.kind ∨ x.kind = y.kind ∧ (x.a < y.a ∨ x.a = y.a ∧ (x.b < y.b ∨ x.b = y.b ∧ (x.r < y.r ∨ x.r = y.r ∧ (x.lo < y.lo ∨ x.lo = y.lo ∧ x.hi < y.hi))))
instance (x y : Fc) : Decidable (Fc.lt x y) := by unfold Fc.lt; exact inferInstance
theorem oZ_ (x : Str) : ¬ x < x := List.lt_irrefl x
theorem Fc.lt_irr (x : Fc) : ¬ x.lt x := by
  unfold Fc.lt
  simp [oZ_]
theorem fc_ {α : Type} {lt : α → α → Prop} (ht : ∀ {x y z}, lt x y → lt y z → lt x z) {x y z : α} {P Q R : Prop} (hr : x = y → y = z → P → Q → R) (h1 : lt x y ∨ x = y ∧ P) (h2 : lt y z ∨ y = z ∧ Q) : lt x z ∨ x = z ∧ R := by
  rcases h1 with h1 | ⟨rfl, h1⟩
  · rcases h2 with h2 | ⟨rfl, h2⟩
    · exact .inl (ht h1 h2)
    · exact .inl h1
  · rcases h2 with h2 | ⟨rfl, h2⟩
    · exact .inl h2
    · exact .inr ⟨rfl, hr rfl rfl h1 h2⟩
theorem Fc.lt_trans {x y z : Fc} (h1 : x.lt y) (h2 : y.lt z) : x.lt z :=
  fc_ (lt := fun a b : Int => a < b) Int.lt_trans (fun _ _ => fc_ (lt := fun a b : Str => a < b) List.lt_trans (fun _ _ => fc_ (lt := fun a b : Str => a < b) List.lt_trans (fun _ _ => fc_ (lt := fun a b : Str => a < b) List.lt_trans (fun _ _ => fc_ (lt := fun a b : Int => a < b) Int.lt_trans fun _ _ => Int.lt_trans)))) h1 h2
theorem hS_ {α : Type} {lt : α → α → Prop} (hi : ∀ x, ¬ lt x x) (ht : ∀ {x y z}, lt x y → lt y z → lt x z) : ∀ {l m : List α}, l.Pairwise lt → m.Pairwise lt → (∀ x, x ∈ l ↔ x ∈ m) → l = m
  | [], [], _, _, _ => rfl
  | [], y :: m, _, _, h => by have := (h y).2 (by simp); simp at this
  | x :: l, [], _, _, h => by have := (h x).1 (by simp); simp at this
  | x :: l, y :: m, h1, h2, h => by
    rw [List.pairwise_cons] at h1 h2
    have e : x = y := by
      rcases List.mem_cons.1 ((h x).1 (by simp)) with e | hx
      · exact e
      · rcases List.mem_cons.1 ((h y).2 (by simp)) with e | hy
        · exact e.symm
        · exact absurd (ht (h1.1 y hy) (h2.1 x hx)) (hi x)
    subst e
    congr 1
    refine hS_ hi ht h1.2 h2.2 fun z => ⟨fun hz => ?_, fun hz => ?_⟩
    · rcases List.mem_cons.1 ((h z).1 (by simp [hz])) with rfl | q
      · exact absurd (h1.1 z hz) (hi z)
      · exact q
    · rcases List.mem_cons.1 ((h z).2 (by simp [hz])) with rfl | q
      · exact absurd (h2.1 z hz) (hi z)
      · exact q
abbrev Srt (l : List Fc) : Prop := l.Pairwise Fc.lt
theorem Srt.ext {l m : List Fc} (h1 : Srt l) (h2 : Srt m) (h : ∀ x, x ∈ l ↔ x ∈ m) : l = m := hS_ Fc.lt_irr Fc.lt_trans h1 h2 h
theorem Srt.nodup {l : List Fc} (h : Srt l) : l.Nodup := by
  unfold List.Nodup
  refine List.Pairwise.imp ?_ h
  intro a b hab e
  exact Fc.lt_irr b (e ▸ hab)
theorem kG_ {α : Type} [DecidableEq α] : ∀ {l m : List α}, l.Nodup → (∀ x ∈ l, x ∈ m) → l.length ≤ m.length
  | [], m, _, _ => by simp
  | x :: l, m, h, hs => by
    rw [List.nodup_cons] at h
    have := kG_ (l := l) (m := m.erase x) h.2 fun y hy => by
      have hne : y ≠ x := fun e => h.1 (e ▸ hy)
      exact (List.mem_erase_of_ne hne).2 (hs y (by simp [hy]))
    have hx := hs x (by simp)
    rw [List.length_erase_of_mem hx] at this
    have : 0 < m.length := List.length_pos_of_mem hx
    simp only [List.length_cons]
    omega
end Go.Vs
namespace Go.Vs
open Go Go.Sx
section
variable {ps : List Pc} {A : List Str} {c : List Fc} {x : Ix} {f : Fc}
theorem Cmpl.up {S Fm kn good good' : Fc → Prop} (h : Cmpl ps S Fm kn good f) (hg : ∀ y, good y → good' y) : Cmpl ps S Fm kn good' f :=
  ⟨fun z a h1 h2 h3 => hg _ (h.c3 z a h1 h2 h3), fun z a h1 h2 h3 h4 => hg _ (h.c4 z a h1 h2 h3 h4), fun z a h1 h2 h3 h4 => hg _ (h.c4' z a h1 h2 h3 h4), fun z a h1 h2 h3 => hg _ (h.c5 z a h1 h2 h3), fun z a b h1 h2 h3 => hg _ (h.c6 z a b h1 h2 h3),
   fun z a b c h1 h2 h3 h4 => hg _ (h.c7 z a b c h1 h2 h3 h4), fun z a b c h1 h2 h3 h4 => hg _ (h.c7' z a b c h1 h2 h3 h4), fun z a b h1 h2 h3 h4 => hg _ (h.c8 z a b h1 h2 h3 h4), fun z a b h1 h2 h3 h4 => hg _ (h.c8' z a b h1 h2 h3 h4), fun a r b h1 h2 => hg _ (h.c9 a r b h1 h2), fun a r b h1 h2 => hg _ (h.c9' a r b h1 h2),
   fun z a h1 h2 h3 => hg _ (h.c11 z a h1 h2 h3), fun y h1 h2 h3 h4 h5 h6 h7 => hg _ (h.c12 y h1 h2 h3 h4 h5 h6 h7), fun y h1 h2 h3 h4 h5 h6 h7 => hg _ (h.c13 y h1 h2 h3 h4 h5 h6 h7), fun z a lo hi h1 h2 h3 h4 h5 => hg _ (h.c14 z a lo hi h1 h2 h3 h4 h5)⟩
end
section
variable {p : List Pc} {A : List Str} {l : List Fc} {f : Fc}
end
end Go.Vs
namespace Go.Vs
open Go Go.Sx
structure Stp where
  rule : Int
  fact : Fc
  piece : Int
  ad : Option Addr
  cap : Nat
  frm : List Int
def Stp.cells (s : Stp) : List Value := [.int .i64 s.rule, .int .i64 s.fact.kind, str s.fact.a, str s.fact.b, str s.fact.r, .int .i64 s.fact.lo, .int .i64 s.fact.hi, .int .i64 s.piece, .slice s.ad s.frm.length s.cap]
theorem Stp.cells_len (s : Stp) : s.cells.length = 9 := rfl
def Stp.val (s : Stp) : Value := .agg s.cells.toArray
theorem Stp.fact_cells (s : Stp) (j : Nat) (y : Value) (h : (Fc.cells s.fact)[j]? = some y) : s.cells[1 + j]? = some y := by
  match j, h with
  | 0, h => exact h
  | 1, h => exact h
  | 2, h => exact h
  | 3, h => exact h
  | 4, h => exact h
  | 5, h => exact h
  | n + 6, h => simp [Fc.cells] at h
def da_ (l : List Stp) : Fct where
  p v := ∀ s ∈ l, bX_ v s.ad (s.frm.flatMap df_)
  mono v v' h hp s hs := (aW_ s.ad (s.frm.flatMap df_)).mono v v' h (hp s hs)
theorem cQ_ {l : List Stp} {s : Stp} {v : Vw} (h : (da_ l).p v) (hs : bX_ v s.ad (s.frm.flatMap df_)) : (da_ (l ++ [s])).p v := fun x hx => by
  rcases List.mem_append.1 hx with hx | hx
  · exact h x hx
  · rw [List.mem_singleton] at hx; subst hx; exact hs
theorem fW_ {v : Vw} : (da_ []).p v := fun x hx => by simp at hx
def fcs (l : List Stp) : List Fc := l.map (·.fact)
theorem gq_ (l m : List Stp) : fcs (l ++ m) = fcs l ++ fcs m := by simp [fcs]
theorem cP_ (l : List Stp) : (fcs l).length = l.length := by simp [fcs]
def At (l : List Stp) (m : Nat) (f : Fc) : Prop := ∃ s, l[m]? = some s ∧ s.fact = f
theorem At.lt {l : List Stp} {m : Nat} {f : Fc} (h : At l m f) : m < l.length := by
  obtain ⟨s, h, _⟩ := h; exact (List.getElem?_eq_some_iff.1 h).1
theorem At.mem {l : List Stp} {m : Nat} {f : Fc} (h : At l m f) : f ∈ fcs l := by
  obtain ⟨s, h, rfl⟩ := h; exact List.mem_map_of_mem (List.mem_of_getElem? h)
theorem At.pre {l l' : List Stp} {m : Nat} {f : Fc} (h : At l m f) (hp : l <+: l') : At l' m f := by
  obtain ⟨t, rfl⟩ := hp; obtain ⟨s, h, e⟩ := h
  exact ⟨s, by rw [List.getElem?_append_left (List.getElem?_eq_some_iff.1 h).1]; exact h, e⟩
theorem At.take {l : List Stp} {m n : Nat} {f : Fc} (h : At l m f) (hn : m < n) : At (l.take n) m f := by
  obtain ⟨s, h, e⟩ := h; exact ⟨s, by rw [List.getElem?_take_of_lt hn]; exact h, e⟩
inductive Cor (p : List Pc) (A : List Str) (l : List Stp) : Int → Fc → Int → List Int → Prop
  | r1 {a : Str} (h : a ∈ A) : Cor p A l 1 (aJ_ a a) (-1) []
  | r2 {a : Str} (h : a ∈ A) : Cor p A l 2 (aJ_ a [42]) (-1) []
  | r10 {a : Str} {x : Pc} {i : Nat} (hx : p[i]? = some x) (hk : x.kind = 7) (h : a ∈ A) : Cor p A l 10 (bw_ a x.r a) i []
  | r3 {a : Str} {x : Pc} {i m : Nat} (hx : p[i]? = some x) (hk : x.kind = 1) (h : At l m (aJ_ a x.a)) : Cor p A l 3 (aJ_ a x.c) i [(m : Int)]
  | r4 {a : Str} {x : Pc} {i m k : Nat} (hx : p[i]? = some x) (hk : x.kind = 2) (h : At l m (aJ_ a x.a)) (h' : At l k (aJ_ a x.b)) : Cor p A l 4 (aJ_ a x.c) i [(m : Int), (k : Int)]
  | r5 {a : Str} {x : Pc} {i m : Nat} (hx : p[i]? = some x) (hk : x.kind = 3) (h : At l m (aJ_ a x.a)) : Cor p A l 5 (bw_ a x.r x.c) i [(m : Int)]
  | r6 {a b : Str} {x : Pc} {i m : Nat} (hx : p[i]? = some x) (hk : x.kind = 5) (h : At l m (bw_ a x.r b)) : Cor p A l 6 (bw_ a x.t b) i [(m : Int)]
  | r7 {a b c : Str} {x : Pc} {i m k : Nat} (hx : p[i]? = some x) (hk : x.kind = 6) (h : At l m (bw_ a x.r b)) (h' : At l k (bw_ b x.s c)) : Cor p A l 7 (bw_ a x.t c) i [(m : Int), (k : Int)]
  | r8 {a b : Str} {x : Pc} {i m k : Nat} (hx : p[i]? = some x) (hk : x.kind = 4) (h : At l m (bw_ a x.r b)) (h' : At l k (aJ_ b x.a)) : Cor p A l 8 (aJ_ a x.c) i [(m : Int), (k : Int)]
  | r9 {a r b : Str} {m k : Nat} (h : At l m (bw_ a r b)) (h' : At l k (aJ_ b [33])) : Cor p A l 9 (aJ_ a [33]) (-1) [(m : Int), (k : Int)]
  | r11 {a : Str} {x : Pc} {i m : Nat} (hx : p[i]? = some x) (hk : x.kind = 8) (h : At l m (aJ_ a x.a)) : Cor p A l 11 (ap_ a x.r x.lo x.hi) i [(m : Int)]
  | r12 {a r : Str} {lo hi lo' hi' : Int} {m k : Nat} (h : At l m (ap_ a r lo hi)) (h' : At l k (ap_ a r lo' hi')) (hl : max lo lo' ≤ min hi hi') : Cor p A l 12 (ap_ a r (max lo lo') (min hi hi')) (-1) [(m : Int), (k : Int)]
  | r13 {a r : Str} {lo hi lo' hi' : Int} {m k : Nat} (h : At l m (ap_ a r lo hi)) (h' : At l k (ap_ a r lo' hi')) (hl : min hi hi' < max lo lo') : Cor p A l 13 (aJ_ a [33]) (-1) [(m : Int), (k : Int)]
  | r14 {a : Str} {lo hi : Int} {x : Pc} {i m : Nat} (hx : p[i]? = some x) (hk : x.kind = 9) (h : At l m (ap_ a x.r lo hi)) (h1 : x.lo ≤ lo) (h2 : hi ≤ x.hi) : Cor p A l 14 (aJ_ a x.c) i [(m : Int)]
  | r15 {f : Fc} {m : Nat} (h : At l m (aJ_ f.a [33])) : Cor p A l 15 f (-1) [(m : Int)]
  | r16 {a r : Str} {lo hi lo' hi' : Int} {m : Nat} (h : At l m (ap_ a r lo hi)) (h1 : lo' ≤ lo) (h2 : hi ≤ hi') : Cor p A l 16 (ap_ a r lo' hi') (-1) [(m : Int)]
theorem Cor.map {p p' : List Pc} {A A' : List Str} {l l' : List Stp} {g : Int → Int} (hg : ∀ (m : Nat) f, At l m f → ∃ k : Nat, g (m : Int) = k ∧ At l' k f) (hA : ∀ a ∈ A, a ∈ A') (hp : ∀ (i : Nat) x, p[i]? = some x → p'[i]? = some x)
    {r : Int} {f : Fc} {i : Int} {fr : List Int} (h : Cor p A l r f i fr) : Cor p' A' l' r f i (fr.map g) := by
  cases h with
  | r1 h => exact .r1 (hA _ h)
  | r2 h => exact .r2 (hA _ h)
  | r10 hx hk h => exact .r10 (hp _ _ hx) hk (hA _ h)
  | r3 hx hk h => obtain ⟨k, e, h⟩ := hg _ _ h; rw [List.map_cons, e]; exact .r3 (hp _ _ hx) hk h
  | r4 hx hk h h' => obtain ⟨k, e, h⟩ := hg _ _ h; obtain ⟨k', e', h'⟩ := hg _ _ h'; rw [List.map_cons, List.map_cons, e, e']; exact .r4 (hp _ _ hx) hk h h'
  | r5 hx hk h => obtain ⟨k, e, h⟩ := hg _ _ h; rw [List.map_cons, e]; exact .r5 (hp _ _ hx) hk h
  | r6 hx hk h => obtain ⟨k, e, h⟩ := hg _ _ h; rw [List.map_cons, e]; exact .r6 (hp _ _ hx) hk h
  | r7 hx hk h h' => obtain ⟨k, e, h⟩ := hg _ _ h; obtain ⟨k', e', h'⟩ := hg _ _ h'; rw [List.map_cons, List.map_cons, e, e']; exact .r7 (hp _ _ hx) hk h h'
  | r8 hx hk h h' => obtain ⟨k, e, h⟩ := hg _ _ h; obtain ⟨k', e', h'⟩ := hg _ _ h'; rw [List.map_cons, List.map_cons, e, e']; exact .r8 (hp _ _ hx) hk h h'
  | r9 h h' => obtain ⟨k, e, h⟩ := hg _ _ h; obtain ⟨k', e', h'⟩ := hg _ _ h'; rw [List.map_cons, List.map_cons, e, e']; exact .r9 h h'
  | r11 hx hk h => obtain ⟨k, e, h⟩ := hg _ _ h; rw [List.map_cons, e]; exact .r11 (hp _ _ hx) hk h
  | r12 h h' hl => obtain ⟨k, e, h⟩ := hg _ _ h; obtain ⟨k', e', h'⟩ := hg _ _ h'; rw [List.map_cons, List.map_cons, e, e']; exact .r12 h h' hl
  | r13 h h' hl => obtain ⟨k, e, h⟩ := hg _ _ h; obtain ⟨k', e', h'⟩ := hg _ _ h'; rw [List.map_cons, List.map_cons, e, e']; exact .r13 h h' hl
  | r14 hx hk h h1 h2 => obtain ⟨k, e, h⟩ := hg _ _ h; rw [List.map_cons, e]; exact .r14 (hp _ _ hx) hk h h1 h2
  | r15 h => obtain ⟨k, e, h⟩ := hg _ _ h; rw [List.map_cons, e]; exact .r15 h
  | r16 h h1 h2 => obtain ⟨k, e, h⟩ := hg _ _ h; rw [List.map_cons, e]; exact .r16 h h1 h2
theorem Cor.pre {p : List Pc} {A : List Str} {l l' : List Stp} (hl : l <+: l') {r : Int} {f : Fc} {i : Int} {fr : List Int} (h : Cor p A l r f i fr) : Cor p A l' r f i fr := by
  have := h.map (l' := l') (g := id) (fun m f hm => ⟨m, rfl, hm.pre hl⟩) (fun _ h => h) (fun _ _ h => h)
  rwa [List.map_id] at this
theorem Cor.one {p : List Pc} {A : List Str} {l : List Stp} {r : Int} {f : Fc} {i : Int} {fr : List Int} (h : Cor p A l r f i fr) (hr : r ≤ 14) : pV_ p A (· ∈ fcs l) f := by
  cases h with
  | r1 h => exact .r1 h
  | r2 h => exact .r2 h
  | r10 hx hk h => exact .r10 (List.mem_of_getElem? hx) hk h
  | r3 hx hk h => exact .r3 (List.mem_of_getElem? hx) hk h.mem
  | r4 hx hk h h' => exact .r4 (List.mem_of_getElem? hx) hk h.mem h'.mem
  | r5 hx hk h => exact .r5 (List.mem_of_getElem? hx) hk h.mem
  | r6 hx hk h => exact .r6 (List.mem_of_getElem? hx) hk h.mem
  | r7 hx hk h h' => exact .r7 (List.mem_of_getElem? hx) hk h.mem h'.mem
  | r8 hx hk h h' => exact .r8 (List.mem_of_getElem? hx) hk h.mem h'.mem
  | r9 h h' => exact .r9 h.mem h'.mem
  | r11 hx hk h => exact .r11 (List.mem_of_getElem? hx) hk h.mem
  | r12 h h' hl => exact .r12 h.mem h'.mem trivial hl
  | r13 h h' hl => exact .r13 h.mem h'.mem trivial hl
  | r14 hx hk h h1 h2 => exact .r14 (List.mem_of_getElem? hx) hk h.mem h1 h2
  | r15 h => omega
  | r16 h h1 h2 => omega
structure Eng (p : List Pc) (A : List Str) (l : List Stp) : Prop where
  nd : (fcs l).Nodup
  cor : ∀ (n : Nat) s, l[n]? = some s → Cor p A (l.take n) s.rule s.fact s.piece s.frm ∧ s.rule ≤ 14
theorem Eng.nil (p : List Pc) (A : List Str) : Eng p A [] := ⟨by simp [fcs], fun n s h => by simp at h⟩
def addL (l : List Stp) (s : Stp) : List Stp := if s.fact ∈ fcs l then l else l ++ [s]
theorem Eng.add {p : List Pc} {A : List Str} {l : List Stp} (h : Eng p A l) {s : Stp} (hs : Cor p A l s.rule s.fact s.piece s.frm) (hr : s.rule ≤ 14) : Eng p A (addL l s) := by
  unfold addL; split
  · exact h
  · rename_i hn
    refine ⟨?_, fun n t ht => ?_⟩
    · rw [gq_, List.nodup_append]
      exact ⟨h.nd, by simp [fcs], fun a ha b hb e => by simp [fcs] at hb; subst hb; subst e; exact hn ha⟩
    · by_cases hl : n < l.length
      · rw [List.getElem?_append_left hl] at ht
        rw [List.take_append_of_le_length (by omega)]
        exact h.cor n t ht
      · have e : n = l.length := by have := (List.getElem?_eq_some_iff.1 ht).1; simp at this; omega
        subst e
        rw [List.getElem?_append_right (by omega)] at ht
        simp at ht
        subst ht
        rw [List.take_left]
        exact ⟨hs, hr⟩
theorem Eng.der {p : List Pc} {A : List Str} {l : List Stp} (h : Eng p A l) : ∀ f ∈ fcs l, Der p A f := by
  have key : ∀ k, ∀ f ∈ fcs (l.take k), Der p A f := by
    intro k
    induction k with
    | zero => intro f hf; simp [fcs] at hf
    | succ k ih =>
      intro f hf
      rw [List.take_add_one, gq_, List.mem_append] at hf
      rcases hf with hf | hf
      · exact ih f hf
      · cases hk : l[k]? with
        | none => rw [hk] at hf; simp [fcs] at hf
        | some s =>
          rw [hk] at hf
          simp [fcs] at hf
          subst hf
          obtain ⟨c, hr⟩ := h.cor k s hk
          exact Der.step ((c.one hr).mono (fun x hx => ⟨x, hx, x.frm, rfl⟩) (fun _ h => h) (fun z hz => ih z hz) (fun _ _ h => h))
  intro f hf
  exact key l.length f (by rw [List.take_length]; exact hf)
theorem Eng.len {p : List Pc} {A : List Str} {l : List Stp} {L : List Fc} (h : Eng p A l) (hL : ∀ y, Der p A y → y ∈ L) : l.length ≤ L.length := by
  rw [← cP_]; exact kG_ h.nd fun x hx => hL x (h.der x hx)
theorem Eng.at {p : List Pc} {A : List Str} {l : List Stp} (h : Eng p A l) {m k : Nat} {f : Fc} (hm : At l m f) (hk : At l k f) : m = k := by
  obtain ⟨s, hs, e⟩ := hm; obtain ⟨t, ht, e'⟩ := hk
  have h1 : (fcs l)[m]? = some f := by unfold fcs; rw [List.getElem?_map, hs, Option.map_some, e]
  have h2 : (fcs l)[k]? = some f := by unfold fcs; rw [List.getElem?_map, ht, Option.map_some, e']
  exact (List.getElem?_inj (List.getElem?_eq_some_iff.1 h1).choose h.nd).1 (h1.trans h2.symm)
def kys (x : Pc) : List Ky := (putL x ++ if x.kind = 7 then [(Ky.mk 7 [] [], x)] else []).map (·.1)
structure Fnd (p : List Pc) (fm : List (Ky × Int)) : Prop where
  snd : ∀ k m, (k, m) ∈ fm → ∃ (i : Nat) (x : Pc), m = i ∧ p[i]? = some x ∧ k ∈ kys x
  all : ∀ z ∈ p, ∃ (i : Nat) (x : Pc), p[i]? = some x ∧ x.zf = z.zf ∧ ∀ k ∈ kys z, (k, (i : Int)) ∈ fm
  len : fm.length ≤ 2 * p.length
def Und (p : List Pc) (fm : List (Ky × Int)) (k : Ky) (Q : Pc → Prop) : Prop := ∀ m ∈ lat fm k, ∀ x, p[m.toNat]? = some x → Q x
theorem Und.all {p : List Pc} {fm : List (Ky × Int)} (h : Fnd p fm) {k : Ky} {Q : Pc → Prop} (hu : Und p fm k Q) {z : Pc} (hz : z ∈ p) (hk : k ∈ kys z) : ∃ x, x.zf = z.zf ∧ Q x := by
  obtain ⟨i, x, h1, h2, h3⟩ := h.all z hz
  exact ⟨x, h2, hu i (gI_.2 (h3 k hk)) x (by simpa using h1)⟩
theorem Fnd.get {p : List Pc} {fm : List (Ky × Int)} (h : Fnd p fm) {k : Ky} {m : Int} (hm : m ∈ lat fm k) : ∃ x, p[m.toNat]? = some x ∧ 0 ≤ m ∧ m.toNat < p.length ∧ k ∈ kys x := by
  obtain ⟨i, x, rfl, h1, h2⟩ := h.snd k m (gI_.1 hm)
  exact ⟨x, by simpa using h1, by omega, by have := (List.getElem?_eq_some_iff.1 h1).1; simpa using this, h2⟩
structure Jx where
  above : List (Str × Int)
  under : List (Str × Int)
  frm : List (ln_ × Int)
  into : List (ln_ × Int)
  ranges : List (ln_ × Int)
  firms : List (ln_ × Int)
def Jx.nil : Jx := ⟨[], [], [], [], [], []⟩
def Jx.add (x : Jx) (s : Stp) (n : Int) : Jx :=
  if s.fact.kind = 1 then { x with above := x.above ++ [(s.fact.a, n)] }
  else if s.fact.kind = 2 then { x with under := x.under ++ [(s.fact.b, n)], frm := x.frm ++ [((s.fact.a, s.fact.r), n)], into := x.into ++ [((s.fact.b, s.fact.r), n)] }
  else if s.fact.kind = 3 then { x with ranges := x.ranges ++ [((s.fact.a, s.fact.r), n)], firms := if s.rule = 11 then x.firms ++ [((s.fact.a, s.fact.r), n)] else x.firms }
  else x
def Lgs {K : Type} (x : List (K × Int)) (l : List Stp) (key : Stp → K) (Q : Stp → Prop) : Prop := ∀ k m, (k, m) ∈ x ↔ ∃ (i : Nat) (s : Stp), m = i ∧ l[i]? = some s ∧ Q s ∧ key s = k
structure Jx.len (x : Jx) (n : Nat) : Prop where
  above : x.above.length ≤ n
  under : x.under.length ≤ n
  frm : x.frm.length ≤ n
  into : x.into.length ≤ n
  ranges : x.ranges.length ≤ n
  firms : x.firms.length ≤ n
theorem Lgs.nil {K : Type} (key : Stp → K) (Q : Stp → Prop) : Lgs [] [] key Q := fun k m => by simp
theorem Lgs.skip {K : Type} {x : List (K × Int)} {l : List Stp} {key : Stp → K} {Q : Stp → Prop} (h : Lgs x l key Q) {s : Stp} (hs : ¬ Q s) : Lgs x (l ++ [s]) key Q := fun k m => by
  rw [h k m]
  constructor
  · rintro ⟨i, t, rfl, h1, h2, h3⟩
    exact ⟨i, t, rfl, by rw [List.getElem?_append_left (List.getElem?_eq_some_iff.1 h1).1]; exact h1, h2, h3⟩
  · rintro ⟨i, t, rfl, h1, h2, h3⟩
    by_cases hi : i < l.length
    · rw [List.getElem?_append_left hi] at h1; exact ⟨i, t, rfl, h1, h2, h3⟩
    · have e : i = l.length := by have := (List.getElem?_eq_some_iff.1 h1).1; simp at this; omega
      subst e; simp at h1; subst h1; exact absurd h2 hs
theorem Lgs.get {K : Type} [DecidableEq K] {x : List (K × Int)} {l : List Stp} {key : Stp → K} {Q : Stp → Prop} (h : Lgs x l key Q) {k : K} {m : Int} (hm : m ∈ lat x k) : ∃ s, l[m.toNat]? = some s ∧ 0 ≤ m ∧ m.toNat < l.length ∧ Q s ∧ key s = k := by
  obtain ⟨i, s, rfl, h1, h2, h3⟩ := (h k m).1 (gI_.1 hm)
  exact ⟨s, by simpa using h1, by omega, by have := (List.getElem?_eq_some_iff.1 h1).1; simpa using this, h2, h3⟩
end Go.Vs
