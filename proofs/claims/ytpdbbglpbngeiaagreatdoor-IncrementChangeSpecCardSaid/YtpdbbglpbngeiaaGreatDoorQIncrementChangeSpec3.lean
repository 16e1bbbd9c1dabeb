/-
  Part of the proof of the law IncrementChangeSpec over this seat: the small logic, the data, the contracts of functions (no condition).
-/
import Derived.Test.YtpdbbglpbngeiaaGreatDoorQIncrementChangeSpec2
import Derived.Test.YtpdbbglpbngeiaaGreatDoorQIncrementChangeSpec1
set_option linter.unusedVariables false
set_option linter.unusedSimpArgs false
set_option linter.unusedSectionVars false
namespace Go.Proofs.YtpdbbglpbngeiaaGreatDoor
open Go Go.Sx Go.Proofs
attribute [local irreducible] Code.wp wpList wpAnyH
open Go.Vs
theorem et_ (s : Str) (hs : s.length ≤ 140737488351232) : Fn0 Tryz.prog 155 #[str s] (.bool (bf_ s)) := by
 refine T_ Tryz.func155 rfl rfl Tryz.ntmps155 rfl fun v0 => ?_
 refine h_ (c_ (a_ (g_ rfl) rfl (e_ (b_ rfl (h_ (c_ (a_ (d_ rfl) rfl (a_ (bX_ V_ rfl) rfl (a_ (g_ rfl) rfl ?_)))))))))
 refine e_ (b_ rfl (h_ (h_ (c_ (a_ (d_ rfl) rfl (x_ (aq_ rfl rfl) rfl fun r1 hr1 => ?_))))))
 refine a_ (d_ rfl) rfl ?_
 cases r1
 ·
  replace hr1 := ne_of_beq_false hr1
  refine p_ rfl rfl (a_ (d_ rfl) rfl (p_ rfl rfl (x_ (aq_ rfl rfl) rfl fun r2 hr2 => ?_)))
  refine a_ (C_ rfl rfl) rfl (a_ (d_ rfl) rfl ?_)
  cases r2
  ·
   replace hr2 := ne_of_beq_false hr2
   refine p_ rfl rfl (a_ (d_ rfl) rfl (p_ rfl rfl (W_ (dY_ _) rfl I_ (fun _ _ _ => by exact trivial) rfl fun _ => ?_)))
   refine p_ rfl rfl (x_ (bC_ (aM_ rfl rfl) (congrArg Value.bool (mU_ _))) rfl fun r3 hr3 => ?_)
   refine a_ (C_ rfl rfl) rfl (e_ (b_ rfl ?_))
   cases r3
   ·
    refine v_ rfl (z_ (b_ rfl (h_ (h_ (c_ (a_ (d_ rfl) rfl (x_ (av_ rfl rfl) rfl fun r4 hr4 => ?_)))))))
    refine e_ (b_ rfl ?_)
    cases r4
    ·
     replace hr4 := of_decide_eq_false hr4
     obtain ⟨c, hc⟩ : ∃ c, s[0]? = some c := ⟨_, List.getElem?_eq_getElem (by omega)⟩
     obtain ⟨e, he⟩ : ∃ e, s[s.length - 1]? = some e := ⟨_, List.getElem?_eq_getElem (by omega)⟩
     have hc123 : (s[0]? = some 123) ↔ ((c.toNat : Int) = 123) := by
                  rw [hc]; simp only [Option.some.injEq]; exact ⟨fun q => by subst q; rfl, fun q => UInt8.toNat_inj.1 (by show c.toNat = 123; omega)⟩
     have he125 : (s[s.length - 1]? = some 125) ↔ ((e.toNat : Int) = 125) := by
                  rw [he]; simp only [Option.some.injEq]; exact ⟨fun q => by subst q; rfl, fun q => UInt8.toNat_inj.1 (by show e.toNat = 125; omega)⟩
     have hc60 : (s[0]? = some 60) ↔ ((c.toNat : Int) = 60) := by
                  rw [hc]; simp only [Option.some.injEq]; exact ⟨fun q => by subst q; rfl, fun q => UInt8.toNat_inj.1 (by show c.toNat = 60; omega)⟩
     have he62 : (s[s.length - 1]? = some 62) ↔ ((e.toNat : Int) = 62) := by
                  rw [he]; simp only [Option.some.injEq]; exact ⟨fun q => by subst q; rfl, fun q => UInt8.toNat_inj.1 (by show e.toNat = 62; omega)⟩
     refine v_ rfl (z_ (b_ rfl (h_ (c_ (a_ (d_ rfl) rfl (a_ (bL_ V_ rfl rfl (by decide) hc) rfl (x_ (aM_ rfl rfl) rfl fun r5 hr5 => ?_)))))))
     refine a_ (d_ rfl) rfl ?_
     cases r5
     ·
      replace hr5 := ne_of_beq_false hr5
      refine r_ rfl rfl rfl rfl (r_ rfl rfl rfl rfl (r_ rfl rfl rfl rfl (r_ rfl rfl rfl rfl (r_ rfl rfl rfl rfl (a_ (C_ rfl rfl) rfl (a_ (d_ rfl) rfl (r_ rfl rfl rfl rfl (r_ rfl rfl rfl rfl (r_ rfl rfl rfl rfl ?_)))))))))
      refine r_ rfl rfl rfl rfl (r_ rfl rfl rfl rfl (r_ rfl rfl rfl rfl (a_ (C_ rfl rfl) rfl (a_ (d_ rfl) rfl (p_ rfl rfl (a_ (d_ rfl) rfl (p_ rfl rfl (a_ (bL_ V_ rfl rfl (by decide) hc) rfl (p_ rfl rfl ?_)))))))))
      refine x_ (aM_ rfl rfl) rfl fun r6 hr6 => ?_
      refine p_ rfl rfl (a_ (d_ rfl) rfl ?_)
      cases r6
      ·
       replace hr6 := ne_of_beq_false hr6
       refine r_ rfl rfl rfl rfl (r_ rfl rfl rfl rfl (r_ rfl rfl rfl rfl (r_ rfl rfl rfl rfl (r_ rfl rfl rfl rfl (p_ rfl rfl (a_ (C_ rfl rfl) rfl (a_ (C_ rfl rfl) rfl (a_ (g_ rfl) rfl (e_ ?_)))))))))
       refine b_ rfl (F_ ?_)
       exact aw_ dj_ () (y_ rfl (by rw [← dT_]; unfold eC_; first | (simp only [hc123, he125, hc60, he62]; subst_vars; rw [Bool.eq_iff_iff]; simp [*] <;> omega) | (simp_all; done) | (simp_all; omega))) (.refl _) (fun _ _ _ => trivial)
      ·
       replace hr6 := eq_of_beq hr6
       refine p_ rfl rfl (a_ (d_ rfl) rfl (p_ rfl rfl (a_ (d_ rfl) rfl (p_ rfl rfl (a_ (M_ rfl rfl rfl (af_ (by omega) (by omega))) rfl (p_ rfl rfl (a_ (bL_ V_ rfl rfl (by omega) (show s[((s.length : Int) - 1).toNat]? = some e by rw [show ((s.length : Int) - 1).toNat = s.length - 1 by omega]; exact he)) rfl (p_ rfl rfl (x_ (aM_ rfl rfl) rfl fun r7 hr7 => ?_)))))))))
       refine p_ rfl rfl (a_ (H_ rfl rfl) rfl (a_ (C_ rfl rfl) rfl (a_ (g_ rfl) rfl (e_ (b_ rfl (F_ ?_))))))
       exact aw_ dj_ () (y_ rfl (by rw [← dT_]; unfold eC_; first | (simp only [hc123, he125, hc60, he62]; subst_vars; rw [Bool.eq_iff_iff]; simp [*] <;> omega) | (simp_all; done) | (simp_all; omega))) (.refl _) (fun _ _ _ => trivial)
     ·
      replace hr5 := eq_of_beq hr5
      refine p_ rfl rfl (a_ (d_ rfl) rfl (p_ rfl rfl (a_ (d_ rfl) rfl (p_ rfl rfl (a_ (M_ rfl rfl rfl (af_ (by omega) (by omega))) rfl (p_ rfl rfl (a_ (bL_ V_ rfl rfl (by omega) (show s[((s.length : Int) - 1).toNat]? = some e by rw [show ((s.length : Int) - 1).toNat = s.length - 1 by omega]; exact he)) rfl (p_ rfl rfl (x_ (aM_ rfl rfl) rfl fun r8 hr8 => ?_)))))))))
      refine a_ (H_ rfl rfl) rfl (a_ (d_ rfl) rfl ?_)
      cases r8
      ·
       replace hr8 := ne_of_beq_false hr8
       refine r_ rfl rfl rfl rfl (r_ rfl rfl rfl rfl (r_ rfl rfl rfl rfl (r_ rfl rfl rfl rfl (r_ rfl rfl rfl rfl (r_ rfl rfl rfl rfl (a_ (C_ rfl rfl) rfl (a_ (d_ rfl) rfl (p_ rfl rfl (a_ (d_ rfl) rfl ?_)))))))))
       refine p_ rfl rfl (a_ (bL_ V_ rfl rfl (by decide) hc) rfl (p_ rfl rfl (x_ (aM_ rfl rfl) rfl fun r9 hr9 => ?_)))
       refine p_ rfl rfl (a_ (d_ rfl) rfl ?_)
       cases r9
       ·
        replace hr9 := ne_of_beq_false hr9
        refine r_ rfl rfl rfl rfl (r_ rfl rfl rfl rfl (r_ rfl rfl rfl rfl (r_ rfl rfl rfl rfl (r_ rfl rfl rfl rfl (p_ rfl rfl (a_ (C_ rfl rfl) rfl (a_ (C_ rfl rfl) rfl (a_ (g_ rfl) rfl (e_ ?_)))))))))
        refine b_ rfl (F_ ?_)
        exact aw_ dj_ () (y_ rfl (by rw [← dT_]; unfold eC_; first | (simp only [hc123, he125, hc60, he62]; subst_vars; rw [Bool.eq_iff_iff]; simp [*] <;> omega) | (simp_all; done) | (simp_all; omega))) (.refl _) (fun _ _ _ => trivial)
       ·
        replace hr9 := eq_of_beq hr9
        refine p_ rfl rfl (a_ (d_ rfl) rfl (p_ rfl rfl (a_ (d_ rfl) rfl (p_ rfl rfl (a_ (M_ rfl rfl rfl (af_ (by omega) (by omega))) rfl (p_ rfl rfl (a_ (bL_ V_ rfl rfl (by omega) (show s[((s.length : Int) - 1).toNat]? = some e by rw [show ((s.length : Int) - 1).toNat = s.length - 1 by omega]; exact he)) rfl (p_ rfl rfl (x_ (aM_ rfl rfl) rfl fun r10 hr10 => ?_)))))))))
        refine p_ rfl rfl (a_ (H_ rfl rfl) rfl (a_ (C_ rfl rfl) rfl (a_ (g_ rfl) rfl (e_ (b_ rfl (F_ ?_))))))
        exact aw_ dj_ () (y_ rfl (by rw [← dT_]; unfold eC_; first | (simp only [hc123, he125, hc60, he62]; subst_vars; rw [Bool.eq_iff_iff]; simp [*] <;> omega) | (simp_all; done) | (simp_all; omega))) (.refl _) (fun _ _ _ => trivial)
      ·
       replace hr8 := eq_of_beq hr8
       refine p_ rfl rfl (a_ (d_ rfl) rfl (p_ rfl rfl (a_ (d_ rfl) rfl (p_ rfl rfl (a_ (M_ rfl rfl rfl (af_ (by omega) (by omega))) rfl (p_ rfl rfl (a_ (du_ (i := 1) (j := s.length - 1) (kl := .i64) (kh := .i64) V_ rfl rfl (show _ = some (Value.int .i64 ((s.length - 1 : Nat) : Int)) by rw [show ((s.length - 1 : Nat) : Int) = (s.length : Int) - 1 by omega]; rfl) (by omega) (by omega)) rfl (p_ rfl rfl (W_ (dY_ _) rfl I_ (fun _ _ _ => by exact trivial) rfl fun _ => ?_)))))))))
       refine p_ rfl rfl (x_ (bC_ (aM_ rfl rfl) (congrArg Value.bool (mU_ _))) rfl fun r11 hr11 => ?_)
       refine a_ (H_ rfl rfl) rfl (a_ (d_ rfl) rfl ?_)
       cases r11
       ·
        refine p_ rfl rfl (a_ (d_ rfl) rfl (p_ rfl rfl (a_ (bL_ V_ rfl rfl (by decide) hc) rfl (p_ rfl rfl (x_ (aM_ rfl rfl) rfl fun r12 hr12 => ?_)))))
        refine p_ rfl rfl (a_ (d_ rfl) rfl ?_)
        cases r12
        ·
         replace hr12 := ne_of_beq_false hr12
         refine r_ rfl rfl rfl rfl (r_ rfl rfl rfl rfl (r_ rfl rfl rfl rfl (r_ rfl rfl rfl rfl (r_ rfl rfl rfl rfl (p_ rfl rfl (a_ (C_ rfl rfl) rfl (a_ (C_ rfl rfl) rfl (a_ (g_ rfl) rfl (e_ ?_)))))))))
         refine b_ rfl (F_ ?_)
         exact aw_ dj_ () (y_ rfl (by rw [← dT_]; unfold eC_; first | (simp only [hc123, he125, hc60, he62]; subst_vars; rw [Bool.eq_iff_iff]; simp [*] <;> omega) | (simp_all; done) | (simp_all; omega))) (.refl _) (fun _ _ _ => trivial)
        ·
         replace hr12 := eq_of_beq hr12
         refine p_ rfl rfl (a_ (d_ rfl) rfl (p_ rfl rfl (a_ (d_ rfl) rfl (p_ rfl rfl (a_ (M_ rfl rfl rfl (af_ (by omega) (by omega))) rfl (p_ rfl rfl (a_ (bL_ V_ rfl rfl (by omega) (show s[((s.length : Int) - 1).toNat]? = some e by rw [show ((s.length : Int) - 1).toNat = s.length - 1 by omega]; exact he)) rfl (p_ rfl rfl (x_ (aM_ rfl rfl) rfl fun r13 hr13 => ?_)))))))))
         refine p_ rfl rfl (a_ (H_ rfl rfl) rfl (a_ (C_ rfl rfl) rfl (a_ (g_ rfl) rfl (e_ (b_ rfl (F_ ?_))))))
         exact aw_ dj_ () (y_ rfl (by rw [← dT_]; unfold eC_; first | (simp only [hc123, he125, hc60, he62]; subst_vars; rw [Bool.eq_iff_iff]; simp [*] <;> omega) | (simp_all; done) | (simp_all; omega))) (.refl _) (fun _ _ _ => trivial)
       ·
        refine r_ rfl rfl rfl rfl (r_ rfl rfl rfl rfl (r_ rfl rfl rfl rfl (r_ rfl rfl rfl rfl (r_ rfl rfl rfl rfl (r_ rfl rfl rfl rfl (r_ rfl rfl rfl rfl (r_ rfl rfl rfl rfl (r_ rfl rfl rfl rfl (r_ rfl rfl rfl rfl ?_)))))))))
        refine a_ (H_ rfl rfl) rfl (a_ (g_ rfl) rfl (e_ (b_ rfl (F_ ?_))))
        exact aw_ dj_ () (y_ rfl (by rw [← dT_]; unfold eC_; first | (simp only [hc123, he125, hc60, he62]; subst_vars; rw [Bool.eq_iff_iff]; simp [*] <;> omega) | (simp_all; done) | (simp_all; omega))) (.refl _) (fun _ _ _ => trivial)
    ·
     replace hr4 := of_decide_eq_true hr4
     refine t_ rfl (h_ (c_ (a_ (g_ rfl) rfl (e_ (b_ rfl (F_ ?_))))))
     exact aw_ dj_ () (y_ rfl (by rw [← dT_]; unfold eC_; first | (simp only [hc123, he125, hc60, he62]; subst_vars; rw [Bool.eq_iff_iff]; simp [*] <;> omega) | (simp_all; done) | (simp_all; omega))) (.refl _) (fun _ _ _ => trivial)
   ·
    refine t_ rfl (h_ (c_ (a_ (g_ rfl) rfl (e_ (b_ rfl (F_ ?_))))))
    exact aw_ dj_ () (y_ rfl (by rw [← dT_]; unfold eC_; first | (simp only [hc123, he125, hc60, he62]; subst_vars; rw [Bool.eq_iff_iff]; simp [*] <;> omega) | (simp_all; done) | (simp_all; omega))) (.refl _) (fun _ _ _ => trivial)
  ·
   replace hr2 := eq_of_beq hr2
   refine r_ rfl rfl rfl rfl (r_ rfl rfl rfl rfl (r_ rfl rfl rfl rfl (a_ (H_ rfl rfl) rfl (e_ (b_ rfl (t_ rfl (h_ (c_ (a_ (g_ rfl) rfl ?_)))))))))
   refine e_ (b_ rfl (F_ ?_))
   exact aw_ dj_ () (y_ rfl (by rw [← dT_]; unfold eC_; first | (simp only [hc123, he125, hc60, he62]; subst_vars; rw [Bool.eq_iff_iff]; simp [*] <;> omega) | (simp_all; done) | (simp_all; omega))) (.refl _) (fun _ _ _ => trivial)
 ·
  replace hr1 := eq_of_beq hr1
  refine r_ rfl rfl rfl rfl (r_ rfl rfl rfl rfl (a_ (H_ rfl rfl) rfl (a_ (d_ rfl) rfl (r_ rfl rfl rfl rfl (r_ rfl rfl rfl rfl (r_ rfl rfl rfl rfl (a_ (H_ rfl rfl) rfl (e_ (b_ rfl ?_)))))))))
  refine t_ rfl (h_ (c_ (a_ (g_ rfl) rfl (e_ (b_ rfl (F_ ?_))))))
  exact aw_ dj_ () (y_ rfl (by rw [← dT_]; unfold eC_; first | (simp only [hc123, he125, hc60, he62]; subst_vars; rw [Bool.eq_iff_iff]; simp [*] <;> omega) | (simp_all; done) | (simp_all; omega))) (.refl _) (fun _ _ _ => trivial)
theorem fj_ (s : Str) (hs : s.length ≤ 17592186044414) : Fn0 Tryz.prog 156 #[str s] (.bool (bY_ s)) := by
 refine T_ Tryz.func156 rfl rfl Tryz.ntmps156 rfl fun v0 => ?_
 refine h_ (c_ (a_ (g_ rfl) rfl (e_ (b_ rfl (h_ (c_ (a_ (g_ rfl) rfl (e_ (b_ rfl ?_)))))))))
 refine h_ (c_ (a_ (g_ rfl) rfl (e_ (b_ rfl (h_ (h_ (c_ (a_ (g_ rfl) rfl (e_ ?_)))))))))
 refine b_ rfl (R_ (ds_ [(0, str s), (3, .int .i64 ((0 : Nat) : Int)), (4, .int .i64 (List.length ([] : List Str) : Int)), (5, .int .i64 ((0 : Nat) : Int))] ⟨rfl, rfl, rfl, rfl, trivial⟩ ?_))
 refine dq_ (ι := {z : Nat × Nat × List Str // RInv s z.1 z.2.1 z.2.2 ∨ REnd s z.2.1 z.2.2}) (fun z => [(0, str s), (3, .int .i64 (z.1.1 : Int)), (4, .int .i64 (List.length z.1.2.2 : Int)), (5, .int .i64 (z.1.2.1 : Int))]) (fun _ => _) (fun _ => _) (fun z => s.length + 1 - z.1.2.1) ⟨(0, 0, []), .inl (RInv.start s)⟩ ?_
 rintro ⟨⟨a, i, dn⟩, hz⟩
 dsimp only at hz
 dsimp only
 have hdl : dn.length ≤ s.length + 1 := hz.elim RInv.len REnd.len
 have hil : i ≤ s.length + 1 := hz.elim (fun q => by have := q.il; omega) (fun q => by have := q.il; omega)
 refine ds_ [(0, str s), (3, .int .i64 (a : Int)), (4, .int .i64 (List.length dn : Int)), (5, .int .i64 (i : Int))] ⟨rfl, rfl, rfl, rfl, trivial⟩ ?_
 refine h_ (h_ (c_ (a_ (d_ rfl) rfl (a_ (d_ rfl) rfl (a_ (bX_ V_ rfl) rfl (x_ (cf_ rfl rfl) rfl fun r1 hr1 => ?_))))))
 refine e_ (b_ rfl ?_)
 cases r1
 ·
  replace hr1 := of_decide_eq_false hr1
  replace hz : REnd s i dn := hz.elim (fun q => by have := q.il; omega) id
  refine v_ rfl (au_ rfl (b_ rfl (h_ (c_ (a_ (d_ rfl) rfl (x_ (cf_ rfl rfl) rfl fun r2 hr2 => ?_))))))
  refine a_ (g_ rfl) rfl (e_ (b_ rfl (F_ ?_)))
  exact aw_ Tryz.results156 () (y_ rfl (by subst_vars; exact hz.role.symm)) (.refl _) (fun _ _ _ => trivial)
 ·
  replace hr1 := of_decide_eq_true hr1
  replace hz : RInv s a i dn := hz.elim id (fun q => by have := q.il; omega)
  refine t_ rfl (z_ (b_ rfl (h_ (R_ (h_ (h_ (c_ (a_ (d_ rfl) rfl (a_ (d_ rfl) rfl ?_)))))))))
  refine a_ (bX_ V_ rfl) rfl (x_ (av_ rfl rfl) rfl fun r3 hr3 => ?_)
  refine a_ (d_ rfl) rfl ?_
  cases r3
  ·
   replace hr3 := of_decide_eq_false hr3
   refine r_ rfl rfl rfl rfl (r_ rfl rfl rfl rfl (r_ rfl rfl rfl rfl (r_ rfl rfl rfl rfl (a_ (C_ rfl rfl) rfl (e_ (b_ rfl (v_ rfl (z_ (b_ rfl ?_)))))))))
   refine h_ (h_ (c_ (a_ (d_ rfl) rfl (a_ (d_ rfl) rfl (a_ (d_ rfl) rfl (a_ (du_ (i := a) (j := i) (kl := .i64) (kh := .i64) V_ rfl rfl rfl hz.le (by omega)) rfl (W_ (dY_ _) rfl I_ (fun _ _ _ => by exact trivial) rfl fun _ => ?_)))))))
   refine x_ (bC_ (bN_ rfl rfl) (congrArg Value.bool (qE_ _))) rfl fun r4 hr4 => ?_
   refine e_ (b_ rfl ?_)
   cases r4
   ·
    refine v_ rfl (z_ (b_ rfl (h_ (c_ (a_ (d_ rfl) rfl (a_ (M_ rfl rfl rfl (af_ (by omega) (by omega))) rfl (a_ (g_ rfl) rfl (e_ (b_ rfl ?_)))))))))
    refine c_ (a_ (d_ rfl) rfl (a_ (M_ rfl rfl rfl (af_ (by omega) (by omega))) rfl (a_ (g_ rfl) rfl (e_ (b_ rfl (c_ (a_ (d_ rfl) rfl (a_ (M_ rfl rfl rfl (af_ (by omega) (by omega))) rfl (a_ (g_ rfl) rfl ?_)))))))))
    refine e_ (w_ rfl ?_)
    exact Z_ ⟨(i + 1, i + 1, dn ++ [gV_ s a i]), .inr (hz.finN (by omega) (by simp_all [gV_]))⟩ (by dsimp only; omega) ⟨rfl, rfl, (cm_ rfl (by simp)), rfl, trivial⟩ I_ (fun _ _ h => h)
   ·
    refine t_ rfl (h_ (c_ (a_ (g_ rfl) rfl (e_ (b_ rfl (F_ ?_))))))
    exact aw_ Tryz.results156 () (y_ rfl (by symm; exact lm_ (x := gV_ s a i) (by rw [hz.fin (by omega)]; simp) (by simp_all [gV_]))) (.refl _) (fun _ _ _ => trivial)
  ·
   replace hr3 := of_decide_eq_true hr3
   obtain ⟨c, hc⟩ : ∃ c, s[i]? = some c := ⟨_, List.getElem?_eq_getElem (by omega)⟩
   refine p_ rfl rfl (a_ (d_ rfl) rfl (p_ rfl rfl (a_ (d_ rfl) rfl (p_ rfl rfl (a_ (bL_ V_ rfl rfl (by omega) hc) rfl (p_ rfl rfl (x_ (bN_ rfl rfl) rfl fun r5 hr5 => ?_)))))))
   refine a_ (H_ rfl rfl) rfl (e_ (b_ rfl ?_))
   cases r5
   ·
    replace hr5 := bb_ hr5
    obtain rfl : c = 46 := UInt8.toNat_inj.1 (by show c.toNat = 46; omega)
    refine v_ rfl (z_ (b_ rfl (h_ (h_ (c_ (a_ (d_ rfl) rfl (a_ (d_ rfl) rfl (a_ (d_ rfl) rfl (a_ (du_ (i := a) (j := i) (kl := .i64) (kh := .i64) V_ rfl rfl rfl hz.le (by omega)) rfl ?_)))))))))
    refine W_ (dY_ _) rfl I_ (fun _ _ _ => by exact trivial) rfl fun _ => ?_
    refine x_ (bC_ (bN_ rfl rfl) (congrArg Value.bool (qE_ _))) rfl fun r6 hr6 => ?_
    refine e_ (b_ rfl ?_)
    cases r6
    ·
     refine v_ rfl (z_ (b_ rfl (h_ (c_ (a_ (d_ rfl) rfl (a_ (M_ rfl rfl rfl (af_ (by omega) (by omega))) rfl (a_ (g_ rfl) rfl (e_ (b_ rfl ?_)))))))))
     refine c_ (a_ (d_ rfl) rfl (a_ (M_ rfl rfl rfl (af_ (by omega) (by omega))) rfl (a_ (g_ rfl) rfl (e_ (b_ rfl (c_ (a_ (d_ rfl) rfl (a_ (M_ rfl rfl rfl (af_ (by omega) (by omega))) rfl (a_ (g_ rfl) rfl ?_)))))))))
     refine e_ (w_ rfl ?_)
     exact Z_ ⟨(i + 1, i + 1, dn ++ [gV_ s a i]), .inl (hz.dotN hc (by simp_all [gV_]))⟩ (by dsimp only; omega) ⟨rfl, rfl, (cm_ rfl (by simp)), rfl, trivial⟩ I_ (fun _ _ h => h)
    ·
     refine t_ rfl (h_ (c_ (a_ (g_ rfl) rfl (e_ (b_ rfl (F_ ?_))))))
     exact aw_ Tryz.results156 () (y_ rfl (by symm; exact lm_ (x := gV_ s a i) (by rw [hz.dot hc]; simp) (by simp_all [gV_]))) (.refl _) (fun _ _ _ => trivial)
   ·
    replace hr5 := ba_ hr5
    refine t_ rfl (au_ rfl (b_ rfl (c_ (a_ (d_ rfl) rfl (a_ (M_ rfl rfl rfl (af_ (by omega) (by omega))) rfl (a_ (g_ rfl) rfl (e_ (w_ rfl ?_))))))))
    exact Z_ ⟨(a, i + 1, dn), .inl (hz.next hc (by intro q; subst q; simp_all))⟩ (by dsimp only; omega) ⟨rfl, rfl, rfl, rfl, trivial⟩ I_ (fun _ _ h => h)
set_option maxHeartbeats 4000000 in
theorem oE_ (p : Pc) (hp : p.sm) : Fn0 Tryz.prog 116 #[Pc.val p] (.bool p.valid) := by
 refine T_ Tryz.func116 rfl rfl Tryz.ntmps116 rfl fun v0 => ?_
 obtain ⟨ha, hb, hc, hr, hs, ht⟩ := hp
 refine h_ (c_ (bs_ rfl rfl fun b1 => ?_))
 refine a_ (g_ rfl) rfl (e_ (b_ rfl (h_ (h_ (c_ (a_ (l_ k_ rfl rfl rfl L_) rfl (a_ (u_ 0 P_ rfl rfl rfl) rfl (x_ (av_ rfl rfl) rfl fun r1 hr1 => ?_))))))))
 refine a_ (d_ rfl) rfl ?_
 refine aT_ 4 ((decide ((Pc.frm p) < (-1))) || (decide (1024 ≤ (Pc.frm p)))) (fun r => [(1, zp_ b1 0), (2, .bool false), (13, .bool r)]) ?_ fun r2 hr2 => ?_
 ·
  cases r1
  ·
   have qr2 := hr1
   replace hr1 := of_decide_eq_false hr1
   refine p_ rfl rfl (a_ (l_ k_ rfl rfl rfl L_) rfl (p_ rfl rfl (a_ (u_ 0 P_ rfl rfl rfl) rfl (p_ rfl rfl (x_ (cG_ rfl rfl) rfl fun r3 hr3 => ?_)))))
   refine a_ (C_ rfl rfl) rfl (e_ (w_ rfl ?_))
   exact met ⟨rfl, rfl, (y_ rfl (jof qr2 hr3)), trivial⟩
  ·
   have qr2 := hr1
   replace hr1 := of_decide_eq_true hr1
   refine r_ rfl rfl rfl rfl (r_ rfl rfl rfl rfl (r_ rfl rfl rfl rfl (a_ (H_ rfl rfl) rfl (e_ (w_ rfl ?_)))))
   exact met ⟨rfl, rfl, (y_ rfl (jot qr2)), trivial⟩
 ·
  refine e_ (b_ rfl ?_)
  cases r2
  ·
   simp at hr2
   refine v_ rfl (z_ (b_ rfl (h_ (c_ (a_ (l_ k_ rfl rfl rfl L_) rfl (a_ (u_ 0 P_ rfl rfl rfl) rfl (a_ (l_ k_ rfl rfl rfl L_) rfl (a_ (u_ 0 P_ rfl rfl rfl) rfl (a_ (ap_ ko_ rfl rfl) rfl ?_)))))))))
   refine ao_ aX_ rfl fun b2 => ?_
   refine Q_ 0 K_ rfl rfl rfl rfl rfl rfl (e_ (b_ rfl (h_ (c_ (a_ (g_ rfl) rfl (e_ (b_ rfl (h_ (h_ ?_)))))))))
   refine c_ (a_ (l_ k_ rfl rfl rfl L_) rfl (a_ (u_ 1 P_ rfl rfl rfl) rfl (e_ (b_ rfl (R_ (h_ (c_ (x_ (aM_ rfl rfl) rfl fun r4 hr4 => ?_))))))))
   refine a_ (g_ rfl) rfl (e_ (b_ rfl ?_))
   cases r4
   ·
    replace hr4 := ne_of_beq_false hr4
    refine v_ rfl (h_ (c_ (x_ (aM_ rfl rfl) rfl fun r5 hr5 => ?_)))
    refine a_ (g_ rfl) rfl (e_ (b_ rfl ?_))
    cases r5
    ·
     replace hr5 := ne_of_beq_false hr5
     refine v_ rfl (h_ (h_ (c_ (x_ (aM_ rfl rfl) rfl fun r6 hr6 => ?_))))
     refine a_ (g_ rfl) rfl (e_ (b_ rfl ?_))
     cases r6
     ·
      replace hr6 := ne_of_beq_false hr6
      refine v_ rfl (c_ (x_ (aM_ rfl rfl) rfl fun r7 hr7 => ?_))
      refine a_ (g_ rfl) rfl (e_ (b_ rfl ?_))
      cases r7
      ·
       replace hr7 := ne_of_beq_false hr7
       refine v_ rfl (h_ (c_ (x_ (aM_ rfl rfl) rfl fun r8 hr8 => ?_)))
       refine a_ (g_ rfl) rfl (e_ (b_ rfl ?_))
       cases r8
       ·
        replace hr8 := ne_of_beq_false hr8
        refine v_ rfl (h_ (c_ (x_ (aM_ rfl rfl) rfl fun r9 hr9 => ?_)))
        refine a_ (g_ rfl) rfl (e_ (b_ rfl ?_))
        cases r9
        ·
         replace hr9 := ne_of_beq_false hr9
         refine v_ rfl (h_ (c_ (x_ (aM_ rfl rfl) rfl fun r10 hr10 => ?_)))
         refine a_ (g_ rfl) rfl (e_ (b_ rfl ?_))
         cases r10
         ·
          replace hr10 := ne_of_beq_false hr10
          refine v_ rfl (h_ (h_ (c_ (x_ (aM_ rfl rfl) rfl fun r11 hr11 => ?_))))
          refine a_ (g_ rfl) rfl (e_ (b_ rfl ?_))
          cases r11
          ·
           replace hr11 := ne_of_beq_false hr11
           refine v_ rfl (c_ (x_ (aM_ rfl rfl) rfl fun r12 hr12 => ?_))
           refine a_ (g_ rfl) rfl (e_ (b_ rfl ?_))
           cases r12
           ·
            replace hr12 := ne_of_beq_false hr12
            refine v_ rfl (z_ (b_ rfl (h_ (c_ (a_ (d_ rfl) rfl (a_ (d_ rfl) rfl (r_ rfl rfl rfl rfl (r_ rfl rfl rfl rfl (r_ rfl rfl rfl rfl ?_)))))))))
            refine a_ (C_ rfl rfl) rfl (a_ (g_ rfl) rfl (e_ (b_ rfl (F_ ?_))))
            exact aw_ dk_ () (y_ rfl (by obtain ⟨kind, a, b, c, r, s, t, lo, hi, frm⟩ := p; dsimp only at *; symm; exact vp_no _ (by omega))) I_ (fun _ _ _ => trivial)
           ·
            replace hr12 := eq_of_beq hr12
            refine t_ rfl (h_ (c_ (a_ (l_ k_ rfl rfl rfl j_) rfl (a_ (u_ 1 q_ rfl rfl rfl) rfl (a_ (l_ k_ rfl rfl rfl j_) rfl (Q_ 0 j_ rfl rfl rfl rfl rfl rfl (e_ (b_ rfl (h_ ?_)))))))))
            refine c_ (a_ (l_ k_ rfl rfl rfl L_) rfl (a_ (u_ 1 P_ rfl rfl rfl) rfl (a_ (l_ k_ rfl rfl rfl L_) rfl (Q_ 0 L_ rfl rfl rfl rfl rfl rfl (e_ (b_ rfl (h_ (c_ (a_ (l_ k_ rfl rfl rfl L_) rfl ?_)))))))))
            refine a_ (u_ 1 P_ rfl rfl rfl) rfl (a_ (l_ k_ rfl rfl rfl L_) rfl (Q_ 0 L_ rfl rfl rfl rfl rfl rfl (e_ (b_ rfl (h_ (c_ (a_ (l_ k_ rfl rfl rfl j_) rfl (a_ (u_ 1 q_ rfl rfl rfl) rfl (a_ (g_ rfl) rfl ?_)))))))))
            refine e_ (b_ rfl (h_ (h_ (c_ (a_ (l_ k_ rfl rfl rfl L_) rfl (a_ (u_ 1 P_ rfl rfl rfl) rfl (x_ (aM_ rfl rfl) rfl fun r13 hr13 => ?_)))))))
            refine e_ (b_ rfl ?_)
            cases r13
            ·
             replace hr13 := ne_of_beq_false hr13
             refine v_ rfl (h_ (c_ (a_ (l_ k_ rfl rfl rfl j_) rfl (a_ (u_ 1 q_ rfl rfl rfl) rfl (a_ (l_ k_ rfl rfl rfl j_) rfl (Q_ 0 j_ rfl rfl rfl rfl rfl rfl (e_ (b_ rfl (c_ ?_)))))))))
             refine a_ (l_ k_ rfl rfl rfl j_) rfl (a_ (u_ 1 q_ rfl rfl rfl) rfl (a_ (g_ rfl) rfl (e_ (b_ rfl (c_ (a_ (d_ rfl) rfl (as_ (et_ _ (by omega)) rfl I_ (fun _ _ _ => by exact trivial) rfl fun r14 hr14 => ?_)))))))
             refine a_ (d_ rfl) rfl ?_
             refine aT_ 5 ((bf_ (Pc.c p)) && (bc_ (Pc.r p))) (fun r => [(1, zp_ b1 0), (2, .bool false), (3, zp_ b2 0), (4, .bool false), (166, .bool r)]) ?_ fun r15 hr15 => ?_
             ·
              cases r14
              ·
               have qr15 := hr14
               refine r_ rfl rfl rfl rfl (r_ rfl rfl rfl rfl (r_ rfl rfl rfl rfl (r_ rfl rfl rfl rfl (a_ (C_ rfl rfl) rfl (e_ (w_ rfl ?_))))))
               exact met ⟨rfl, rfl, rfl, rfl, (y_ rfl (jaf qr15)), trivial⟩
              ·
               have qr15 := hr14
               refine p_ rfl rfl (a_ (l_ k_ rfl rfl rfl j_) rfl (p_ rfl rfl (a_ (u_ 1 q_ rfl rfl rfl) rfl (p_ rfl rfl (W_ (dY_ _) rfl I_ (fun _ _ _ => by exact trivial) rfl fun _ => ?_)))))
               refine p_ rfl rfl (x_ (bC_ (aM_ rfl rfl) (congrArg Value.bool (mU_ _))) rfl fun r16 hr16 => ?_)
               refine a_ (H_ rfl rfl) rfl (e_ (w_ rfl ?_))
               exact met ⟨rfl, rfl, rfl, rfl, (y_ rfl (jat qr15 hr16)), trivial⟩
             ·
              refine a_ (d_ rfl) rfl ?_
              refine aT_ 6 ((((bf_ (Pc.c p)) && (bc_ (Pc.r p)))) && (decide ((Pc.lo p) ≤ (Pc.hi p)))) (fun r => [(1, zp_ b1 0), (2, .bool false), (3, zp_ b2 0), (4, .bool false), (173, .bool r)]) ?_ fun r17 hr17 => ?_
              ·
               cases r15
               ·
                have qr17 := hr15
                simp at hr15
                refine r_ rfl rfl rfl rfl (r_ rfl rfl rfl rfl (r_ rfl rfl rfl rfl (r_ rfl rfl rfl rfl (r_ rfl rfl rfl rfl (a_ (C_ rfl rfl) rfl (e_ (w_ rfl ?_)))))))
                exact met ⟨rfl, rfl, rfl, rfl, (y_ rfl (jaf qr17)), trivial⟩
               ·
                have qr17 := hr15
                simp at hr15
                refine p_ rfl rfl (a_ (l_ k_ rfl rfl rfl L_) rfl (p_ rfl rfl (a_ (u_ 1 P_ rfl rfl rfl) rfl (p_ rfl rfl (a_ (l_ k_ rfl rfl rfl L_) rfl (p_ rfl rfl (a_ (u_ 1 P_ rfl rfl rfl) rfl (p_ rfl rfl (x_ (cf_ rfl rfl) rfl fun r18 hr18 => ?_)))))))))
                refine a_ (H_ rfl rfl) rfl (e_ (w_ rfl ?_))
                exact met ⟨rfl, rfl, rfl, rfl, (y_ rfl (jat qr17 hr18)), trivial⟩
              ·
               refine a_ (d_ rfl) rfl ?_
               refine aT_ 4 ((((((bf_ (Pc.c p)) && (bc_ (Pc.r p)))) && (decide ((Pc.lo p) ≤ (Pc.hi p))))) && (decide ((-1099511627776) ≤ (Pc.lo p)))) (fun r => [(1, zp_ b1 0), (2, .bool false), (3, zp_ b2 0), (4, .bool false), (178, .bool r)]) ?_ fun r19 hr19 => ?_
               ·
                cases r17
                ·
                 have qr19 := hr17
                 simp at hr17
                 refine r_ rfl rfl rfl rfl (r_ rfl rfl rfl rfl (r_ rfl rfl rfl rfl (a_ (C_ rfl rfl) rfl (e_ (w_ rfl ?_)))))
                 exact met ⟨rfl, rfl, rfl, rfl, (y_ rfl (jaf qr19)), trivial⟩
                ·
                 have qr19 := hr17
                 simp at hr17
                 refine p_ rfl rfl (a_ (l_ k_ rfl rfl rfl L_) rfl (p_ rfl rfl (a_ (u_ 1 P_ rfl rfl rfl) rfl (p_ rfl rfl (x_ (cG_ rfl rfl) rfl fun r20 hr20 => ?_)))))
                 refine a_ (H_ rfl rfl) rfl (e_ (w_ rfl ?_))
                 exact met ⟨rfl, rfl, rfl, rfl, (y_ rfl (jat qr19 hr20)), trivial⟩
               ·
                refine a_ (d_ rfl) rfl ?_
                refine aT_ 4 ((((((((bf_ (Pc.c p)) && (bc_ (Pc.r p)))) && (decide ((Pc.lo p) ≤ (Pc.hi p))))) && (decide ((-1099511627776) ≤ (Pc.lo p))))) && (decide ((Pc.hi p) ≤ 1099511627776))) (fun r => [(1, zp_ b1 0), (2, .bool false), (3, zp_ b2 0), (4, .bool false), (183, .bool r)]) ?_ fun r21 hr21 => ?_
                ·
                 cases r19
                 ·
                  have qr21 := hr19
                  simp at hr19
                  refine r_ rfl rfl rfl rfl (r_ rfl rfl rfl rfl (r_ rfl rfl rfl rfl (a_ (C_ rfl rfl) rfl (e_ (w_ rfl ?_)))))
                  exact met ⟨rfl, rfl, rfl, rfl, (y_ rfl (jaf qr21)), trivial⟩
                 ·
                  have qr21 := hr19
                  simp at hr19
                  refine p_ rfl rfl (a_ (l_ k_ rfl rfl rfl L_) rfl (p_ rfl rfl (a_ (u_ 1 P_ rfl rfl rfl) rfl (p_ rfl rfl (x_ (cf_ rfl rfl) rfl fun r22 hr22 => ?_)))))
                  refine a_ (H_ rfl rfl) rfl (e_ (w_ rfl ?_))
                  exact met ⟨rfl, rfl, rfl, rfl, (y_ rfl (jat qr21 hr22)), trivial⟩
                ·
                 refine a_ (g_ rfl) rfl (e_ (b_ rfl (h_ (c_ (a_ (d_ rfl) rfl (a_ (d_ rfl) rfl ?_))))))
                 refine aT_ 4 ((((((((((bf_ (Pc.c p)) && (bc_ (Pc.r p)))) && (decide ((Pc.lo p) ≤ (Pc.hi p))))) && (decide ((-1099511627776) ≤ (Pc.lo p))))) && (decide ((Pc.hi p) ≤ 1099511627776)))) && (decide (p = (Pc.mk (Pc.kind p) [] [] (Pc.c p) (Pc.r p) [] [] (Pc.lo p) (Pc.hi p) (Pc.frm p))))) (fun r => [(2, .bool false), (189, .bool r)]) ?_ fun r23 hr23 => ?_
                 ·
                  cases r21
                  ·
                   have qr23 := hr21
                   simp at hr21
                   refine r_ rfl rfl rfl rfl (r_ rfl rfl rfl rfl (r_ rfl rfl rfl rfl (a_ (C_ rfl rfl) rfl (e_ (w_ rfl ?_)))))
                   exact met ⟨rfl, (y_ rfl (jaf qr23)), trivial⟩
                  ·
                   have qr23 := hr21
                   simp at hr21
                   refine p_ rfl rfl (a_ (Y_ 1 aG_ K_ rfl rfl rfl) rfl (p_ rfl rfl (a_ (Y_ 0 aG_ K_ rfl rfl rfl) rfl (p_ rfl rfl (x_ (dX_ (p := p) (q := (Pc.mk (Pc.kind p) [] [] (Pc.c p) (Pc.r p) [] [] (Pc.lo p) (Pc.hi p) (Pc.frm p))) rfl rfl) rfl fun r24 hr24 => ?_)))))
                   refine a_ (H_ rfl rfl) rfl (e_ (w_ rfl ?_))
                   exact met ⟨rfl, (y_ rfl (jat qr23 hr24)), trivial⟩
                 ·
                  refine a_ (g_ rfl) rfl (e_ (b_ rfl (F_ ?_)))
                  exact aw_ dk_ () (y_ rfl (by rw [← hr23]; obtain ⟨kind, a, b, c, r, s, t, lo, hi, frm⟩ := p; dsimp only at *; subst kind; rw [Bool.eq_iff_iff, fP_ 9 ⟨false, false, true, true, false, false, true⟩ rfl (by omega)]; simp only [hB_, hC_, Bool.and_eq_true, decide_eq_true_eq, Pc.mk.injEq, if_true, Bool.false_eq_true, if_false]; constructor <;> intro h <;> simp_all <;> omega)) I_ (fun _ _ _ => trivial)
            ·
             replace hr13 := eq_of_beq hr13
             exfalso; omega
          ·
           replace hr11 := eq_of_beq hr11
           refine t_ rfl (z_ (b_ rfl (t_ rfl (h_ (c_ (a_ (l_ k_ rfl rfl rfl j_) rfl (a_ (u_ 1 q_ rfl rfl rfl) rfl (a_ (l_ k_ rfl rfl rfl j_) rfl (Q_ 0 j_ rfl rfl rfl rfl rfl rfl ?_)))))))))
           refine e_ (b_ rfl (h_ (c_ (a_ (l_ k_ rfl rfl rfl L_) rfl (a_ (u_ 1 P_ rfl rfl rfl) rfl (a_ (l_ k_ rfl rfl rfl L_) rfl (Q_ 0 L_ rfl rfl rfl rfl rfl rfl (e_ (b_ rfl ?_)))))))))
           refine h_ (c_ (a_ (l_ k_ rfl rfl rfl L_) rfl (a_ (u_ 1 P_ rfl rfl rfl) rfl (a_ (l_ k_ rfl rfl rfl L_) rfl (Q_ 0 L_ rfl rfl rfl rfl rfl rfl (e_ (b_ rfl (h_ (c_ ?_)))))))))
           refine a_ (l_ k_ rfl rfl rfl j_) rfl (a_ (u_ 1 q_ rfl rfl rfl) rfl (a_ (g_ rfl) rfl (e_ (b_ rfl (h_ (h_ (c_ (a_ (l_ k_ rfl rfl rfl L_) rfl (a_ (u_ 1 P_ rfl rfl rfl) rfl ?_)))))))))
           refine x_ (aM_ rfl rfl) rfl fun r25 hr25 => ?_
           refine e_ (b_ rfl ?_)
           cases r25
           ·
            replace hr25 := ne_of_beq_false hr25
            exfalso; omega
           ·
            replace hr25 := eq_of_beq hr25
            refine t_ rfl (c_ (a_ (l_ k_ rfl rfl rfl j_) rfl (a_ (u_ 1 q_ rfl rfl rfl) rfl (a_ (l_ k_ rfl rfl rfl j_) rfl (Q_ 0 j_ rfl rfl rfl rfl rfl rfl (e_ (b_ rfl (c_ (a_ (d_ rfl) rfl ?_)))))))))
            refine as_ (et_ _ (by omega)) rfl I_ (fun _ _ _ => by exact trivial) rfl fun r26 hr26 => ?_
            refine a_ (d_ rfl) rfl ?_
            refine aT_ 5 ((bf_ (Pc.a p)) && (bc_ (Pc.r p))) (fun r => [(1, zp_ b1 0), (2, .bool false), (3, zp_ b2 0), (4, .bool false), (166, .bool r)]) ?_ fun r27 hr27 => ?_
            ·
             cases r26
             ·
              have qr27 := hr26
              refine r_ rfl rfl rfl rfl (r_ rfl rfl rfl rfl (r_ rfl rfl rfl rfl (r_ rfl rfl rfl rfl (a_ (C_ rfl rfl) rfl (e_ (w_ rfl ?_))))))
              exact met ⟨rfl, rfl, rfl, rfl, (y_ rfl (jaf qr27)), trivial⟩
             ·
              have qr27 := hr26
              refine p_ rfl rfl (a_ (l_ k_ rfl rfl rfl j_) rfl (p_ rfl rfl (a_ (u_ 1 q_ rfl rfl rfl) rfl (p_ rfl rfl (W_ (dY_ _) rfl I_ (fun _ _ _ => by exact trivial) rfl fun _ => ?_)))))
              refine p_ rfl rfl (x_ (bC_ (aM_ rfl rfl) (congrArg Value.bool (mU_ _))) rfl fun r28 hr28 => ?_)
              refine a_ (H_ rfl rfl) rfl (e_ (w_ rfl ?_))
              exact met ⟨rfl, rfl, rfl, rfl, (y_ rfl (jat qr27 hr28)), trivial⟩
            ·
             refine a_ (d_ rfl) rfl ?_
             refine aT_ 6 ((((bf_ (Pc.a p)) && (bc_ (Pc.r p)))) && (decide ((Pc.lo p) ≤ (Pc.hi p)))) (fun r => [(1, zp_ b1 0), (2, .bool false), (3, zp_ b2 0), (4, .bool false), (173, .bool r)]) ?_ fun r29 hr29 => ?_
             ·
              cases r27
              ·
               have qr29 := hr27
               simp at hr27
               refine r_ rfl rfl rfl rfl (r_ rfl rfl rfl rfl (r_ rfl rfl rfl rfl (r_ rfl rfl rfl rfl (r_ rfl rfl rfl rfl (a_ (C_ rfl rfl) rfl (e_ (w_ rfl ?_)))))))
               exact met ⟨rfl, rfl, rfl, rfl, (y_ rfl (jaf qr29)), trivial⟩
              ·
               have qr29 := hr27
               simp at hr27
               refine p_ rfl rfl (a_ (l_ k_ rfl rfl rfl L_) rfl (p_ rfl rfl (a_ (u_ 1 P_ rfl rfl rfl) rfl (p_ rfl rfl (a_ (l_ k_ rfl rfl rfl L_) rfl (p_ rfl rfl (a_ (u_ 1 P_ rfl rfl rfl) rfl (p_ rfl rfl (x_ (cf_ rfl rfl) rfl fun r30 hr30 => ?_)))))))))
               refine a_ (H_ rfl rfl) rfl (e_ (w_ rfl ?_))
               exact met ⟨rfl, rfl, rfl, rfl, (y_ rfl (jat qr29 hr30)), trivial⟩
             ·
              refine a_ (d_ rfl) rfl ?_
              refine aT_ 4 ((((((bf_ (Pc.a p)) && (bc_ (Pc.r p)))) && (decide ((Pc.lo p) ≤ (Pc.hi p))))) && (decide ((-1099511627776) ≤ (Pc.lo p)))) (fun r => [(1, zp_ b1 0), (2, .bool false), (3, zp_ b2 0), (4, .bool false), (178, .bool r)]) ?_ fun r31 hr31 => ?_
              ·
               cases r29
               ·
                have qr31 := hr29
                simp at hr29
                refine r_ rfl rfl rfl rfl (r_ rfl rfl rfl rfl (r_ rfl rfl rfl rfl (a_ (C_ rfl rfl) rfl (e_ (w_ rfl ?_)))))
                exact met ⟨rfl, rfl, rfl, rfl, (y_ rfl (jaf qr31)), trivial⟩
               ·
                have qr31 := hr29
                simp at hr29
                refine p_ rfl rfl (a_ (l_ k_ rfl rfl rfl L_) rfl (p_ rfl rfl (a_ (u_ 1 P_ rfl rfl rfl) rfl (p_ rfl rfl (x_ (cG_ rfl rfl) rfl fun r32 hr32 => ?_)))))
                refine a_ (H_ rfl rfl) rfl (e_ (w_ rfl ?_))
                exact met ⟨rfl, rfl, rfl, rfl, (y_ rfl (jat qr31 hr32)), trivial⟩
              ·
               refine a_ (d_ rfl) rfl ?_
               refine aT_ 4 ((((((((bf_ (Pc.a p)) && (bc_ (Pc.r p)))) && (decide ((Pc.lo p) ≤ (Pc.hi p))))) && (decide ((-1099511627776) ≤ (Pc.lo p))))) && (decide ((Pc.hi p) ≤ 1099511627776))) (fun r => [(1, zp_ b1 0), (2, .bool false), (3, zp_ b2 0), (4, .bool false), (183, .bool r)]) ?_ fun r33 hr33 => ?_
               ·
                cases r31
                ·
                 have qr33 := hr31
                 simp at hr31
                 refine r_ rfl rfl rfl rfl (r_ rfl rfl rfl rfl (r_ rfl rfl rfl rfl (a_ (C_ rfl rfl) rfl (e_ (w_ rfl ?_)))))
                 exact met ⟨rfl, rfl, rfl, rfl, (y_ rfl (jaf qr33)), trivial⟩
                ·
                 have qr33 := hr31
                 simp at hr31
                 refine p_ rfl rfl (a_ (l_ k_ rfl rfl rfl L_) rfl (p_ rfl rfl (a_ (u_ 1 P_ rfl rfl rfl) rfl (p_ rfl rfl (x_ (cf_ rfl rfl) rfl fun r34 hr34 => ?_)))))
                 refine a_ (H_ rfl rfl) rfl (e_ (w_ rfl ?_))
                 exact met ⟨rfl, rfl, rfl, rfl, (y_ rfl (jat qr33 hr34)), trivial⟩
               ·
                refine a_ (g_ rfl) rfl (e_ (b_ rfl (h_ (c_ (a_ (d_ rfl) rfl (a_ (d_ rfl) rfl ?_))))))
                refine aT_ 4 ((((((((((bf_ (Pc.a p)) && (bc_ (Pc.r p)))) && (decide ((Pc.lo p) ≤ (Pc.hi p))))) && (decide ((-1099511627776) ≤ (Pc.lo p))))) && (decide ((Pc.hi p) ≤ 1099511627776)))) && (decide (p = (Pc.mk (Pc.kind p) (Pc.a p) [] [] (Pc.r p) [] [] (Pc.lo p) (Pc.hi p) (Pc.frm p))))) (fun r => [(2, .bool false), (189, .bool r)]) ?_ fun r35 hr35 => ?_
                ·
                 cases r33
                 ·
                  have qr35 := hr33
                  simp at hr33
                  refine r_ rfl rfl rfl rfl (r_ rfl rfl rfl rfl (r_ rfl rfl rfl rfl (a_ (C_ rfl rfl) rfl (e_ (w_ rfl ?_)))))
                  exact met ⟨rfl, (y_ rfl (jaf qr35)), trivial⟩
                 ·
                  have qr35 := hr33
                  simp at hr33
                  refine p_ rfl rfl (a_ (Y_ 1 aG_ K_ rfl rfl rfl) rfl (p_ rfl rfl (a_ (Y_ 0 aG_ K_ rfl rfl rfl) rfl (p_ rfl rfl (x_ (dX_ (p := p) (q := (Pc.mk (Pc.kind p) (Pc.a p) [] [] (Pc.r p) [] [] (Pc.lo p) (Pc.hi p) (Pc.frm p))) rfl rfl) rfl fun r36 hr36 => ?_)))))
                  refine a_ (H_ rfl rfl) rfl (e_ (w_ rfl ?_))
                  exact met ⟨rfl, (y_ rfl (jat qr35 hr36)), trivial⟩
                ·
                 refine a_ (g_ rfl) rfl (e_ (b_ rfl (F_ ?_)))
                 exact aw_ dk_ () (y_ rfl (by rw [← hr35]; obtain ⟨kind, a, b, c, r, s, t, lo, hi, frm⟩ := p; dsimp only at *; subst kind; rw [Bool.eq_iff_iff, fP_ 8 ⟨true, false, false, true, false, false, true⟩ rfl (by omega)]; simp only [hB_, hC_, Bool.and_eq_true, decide_eq_true_eq, Pc.mk.injEq, if_true, Bool.false_eq_true, if_false]; constructor <;> intro h <;> simp_all <;> omega)) I_ (fun _ _ _ => trivial)
         ·
          replace hr10 := eq_of_beq hr10
          refine t_ rfl (h_ (c_ (a_ (l_ k_ rfl rfl rfl j_) rfl (a_ (u_ 1 q_ rfl rfl rfl) rfl (a_ (l_ k_ rfl rfl rfl j_) rfl (Q_ 0 j_ rfl rfl rfl rfl rfl rfl (e_ (b_ rfl (c_ ?_)))))))))
          refine a_ (l_ k_ rfl rfl rfl j_) rfl (a_ (u_ 1 q_ rfl rfl rfl) rfl (as_ (fj_ _ (by omega)) rfl I_ (fun _ _ _ => by exact trivial) rfl fun r37 hr37 => ?_))
          refine a_ (g_ rfl) rfl (e_ (b_ rfl (h_ (c_ (a_ (d_ rfl) rfl (a_ (d_ rfl) rfl ?_))))))
          refine aT_ 4 ((bY_ (Pc.r p)) && (decide (p = (Pc.mk (Pc.kind p) [] [] [] (Pc.r p) [] [] 0 0 (Pc.frm p))))) (fun r => [(2, .bool false), (189, .bool r)]) ?_ fun r38 hr38 => ?_
          ·
           cases r37
           ·
            have qr38 := hr37
            refine r_ rfl rfl rfl rfl (r_ rfl rfl rfl rfl (r_ rfl rfl rfl rfl (a_ (C_ rfl rfl) rfl (e_ (w_ rfl ?_)))))
            exact met ⟨rfl, (y_ rfl (jaf qr38)), trivial⟩
           ·
            have qr38 := hr37
            refine p_ rfl rfl (a_ (Y_ 1 aG_ K_ rfl rfl rfl) rfl (p_ rfl rfl (a_ (Y_ 0 aG_ K_ rfl rfl rfl) rfl (p_ rfl rfl (x_ (dX_ (p := p) (q := (Pc.mk (Pc.kind p) [] [] [] (Pc.r p) [] [] 0 0 (Pc.frm p))) rfl rfl) rfl fun r39 hr39 => ?_)))))
            refine a_ (H_ rfl rfl) rfl (e_ (w_ rfl ?_))
            exact met ⟨rfl, (y_ rfl (jat qr38 hr39)), trivial⟩
          ·
           refine a_ (g_ rfl) rfl (e_ (b_ rfl (F_ ?_)))
           exact aw_ dk_ () (y_ rfl (by rw [← hr38]; obtain ⟨kind, a, b, c, r, s, t, lo, hi, frm⟩ := p; dsimp only at *; subst kind; rw [Bool.eq_iff_iff, fP_ 7 ⟨false, false, false, true, false, false, false⟩ rfl (by omega)]; simp only [hB_, hC_, Bool.and_eq_true, decide_eq_true_eq, Pc.mk.injEq, if_true, Bool.false_eq_true, if_false]; constructor <;> intro h <;> simp_all <;> omega)) I_ (fun _ _ _ => trivial)
        ·
         replace hr9 := eq_of_beq hr9
         refine t_ rfl (h_ (c_ (a_ (l_ k_ rfl rfl rfl j_) rfl (a_ (u_ 1 q_ rfl rfl rfl) rfl (a_ (l_ k_ rfl rfl rfl j_) rfl (Q_ 0 j_ rfl rfl rfl rfl rfl rfl (e_ (b_ rfl (h_ ?_)))))))))
         refine c_ (a_ (l_ k_ rfl rfl rfl j_) rfl (a_ (u_ 1 q_ rfl rfl rfl) rfl (a_ (l_ k_ rfl rfl rfl j_) rfl (Q_ 0 j_ rfl rfl rfl rfl rfl rfl (e_ (b_ rfl (h_ (c_ (a_ (l_ k_ rfl rfl rfl j_) rfl ?_)))))))))
         refine a_ (u_ 1 q_ rfl rfl rfl) rfl (a_ (l_ k_ rfl rfl rfl j_) rfl (Q_ 0 j_ rfl rfl rfl rfl rfl rfl (e_ (b_ rfl (c_ (a_ (l_ k_ rfl rfl rfl j_) rfl (a_ (u_ 1 q_ rfl rfl rfl) rfl (as_ (fj_ _ (by omega)) rfl I_ (fun _ _ _ => by exact trivial) rfl fun r40 hr40 => ?_))))))))
         refine a_ (d_ rfl) rfl ?_
         refine aT_ 4 ((bY_ (Pc.r p)) && (bY_ (Pc.s p))) (fun r => [(1, zp_ b1 0), (2, .bool false), (3, zp_ b2 0), (4, .bool false), (120, .bool r)]) ?_ fun r41 hr41 => ?_
         ·
          cases r40
          ·
           have qr41 := hr40
           refine r_ rfl rfl rfl rfl (r_ rfl rfl rfl rfl (r_ rfl rfl rfl rfl (a_ (C_ rfl rfl) rfl (e_ (w_ rfl ?_)))))
           exact met ⟨rfl, rfl, rfl, rfl, (y_ rfl (jaf qr41)), trivial⟩
          ·
           have qr41 := hr40
           refine p_ rfl rfl (a_ (l_ k_ rfl rfl rfl j_) rfl (p_ rfl rfl (a_ (u_ 1 q_ rfl rfl rfl) rfl (p_ rfl rfl (as_ (fj_ _ (by omega)) rfl I_ (fun _ _ _ => by exact trivial) rfl fun r42 hr42 => ?_)))))
           refine a_ (H_ rfl rfl) rfl (e_ (w_ rfl ?_))
           exact met ⟨rfl, rfl, rfl, rfl, (y_ rfl (jat qr41 hr42)), trivial⟩
         ·
          refine a_ (d_ rfl) rfl ?_
          refine aT_ 4 ((((bY_ (Pc.r p)) && (bY_ (Pc.s p)))) && (bY_ (Pc.t p))) (fun r => [(1, zp_ b1 0), (2, .bool false), (3, zp_ b2 0), (4, .bool false), (125, .bool r)]) ?_ fun r43 hr43 => ?_
          ·
           cases r41
           ·
            have qr43 := hr41
            simp at hr41
            refine r_ rfl rfl rfl rfl (r_ rfl rfl rfl rfl (r_ rfl rfl rfl rfl (a_ (C_ rfl rfl) rfl (e_ (w_ rfl ?_)))))
            exact met ⟨rfl, rfl, rfl, rfl, (y_ rfl (jaf qr43)), trivial⟩
           ·
            have qr43 := hr41
            simp at hr41
            refine p_ rfl rfl (a_ (l_ k_ rfl rfl rfl j_) rfl (p_ rfl rfl (a_ (u_ 1 q_ rfl rfl rfl) rfl (p_ rfl rfl (as_ (fj_ _ (by omega)) rfl I_ (fun _ _ _ => by exact trivial) rfl fun r44 hr44 => ?_)))))
            refine a_ (H_ rfl rfl) rfl (e_ (w_ rfl ?_))
            exact met ⟨rfl, rfl, rfl, rfl, (y_ rfl (jat qr43 hr44)), trivial⟩
          ·
           refine a_ (g_ rfl) rfl (e_ (b_ rfl (h_ (c_ (a_ (d_ rfl) rfl (a_ (d_ rfl) rfl ?_))))))
           refine aT_ 4 ((((((bY_ (Pc.r p)) && (bY_ (Pc.s p)))) && (bY_ (Pc.t p)))) && (decide (p = (Pc.mk (Pc.kind p) [] [] [] (Pc.r p) (Pc.s p) (Pc.t p) 0 0 (Pc.frm p))))) (fun r => [(2, .bool false), (189, .bool r)]) ?_ fun r45 hr45 => ?_
           ·
            cases r43
            ·
             have qr45 := hr43
             simp at hr43
             refine r_ rfl rfl rfl rfl (r_ rfl rfl rfl rfl (r_ rfl rfl rfl rfl (a_ (C_ rfl rfl) rfl (e_ (w_ rfl ?_)))))
             exact met ⟨rfl, (y_ rfl (jaf qr45)), trivial⟩
            ·
             have qr45 := hr43
             simp at hr43
             refine p_ rfl rfl (a_ (Y_ 1 aG_ K_ rfl rfl rfl) rfl (p_ rfl rfl (a_ (Y_ 0 aG_ K_ rfl rfl rfl) rfl (p_ rfl rfl (x_ (dX_ (p := p) (q := (Pc.mk (Pc.kind p) [] [] [] (Pc.r p) (Pc.s p) (Pc.t p) 0 0 (Pc.frm p))) rfl rfl) rfl fun r46 hr46 => ?_)))))
             refine a_ (H_ rfl rfl) rfl (e_ (w_ rfl ?_))
             exact met ⟨rfl, (y_ rfl (jat qr45 hr46)), trivial⟩
           ·
            refine a_ (g_ rfl) rfl (e_ (b_ rfl (F_ ?_)))
            exact aw_ dk_ () (y_ rfl (by rw [← hr45]; obtain ⟨kind, a, b, c, r, s, t, lo, hi, frm⟩ := p; dsimp only at *; subst kind; rw [Bool.eq_iff_iff, fP_ 6 ⟨false, false, false, true, true, true, false⟩ rfl (by omega)]; simp only [hB_, hC_, Bool.and_eq_true, decide_eq_true_eq, Pc.mk.injEq, if_true, Bool.false_eq_true, if_false]; constructor <;> intro h <;> simp_all <;> omega)) I_ (fun _ _ _ => trivial)
       ·
        replace hr8 := eq_of_beq hr8
        refine t_ rfl (h_ (c_ (a_ (l_ k_ rfl rfl rfl j_) rfl (a_ (u_ 1 q_ rfl rfl rfl) rfl (a_ (l_ k_ rfl rfl rfl j_) rfl (Q_ 0 j_ rfl rfl rfl rfl rfl rfl (e_ (b_ rfl (h_ ?_)))))))))
        refine c_ (a_ (l_ k_ rfl rfl rfl j_) rfl (a_ (u_ 1 q_ rfl rfl rfl) rfl (a_ (l_ k_ rfl rfl rfl j_) rfl (Q_ 0 j_ rfl rfl rfl rfl rfl rfl (e_ (b_ rfl (c_ (a_ (l_ k_ rfl rfl rfl j_) rfl (a_ (u_ 1 q_ rfl rfl rfl) rfl ?_)))))))))
        refine as_ (fj_ _ (by omega)) rfl I_ (fun _ _ _ => by exact trivial) rfl fun r47 hr47 => ?_
        refine a_ (d_ rfl) rfl ?_
        refine aT_ 4 ((bY_ (Pc.r p)) && (bY_ (Pc.t p))) (fun r => [(1, zp_ b1 0), (2, .bool false), (3, zp_ b2 0), (4, .bool false), (101, .bool r)]) ?_ fun r48 hr48 => ?_
        ·
         cases r47
         ·
          have qr48 := hr47
          refine r_ rfl rfl rfl rfl (r_ rfl rfl rfl rfl (r_ rfl rfl rfl rfl (a_ (C_ rfl rfl) rfl (e_ (w_ rfl ?_)))))
          exact met ⟨rfl, rfl, rfl, rfl, (y_ rfl (jaf qr48)), trivial⟩
         ·
          have qr48 := hr47
          refine p_ rfl rfl (a_ (l_ k_ rfl rfl rfl j_) rfl (p_ rfl rfl (a_ (u_ 1 q_ rfl rfl rfl) rfl (p_ rfl rfl (as_ (fj_ _ (by omega)) rfl I_ (fun _ _ _ => by exact trivial) rfl fun r49 hr49 => ?_)))))
          refine a_ (H_ rfl rfl) rfl (e_ (w_ rfl ?_))
          exact met ⟨rfl, rfl, rfl, rfl, (y_ rfl (jat qr48 hr49)), trivial⟩
        ·
         refine a_ (g_ rfl) rfl (e_ (b_ rfl (h_ (c_ (a_ (d_ rfl) rfl (a_ (d_ rfl) rfl ?_))))))
         refine aT_ 4 ((((bY_ (Pc.r p)) && (bY_ (Pc.t p)))) && (decide (p = (Pc.mk (Pc.kind p) [] [] [] (Pc.r p) [] (Pc.t p) 0 0 (Pc.frm p))))) (fun r => [(2, .bool false), (189, .bool r)]) ?_ fun r50 hr50 => ?_
         ·
          cases r48
          ·
           have qr50 := hr48
           simp at hr48
           refine r_ rfl rfl rfl rfl (r_ rfl rfl rfl rfl (r_ rfl rfl rfl rfl (a_ (C_ rfl rfl) rfl (e_ (w_ rfl ?_)))))
           exact met ⟨rfl, (y_ rfl (jaf qr50)), trivial⟩
          ·
           have qr50 := hr48
           simp at hr48
           refine p_ rfl rfl (a_ (Y_ 1 aG_ K_ rfl rfl rfl) rfl (p_ rfl rfl (a_ (Y_ 0 aG_ K_ rfl rfl rfl) rfl (p_ rfl rfl (x_ (dX_ (p := p) (q := (Pc.mk (Pc.kind p) [] [] [] (Pc.r p) [] (Pc.t p) 0 0 (Pc.frm p))) rfl rfl) rfl fun r51 hr51 => ?_)))))
           refine a_ (H_ rfl rfl) rfl (e_ (w_ rfl ?_))
           exact met ⟨rfl, (y_ rfl (jat qr50 hr51)), trivial⟩
         ·
          refine a_ (g_ rfl) rfl (e_ (b_ rfl (F_ ?_)))
          exact aw_ dk_ () (y_ rfl (by rw [← hr50]; obtain ⟨kind, a, b, c, r, s, t, lo, hi, frm⟩ := p; dsimp only at *; subst kind; rw [Bool.eq_iff_iff, fP_ 5 ⟨false, false, false, true, false, true, false⟩ rfl (by omega)]; simp only [hB_, hC_, Bool.and_eq_true, decide_eq_true_eq, Pc.mk.injEq, if_true, Bool.false_eq_true, if_false]; constructor <;> intro h <;> simp_all <;> omega)) I_ (fun _ _ _ => trivial)
      ·
       replace hr7 := eq_of_beq hr7
       refine t_ rfl (h_ (c_ (a_ (l_ k_ rfl rfl rfl j_) rfl (a_ (u_ 1 q_ rfl rfl rfl) rfl (a_ (l_ k_ rfl rfl rfl j_) rfl (Q_ 0 j_ rfl rfl rfl rfl rfl rfl (e_ (b_ rfl (h_ ?_)))))))))
       refine c_ (a_ (l_ k_ rfl rfl rfl j_) rfl (a_ (u_ 1 q_ rfl rfl rfl) rfl (a_ (l_ k_ rfl rfl rfl j_) rfl (Q_ 0 j_ rfl rfl rfl rfl rfl rfl (e_ (b_ rfl (h_ (c_ (a_ (l_ k_ rfl rfl rfl j_) rfl ?_)))))))))
       refine a_ (u_ 1 q_ rfl rfl rfl) rfl (a_ (l_ k_ rfl rfl rfl j_) rfl (Q_ 0 j_ rfl rfl rfl rfl rfl rfl (e_ (b_ rfl (c_ (a_ (l_ k_ rfl rfl rfl j_) rfl (a_ (u_ 1 q_ rfl rfl rfl) rfl (as_ (et_ _ (by omega)) rfl I_ (fun _ _ _ => by exact trivial) rfl fun r52 hr52 => ?_))))))))
       refine a_ (d_ rfl) rfl ?_
       refine aT_ 4 ((bf_ (Pc.a p)) && (bY_ (Pc.r p))) (fun r => [(1, zp_ b1 0), (2, .bool false), (3, zp_ b2 0), (4, .bool false), (80, .bool r)]) ?_ fun r53 hr53 => ?_
       ·
        cases r52
        ·
         have qr53 := hr52
         refine r_ rfl rfl rfl rfl (r_ rfl rfl rfl rfl (r_ rfl rfl rfl rfl (a_ (C_ rfl rfl) rfl (e_ (w_ rfl ?_)))))
         exact met ⟨rfl, rfl, rfl, rfl, (y_ rfl (jaf qr53)), trivial⟩
        ·
         have qr53 := hr52
         refine p_ rfl rfl (a_ (l_ k_ rfl rfl rfl j_) rfl (p_ rfl rfl (a_ (u_ 1 q_ rfl rfl rfl) rfl (p_ rfl rfl (as_ (fj_ _ (by omega)) rfl I_ (fun _ _ _ => by exact trivial) rfl fun r54 hr54 => ?_)))))
         refine a_ (H_ rfl rfl) rfl (e_ (w_ rfl ?_))
         exact met ⟨rfl, rfl, rfl, rfl, (y_ rfl (jat qr53 hr54)), trivial⟩
       ·
        refine a_ (d_ rfl) rfl ?_
        refine aT_ 4 ((((bf_ (Pc.a p)) && (bY_ (Pc.r p)))) && (bf_ (Pc.c p))) (fun r => [(1, zp_ b1 0), (2, .bool false), (3, zp_ b2 0), (4, .bool false), (85, .bool r)]) ?_ fun r55 hr55 => ?_
        ·
         cases r53
         ·
          have qr55 := hr53
          simp at hr53
          refine r_ rfl rfl rfl rfl (r_ rfl rfl rfl rfl (r_ rfl rfl rfl rfl (a_ (C_ rfl rfl) rfl (e_ (w_ rfl ?_)))))
          exact met ⟨rfl, rfl, rfl, rfl, (y_ rfl (jaf qr55)), trivial⟩
         ·
          have qr55 := hr53
          simp at hr53
          refine p_ rfl rfl (a_ (l_ k_ rfl rfl rfl j_) rfl (p_ rfl rfl (a_ (u_ 1 q_ rfl rfl rfl) rfl (p_ rfl rfl (as_ (et_ _ (by omega)) rfl I_ (fun _ _ _ => by exact trivial) rfl fun r56 hr56 => ?_)))))
          refine a_ (H_ rfl rfl) rfl (e_ (w_ rfl ?_))
          exact met ⟨rfl, rfl, rfl, rfl, (y_ rfl (jat qr55 hr56)), trivial⟩
        ·
         refine a_ (g_ rfl) rfl (e_ (b_ rfl (h_ (c_ (a_ (d_ rfl) rfl (a_ (d_ rfl) rfl ?_))))))
         refine aT_ 4 ((((((bf_ (Pc.a p)) && (bY_ (Pc.r p)))) && (bf_ (Pc.c p)))) && (decide (p = (Pc.mk (Pc.kind p) (Pc.a p) [] (Pc.c p) (Pc.r p) [] [] 0 0 (Pc.frm p))))) (fun r => [(2, .bool false), (189, .bool r)]) ?_ fun r57 hr57 => ?_
         ·
          cases r55
          ·
           have qr57 := hr55
           simp at hr55
           refine r_ rfl rfl rfl rfl (r_ rfl rfl rfl rfl (r_ rfl rfl rfl rfl (a_ (C_ rfl rfl) rfl (e_ (w_ rfl ?_)))))
           exact met ⟨rfl, (y_ rfl (jaf qr57)), trivial⟩
          ·
           have qr57 := hr55
           simp at hr55
           refine p_ rfl rfl (a_ (Y_ 1 aG_ K_ rfl rfl rfl) rfl (p_ rfl rfl (a_ (Y_ 0 aG_ K_ rfl rfl rfl) rfl (p_ rfl rfl (x_ (dX_ (p := p) (q := (Pc.mk (Pc.kind p) (Pc.a p) [] (Pc.c p) (Pc.r p) [] [] 0 0 (Pc.frm p))) rfl rfl) rfl fun r58 hr58 => ?_)))))
           refine a_ (H_ rfl rfl) rfl (e_ (w_ rfl ?_))
           exact met ⟨rfl, (y_ rfl (jat qr57 hr58)), trivial⟩
         ·
          refine a_ (g_ rfl) rfl (e_ (b_ rfl (F_ ?_)))
          exact aw_ dk_ () (y_ rfl (by rw [← hr57]; obtain ⟨kind, a, b, c, r, s, t, lo, hi, frm⟩ := p; dsimp only at *; subst kind; rw [Bool.eq_iff_iff, fP_ 4 ⟨true, false, true, true, false, false, false⟩ rfl (by omega)]; simp only [hB_, hC_, Bool.and_eq_true, decide_eq_true_eq, Pc.mk.injEq, if_true, Bool.false_eq_true, if_false]; constructor <;> intro h <;> simp_all <;> omega)) I_ (fun _ _ _ => trivial)
     ·
      replace hr6 := eq_of_beq hr6
      refine t_ rfl (z_ (b_ rfl (t_ rfl (h_ (c_ (a_ (l_ k_ rfl rfl rfl j_) rfl (a_ (u_ 1 q_ rfl rfl rfl) rfl (a_ (l_ k_ rfl rfl rfl j_) rfl (Q_ 0 j_ rfl rfl rfl rfl rfl rfl ?_)))))))))
      refine e_ (b_ rfl (h_ (c_ (a_ (l_ k_ rfl rfl rfl j_) rfl (a_ (u_ 1 q_ rfl rfl rfl) rfl (a_ (l_ k_ rfl rfl rfl j_) rfl (Q_ 0 j_ rfl rfl rfl rfl rfl rfl (e_ (b_ rfl ?_)))))))))
      refine h_ (c_ (a_ (l_ k_ rfl rfl rfl j_) rfl (a_ (u_ 1 q_ rfl rfl rfl) rfl (a_ (l_ k_ rfl rfl rfl j_) rfl (Q_ 0 j_ rfl rfl rfl rfl rfl rfl (e_ (b_ rfl (c_ (a_ (l_ k_ rfl rfl rfl j_) rfl ?_)))))))))
      refine a_ (u_ 1 q_ rfl rfl rfl) rfl (as_ (et_ _ (by omega)) rfl I_ (fun _ _ _ => by exact trivial) rfl fun r59 hr59 => ?_)
      refine a_ (d_ rfl) rfl ?_
      refine aT_ 4 ((bf_ (Pc.a p)) && (bY_ (Pc.r p))) (fun r => [(1, zp_ b1 0), (2, .bool false), (3, zp_ b2 0), (4, .bool false), (80, .bool r)]) ?_ fun r60 hr60 => ?_
      ·
       cases r59
       ·
        have qr60 := hr59
        refine r_ rfl rfl rfl rfl (r_ rfl rfl rfl rfl (r_ rfl rfl rfl rfl (a_ (C_ rfl rfl) rfl (e_ (w_ rfl ?_)))))
        exact met ⟨rfl, rfl, rfl, rfl, (y_ rfl (jaf qr60)), trivial⟩
       ·
        have qr60 := hr59
        refine p_ rfl rfl (a_ (l_ k_ rfl rfl rfl j_) rfl (p_ rfl rfl (a_ (u_ 1 q_ rfl rfl rfl) rfl (p_ rfl rfl (as_ (fj_ _ (by omega)) rfl I_ (fun _ _ _ => by exact trivial) rfl fun r61 hr61 => ?_)))))
        refine a_ (H_ rfl rfl) rfl (e_ (w_ rfl ?_))
        exact met ⟨rfl, rfl, rfl, rfl, (y_ rfl (jat qr60 hr61)), trivial⟩
      ·
       refine a_ (d_ rfl) rfl ?_
       refine aT_ 4 ((((bf_ (Pc.a p)) && (bY_ (Pc.r p)))) && (bf_ (Pc.c p))) (fun r => [(1, zp_ b1 0), (2, .bool false), (3, zp_ b2 0), (4, .bool false), (85, .bool r)]) ?_ fun r62 hr62 => ?_
       ·
        cases r60
        ·
         have qr62 := hr60
         simp at hr60
         refine r_ rfl rfl rfl rfl (r_ rfl rfl rfl rfl (r_ rfl rfl rfl rfl (a_ (C_ rfl rfl) rfl (e_ (w_ rfl ?_)))))
         exact met ⟨rfl, rfl, rfl, rfl, (y_ rfl (jaf qr62)), trivial⟩
        ·
         have qr62 := hr60
         simp at hr60
         refine p_ rfl rfl (a_ (l_ k_ rfl rfl rfl j_) rfl (p_ rfl rfl (a_ (u_ 1 q_ rfl rfl rfl) rfl (p_ rfl rfl (as_ (et_ _ (by omega)) rfl I_ (fun _ _ _ => by exact trivial) rfl fun r63 hr63 => ?_)))))
         refine a_ (H_ rfl rfl) rfl (e_ (w_ rfl ?_))
         exact met ⟨rfl, rfl, rfl, rfl, (y_ rfl (jat qr62 hr63)), trivial⟩
       ·
        refine a_ (g_ rfl) rfl (e_ (b_ rfl (h_ (c_ (a_ (d_ rfl) rfl (a_ (d_ rfl) rfl ?_))))))
        refine aT_ 4 ((((((bf_ (Pc.a p)) && (bY_ (Pc.r p)))) && (bf_ (Pc.c p)))) && (decide (p = (Pc.mk (Pc.kind p) (Pc.a p) [] (Pc.c p) (Pc.r p) [] [] 0 0 (Pc.frm p))))) (fun r => [(2, .bool false), (189, .bool r)]) ?_ fun r64 hr64 => ?_
        ·
         cases r62
         ·
          have qr64 := hr62
          simp at hr62
          refine r_ rfl rfl rfl rfl (r_ rfl rfl rfl rfl (r_ rfl rfl rfl rfl (a_ (C_ rfl rfl) rfl (e_ (w_ rfl ?_)))))
          exact met ⟨rfl, (y_ rfl (jaf qr64)), trivial⟩
         ·
          have qr64 := hr62
          simp at hr62
          refine p_ rfl rfl (a_ (Y_ 1 aG_ K_ rfl rfl rfl) rfl (p_ rfl rfl (a_ (Y_ 0 aG_ K_ rfl rfl rfl) rfl (p_ rfl rfl (x_ (dX_ (p := p) (q := (Pc.mk (Pc.kind p) (Pc.a p) [] (Pc.c p) (Pc.r p) [] [] 0 0 (Pc.frm p))) rfl rfl) rfl fun r65 hr65 => ?_)))))
          refine a_ (H_ rfl rfl) rfl (e_ (w_ rfl ?_))
          exact met ⟨rfl, (y_ rfl (jat qr64 hr65)), trivial⟩
        ·
         refine a_ (g_ rfl) rfl (e_ (b_ rfl (F_ ?_)))
         exact aw_ dk_ () (y_ rfl (by rw [← hr64]; obtain ⟨kind, a, b, c, r, s, t, lo, hi, frm⟩ := p; dsimp only at *; subst kind; rw [Bool.eq_iff_iff, fP_ 3 ⟨true, false, true, true, false, false, false⟩ rfl (by omega)]; simp only [hB_, hC_, Bool.and_eq_true, decide_eq_true_eq, Pc.mk.injEq, if_true, Bool.false_eq_true, if_false]; constructor <;> intro h <;> simp_all <;> omega)) I_ (fun _ _ _ => trivial)
    ·
     replace hr5 := eq_of_beq hr5
     refine t_ rfl (h_ (c_ (a_ (l_ k_ rfl rfl rfl j_) rfl (a_ (u_ 1 q_ rfl rfl rfl) rfl (a_ (l_ k_ rfl rfl rfl j_) rfl (Q_ 0 j_ rfl rfl rfl rfl rfl rfl (e_ (b_ rfl (h_ ?_)))))))))
     refine c_ (a_ (l_ k_ rfl rfl rfl j_) rfl (a_ (u_ 1 q_ rfl rfl rfl) rfl (a_ (l_ k_ rfl rfl rfl j_) rfl (Q_ 0 j_ rfl rfl rfl rfl rfl rfl (e_ (b_ rfl (h_ (c_ (a_ (l_ k_ rfl rfl rfl j_) rfl ?_)))))))))
     refine a_ (u_ 1 q_ rfl rfl rfl) rfl (a_ (l_ k_ rfl rfl rfl j_) rfl (Q_ 0 j_ rfl rfl rfl rfl rfl rfl (e_ (b_ rfl (c_ (a_ (l_ k_ rfl rfl rfl j_) rfl (a_ (u_ 1 q_ rfl rfl rfl) rfl (as_ (et_ _ (by omega)) rfl I_ (fun _ _ _ => by exact trivial) rfl fun r66 hr66 => ?_))))))))
     refine a_ (d_ rfl) rfl ?_
     refine aT_ 4 ((bf_ (Pc.a p)) && (bf_ (Pc.b p))) (fun r => [(1, zp_ b1 0), (2, .bool false), (3, zp_ b2 0), (4, .bool false), (55, .bool r)]) ?_ fun r67 hr67 => ?_
     ·
      cases r66
      ·
       have qr67 := hr66
       refine r_ rfl rfl rfl rfl (r_ rfl rfl rfl rfl (r_ rfl rfl rfl rfl (a_ (C_ rfl rfl) rfl (e_ (w_ rfl ?_)))))
       exact met ⟨rfl, rfl, rfl, rfl, (y_ rfl (jaf qr67)), trivial⟩
      ·
       have qr67 := hr66
       refine p_ rfl rfl (a_ (l_ k_ rfl rfl rfl j_) rfl (p_ rfl rfl (a_ (u_ 1 q_ rfl rfl rfl) rfl (p_ rfl rfl (as_ (et_ _ (by omega)) rfl I_ (fun _ _ _ => by exact trivial) rfl fun r68 hr68 => ?_)))))
       refine a_ (H_ rfl rfl) rfl (e_ (w_ rfl ?_))
       exact met ⟨rfl, rfl, rfl, rfl, (y_ rfl (jat qr67 hr68)), trivial⟩
     ·
      refine a_ (d_ rfl) rfl ?_
      refine aT_ 4 ((((bf_ (Pc.a p)) && (bf_ (Pc.b p)))) && (bf_ (Pc.c p))) (fun r => [(1, zp_ b1 0), (2, .bool false), (3, zp_ b2 0), (4, .bool false), (60, .bool r)]) ?_ fun r69 hr69 => ?_
      ·
       cases r67
       ·
        have qr69 := hr67
        simp at hr67
        refine r_ rfl rfl rfl rfl (r_ rfl rfl rfl rfl (r_ rfl rfl rfl rfl (a_ (C_ rfl rfl) rfl (e_ (w_ rfl ?_)))))
        exact met ⟨rfl, rfl, rfl, rfl, (y_ rfl (jaf qr69)), trivial⟩
       ·
        have qr69 := hr67
        simp at hr67
        refine p_ rfl rfl (a_ (l_ k_ rfl rfl rfl j_) rfl (p_ rfl rfl (a_ (u_ 1 q_ rfl rfl rfl) rfl (p_ rfl rfl (as_ (et_ _ (by omega)) rfl I_ (fun _ _ _ => by exact trivial) rfl fun r70 hr70 => ?_)))))
        refine a_ (H_ rfl rfl) rfl (e_ (w_ rfl ?_))
        exact met ⟨rfl, rfl, rfl, rfl, (y_ rfl (jat qr69 hr70)), trivial⟩
      ·
       refine a_ (g_ rfl) rfl (e_ (b_ rfl (h_ (c_ (a_ (d_ rfl) rfl (a_ (d_ rfl) rfl ?_))))))
       refine aT_ 4 ((((((bf_ (Pc.a p)) && (bf_ (Pc.b p)))) && (bf_ (Pc.c p)))) && (decide (p = (Pc.mk (Pc.kind p) (Pc.a p) (Pc.b p) (Pc.c p) [] [] [] 0 0 (Pc.frm p))))) (fun r => [(2, .bool false), (189, .bool r)]) ?_ fun r71 hr71 => ?_
       ·
        cases r69
        ·
         have qr71 := hr69
         simp at hr69
         refine r_ rfl rfl rfl rfl (r_ rfl rfl rfl rfl (r_ rfl rfl rfl rfl (a_ (C_ rfl rfl) rfl (e_ (w_ rfl ?_)))))
         exact met ⟨rfl, (y_ rfl (jaf qr71)), trivial⟩
        ·
         have qr71 := hr69
         simp at hr69
         refine p_ rfl rfl (a_ (Y_ 1 aG_ K_ rfl rfl rfl) rfl (p_ rfl rfl (a_ (Y_ 0 aG_ K_ rfl rfl rfl) rfl (p_ rfl rfl (x_ (dX_ (p := p) (q := (Pc.mk (Pc.kind p) (Pc.a p) (Pc.b p) (Pc.c p) [] [] [] 0 0 (Pc.frm p))) rfl rfl) rfl fun r72 hr72 => ?_)))))
         refine a_ (H_ rfl rfl) rfl (e_ (w_ rfl ?_))
         exact met ⟨rfl, (y_ rfl (jat qr71 hr72)), trivial⟩
       ·
        refine a_ (g_ rfl) rfl (e_ (b_ rfl (F_ ?_)))
        exact aw_ dk_ () (y_ rfl (by rw [← hr71]; obtain ⟨kind, a, b, c, r, s, t, lo, hi, frm⟩ := p; dsimp only at *; subst kind; rw [Bool.eq_iff_iff, fP_ 2 ⟨true, true, true, false, false, false, false⟩ rfl (by omega)]; simp only [hB_, hC_, Bool.and_eq_true, decide_eq_true_eq, Pc.mk.injEq, if_true, Bool.false_eq_true, if_false]; constructor <;> intro h <;> simp_all <;> omega)) I_ (fun _ _ _ => trivial)
   ·
    replace hr4 := eq_of_beq hr4
    refine t_ rfl (h_ (c_ (a_ (l_ k_ rfl rfl rfl j_) rfl (a_ (u_ 1 q_ rfl rfl rfl) rfl (a_ (l_ k_ rfl rfl rfl j_) rfl (Q_ 0 j_ rfl rfl rfl rfl rfl rfl (e_ (b_ rfl (h_ ?_)))))))))
    refine c_ (a_ (l_ k_ rfl rfl rfl j_) rfl (a_ (u_ 1 q_ rfl rfl rfl) rfl (a_ (l_ k_ rfl rfl rfl j_) rfl (Q_ 0 j_ rfl rfl rfl rfl rfl rfl (e_ (b_ rfl (c_ (a_ (l_ k_ rfl rfl rfl j_) rfl (a_ (u_ 1 q_ rfl rfl rfl) rfl ?_)))))))))
    refine as_ (et_ _ (by omega)) rfl I_ (fun _ _ _ => by exact trivial) rfl fun r73 hr73 => ?_
    refine a_ (d_ rfl) rfl ?_
    refine aT_ 4 ((bf_ (Pc.a p)) && (bf_ (Pc.c p))) (fun r => [(1, zp_ b1 0), (2, .bool false), (3, zp_ b2 0), (4, .bool false), (36, .bool r)]) ?_ fun r74 hr74 => ?_
    ·
     cases r73
     ·
      have qr74 := hr73
      refine r_ rfl rfl rfl rfl (r_ rfl rfl rfl rfl (r_ rfl rfl rfl rfl (a_ (C_ rfl rfl) rfl (e_ (w_ rfl ?_)))))
      exact met ⟨rfl, rfl, rfl, rfl, (y_ rfl (jaf qr74)), trivial⟩
     ·
      have qr74 := hr73
      refine p_ rfl rfl (a_ (l_ k_ rfl rfl rfl j_) rfl (p_ rfl rfl (a_ (u_ 1 q_ rfl rfl rfl) rfl (p_ rfl rfl (as_ (et_ _ (by omega)) rfl I_ (fun _ _ _ => by exact trivial) rfl fun r75 hr75 => ?_)))))
      refine a_ (H_ rfl rfl) rfl (e_ (w_ rfl ?_))
      exact met ⟨rfl, rfl, rfl, rfl, (y_ rfl (jat qr74 hr75)), trivial⟩
    ·
     refine a_ (g_ rfl) rfl (e_ (b_ rfl (h_ (c_ (a_ (d_ rfl) rfl (a_ (d_ rfl) rfl ?_))))))
     refine aT_ 4 ((((bf_ (Pc.a p)) && (bf_ (Pc.c p)))) && (decide (p = (Pc.mk (Pc.kind p) (Pc.a p) [] (Pc.c p) [] [] [] 0 0 (Pc.frm p))))) (fun r => [(2, .bool false), (189, .bool r)]) ?_ fun r76 hr76 => ?_
     ·
      cases r74
      ·
       have qr76 := hr74
       simp at hr74
       refine r_ rfl rfl rfl rfl (r_ rfl rfl rfl rfl (r_ rfl rfl rfl rfl (a_ (C_ rfl rfl) rfl (e_ (w_ rfl ?_)))))
       exact met ⟨rfl, (y_ rfl (jaf qr76)), trivial⟩
      ·
       have qr76 := hr74
       simp at hr74
       refine p_ rfl rfl (a_ (Y_ 1 aG_ K_ rfl rfl rfl) rfl (p_ rfl rfl (a_ (Y_ 0 aG_ K_ rfl rfl rfl) rfl (p_ rfl rfl (x_ (dX_ (p := p) (q := (Pc.mk (Pc.kind p) (Pc.a p) [] (Pc.c p) [] [] [] 0 0 (Pc.frm p))) rfl rfl) rfl fun r77 hr77 => ?_)))))
       refine a_ (H_ rfl rfl) rfl (e_ (w_ rfl ?_))
       exact met ⟨rfl, (y_ rfl (jat qr76 hr77)), trivial⟩
     ·
      refine a_ (g_ rfl) rfl (e_ (b_ rfl (F_ ?_)))
      exact aw_ dk_ () (y_ rfl (by rw [← hr76]; obtain ⟨kind, a, b, c, r, s, t, lo, hi, frm⟩ := p; dsimp only at *; subst kind; rw [Bool.eq_iff_iff, fP_ 1 ⟨true, false, true, false, false, false, false⟩ rfl (by omega)]; simp only [hB_, hC_, Bool.and_eq_true, decide_eq_true_eq, Pc.mk.injEq, if_true, Bool.false_eq_true, if_false]; constructor <;> intro h <;> simp_all <;> omega)) I_ (fun _ _ _ => trivial)
  ·
   simp at hr2
   refine t_ rfl (h_ (c_ (a_ (g_ rfl) rfl (e_ (b_ rfl (F_ ?_))))))
   exact aw_ dk_ () (y_ rfl (by unfold Pc.valid; rw [if_pos (by omega)])) I_ (fun _ _ _ => trivial)
theorem ls_ (l : List Pc) (ad : Option Addr) (cap : Nat) (hl : l.length ≤ 17592186044414) (hsm : ∀ p ∈ l, p.sm) : Tri Tryz.prog 62 #[.slice ad (List.length l) cap] [] [az_ ad (List.flatMap Pc.cells l)] (fun _ : Unit => .int .i64 (bM_ l)) (fun _ => []) (fun _ => []) := by
  refine T_ Tryz.func62 rfl rfl Tryz.ntmps62 rfl fun v0 => ?_
  refine h_ (c_ (a_ (g_ rfl) rfl (e_ (b_ rfl (h_ (h_ (c_ (a_ (d_ rfl) rfl (a_ (am_ A_ rfl) rfl ?_)))))))))
  refine x_ (bR_ rfl rfl) rfl fun r1 hr1 => ?_
  refine e_ (b_ rfl ?_)
  cases r1
  · skip
    replace hr1 := of_decide_eq_false hr1
    refine v_ rfl (z_ (b_ rfl (h_ (h_ (c_ (a_ (g_ rfl) rfl (e_ (b_ rfl (R_ ?_)))))))))
    refine ds_ [(0, .slice ad (List.length l) cap), (3, .int .i64 ((0 : Nat) : Int))] ⟨rfl, rfl, trivial⟩ ?_
    refine dq_ (ι := {q : Nat // q ≤ l.length ∧ (l.take q).all Pc.valid = true}) (fun i => [(0, .slice ad (List.length l) cap), (3, .int .i64 (i.1 : Int))]) (fun _ => _) (fun _ => _) (fun i => l.length - i.1) ⟨0, by simp⟩ ?_
    rintro ⟨i, hk⟩
    refine ds_ [(0, .slice ad (List.length l) cap), (3, .int .i64 (i : Int))] ⟨rfl, rfl, trivial⟩ ?_
    refine h_ (h_ (c_ (a_ (d_ rfl) rfl (a_ (d_ rfl) rfl (a_ (am_ A_ rfl) rfl (x_ (av_ rfl rfl) rfl fun r2 hr2 => ?_))))))
    refine e_ (b_ rfl ?_)
    cases r2
    · skip
      replace hr2 := of_decide_eq_false hr2
      refine v_ rfl (au_ rfl (b_ rfl (h_ (c_ (a_ (g_ rfl) rfl (e_ (b_ rfl (F_ ?_))))))))
      exact aw_ Tryz.results62 () (cm_ rfl (by unfold bM_; rw [if_neg (by omega), if_pos (by have := hk.2; rwa [List.take_of_length_le (by omega)] at this)])) (.refl _) (fun _ _ _ => trivial)
    · skip
      replace hr2 := of_decide_eq_true hr2
      have hlx1 : i < List.length l := by omega
      obtain ⟨x1, hx1⟩ : ∃ e0, l[i]? = some e0 := ⟨_, List.getElem?_eq_getElem hlx1⟩
      have hmx1 : x1 ∈ l := List.mem_of_getElem? hx1
      refine t_ rfl (z_ (b_ rfl (h_ (R_ (h_ (c_ (a_ (d_ rfl) rfl (a_ (d_ rfl) rfl (a_ (aa_ A_ K_ rfl rfl (fun v _ h => ay_ (n := 10) Pc.cells_len (by decide) (by exact h.1) hx1) (by omega) (by first | omega | (simp; done))) rfl ?_)))))))))
      refine a_ (aU_ (ad := ad) (us := Pc.cells x1) aG_ K_ rfl (fun v _ h => by exact h.1) (Pc.cells_len _) (ad_ Pc.cells_len hx1)) rfl (as_ (oE_ x1 (hsm x1 hmx1)) rfl I_ (fun _ _ _ => by exact trivial) rfl fun r3 hr3 => ?_)
      refine a_ (ce_ rfl) rfl (e_ (b_ rfl ?_))
      cases r3
      · skip
        refine t_ rfl (h_ (c_ (a_ (g_ rfl) rfl (e_ (b_ rfl (F_ ?_))))))
        exact aw_ Tryz.results62 () (cm_ rfl (by unfold bM_; rw [if_neg (by omega), if_neg (by rw [show l.all Pc.valid = false from List.all_eq_false.2 ⟨x1, hmx1, by simp [*]⟩]; simp)])) (.refl _) (fun _ _ _ => trivial)
      · skip
        refine v_ rfl (z_ (b_ rfl (c_ (a_ (d_ rfl) rfl (a_ (M_ rfl rfl rfl (af_ (by omega) (by omega))) rfl (a_ (g_ rfl) rfl (e_ (w_ rfl ?_))))))))
        exact Z_ ⟨i + 1, hlx1, by rw [List.take_add_one, hx1]; simp only [Option.toList_some, List.all_append, hk.2]; simp [*]⟩ (by simp; omega) ⟨rfl, rfl, trivial⟩ (.refl _) (fun _ _ h => h)
  · skip
    replace hr1 := of_decide_eq_true hr1
    refine t_ rfl (h_ (c_ (a_ (g_ rfl) rfl (e_ (b_ rfl (F_ ?_))))))
    exact aw_ Tryz.results62 () (cm_ rfl (by unfold bM_; rw [if_pos (by omega)])) (.refl _) (fun _ _ _ => trivial)
theorem fA_ {xs : List Str} {u : Value} (h : u ∈ xs.flatMap aO_) : u.oneCell' = true := by
  rw [hl_] at h
  obtain ⟨x, _, rfl⟩ := List.mem_map.1 h
  rfl
theorem me_ (l : List Str) (ad : Option Addr) (cap : Nat) (s : Str) (hl : l.length ≤ 100000000000) (hc : l.length ≤ cap ∧ cap ≤ maxLen ∧ (ad = none → cap = 0)) : Tri Tryz.prog 158 #[.slice ad (List.length l) cap, str s] [] [az_ ad (List.flatMap aO_ l)] (fun y : {y : Option Addr × Nat // (bw_ l s).length ≤ y.2 ∧ y.2 ≤ maxLen ∧ (y.1 = none → y.2 = 0)} => .slice y.1.1 (bw_ l s).length y.1.2) (fun _ => []) (fun y => [az_ y.1.1 ((bw_ l s).flatMap aO_)]) := by
 refine T_ Tryz.func158 rfl rfl Tryz.ntmps158 rfl fun v0 => ?_
 refine h_ (c_ (a_ (g_ rfl) rfl (e_ (b_ rfl (h_ (c_ (a_ (g_ rfl) rfl (e_ (b_ rfl ?_)))))))))
 refine h_ (R_ (ds_ [(0, .slice ad (List.length l) cap), (1, str s), (5, .int .i64 ((0 : Nat) : Int))] ⟨rfl, rfl, rfl, trivial⟩ ?_))
 refine dq_ (ι := {z : Nat // z ≤ l.length ∧ ∀ x ∈ l.take z, x < s}) (fun zz => [(0, .slice ad (List.length l) cap), (1, str s), (5, .int .i64 (zz.1 : Int))]) (fun _ => _) (fun _ => _) (fun zz => l.length - zz.1) ⟨0, by simp⟩ ?_
 rintro ⟨k, hk⟩
 refine ds_ [(0, .slice ad (List.length l) cap), (1, str s), (5, .int .i64 (k : Int))] ⟨rfl, rfl, rfl, trivial⟩ ?_
 refine h_ (h_ (c_ (a_ (d_ rfl) rfl (a_ (d_ rfl) rfl (a_ (am_ D_ rfl) rfl (x_ (av_ rfl rfl) rfl fun r1 hr1 => ?_))))))
 refine a_ (d_ rfl) rfl ?_
 cases r1
 ·
  replace hr1 := of_decide_eq_false hr1
  refine r_ rfl rfl rfl rfl (r_ rfl rfl rfl rfl (r_ rfl rfl rfl rfl (r_ rfl rfl rfl rfl (r_ rfl rfl rfl rfl (r_ rfl rfl rfl rfl (a_ (C_ rfl rfl) rfl (e_ (b_ rfl (v_ rfl ?_)))))))))
  refine au_ rfl (b_ rfl (h_ (h_ ?_)))
  have hks : kS l s = k := lL_ hk.1 hk.2 (fun x hx => by have := (List.getElem?_eq_some_iff.1 hx).1; omega)
  refine c_ (a_ (d_ rfl) rfl (x_ (aq_ rfl rfl) rfl fun r2 hr2 => ?_))
  refine a_ (d_ rfl) rfl ?_
  cases r2
  ·
   replace hr2 := ne_of_beq_false hr2
   refine p_ rfl rfl (a_ (d_ rfl) rfl (p_ rfl rfl (a_ (d_ rfl) rfl (p_ rfl rfl (a_ (am_ D_ rfl) rfl (p_ rfl rfl (x_ (av_ rfl rfl) rfl fun r3 hr3 => ?_)))))))
   refine p_ rfl rfl (a_ (d_ rfl) rfl ?_)
   cases r3
   ·
    replace hr3 := of_decide_eq_false hr3
    refine r_ rfl rfl rfl rfl (r_ rfl rfl rfl rfl (r_ rfl rfl rfl rfl (r_ rfl rfl rfl rfl (r_ rfl rfl rfl rfl (r_ rfl rfl rfl rfl (p_ rfl rfl (a_ (C_ rfl rfl) rfl (a_ (C_ rfl rfl) rfl (e_ ?_)))))))))
    refine b_ rfl (v_ rfl (z_ (b_ rfl (h_ (c_ (cF_ D_ j_ rfl fun b1 => ?_))))))
    refine a_ (d_ rfl) rfl (a_ (d_ rfl) rfl (a_ (bC_ (cj_ (i := 0) (j := k) (kl := .i64) (kh := .i64) D_ j_ rfl rfl rfl (by omega) (by omega)) (show _ = Value.slice (sad ad cap 0 1) (List.length (List.take k l)) (cap - 0) by rw [List.length_take, Nat.min_eq_left (by omega)]; rfl)) rfl ?_))
    have hr0 : aQ_ 9 1 (.slice (some ⟨b1, 0, none⟩) 0 0) 0 [] [(b1, .cells #[] 9 (0, 0))] := ⟨rfl, .inr ⟨b1, 0, #[], rfl, rfl, Nat.le_refl _, Nat.zero_le _, rfl, rfl⟩⟩
    refine aI_ (news := (List.take k l).flatMap aO_) jE_ hr0 rfl rfl (fun q => by have := hc.2.2 (dp_ q); omega) (by rw [List.length_take]; omega) (.refl _) (by rw [bp_ aO_ 1 at_]) (fun v _ h => by exact (bv_.slice at_ h.1 hc.1 0 k)) (fun u hu => fA_ hu) (by rw [List.length_take]; simp only [maxLen]; omega) (by rw [List.length_take]; omega) rfl fun sv1 Hr1 hr1 => ?_
    refine aj_ (@List.perm_append_comm _ _ []) (a_ (g_ rfl) rfl (e_ (b_ rfl (h_ (c_ (a_ (d_ rfl) rfl (a_ (d_ rfl) rfl (aJ_ D_ j_ bm_ rfl rfl rfl rfl rfl rfl fun b2 => ?_))))))))
    refine bi_ (news := [str s]) jE_ hr1 rfl rfl (f_ aD_) rfl (cy_ 0 rfl) (io_ rfl) (by rw [List.length_take]; simp only [maxLen]; omega) (by rw [List.length_take]; omega) rfl fun sv2 Hr2 hr2 => ?_
    refine aj_ (@List.perm_append_comm _ _ [_]) (a_ (g_ rfl) rfl (e_ (b_ rfl (h_ (c_ (a_ (d_ rfl) rfl (a_ (d_ rfl) rfl (a_ (d_ rfl) rfl (a_ (bC_ (cj_ (i := k) (j := l.length) (kl := .i64) (kh := .i64) D_ j_ rfl rfl rfl (by omega) (by omega)) (show _ = Value.slice (sad ad cap k 1) (List.length (List.drop k l)) (cap - k) by rw [List.length_drop])) rfl ?_)))))))))
    refine aI_ (news := (List.drop k l).flatMap aO_) jE_ hr2 rfl rfl (fun q => by have := hc.2.2 (dp_ q); omega) (by rw [List.length_drop]; omega) (f_ aD_) (by rw [bp_ aO_ 1 at_]) (fun v _ h => by exact (bv_.rest at_ h.1 hc.1 k)) (fun u hu => fA_ hu) (by rw [List.length_drop, List.length_take]; simp only [maxLen]; omega) (by rw [List.length_drop, List.length_take]; omega) rfl fun sv3 Hr3 hr3 => ?_
    refine aj_ (@List.perm_append_comm _ _ [_]) (a_ (g_ rfl) rfl (e_ (b_ rfl (F_ ?_))))
    have ew : bw_ l s = l.take k ++ [s] ++ l.drop k := by unfold bw_; rw [hks, if_neg (by simp_all)]
    have hr4 : aQ_ 9 1 sv3 (bw_ l s).length ((bw_ l s).flatMap aO_) Hr3 := by rw [ew, List.flatMap_append, List.flatMap_append, List.length_append, List.length_append]; simpa [aO_] using hr3
    refine bk_ hr4 (f_ aD_) fun ad2 cp2 hsv hc1 hc2 hc3 => ?_
    exact aw_ fL_ ⟨(ad2, cp2), hc1, hc2, hc3⟩ (bU_ rfl hsv) I_ (fun v _ h => ⟨h.1, trivial⟩)
   ·
    replace hr3 := of_decide_eq_true hr3
    have hlx1 : k < List.length l := by omega
    obtain ⟨x1, hx1⟩ : ∃ e0, l[k]? = some e0 := ⟨_, List.getElem?_eq_getElem hlx1⟩
    have hmx1 : x1 ∈ l := List.mem_of_getElem? hx1
    refine p_ rfl rfl (a_ (d_ rfl) rfl (p_ rfl rfl (a_ (d_ rfl) rfl (p_ rfl rfl (a_ (aa_ D_ j_ rfl rfl (fun v _ h => ay_ (n := 1) at_ (by decide) (by exact h.1) hx1) (by omega) (by first | omega | (simp; done))) rfl (p_ rfl rfl (a_ (aN_ (ad := ad) q_ rfl (fun v _ h => by exact h.1) (ad_ at_ hx1 0 _ rfl)) rfl (p_ rfl rfl (a_ (d_ rfl) rfl ?_)))))))))
    refine p_ rfl rfl (x_ (aq_ rfl rfl) rfl fun r4 hr4 => ?_)
    refine p_ rfl rfl (a_ (H_ rfl rfl) rfl (a_ (C_ rfl rfl) rfl (e_ (b_ rfl ?_))))
    cases r4
    ·
     replace hr4 := ne_of_beq_false hr4
     refine v_ rfl (z_ (b_ rfl (h_ (c_ (cF_ D_ j_ rfl fun b3 => ?_)))))
     refine a_ (d_ rfl) rfl (a_ (d_ rfl) rfl (a_ (bC_ (cj_ (i := 0) (j := k) (kl := .i64) (kh := .i64) D_ j_ rfl rfl rfl (by omega) (by omega)) (show _ = Value.slice (sad ad cap 0 1) (List.length (List.take k l)) (cap - 0) by rw [List.length_take, Nat.min_eq_left (by omega)]; rfl)) rfl ?_))
     have hr0 : aQ_ 9 1 (.slice (some ⟨b3, 0, none⟩) 0 0) 0 [] [(b3, .cells #[] 9 (0, 0))] := ⟨rfl, .inr ⟨b3, 0, #[], rfl, rfl, Nat.le_refl _, Nat.zero_le _, rfl, rfl⟩⟩
     refine aI_ (news := (List.take k l).flatMap aO_) jE_ hr0 rfl rfl (fun q => by have := hc.2.2 (dp_ q); omega) (by rw [List.length_take]; omega) (.refl _) (by rw [bp_ aO_ 1 at_]) (fun v _ h => by exact (bv_.slice at_ h.1 hc.1 0 k)) (fun u hu => fA_ hu) (by rw [List.length_take]; simp only [maxLen]; omega) (by rw [List.length_take]; omega) rfl fun sv1 Hr1 hr1 => ?_
     refine aj_ (@List.perm_append_comm _ _ []) (a_ (g_ rfl) rfl (e_ (b_ rfl (h_ (c_ (a_ (d_ rfl) rfl (a_ (d_ rfl) rfl (aJ_ D_ j_ bm_ rfl rfl rfl rfl rfl rfl fun b4 => ?_))))))))
     refine bi_ (news := [str s]) jE_ hr1 rfl rfl (f_ aD_) rfl (cy_ 0 rfl) (io_ rfl) (by rw [List.length_take]; simp only [maxLen]; omega) (by rw [List.length_take]; omega) rfl fun sv2 Hr2 hr2 => ?_
     refine aj_ (@List.perm_append_comm _ _ [_]) (a_ (g_ rfl) rfl (e_ (b_ rfl (h_ (c_ (a_ (d_ rfl) rfl (a_ (d_ rfl) rfl (a_ (d_ rfl) rfl (a_ (bC_ (cj_ (i := k) (j := l.length) (kl := .i64) (kh := .i64) D_ j_ rfl rfl rfl (by omega) (by omega)) (show _ = Value.slice (sad ad cap k 1) (List.length (List.drop k l)) (cap - k) by rw [List.length_drop])) rfl ?_)))))))))
     refine aI_ (news := (List.drop k l).flatMap aO_) jE_ hr2 rfl rfl (fun q => by have := hc.2.2 (dp_ q); omega) (by rw [List.length_drop]; omega) (f_ aD_) (by rw [bp_ aO_ 1 at_]) (fun v _ h => by exact (bv_.rest at_ h.1 hc.1 k)) (fun u hu => fA_ hu) (by rw [List.length_drop, List.length_take]; simp only [maxLen]; omega) (by rw [List.length_drop, List.length_take]; omega) rfl fun sv3 Hr3 hr3 => ?_
     refine aj_ (@List.perm_append_comm _ _ [_]) (a_ (g_ rfl) rfl (e_ (b_ rfl (F_ ?_))))
     have ew : bw_ l s = l.take k ++ [s] ++ l.drop k := by unfold bw_; rw [hks, if_neg (by simp_all)]
     have hr4 : aQ_ 9 1 sv3 (bw_ l s).length ((bw_ l s).flatMap aO_) Hr3 := by rw [ew, List.flatMap_append, List.flatMap_append, List.length_append, List.length_append]; simpa [aO_] using hr3
     refine bk_ hr4 (f_ aD_) fun ad2 cp2 hsv hc1 hc2 hc3 => ?_
     exact aw_ fL_ ⟨(ad2, cp2), hc1, hc2, hc3⟩ (bU_ rfl hsv) I_ (fun v _ h => ⟨h.1, trivial⟩)
    ·
     replace hr4 := eq_of_beq hr4
     refine t_ rfl (h_ (c_ (a_ (d_ rfl) rfl (a_ (g_ rfl) rfl (e_ (b_ rfl (F_ ?_)))))))
     have ew : bw_ l s = l := by unfold bw_; rw [hks, if_pos (by simp_all)]
     exact aw_ fL_ ⟨(ad, cap), by rw [ew]; exact hc⟩ (bU_ rfl (by dsimp only; rw [ew])) I_ (fun v _ h => ⟨by show bv_ v ad ((bw_ l s).flatMap aO_); rw [ew]; exact h.1, trivial⟩)
  ·
   replace hr2 := eq_of_beq hr2
   refine r_ rfl rfl rfl rfl (r_ rfl rfl rfl rfl (r_ rfl rfl rfl rfl (r_ rfl rfl rfl rfl (r_ rfl rfl rfl rfl (r_ rfl rfl rfl rfl (r_ rfl rfl rfl rfl (r_ rfl rfl rfl rfl (r_ rfl rfl rfl rfl (r_ rfl rfl rfl rfl ?_)))))))))
   refine r_ rfl rfl rfl rfl (r_ rfl rfl rfl rfl (a_ (H_ rfl rfl) rfl (e_ (b_ rfl (t_ rfl (h_ (c_ (a_ (d_ rfl) rfl (a_ (g_ rfl) rfl ?_)))))))))
   refine e_ (b_ rfl (F_ ?_))
   have ew : bw_ l s = l := by unfold bw_; rw [hks, if_pos (by simp_all)]
   exact aw_ fL_ ⟨(ad, cap), by rw [ew]; exact hc⟩ (bU_ rfl (by dsimp only; rw [ew])) I_ (fun v _ h => ⟨by show bv_ v ad ((bw_ l s).flatMap aO_); rw [ew]; exact h.1, trivial⟩)
 ·
  replace hr1 := of_decide_eq_true hr1
  have hlx1 : k < List.length l := by omega
  obtain ⟨x1, hx1⟩ : ∃ e0, l[k]? = some e0 := ⟨_, List.getElem?_eq_getElem hlx1⟩
  have hmx1 : x1 ∈ l := List.mem_of_getElem? hx1
  refine p_ rfl rfl (a_ (d_ rfl) rfl (p_ rfl rfl (a_ (d_ rfl) rfl (p_ rfl rfl (a_ (aa_ D_ j_ rfl rfl (fun v _ h => ay_ (n := 1) at_ (by decide) (by exact h.1) hx1) (by omega) (by first | omega | (simp; done))) rfl (p_ rfl rfl (a_ (aN_ (ad := ad) q_ rfl (fun v _ h => by exact h.1) (ad_ at_ hx1 0 _ rfl)) rfl (p_ rfl rfl (a_ (d_ rfl) rfl ?_)))))))))
  refine p_ rfl rfl (x_ (gi_ rfl rfl) rfl fun r5 hr5 => ?_)
  refine a_ (H_ rfl rfl) rfl (e_ (b_ rfl ?_))
  cases r5
  ·
   replace hr5 := of_decide_eq_false hr5
   refine v_ rfl (au_ rfl (b_ rfl (h_ (h_ ?_))))
   have hks : kS l s = k := lL_ hk.1 hk.2 (fun x hx => by rw [hx1] at hx; cases hx; assumption)
   refine c_ (a_ (d_ rfl) rfl (x_ (aq_ rfl rfl) rfl fun r6 hr6 => ?_))
   refine a_ (d_ rfl) rfl ?_
   cases r6
   ·
    replace hr6 := ne_of_beq_false hr6
    refine p_ rfl rfl (a_ (d_ rfl) rfl (p_ rfl rfl (a_ (d_ rfl) rfl (p_ rfl rfl (a_ (am_ D_ rfl) rfl (p_ rfl rfl (x_ (av_ rfl rfl) rfl fun r7 hr7 => ?_)))))))
    refine p_ rfl rfl (a_ (d_ rfl) rfl ?_)
    cases r7
    ·
     replace hr7 := of_decide_eq_false hr7
     exfalso; omega
    ·
     replace hr7 := of_decide_eq_true hr7
     refine p_ rfl rfl (a_ (d_ rfl) rfl (p_ rfl rfl (a_ (d_ rfl) rfl (p_ rfl rfl (a_ (aa_ D_ j_ rfl rfl (fun v _ h => ay_ (n := 1) at_ (by decide) (by exact h.1) hx1) (by omega) (by first | omega | (simp; done))) rfl (p_ rfl rfl (a_ (aN_ (ad := ad) q_ rfl (fun v _ h => by exact h.1) (ad_ at_ hx1 0 _ rfl)) rfl (p_ rfl rfl (a_ (d_ rfl) rfl ?_)))))))))
     refine p_ rfl rfl (x_ (aq_ rfl rfl) rfl fun r8 hr8 => ?_)
     refine p_ rfl rfl (a_ (H_ rfl rfl) rfl (a_ (C_ rfl rfl) rfl (e_ (b_ rfl ?_))))
     cases r8
     ·
      replace hr8 := ne_of_beq_false hr8
      refine v_ rfl (z_ (b_ rfl (h_ (c_ (cF_ D_ j_ rfl fun b5 => ?_)))))
      refine a_ (d_ rfl) rfl (a_ (d_ rfl) rfl (a_ (bC_ (cj_ (i := 0) (j := k) (kl := .i64) (kh := .i64) D_ j_ rfl rfl rfl (by omega) (by omega)) (show _ = Value.slice (sad ad cap 0 1) (List.length (List.take k l)) (cap - 0) by rw [List.length_take, Nat.min_eq_left (by omega)]; rfl)) rfl ?_))
      have hr0 : aQ_ 9 1 (.slice (some ⟨b5, 0, none⟩) 0 0) 0 [] [(b5, .cells #[] 9 (0, 0))] := ⟨rfl, .inr ⟨b5, 0, #[], rfl, rfl, Nat.le_refl _, Nat.zero_le _, rfl, rfl⟩⟩
      refine aI_ (news := (List.take k l).flatMap aO_) jE_ hr0 rfl rfl (fun q => by have := hc.2.2 (dp_ q); omega) (by rw [List.length_take]; omega) (.refl _) (by rw [bp_ aO_ 1 at_]) (fun v _ h => by exact (bv_.slice at_ h.1 hc.1 0 k)) (fun u hu => fA_ hu) (by rw [List.length_take]; simp only [maxLen]; omega) (by rw [List.length_take]; omega) rfl fun sv1 Hr1 hr1 => ?_
      refine aj_ (@List.perm_append_comm _ _ []) (a_ (g_ rfl) rfl (e_ (b_ rfl (h_ (c_ (a_ (d_ rfl) rfl (a_ (d_ rfl) rfl (aJ_ D_ j_ bm_ rfl rfl rfl rfl rfl rfl fun b6 => ?_))))))))
      refine bi_ (news := [str s]) jE_ hr1 rfl rfl (f_ aD_) rfl (cy_ 0 rfl) (io_ rfl) (by rw [List.length_take]; simp only [maxLen]; omega) (by rw [List.length_take]; omega) rfl fun sv2 Hr2 hr2 => ?_
      refine aj_ (@List.perm_append_comm _ _ [_]) (a_ (g_ rfl) rfl (e_ (b_ rfl (h_ (c_ (a_ (d_ rfl) rfl (a_ (d_ rfl) rfl (a_ (d_ rfl) rfl (a_ (bC_ (cj_ (i := k) (j := l.length) (kl := .i64) (kh := .i64) D_ j_ rfl rfl rfl (by omega) (by omega)) (show _ = Value.slice (sad ad cap k 1) (List.length (List.drop k l)) (cap - k) by rw [List.length_drop])) rfl ?_)))))))))
      refine aI_ (news := (List.drop k l).flatMap aO_) jE_ hr2 rfl rfl (fun q => by have := hc.2.2 (dp_ q); omega) (by rw [List.length_drop]; omega) (f_ aD_) (by rw [bp_ aO_ 1 at_]) (fun v _ h => by exact (bv_.rest at_ h.1 hc.1 k)) (fun u hu => fA_ hu) (by rw [List.length_drop, List.length_take]; simp only [maxLen]; omega) (by rw [List.length_drop, List.length_take]; omega) rfl fun sv3 Hr3 hr3 => ?_
      refine aj_ (@List.perm_append_comm _ _ [_]) (a_ (g_ rfl) rfl (e_ (b_ rfl (F_ ?_))))
      have ew : bw_ l s = l.take k ++ [s] ++ l.drop k := by unfold bw_; rw [hks, if_neg (by simp_all)]
      have hr4 : aQ_ 9 1 sv3 (bw_ l s).length ((bw_ l s).flatMap aO_) Hr3 := by rw [ew, List.flatMap_append, List.flatMap_append, List.length_append, List.length_append]; simpa [aO_] using hr3
      refine bk_ hr4 (f_ aD_) fun ad2 cp2 hsv hc1 hc2 hc3 => ?_
      exact aw_ fL_ ⟨(ad2, cp2), hc1, hc2, hc3⟩ (bU_ rfl hsv) I_ (fun v _ h => ⟨h.1, trivial⟩)
     ·
      replace hr8 := eq_of_beq hr8
      refine t_ rfl (h_ (c_ (a_ (d_ rfl) rfl (a_ (g_ rfl) rfl (e_ (b_ rfl (F_ ?_)))))))
      have ew : bw_ l s = l := by unfold bw_; rw [hks, if_pos (by simp_all)]
      exact aw_ fL_ ⟨(ad, cap), by rw [ew]; exact hc⟩ (bU_ rfl (by dsimp only; rw [ew])) I_ (fun v _ h => ⟨by show bv_ v ad ((bw_ l s).flatMap aO_); rw [ew]; exact h.1, trivial⟩)
   ·
    replace hr6 := eq_of_beq hr6
    refine r_ rfl rfl rfl rfl (r_ rfl rfl rfl rfl (r_ rfl rfl rfl rfl (r_ rfl rfl rfl rfl (r_ rfl rfl rfl rfl (r_ rfl rfl rfl rfl (r_ rfl rfl rfl rfl (r_ rfl rfl rfl rfl (r_ rfl rfl rfl rfl (r_ rfl rfl rfl rfl ?_)))))))))
    refine r_ rfl rfl rfl rfl (r_ rfl rfl rfl rfl (a_ (H_ rfl rfl) rfl (e_ (b_ rfl (t_ rfl (h_ (c_ (a_ (d_ rfl) rfl (a_ (g_ rfl) rfl ?_)))))))))
    refine e_ (b_ rfl (F_ ?_))
    have ew : bw_ l s = l := by unfold bw_; rw [hks, if_pos (by simp_all)]
    exact aw_ fL_ ⟨(ad, cap), by rw [ew]; exact hc⟩ (bU_ rfl (by dsimp only; rw [ew])) I_ (fun v _ h => ⟨by show bv_ v ad ((bw_ l s).flatMap aO_); rw [ew]; exact h.1, trivial⟩)
  ·
   replace hr5 := of_decide_eq_true hr5
   refine t_ rfl (z_ (b_ rfl (R_ (c_ (a_ (d_ rfl) rfl (a_ (M_ rfl rfl rfl (af_ (by omega) (by omega))) rfl (a_ (g_ rfl) rfl (e_ (w_ rfl ?_)))))))))
   exact Z_ ⟨k + 1, hlx1, fun x hx => by rw [List.take_add_one, hx1] at hx; simp only [Option.toList_some, List.mem_append, List.mem_singleton] at hx; rcases hx with hx | rfl; exact hk.2 x hx; assumption⟩ (by dsimp only; omega) ⟨rfl, rfl, rfl, trivial⟩ (.refl _) (fun _ _ h => h)
theorem oG_ (l : List Pc) (ad : Option Addr) (cap : Nat) (hl : l.length ≤ 10000000000) : Tri Tryz.prog 117 #[.slice ad (List.length l) cap] [] [az_ ad (List.flatMap Pc.cells l)] (fun y : {y : Option Addr × Nat // (cQ_ l).length ≤ y.2 ∧ y.2 ≤ maxLen ∧ (y.1 = none → y.2 = 0)} => .slice y.1.1 (cQ_ l).length y.1.2) (fun _ => []) (fun y => [az_ y.1.1 ((cQ_ l).flatMap aO_)]) := by
 refine T_ Tryz.func117 rfl rfl Tryz.ntmps117 rfl fun v0 => ?_
 refine h_ (c_ (a_ (g_ rfl) rfl (e_ (b_ rfl (h_ (c_ (a_ (g_ rfl) rfl (e_ (b_ rfl ?_)))))))))
 refine h_ (h_ (c_ (a_ (g_ rfl) rfl (e_ (b_ rfl (R_ (ds_ [(0, .slice ad (List.length l) cap), (3, .slice none 0 0), (4, .int .i64 0)] ⟨rfl, rfl, rfl, trivial⟩ ?_)))))))
 refine gq_ (Γ' := az_ none ((cQ_ (List.take 0 l)).flatMap aO_) :: [az_ ad (List.flatMap Pc.cells l)]) (fun v _ h => ⟨.inl rfl, h⟩) ?_
 refine dq_ (ι := {y : Nat × Option Addr × Nat // y.1 ≤ l.length ∧ ((cQ_ (List.take y.1 l)).length ≤ y.2.2 ∧ y.2.2 ≤ maxLen ∧ (y.2.1 = none → y.2.2 = 0))}) (fun y => [(0, .slice ad (List.length l) cap), (3, .slice y.1.2.1 (List.length (cQ_ (List.take y.1.1 l))) y.1.2.2), (4, .int .i64 (y.1.1 : Int))]) (fun _ => _) (fun y => az_ y.1.2.1 ((cQ_ (List.take y.1.1 l)).flatMap aO_) :: [az_ ad (List.flatMap Pc.cells l)]) (fun y => l.length - y.1.1) ⟨(0, none, 0), by simp, by simp [cQ_]⟩ ?_
 rintro ⟨⟨i, a, cp⟩, hi, hcp⟩
 dsimp only at hi hcp
 dsimp only
 have hal := hb_ (l.take i)
 rw [List.length_take] at hal
 refine ds_ [(0, .slice ad (List.length l) cap), (3, .slice a (List.length (cQ_ (List.take i l))) cp), (4, .int .i64 (i : Int))] ⟨rfl, rfl, rfl, trivial⟩ ?_
 refine h_ (h_ (c_ (a_ (d_ rfl) rfl (a_ (d_ rfl) rfl (a_ (am_ A_ rfl) rfl (x_ (av_ rfl rfl) rfl fun r1 hr1 => ?_))))))
 refine e_ (b_ rfl ?_)
 cases r1
 ·
  replace hr1 := of_decide_eq_false hr1
  refine v_ rfl (au_ rfl (b_ rfl (h_ (c_ (a_ (d_ rfl) rfl (a_ (g_ rfl) rfl (e_ (b_ rfl (F_ ?_)))))))))
  have et : l.take i = l := List.take_of_length_le (by omega)
  rw [et] at hcp
  exact aw_ Tryz.results117 ⟨(a, cp), hcp⟩ (bU_ rfl (by rw [et])) I_ (fun v _ h => ⟨by have := h.1; rw [et] at this; exact this, trivial⟩)
 ·
  replace hr1 := of_decide_eq_true hr1
  have hlx1 : i < List.length l := by omega
  obtain ⟨x1, hx1⟩ : ∃ e0, l[i]? = some e0 := ⟨_, List.getElem?_eq_getElem hlx1⟩
  have hmx1 : x1 ∈ l := List.mem_of_getElem? hx1
  refine t_ rfl (z_ (b_ rfl (h_ (R_ ?_))))
  refine aS_ (by kernel_rfl) ?_
  refine ah_ 4 [0, 1, 2, 3, 4, 5, 7, 8, 9, 10, 11, 13, 14, 15, 16, 17] (by kernel_rfl) (fun _ a b => ⟨bG_ a, b⟩) (n_ rfl (d_ rfl) rfl (n_ rfl (d_ rfl) rfl (n_ rfl (d_ rfl) rfl (n_ rfl (aa_ A_ K_ rfl rfl (fun v _ h => ay_ (n := 10) Pc.cells_len (by decide) (by exact h.2.1) hx1) (by omega) (by first | omega | (simp; done))) rfl (n_ rfl (bV_ k_ rfl rfl rfl j_) rfl (n_ rfl (aN_ (ad := ad) q_ rfl (fun v _ h => by exact h.2.1) (ad_ Pc.cells_len hx1 1 _ rfl)) rfl (n_ rfl (d_ rfl) rfl (n_ rfl (d_ rfl) rfl (n_ rfl (aa_ A_ K_ rfl rfl (fun v _ h => ay_ (n := 10) Pc.cells_len (by decide) (by exact h.2.1) hx1) (by omega) (by first | omega | (simp; done))) rfl ?_)))))))))
  refine n_ rfl (bV_ k_ rfl rfl rfl j_) rfl (n_ rfl (aN_ (ad := ad) q_ rfl (fun v _ h => by exact h.2.1) (ad_ Pc.cells_len hx1 2 _ rfl)) rfl (n_ rfl (d_ rfl) rfl (n_ rfl (d_ rfl) rfl (n_ rfl (aa_ A_ K_ rfl rfl (fun v _ h => ay_ (n := 10) Pc.cells_len (by decide) (by exact h.2.1) hx1) (by omega) (by first | omega | (simp; done))) rfl (n_ rfl (bV_ k_ rfl rfl rfl j_) rfl (n_ rfl (aN_ (ad := ad) q_ rfl (fun v _ h => by exact h.2.1) (ad_ Pc.cells_len hx1 3 _ rfl)) rfl (ag_ (X_ 6 rfl (by kernel_rfl) (W_ (me_ (cQ_ (List.take i l)) a cp (Pc.a x1) (by omega) hcp) rfl I_ (fun v _ h => by exact ⟨h.1, trivial⟩) rfl fun ⟨⟨a1, c1⟩, hc1⟩ => ?_)))))))))
  dsimp only
  have hwl1 := ey_ (cQ_ (List.take i l)) (Pc.a x1)
  refine e_ (w_ rfl (N_ (fun _ a b => ⟨bG_ a, b.2⟩) (X_ 12 rfl (by kernel_rfl) (W_ (me_ (bw_ (cQ_ (List.take i l)) (Pc.a x1)) a1 c1 (Pc.b x1) (by omega) hc1) rfl I_ (fun v _ h => by exact ⟨h.1, trivial⟩) rfl fun ⟨⟨a2, c2⟩, hc2⟩ => ?_))))
  dsimp only
  have hwl2 := ey_ (bw_ (cQ_ (List.take i l)) (Pc.a x1)) (Pc.b x1)
  refine e_ (w_ rfl (N_ (fun _ a b => ⟨bG_ a, b.2.2⟩) (X_ 18 rfl (by kernel_rfl) (W_ (me_ (bw_ (bw_ (cQ_ (List.take i l)) (Pc.a x1)) (Pc.b x1)) a2 c2 (Pc.c x1) (by omega) hc2) rfl I_ (fun v _ h => by exact ⟨h.1, trivial⟩) rfl fun ⟨⟨a3, c3⟩, hc3⟩ => ?_))))
  dsimp only
  have hwl3 := ey_ (bw_ (bw_ (cQ_ (List.take i l)) (Pc.a x1)) (Pc.b x1)) (Pc.c x1)
  refine e_ (w_ rfl (N_ (fun _ a b => ⟨bG_ a, b.2.2.2⟩) (ah_ 0 [19] (by kernel_rfl) (fun _ a b => ⟨bG_ a, b.2.2.2⟩) (n_ rfl (g_ rfl) rfl (ag_ (ac_ (by kernel_rfl) (b_ rfl (c_ (a_ (d_ rfl) rfl ?_)))))))))
  refine a_ (M_ rfl rfl rfl (af_ (by omega) (by omega))) rfl (a_ (g_ rfl) rfl (e_ (w_ rfl ?_)))
  have hst := ma_ hx1
  exact Z_ ⟨(i + 1, a3, c3), hlx1, by dsimp only; rw [hst]; exact hc3⟩ (by dsimp only; omega) ⟨rfl, (bU_ rfl (by dsimp only; rw [hst])), rfl, trivial⟩ I_ (fun _ _ h => ⟨by dsimp only; rw [hst]; exact h.1, h.2.2.2.2.1, trivial⟩)
end Go.Proofs.YtpdbbglpbngeiaaGreatDoor
namespace Go.Vs
open Go Go.Sx
def an_ (a b : Str) : Fc := ⟨1, a, b, [], 0, 0⟩
def ax_ (a r b : Str) : Fc := ⟨2, a, b, r, 0, 0⟩
def aP_ (a r : Str) (lo hi : Int) : Fc := ⟨3, a, [], r, lo, hi⟩
inductive One (p : List Pc) (A : List Str) (S : Fc → Prop) (M : Fc → Fc → Prop) : Fc → Prop
  | r1 {a : Str} (h : a ∈ A) : One p A S M (an_ a a)
  | r2 {a : Str} (h : a ∈ A) : One p A S M (an_ a [42])
  | r10 {a : Str} {x : Pc} (hx : x ∈ p) (hk : x.kind = 7) (h : a ∈ A) : One p A S M (ax_ a x.r a)
  | r3 {a : Str} {x : Pc} (hx : x ∈ p) (hk : x.kind = 1) (h : S (an_ a x.a)) : One p A S M (an_ a x.c)
  | r4 {a : Str} {x : Pc} (hx : x ∈ p) (hk : x.kind = 2) (h : S (an_ a x.a)) (h' : S (an_ a x.b)) : One p A S M (an_ a x.c)
  | r5 {a : Str} {x : Pc} (hx : x ∈ p) (hk : x.kind = 3) (h : S (an_ a x.a)) : One p A S M (ax_ a x.r x.c)
  | r6 {a b : Str} {x : Pc} (hx : x ∈ p) (hk : x.kind = 5) (h : S (ax_ a x.r b)) : One p A S M (ax_ a x.t b)
  | r7 {a b c : Str} {x : Pc} (hx : x ∈ p) (hk : x.kind = 6) (h : S (ax_ a x.r b)) (h' : S (ax_ b x.s c)) : One p A S M (ax_ a x.t c)
  | r8 {a b : Str} {x : Pc} (hx : x ∈ p) (hk : x.kind = 4) (h : S (ax_ a x.r b)) (h' : S (an_ b x.a)) : One p A S M (an_ a x.c)
  | r9 {a r b : Str} (h : S (ax_ a r b)) (h' : S (an_ b [33])) : One p A S M (an_ a [33])
  | r11 {a : Str} {x : Pc} (hx : x ∈ p) (hk : x.kind = 8) (h : S (an_ a x.a)) : One p A S M (aP_ a x.r x.lo x.hi)
  | r12 {a r : Str} {lo hi lo' hi' : Int} (h : S (aP_ a r lo hi)) (h' : S (aP_ a r lo' hi')) (hm : M (aP_ a r lo hi) (aP_ a r lo' hi')) (hl : max lo lo' ≤ min hi hi') : One p A S M (aP_ a r (max lo lo') (min hi hi'))
  | r13 {a r : Str} {lo hi lo' hi' : Int} (h : S (aP_ a r lo hi)) (h' : S (aP_ a r lo' hi')) (hm : M (aP_ a r lo hi) (aP_ a r lo' hi')) (hl : min hi hi' < max lo lo') : One p A S M (an_ a [33])
  | r14 {a : Str} {lo hi : Int} {x : Pc} (hx : x ∈ p) (hk : x.kind = 9) (h : S (aP_ a x.r lo hi)) (h1 : x.lo ≤ lo) (h2 : hi ≤ x.hi) : One p A S M (an_ a x.c)
abbrev fv_ (p : List Pc) (A : List Str) (S : Fc → Prop) : Fc → Prop := One p A S (fun _ _ => True)
theorem One.mono {p p' : List Pc} {A A' : List Str} {S S' : Fc → Prop} {M M' : Fc → Fc → Prop} (hp : ∀ x ∈ p, ∃ y ∈ p', ∃ n, { y with frm := n } = x) (hA : ∀ a ∈ A, a ∈ A') (hS : ∀ y, S y → S' y) (hM : ∀ x y, M x y → M' x y) {y : Fc} (h : One p A S M y) : One p' A' S' M' y := by
  cases h with
  | r1 h => exact .r1 (hA _ h)
  | r2 h => exact .r2 (hA _ h)
  | r10 hx hk h => obtain ⟨z, hz, n, rfl⟩ := hp _ hx; exact One.r10 (x := z) hz hk (hA _ h)
  | r3 hx hk h => obtain ⟨z, hz, n, rfl⟩ := hp _ hx; exact One.r3 (x := z) hz hk (hS _ h)
  | r4 hx hk h h' => obtain ⟨z, hz, n, rfl⟩ := hp _ hx; exact One.r4 (x := z) hz hk (hS _ h) (hS _ h')
  | r5 hx hk h => obtain ⟨z, hz, n, rfl⟩ := hp _ hx; exact One.r5 (x := z) hz hk (hS _ h)
  | r6 hx hk h => obtain ⟨z, hz, n, rfl⟩ := hp _ hx; exact One.r6 (x := z) hz hk (hS _ h)
  | r7 hx hk h h' => obtain ⟨z, hz, n, rfl⟩ := hp _ hx; exact One.r7 (x := z) hz hk (hS _ h) (hS _ h')
  | r8 hx hk h h' => obtain ⟨z, hz, n, rfl⟩ := hp _ hx; exact One.r8 (x := z) hz hk (hS _ h) (hS _ h')
  | r9 h h' => exact .r9 (hS _ h) (hS _ h')
  | r11 hx hk h => obtain ⟨z, hz, n, rfl⟩ := hp _ hx; exact One.r11 (x := z) hz hk (hS _ h)
  | r12 h h' hm hl => exact .r12 (hS _ h) (hS _ h') (hM _ _ hm) hl
  | r13 h h' hm hl => exact .r13 (hS _ h) (hS _ h') (hM _ _ hm) hl
  | r14 hx hk h h1 h2 => obtain ⟨z, hz, n, rfl⟩ := hp _ hx; exact One.r14 (x := z) hz hk (hS _ h) h1 h2
def Der (p : List Pc) (A : List Str) (y : Fc) : Prop := ∀ T : Fc → Prop, (∀ y, fv_ p A T y → T y) → T y
theorem Der.step {p : List Pc} {A : List Str} {y : Fc} (h : fv_ p A (Der p A) y) : Der p A y :=
  fun T hT => hT y (h.mono (fun x hx => ⟨x, hx, x.frm, rfl⟩) (fun _ h => h) (fun z hz => hz T hT) (fun _ _ h => h))
theorem Der.mono {p p' : List Pc} {A A' : List Str} (hp : ∀ x ∈ p, ∃ y ∈ p', ∃ n, { y with frm := n } = x) (hA : ∀ a ∈ A, a ∈ A') {y : Fc} (h : Der p A y) : Der p' A' y :=
  h _ fun _ hz => Der.step (hz.mono hp hA (fun _ h => h) (fun _ _ h => h))
theorem Der.least {p : List Pc} {A : List Str} {T : Fc → Prop} (hT : ∀ y, fv_ p A T y → T y) {y : Fc} (h : Der p A y) : T y := h T hT
structure Ky where
  kind : Int
  role : Str
  atom : Str
deriving DecidableEq
abbrev he_ := Str × Str
def lat {K D : Type} [DecidableEq K] (l : List (K × D)) (k : K) : List D := (l.filter fun e => decide (e.1 = k)).map (·.2)
theorem di_ {K D : Type} [DecidableEq K] {l : List (K × D)} {k : K} {d : D} : d ∈ lat l k ↔ (k, d) ∈ l := by
  unfold lat
  simp only [List.mem_map, List.mem_filter, decide_eq_true_eq]
  exact ⟨fun ⟨⟨a, b⟩, ⟨h1, h2⟩, h3⟩ => by subst h2; subst h3; exact h1, fun h => ⟨(k, d), ⟨h, rfl⟩, rfl⟩⟩
theorem iZ_ {K D : Type} [DecidableEq K] (l m : List (K × D)) (k : K) : lat (l ++ m) k = lat l k ++ lat m k := by simp [lat]
theorem fn_ {K D : Type} [DecidableEq K] (l : List (K × D)) (k : K) : (lat l k).length ≤ l.length := by
  simp only [lat, List.length_map]; exact List.length_filter_le _ _
def cM_ (x : Pc) : List (Ky × Pc) :=
  if x.kind = 1 ∨ x.kind = 3 ∨ x.kind = 8 then [(⟨x.kind, [], x.a⟩, x)]
  else if x.kind = 2 then if x.b ≠ x.a then [(⟨x.kind, [], x.a⟩, x), (⟨x.kind, [], x.b⟩, x)] else [(⟨x.kind, [], x.a⟩, x)]
  else if x.kind = 4 then [(⟨x.kind, [], x.a⟩, x), (⟨x.kind, x.r, x.a⟩, x)]
  else if x.kind = 5 ∨ x.kind = 9 then [(⟨x.kind, x.r, []⟩, x)]
  else if x.kind = 6 then [(⟨x.kind, x.r, []⟩, x), (⟨x.kind, [], x.s⟩, x)]
  else []
def Pc.zf (x : Pc) : Pc := { x with frm := 0 }
def uniq : List Pc → List Pc → List Pc
  | l, [] => l
  | l, x :: r => uniq (if x.zf ∈ l then l else l ++ [x.zf]) r
theorem hj_ : ∀ (r l : List Pc) (x : Pc), x ∈ uniq l r ↔ x ∈ l ∨ ∃ y ∈ r, y.zf = x
  | [], l, x => by simp [uniq]
  | y :: r, l, x => by
    rw [uniq, hj_ r]
    by_cases h : y.zf ∈ l
    · rw [if_pos h]
      constructor
      · rintro (h1 | ⟨z, h1, h2⟩)
        · exact .inl h1
        · exact .inr ⟨z, by simp [h1], h2⟩
      · rintro (h1 | ⟨z, h1, h2⟩)
        · exact .inl h1
        · rcases List.mem_cons.1 h1 with rfl | h1
          · exact .inl (h2 ▸ h)
          · exact .inr ⟨z, h1, h2⟩
    · rw [if_neg h]
      simp only [List.mem_append, List.mem_cons, List.not_mem_nil, or_false]
      constructor
      · rintro ((h1 | h1) | ⟨z, h1, h2⟩)
        · exact .inl h1
        · exact .inr ⟨y, .inl rfl, h1.symm⟩
        · exact .inr ⟨z, .inr h1, h2⟩
      · rintro (h1 | ⟨z, h1 | h1, h2⟩)
        · exact .inl (.inl h1)
        · subst h1; exact .inl (.inr h2.symm)
        · exact .inr ⟨z, h1, h2⟩
theorem hk_ : ∀ (r l : List Pc), (uniq l r).length ≤ l.length + r.length
  | [], l => by simp [uniq]
  | y :: r, l => by
    rw [uniq]
    have := hk_ r (if y.zf ∈ l then l else l ++ [y.zf])
    have h2 : (if y.zf ∈ l then l else l ++ [y.zf]).length ≤ l.length + 1 := by split <;> simp
    simp only [List.length_cons]
    omega
def bg_ (ps : List Pc) : List (Ky × Pc) := ps.flatMap cM_
def aH_ (ps : List Pc) : List Str := (ps.filter fun x => decide (x.kind = 7)).map (·.r)
theorem oK_ (x : Pc) : ∀ e ∈ cM_ x, e.2 = x ∧ e.1.kind = x.kind := by
  unfold cM_
  repeat' split
  all_goals simp
theorem dU_ {x y : Pc} {k : Ky} (h : (k, y) ∈ cM_ x) : y = x ∧ k.kind = x.kind := oK_ x _ h
def Pc.rok (x : Pc) : Prop := (x.kind = 4 ∨ x.kind = 5 ∨ x.kind = 6 ∨ x.kind = 9 ∨ x.kind = 3 ∨ x.kind = 7 ∨ x.kind = 8 → x.r ≠ []) ∧ (x.kind = 6 → x.s ≠ [] ∧ x.t ≠ []) ∧ (x.kind = 5 → x.t ≠ [])
theorem fs_ {ps : List Pc} {k : Ky} {x : Pc} : x ∈ lat (bg_ ps) k ↔ x ∈ ps ∧ (k, x) ∈ cM_ x := by
  rw [di_, bg_, List.mem_flatMap]
  constructor
  · rintro ⟨y, hy, h⟩
    obtain ⟨rfl, _⟩ := dU_ h
    exact ⟨hy, h⟩
  · rintro ⟨h1, h2⟩
    exact ⟨x, h1, h2⟩
theorem pm1 {ps : List Pc} {b : Str} {x : Pc} : x ∈ lat (bg_ ps) ⟨1, [], b⟩ ↔ x ∈ ps ∧ x.kind = 1 ∧ x.a = b := by
  rw [fs_]
  refine and_congr_right fun _ => ⟨fun h => ?_, fun ⟨h, h'⟩ => ?_⟩
  · have hk := (dU_ h).2
    simp only at hk
    simp [cM_, ← hk] at h
    exact ⟨hk.symm, h.symm⟩
  · subst h'; simp [cM_, h]
theorem pm2 {ps : List Pc} {b : Str} {x : Pc} : x ∈ lat (bg_ ps) ⟨2, [], b⟩ ↔ x ∈ ps ∧ x.kind = 2 ∧ (x.a = b ∨ x.b = b) := by
  rw [fs_]
  refine and_congr_right fun _ => ⟨fun h => ?_, fun ⟨h, h'⟩ => ?_⟩
  · have hk := (dU_ h).2
    simp only at hk
    simp [cM_, ← hk] at h
    split at h
    · simp at h; exact ⟨hk.symm, .inl h.symm⟩
    · simp at h; rcases h with h | h
      · exact ⟨hk.symm, .inl h.symm⟩
      · exact ⟨hk.symm, .inr h.symm⟩
  · by_cases e : x.b = x.a
    · have : x.a = b := h'.elim id (fun q => e ▸ q)
      subst this; simp [cM_, h, e]
    · rcases h' with rfl | rfl <;> simp [cM_, h, e]
theorem pm3 {ps : List Pc} {b : Str} {x : Pc} : x ∈ lat (bg_ ps) ⟨3, [], b⟩ ↔ x ∈ ps ∧ x.kind = 3 ∧ x.a = b := by
  rw [fs_]
  refine and_congr_right fun _ => ⟨fun h => ?_, fun ⟨h, h'⟩ => ?_⟩
  · have hk := (dU_ h).2
    simp only at hk
    simp [cM_, ← hk] at h
    exact ⟨hk.symm, h.symm⟩
  · subst h'; simp [cM_, h]
theorem pm8 {ps : List Pc} {b : Str} {x : Pc} : x ∈ lat (bg_ ps) ⟨8, [], b⟩ ↔ x ∈ ps ∧ x.kind = 8 ∧ x.a = b := by
  rw [fs_]
  refine and_congr_right fun _ => ⟨fun h => ?_, fun ⟨h, h'⟩ => ?_⟩
  · have hk := (dU_ h).2
    simp only at hk
    simp [cM_, ← hk] at h
    exact ⟨hk.symm, h.symm⟩
  · subst h'; simp [cM_, h]
theorem pm5 {ps : List Pc} {r : Str} {x : Pc} : x ∈ lat (bg_ ps) ⟨5, r, []⟩ ↔ x ∈ ps ∧ x.kind = 5 ∧ x.r = r := by
  rw [fs_]
  refine and_congr_right fun _ => ⟨fun h => ?_, fun ⟨h, h'⟩ => ?_⟩
  · have hk := (dU_ h).2
    simp only at hk
    simp [cM_, ← hk] at h
    exact ⟨hk.symm, h.symm⟩
  · subst h'; simp [cM_, h]
theorem pm9 {ps : List Pc} {r : Str} {x : Pc} : x ∈ lat (bg_ ps) ⟨9, r, []⟩ ↔ x ∈ ps ∧ x.kind = 9 ∧ x.r = r := by
  rw [fs_]
  refine and_congr_right fun _ => ⟨fun h => ?_, fun ⟨h, h'⟩ => ?_⟩
  · have hk := (dU_ h).2
    simp only at hk
    simp [cM_, ← hk] at h
    exact ⟨hk.symm, h.symm⟩
  · subst h'; simp [cM_, h]
theorem pm6 {ps : List Pc} {r : Str} (hn : r ≠ []) {x : Pc} : x ∈ lat (bg_ ps) ⟨6, r, []⟩ ↔ x ∈ ps ∧ x.kind = 6 ∧ x.r = r := by
  rw [fs_]
  refine and_congr_right fun hx => ⟨fun h => ?_, fun ⟨h, h'⟩ => ?_⟩
  · have hk := (dU_ h).2
    simp only at hk
    simp [cM_, ← hk, hn] at h
    exact ⟨hk.symm, h.symm⟩
  · subst h'; simp [cM_, h]
theorem pm6' {ps : List Pc} {s : Str} {x : Pc} (hn : s ≠ []) : x ∈ lat (bg_ ps) ⟨6, [], s⟩ ↔ x ∈ ps ∧ x.kind = 6 ∧ x.s = s := by
  rw [fs_]
  refine and_congr_right fun hx => ⟨fun h => ?_, fun ⟨h, h'⟩ => ?_⟩
  · have hk := (dU_ h).2
    simp only at hk
    simp [cM_, ← hk, hn] at h
    exact ⟨hk.symm, h.symm⟩
  · subst h'; simp [cM_, h]
theorem pm4 {ps : List Pc} (hr : ∀ x ∈ ps, x.rok) {b : Str} {x : Pc} : x ∈ lat (bg_ ps) ⟨4, [], b⟩ ↔ x ∈ ps ∧ x.kind = 4 ∧ x.a = b := by
  rw [fs_]
  refine and_congr_right fun hx => ⟨fun h => ?_, fun ⟨h, h'⟩ => ?_⟩
  · have hk := (dU_ h).2
    simp only at hk
    have h0 := (hr x hx).1 (.inl hk.symm)
    simp [cM_, ← hk] at h
    refine ⟨hk.symm, h.elim (fun q => q.symm) (fun q => absurd q.1 h0)⟩
  · subst h'; simp [cM_, h]
theorem pm4' {ps : List Pc} {r b : Str} (hn : r ≠ []) {x : Pc} : x ∈ lat (bg_ ps) ⟨4, r, b⟩ ↔ x ∈ ps ∧ x.kind = 4 ∧ x.r = r ∧ x.a = b := by
  rw [fs_]
  refine and_congr_right fun hx => ⟨fun h => ?_, fun ⟨h, h', h''⟩ => ?_⟩
  · have hk := (dU_ h).2
    simp only at hk
    simp [cM_, ← hk, hn] at h
    exact ⟨hk.symm, h.1.symm, h.2.symm⟩
  · subst h' h''; simp [cM_, h]
structure Ix where
  above : List (Str × Str)
  under : List (Str × Str)
  frm : List (he_ × Str)
  into : List (he_ × Str)
  ranges : List (he_ × Fc)
  firms : List (he_ × Fc)
def Ix.nil : Ix := ⟨[], [], [], [], [], []⟩
def Ix.add (x : Ix) (firm : Bool) (f : Fc) : Ix :=
  if f.kind = 1 then { x with above := x.above ++ [(f.a, f.b)] }
  else if f.kind = 2 then { x with under := x.under ++ [(f.b, f.a)], frm := x.frm ++ [((f.a, f.r), f.b)], into := x.into ++ [((f.b, f.r), f.a)] }
  else if f.kind = 3 then { x with ranges := x.ranges ++ [((f.a, f.r), f)], firms := if firm then x.firms ++ [((f.a, f.r), f)] else x.firms }
  else x
structure Ix.of (x : Ix) (S Fm : Fc → Prop) : Prop where
  above : ∀ a b, (a, b) ∈ x.above ↔ ∃ f, S f ∧ f.kind = 1 ∧ f.a = a ∧ f.b = b
  under : ∀ b a, (b, a) ∈ x.under ↔ ∃ f, S f ∧ f.kind = 2 ∧ f.a = a ∧ f.b = b
  frm : ∀ a r b, ((a, r), b) ∈ x.frm ↔ ∃ f, S f ∧ f.kind = 2 ∧ f.a = a ∧ f.r = r ∧ f.b = b
  into : ∀ a r b, ((b, r), a) ∈ x.into ↔ ∃ f, S f ∧ f.kind = 2 ∧ f.a = a ∧ f.r = r ∧ f.b = b
  ranges : ∀ a r f, ((a, r), f) ∈ x.ranges ↔ S f ∧ f.kind = 3 ∧ f.a = a ∧ f.r = r
  firms : ∀ a r f, ((a, r), f) ∈ x.firms ↔ S f ∧ Fm f ∧ f.kind = 3 ∧ f.a = a ∧ f.r = r
theorem Ix.of_nil (Fm : Fc → Prop) : Ix.nil.of (fun _ => False) Fm := by
  constructor <;> simp [Ix.nil]
theorem Ix.of_add {x : Ix} {S Fm : Fc → Prop} (h : x.of S Fm) (f : Fc) {b : Bool} (hb : b = true ↔ Fm f) : (x.add b f).of (fun y => S y ∨ y = f) Fm := by
  have key : ∀ (Q : Fc → Prop), (∃ y, (S y ∨ y = f) ∧ Q y) ↔ (∃ y, S y ∧ Q y) ∨ Q f := fun Q => by
    constructor
    · rintro ⟨y, h1 | rfl, h2⟩
      · exact .inl ⟨y, h1, h2⟩
      · exact .inr h2
    · rintro (⟨y, h1, h2⟩ | h2)
      · exact ⟨y, .inl h1, h2⟩
      · exact ⟨f, .inr rfl, h2⟩
  unfold Ix.add
  split
  · rename_i hk
    constructor
    · intro a c; rw [key, ← h.above]; simp [hk]; exact or_congr_right ⟨fun ⟨p, q⟩ => ⟨p.symm, q.symm⟩, fun ⟨p, q⟩ => ⟨p.symm, q.symm⟩⟩
    · intro a c; rw [key, ← h.under]; simp [hk]
    · intro a r c; rw [key, ← h.frm]; simp [hk]
    · intro a r c; rw [key, ← h.into]; simp [hk]
    · intro a r y; rw [h.ranges]; constructor
      · exact fun q => ⟨.inl q.1, q.2⟩
      · rintro ⟨q | rfl, q2⟩
        · exact ⟨q, q2⟩
        · rw [hk] at q2; exact absurd q2.1 (by decide)
    · intro a r y; rw [h.firms]; constructor
      · exact fun q => ⟨.inl q.1, q.2⟩
      · rintro ⟨q | rfl, q2⟩
        · exact ⟨q, q2⟩
        · rw [hk] at q2; exact absurd q2.2.1 (by decide)
  · split
    · rename_i hk
      constructor
      · intro a c; rw [key, ← h.above]; simp [hk]
      · intro a c; rw [key, ← h.under]; simp [hk]; exact or_congr_right ⟨fun ⟨p, q⟩ => ⟨q.symm, p.symm⟩, fun ⟨p, q⟩ => ⟨q.symm, p.symm⟩⟩
      · intro a r c; rw [key, ← h.frm]; simp [hk]; exact or_congr_right ⟨fun ⟨⟨p, q⟩, s⟩ => ⟨p.symm, q.symm, s.symm⟩, fun ⟨p, q, s⟩ => ⟨⟨p.symm, q.symm⟩, s.symm⟩⟩
      · intro a r c; rw [key, ← h.into]; simp [hk]; exact or_congr_right ⟨fun ⟨⟨p, q⟩, s⟩ => ⟨s.symm, q.symm, p.symm⟩, fun ⟨p, q, s⟩ => ⟨⟨s.symm, q.symm⟩, p.symm⟩⟩
      · intro a r y; rw [h.ranges]; constructor
        · exact fun q => ⟨.inl q.1, q.2⟩
        · rintro ⟨q | rfl, q2⟩
          · exact ⟨q, q2⟩
          · rw [hk] at q2; exact absurd q2.1 (by decide)
      · intro a r y; rw [h.firms]; constructor
        · exact fun q => ⟨.inl q.1, q.2⟩
        · rintro ⟨q | rfl, q2⟩
          · exact ⟨q, q2⟩
          · rw [hk] at q2; exact absurd q2.2.1 (by decide)
    · split
      · rename_i hk
        constructor
        · intro a c; rw [key, ← h.above]; simp [hk]
        · intro a c; rw [key, ← h.under]; simp [hk]
        · intro a r c; rw [key, ← h.frm]; simp [hk]
        · intro a r c; rw [key, ← h.into]; simp [hk]
        · intro a r y
          simp only [List.mem_append, List.mem_singleton, h.ranges, Prod.mk.injEq]
          constructor
          · rintro (⟨q, q2⟩ | ⟨⟨rfl, rfl⟩, rfl⟩)
            · exact ⟨.inl q, q2⟩
            · exact ⟨.inr rfl, hk, rfl, rfl⟩
          · rintro ⟨q | rfl, q2, rfl, rfl⟩
            · exact .inl ⟨q, q2, rfl, rfl⟩
            · exact .inr ⟨⟨rfl, rfl⟩, rfl⟩
        · intro a r y
          cases b with
          | false =>
            simp only [Bool.false_eq_true, if_false, h.firms]
            constructor
            · exact fun q => ⟨.inl q.1, q.2⟩
            · rintro ⟨q | rfl, q2⟩
              · exact ⟨q, q2⟩
              · exact absurd (hb.2 q2.1) (by decide)
          | true =>
            simp only [if_true, List.mem_append, List.mem_singleton, h.firms, Prod.mk.injEq]
            constructor
            · rintro (⟨q, q2⟩ | ⟨⟨rfl, rfl⟩, rfl⟩)
              · exact ⟨.inl q, q2⟩
              · exact ⟨.inr rfl, hb.1 rfl, hk, rfl, rfl⟩
            · rintro ⟨q | rfl, q2, q3, rfl, rfl⟩
              · exact .inl ⟨q, q2, q3, rfl, rfl⟩
              · exact .inr ⟨⟨rfl, rfl⟩, rfl⟩
      · rename_i h1 h2 h3
        constructor
        · intro a c; rw [key, ← h.above]; simp [h1]
        · intro a c; rw [key, ← h.under]; simp [h2]
        · intro a r c; rw [key, ← h.frm]; simp [h2]
        · intro a r c; rw [key, ← h.into]; simp [h2]
        · intro a r y; rw [h.ranges]; constructor
          · exact fun q => ⟨.inl q.1, q.2⟩
          · rintro ⟨q | rfl, q2⟩
            · exact ⟨q, q2⟩
            · exact absurd q2.1 h3
        · intro a r y; rw [h.firms]; constructor
          · exact fun q => ⟨.inl q.1, q.2⟩
          · rintro ⟨q | rfl, q2⟩
            · exact ⟨q, q2⟩
            · exact absurd q2.2.1 h3
theorem Ix.of_firm {x : Ix} {S Fm Fm' : Fc → Prop} (h : x.of S Fm) (hf : ∀ y, S y → (Fm y ↔ Fm' y)) : x.of S Fm' :=
  ⟨h.above, h.under, h.frm, h.into, h.ranges, fun a r f => by rw [h.firms]; exact and_congr_right fun hs => by rw [hf f hs]⟩
section
variable (pm : List (Ky × Pc)) (x : Ix) (f : Fc)
def fH_ : List Fc := (lat pm ⟨1, [], f.b⟩).map fun y => an_ f.a y.c
def jT_ : List Fc := (lat pm ⟨3, [], f.b⟩).map fun y => ax_ f.a y.r y.c
def fE_ : List Fc := (lat pm ⟨5, f.r, []⟩).map fun y => ax_ f.a y.t f.b
def eV_ : List Fc := (lat pm ⟨6, f.r, []⟩).flatMap fun y => (lat x.frm (f.b, y.s)).map fun c => ax_ f.a y.t c
def gc_ : List Fc := (lat pm ⟨6, [], f.r⟩).flatMap fun y => (lat x.into (f.a, y.r)).map fun a => ax_ a y.t f.b
def eZ_ : List Fc := (lat x.above f.b).flatMap fun c => (lat pm ⟨4, f.r, c⟩).map fun y => an_ f.a y.c
def fa_ : List Fc := (lat pm ⟨4, [], f.b⟩).flatMap fun y => (lat x.into (f.a, y.r)).map fun a => an_ a y.c
def dw_ : List Fc := if f.b = [33] then (lat x.under f.a).map fun a => an_ a [33] else []
def nE_ : List Fc := ((lat pm ⟨9, f.r, []⟩).filter fun y => decide (y.lo ≤ f.lo ∧ f.hi ≤ y.hi)).map fun y => an_ f.a y.c
def dJ_ (y : Fc) : Fc := aP_ f.a f.r (max f.lo y.lo) (min f.hi y.hi)
def cP_ (y : Fc) : Bool := decide (min f.hi y.hi < max f.lo y.lo)
def ek_ (firm : Bool) : List Fc := if firm then lat x.ranges (f.a, f.r) else lat x.firms (f.a, f.r)
def fm_ (l : List Fc) : List Fc := (l.filter fun y => !cP_ f y && decide (dJ_ f y ≠ f ∧ dJ_ f y ≠ y)).map (dJ_ f)
def ge_ (l : List Fc) : List Fc := if l.any (cP_ f) then [an_ f.a [33]] else []
end
section
variable (stp : Fc → List Fc → List Fc) (kof : List Fc → List Fc)
def emits (L : List Fc) (s : List Fc) : List Fc := L.foldl (fun s y => stp y s) s
def ef_ (f : Fc) (l : List Pc) (s : List Fc) : List Fc := l.foldl (fun s y => if an_ f.a y.a ∈ kof s ∧ an_ f.a y.b ∈ kof s then stp (an_ f.a y.c) s else s) s
def cD_ (f : Fc) (l : List Pc) (s : List Fc × List Fc) : List Fc × List Fc := l.foldl (fun s y => (stp (aP_ f.a y.r y.lo y.hi) s.1, if aP_ f.a y.r y.lo y.hi ∈ kof s.1 then s.2 else aP_ f.a y.r y.lo y.hi :: s.2)) s
end
theorem aV_ (stp : Fc → List Fc → List Fc) (L M : List Fc) (s : List Fc) : emits stp (L ++ M) s = emits stp M (emits stp L s) := by simp [emits]
structure Grows (stp : Fc → List Fc → List Fc) (kof : List Fc → List Fc) : Prop where
  up : ∀ y s z, z ∈ kof s → z ∈ kof (stp y s)
theorem Grows.emits {stp : Fc → List Fc → List Fc} {kof : List Fc → List Fc} (h : Grows stp kof) : ∀ (L s : List Fc) (z : Fc), z ∈ kof s → z ∈ kof (emits stp L s)
  | [], _, _, hz => hz
  | y :: L, s, z, hz => h.emits L _ z (h.up y s z hz)
theorem eM_ {stp : Fc → List Fc → List Fc} {kof : List Fc → List Fc} (h : Grows stp kof) (f : Fc) : ∀ (l : List Pc) (s : List Fc),
    ∃ L, ef_ stp kof f l s = emits stp L s ∧ (∀ y ∈ L, ∃ x ∈ l, y = an_ f.a x.c ∧ an_ f.a x.a ∈ kof (ef_ stp kof f l s) ∧ an_ f.a x.b ∈ kof (ef_ stp kof f l s)) ∧ (∀ x ∈ l, an_ f.a x.a ∈ kof s → an_ f.a x.b ∈ kof s → an_ f.a x.c ∈ L)
  | [], s => ⟨[], rfl, by simp, by simp⟩
  | x :: l, s => by
    by_cases hc : an_ f.a x.a ∈ kof s ∧ an_ f.a x.b ∈ kof s
    · obtain ⟨L, h1, h2, h3⟩ := eM_ h f l (stp (an_ f.a x.c) s)
      have e : ef_ stp kof f (x :: l) s = ef_ stp kof f l (stp (an_ f.a x.c) s) := by simp only [ef_, List.foldl_cons, if_pos hc]
      refine ⟨an_ f.a x.c :: L, by rw [e, h1]; rfl, fun y hy => ?_, fun z hz ha hb => ?_⟩
      · rw [e]
        rcases List.mem_cons.1 hy with rfl | hy
        · refine ⟨x, by simp, rfl, ?_, ?_⟩ <;> rw [h1] <;> exact h.emits L _ _ (h.up _ _ _ (by first | exact hc.1 | exact hc.2))
        · obtain ⟨z, hz, q⟩ := h2 y hy
          exact ⟨z, by simp [hz], q⟩
      · rcases List.mem_cons.1 hz with rfl | hz
        · simp
        · exact List.mem_cons_of_mem _ (h3 z hz (h.up _ _ _ ha) (h.up _ _ _ hb))
    · obtain ⟨L, h1, h2, h3⟩ := eM_ h f l s
      have e : ef_ stp kof f (x :: l) s = ef_ stp kof f l s := by simp only [ef_, List.foldl_cons, if_neg hc]
      refine ⟨L, by rw [e, h1], fun y hy => ?_, fun z hz ha hb => ?_⟩
      · rw [e]
        obtain ⟨z, hz, q⟩ := h2 y hy
        exact ⟨z, by simp [hz], q⟩
      · rcases List.mem_cons.1 hz with rfl | hz
        · exact absurd ⟨ha, hb⟩ hc
        · exact h3 z hz ha hb
theorem ez_ (stp : Fc → List Fc → List Fc) (kof : List Fc → List Fc) (f : Fc) : ∀ (l : List Pc) (s fm : List Fc), (cD_ stp kof f l (s, fm)).1 = emits stp (l.map fun y => aP_ f.a y.r y.lo y.hi) s
  | [], _, _ => rfl
  | x :: l, s, fm => by
    simp only [cD_, List.foldl_cons, List.map_cons, emits]
    exact ez_ stp kof f l _ _
theorem fQ_ {stp : Fc → List Fc → List Fc} {kof : List Fc → List Fc} (h : Grows stp kof) (f : Fc) : ∀ (l : List Pc) (s fm : List Fc) (z : Fc), z ∈ (cD_ stp kof f l (s, fm)).2 ↔ z ∈ fm ∨ (z ∉ kof s ∧ z ∈ (cD_ stp kof f l (s, fm)).2)
  | [], s, fm, z => by simp [cD_]
  | x :: l, s, fm, z => by
    have ih := fQ_ h f l (stp (aP_ f.a x.r x.lo x.hi) s) (if aP_ f.a x.r x.lo x.hi ∈ kof s then fm else aP_ f.a x.r x.lo x.hi :: fm) z
    have e : cD_ stp kof f (x :: l) (s, fm) = cD_ stp kof f l (stp (aP_ f.a x.r x.lo x.hi) s, if aP_ f.a x.r x.lo x.hi ∈ kof s then fm else aP_ f.a x.r x.lo x.hi :: fm) := rfl
    rw [e]
    constructor
    · intro hz
      rcases ih.1 hz with h1 | h1
      · split at h1
        · exact .inl h1
        · rename_i hn
          rcases List.mem_cons.1 h1 with rfl | h1
          · exact .inr ⟨hn, hz⟩
          · exact .inl h1
      · exact .inr ⟨fun q => h1.1 (h.up _ _ _ q), hz⟩
    · rintro (h1 | h1)
      · exact ih.2 (.inl (by split <;> simp [h1]))
      · exact h1.2
theorem iz_ {stp : Fc → List Fc → List Fc} {kof : List Fc → List Fc} (f : Fc) : ∀ (l : List Pc) (s fm : List Fc) (z : Fc), z ∈ (cD_ stp kof f l (s, fm)).2 → z ∈ fm ∨ ∃ y ∈ l, z = aP_ f.a y.r y.lo y.hi
  | [], s, fm, z, hz => .inl hz
  | x :: l, s, fm, z, hz => by
    have e : cD_ stp kof f (x :: l) (s, fm) = cD_ stp kof f l (stp (aP_ f.a x.r x.lo x.hi) s, if aP_ f.a x.r x.lo x.hi ∈ kof s then fm else aP_ f.a x.r x.lo x.hi :: fm) := rfl
    rw [e] at hz
    rcases iz_ f l _ _ z hz with h1 | ⟨y, hy, h1⟩
    · split at h1
      · exact .inl h1
      · rcases List.mem_cons.1 h1 with rfl | h1
        · exact .inr ⟨x, by simp, rfl⟩
        · exact .inl h1
    · exact .inr ⟨y, by simp [hy], h1⟩
def Fc.form (y : Fc) : Prop := (∃ a b, y = an_ a b) ∨ (∃ a r b, y = ax_ a r b ∧ r ≠ []) ∨ (∃ a r lo hi, y = aP_ a r lo hi ∧ r ≠ [] ∧ -1099511627776 ≤ lo ∧ lo ≤ hi ∧ hi ≤ 1099511627776)
structure Pc.vok (x : Pc) : Prop where
  rok : x.rok
  num : x.kind = 8 ∨ x.kind = 9 → -1099511627776 ≤ x.lo ∧ x.lo ≤ x.hi ∧ x.hi ≤ 1099511627776
theorem el_ (a b : Str) : (an_ a b).form := .inl ⟨a, b, rfl⟩
theorem jl_ {f : Fc} (h : f.form) (hk : f.kind = 1) : f = an_ f.a f.b := by
  rcases h with ⟨a, b, rfl⟩ | ⟨a, r, b, rfl, _⟩ | ⟨a, r, lo, hi, rfl, _⟩
  · rfl
  · simp [ax_] at hk
  · simp [aP_] at hk
theorem hA_ {f : Fc} (h : f.form) (hk : f.kind = 2) : f = ax_ f.a f.r f.b ∧ f.r ≠ [] := by
  rcases h with ⟨a, b, rfl⟩ | ⟨a, r, b, rfl, h⟩ | ⟨a, r, lo, hi, rfl, _⟩
  · simp [an_] at hk
  · exact ⟨rfl, h⟩
  · simp [aP_] at hk
theorem gg_ {f : Fc} (h : f.form) (hk : f.kind = 3) : f = aP_ f.a f.r f.lo f.hi ∧ f.r ≠ [] ∧ -1099511627776 ≤ f.lo ∧ f.lo ≤ f.hi ∧ f.hi ≤ 1099511627776 := by
  rcases h with ⟨a, b, rfl⟩ | ⟨a, r, b, rfl, _⟩ | ⟨a, r, lo, hi, rfl, h⟩
  · simp [an_] at hk
  · simp [ax_] at hk
  · exact ⟨rfl, h⟩
theorem gK_ {f : Fc} (h : f.form) : f.kind = 1 ∨ f.kind = 2 ∨ f.kind = 3 := by
  rcases h with ⟨a, b, rfl⟩ | ⟨a, r, b, rfl, h⟩ | ⟨a, r, lo, hi, rfl, _⟩ <;> simp [an_, ax_, aP_]
theorem One.form {p : List Pc} {A : List Str} {S : Fc → Prop} {M : Fc → Fc → Prop} (hp : ∀ x ∈ p, x.vok) (hS : ∀ y, S y → y.form) {y : Fc} (h : One p A S M y) : y.form := by
  have link_r : ∀ {a r b : Str}, S (ax_ a r b) → r ≠ [] := fun h => (hA_ (hS _ h) rfl).2
  have span_r : ∀ {a r : Str} {lo hi : Int}, S (aP_ a r lo hi) → r ≠ [] ∧ -1099511627776 ≤ lo ∧ lo ≤ hi ∧ hi ≤ 1099511627776 := fun h => (gg_ (hS _ h) rfl).2
  cases h with
  | r1 _ => exact el_ _ _
  | r2 _ => exact el_ _ _
  | r10 hx hk _ => exact .inr (.inl ⟨_, _, _, rfl, (hp _ hx).rok.1 (by simp [hk])⟩)
  | r3 _ _ _ => exact el_ _ _
  | r4 _ _ _ _ => exact el_ _ _
  | r5 hx hk _ => exact .inr (.inl ⟨_, _, _, rfl, (hp _ hx).rok.1 (by simp [hk])⟩)
  | r6 hx hk _ => exact .inr (.inl ⟨_, _, _, rfl, (hp _ hx).rok.2.2 hk⟩)
  | r7 hx hk _ _ => exact .inr (.inl ⟨_, _, _, rfl, ((hp _ hx).rok.2.1 hk).2⟩)
  | r8 _ _ _ _ => exact el_ _ _
  | r9 _ _ => exact el_ _ _
  | r11 hx hk _ => exact .inr (.inr ⟨_, _, _, _, rfl, (hp _ hx).rok.1 (by simp [hk]), (hp _ hx).num (.inl hk)⟩)
  | r12 h h' _ hl => exact .inr (.inr ⟨_, _, _, _, rfl, (span_r h).1, by have := span_r h; omega, hl, by have := span_r h; omega⟩)
  | r13 _ _ _ _ => exact el_ _ _
  | r14 _ _ _ _ _ => exact el_ _ _
section
variable {ps : List Pc} {A : List Str} {x : Ix} {S Fm : Fc → Prop} {f : Fc} {kn : List Fc}
theorem jF_ (hk : f.kind = 1) (hf : f.form) (hkn : f ∈ kn) : ∀ y ∈ fH_ (bg_ ps) f, fv_ ps A (· ∈ kn) y := by
  intro y hy
  obtain ⟨z, hz, rfl⟩ := List.mem_map.1 hy
  obtain ⟨h1, h2, h3⟩ := pm1.1 hz
  exact .r3 h1 h2 (by rw [h3, ← jl_ hf hk]; exact hkn)
theorem mg_ (hk : f.kind = 1) (hf : f.form) (hkn : f ∈ kn) : ∀ y ∈ jT_ (bg_ ps) f, fv_ ps A (· ∈ kn) y := by
  intro y hy
  obtain ⟨z, hz, rfl⟩ := List.mem_map.1 hy
  obtain ⟨h1, h2, h3⟩ := pm3.1 hz
  exact .r5 h1 h2 (by rw [h3, ← jl_ hf hk]; exact hkn)
theorem lb_ (hk : f.kind = 1) (hf : f.form) (hkn : f ∈ kn) : ∀ y ∈ (lat (bg_ ps) ⟨8, [], f.b⟩).map (fun y => aP_ f.a y.r y.lo y.hi), fv_ ps A (· ∈ kn) y := by
  intro y hy
  obtain ⟨z, hz, rfl⟩ := List.mem_map.1 hy
  obtain ⟨h1, h2, h3⟩ := pm8.1 hz
  exact .r11 h1 h2 (by rw [h3, ← jl_ hf hk]; exact hkn)
theorem jC_ (hk : f.kind = 2) (hf : f.form) (hkn : f ∈ kn) : ∀ y ∈ fE_ (bg_ ps) f, fv_ ps A (· ∈ kn) y := by
  intro y hy
  obtain ⟨z, hz, rfl⟩ := List.mem_map.1 hy
  obtain ⟨h1, h2, h3⟩ := pm5.1 hz
  exact .r6 h1 h2 (by rw [h3, ← (hA_ hf hk).1]; exact hkn)
theorem ip_ {hS : ∀ y, S y → y.form} {a r b : Str} (h : ∃ g, S g ∧ g.kind = 2 ∧ g.a = a ∧ g.r = r ∧ g.b = b) : S (ax_ a r b) := by
  obtain ⟨g, h1, h2, rfl, rfl, rfl⟩ := h
  rw [← (hA_ (hS g h1) h2).1]; exact h1
theorem ix_sub {hS : ∀ y, S y → y.form} {a b : Str} (h : ∃ g, S g ∧ g.kind = 1 ∧ g.a = a ∧ g.b = b) : S (an_ a b) := by
  obtain ⟨g, h1, h2, rfl, rfl⟩ := h
  rw [← jl_ (hS g h1) h2]; exact h1
theorem lY_ (hx : x.of S Fm) (hS : ∀ y, S y → y.form) (hkS : ∀ y, S y → y ∈ kn) (hk : f.kind = 2) (hf : f.form) (hkn : f ∈ kn) : ∀ y ∈ eV_ (bg_ ps) x f ++ gc_ (bg_ ps) x f, fv_ ps A (· ∈ kn) y := by
  intro y hy
  obtain ⟨e, hn⟩ := hA_ hf hk
  rcases List.mem_append.1 hy with hy | hy
  · obtain ⟨z, hz, hy⟩ := List.mem_flatMap.1 hy
    obtain ⟨c, hc, rfl⟩ := List.mem_map.1 hy
    obtain ⟨h1, h2, h3⟩ := (pm6 hn).1 hz
    exact .r7 h1 h2 (by rw [h3, ← e]; exact hkn) (hkS _ (ip_ (hS := hS) ((hx.frm _ _ _).1 (di_.1 hc))))
  · obtain ⟨z, hz, hy⟩ := List.mem_flatMap.1 hy
    obtain ⟨c, hc, rfl⟩ := List.mem_map.1 hy
    obtain ⟨h1, h2, h3⟩ := (pm6' hn).1 hz
    exact .r7 h1 h2 (hkS _ (ip_ (hS := hS) ((hx.into _ _ _).1 (di_.1 hc)))) (by rw [h3, ← e]; exact hkn)
theorem jo_ (hx : x.of S Fm) (hS : ∀ y, S y → y.form) (hkS : ∀ y, S y → y ∈ kn) (hk : f.kind = 2) (hf : f.form) (hkn : f ∈ kn) : ∀ y ∈ eZ_ (bg_ ps) x f, fv_ ps A (· ∈ kn) y := by
  intro y hy
  obtain ⟨e, hn⟩ := hA_ hf hk
  obtain ⟨c, hc, hy⟩ := List.mem_flatMap.1 hy
  obtain ⟨z, hz, rfl⟩ := List.mem_map.1 hy
  obtain ⟨h1, h2, h3, h4⟩ := (pm4' hn).1 hz
  exact .r8 (b := f.b) h1 h2 (by rw [h3, ← e]; exact hkn) (by rw [h4]; exact hkS _ (ix_sub (hS := hS) ((hx.above _ _).1 (di_.1 hc))))
theorem jq_ (hr : ∀ x ∈ ps, x.vok) (hx : x.of S Fm) (hS : ∀ y, S y → y.form) (hkS : ∀ y, S y → y ∈ kn) (hk : f.kind = 1) (hf : f.form) (hkn : f ∈ kn) : ∀ y ∈ fa_ (bg_ ps) x f, fv_ ps A (· ∈ kn) y := by
  intro y hy
  obtain ⟨z, hz, hy⟩ := List.mem_flatMap.1 hy
  obtain ⟨c, hc, rfl⟩ := List.mem_map.1 hy
  obtain ⟨h1, h2, h3⟩ := (pm4 (fun x hx => (hr x hx).rok)).1 hz
  exact .r8 (b := f.a) h1 h2 (hkS _ (ip_ (hS := hS) ((hx.into _ _ _).1 (di_.1 hc)))) (by rw [h3, ← jl_ hf hk]; exact hkn)
theorem ij_ (hx : x.of S Fm) (hS : ∀ y, S y → y.form) (hkS : ∀ y, S y → y ∈ kn) (hk : f.kind = 1) (hf : f.form) (hkn : f ∈ kn) : ∀ y ∈ dw_ x f, fv_ ps A (· ∈ kn) y := by
  intro y hy
  unfold dw_ at hy
  split at hy
  · rename_i hb
    obtain ⟨a, ha, rfl⟩ := List.mem_map.1 hy
    obtain ⟨g, h1, h2, h3, h4⟩ := (hx.under _ _).1 (di_.1 ha)
    exact .r9 (r := g.r) (hkS _ (ip_ (hS := hS) ⟨g, h1, h2, h3, rfl, h4⟩)) (by rw [← hb, ← jl_ hf hk]; exact hkn)
  · simp at hy
theorem ii_ (hk : f.kind = 2) (hf : f.form) (hkn : f ∈ kn) (h : an_ f.b [33] ∈ kn) : fv_ ps A (· ∈ kn) (an_ f.a [33]) :=
  .r9 (r := f.r) (b := f.b) (by rw [← (hA_ hf hk).1]; exact hkn) h
theorem nD_ (hk : f.kind = 3) (hf : f.form) (hkn : f ∈ kn) : ∀ y ∈ nE_ (bg_ ps) f, fv_ ps A (· ∈ kn) y := by
  intro y hy
  obtain ⟨z, hz, rfl⟩ := List.mem_map.1 hy
  obtain ⟨hz, hc⟩ := List.mem_filter.1 hz
  obtain ⟨h1, h2, h3⟩ := pm9.1 hz
  have hc := of_decide_eq_true hc
  exact .r14 h1 h2 (by rw [h3, ← (gg_ hf hk).1]; exact hkn) hc.1 hc.2
theorem hQ_ (hx : x.of S Fm) {firm : Bool} {y : Fc} (hy : y ∈ ek_ x f firm) : S y ∧ y.kind = 3 ∧ y.a = f.a ∧ y.r = f.r := by
  unfold ek_ at hy
  split at hy
  · exact (hx.ranges _ _ _).1 (di_.1 hy)
  · have := (hx.firms _ _ _).1 (di_.1 hy)
    exact ⟨this.1, this.2.2⟩
theorem mp_ (hx : x.of S Fm) (hS : ∀ y, S y → y.form) (hkS : ∀ y, S y → y ∈ kn) (hk : f.kind = 3) (hf : f.form) (hkn : f ∈ kn) {firm : Bool} : ∀ y ∈ fm_ f (ek_ x f firm) ++ ge_ f (ek_ x f firm), fv_ ps A (· ∈ kn) y := by
  intro y hy
  have e := (gg_ hf hk).1
  rcases List.mem_append.1 hy with hy | hy
  · obtain ⟨z, hz, rfl⟩ := List.mem_map.1 hy
    obtain ⟨hz, hc⟩ := List.mem_filter.1 hz
    obtain ⟨h1, h2, h3, h4⟩ := hQ_ hx hz
    simp only [cP_, Bool.and_eq_true, Bool.not_eq_true', decide_eq_false_iff_not, Int.not_lt] at hc
    have ez := (gg_ (hS z h1) h2).1
    rw [h3, h4] at ez
    exact .r12 (by rw [← e]; exact hkn) (by rw [← ez]; exact hkS z h1) trivial hc.1
  · unfold ge_ at hy
    split at hy
    · rename_i ha
      obtain ⟨z, hz, hc⟩ := List.any_eq_true.1 ha
      obtain ⟨h1, h2, h3, h4⟩ := hQ_ hx hz
      have ez := (gg_ (hS z h1) h2).1
      rw [h3, h4] at ez
      simp only [List.mem_singleton] at hy
      subst hy
      exact .r13 (r := f.r) (by rw [← e]; exact hkn) (by rw [← ez]; exact hkS z h1) trivial (by simpa [cP_] using hc)
    · simp at hy
theorem lV_ {z : Pc} {a : Str} (hz : z ∈ ps) (hk : z.kind = 1) : an_ a z.c ∈ fH_ (bg_ ps) (an_ a z.a) :=
  List.mem_map.2 ⟨z, pm1.2 ⟨hz, hk, rfl⟩, rfl⟩
theorem os_ {z : Pc} {a : Str} (hz : z ∈ ps) (hk : z.kind = 3) : ax_ a z.r z.c ∈ jT_ (bg_ ps) (an_ a z.a) :=
  List.mem_map.2 ⟨z, pm3.2 ⟨hz, hk, rfl⟩, rfl⟩
theorem nn_ {z : Pc} {a : Str} (hz : z ∈ ps) (hk : z.kind = 8) : aP_ a z.r z.lo z.hi ∈ (lat (bg_ ps) ⟨8, [], (an_ a z.a).b⟩).map (fun y => aP_ (an_ a z.a).a y.r y.lo y.hi) :=
  List.mem_map.2 ⟨z, pm8.2 ⟨hz, hk, rfl⟩, rfl⟩
theorem lR_ {z : Pc} {a b : Str} (hz : z ∈ ps) (hk : z.kind = 5) : ax_ a z.t b ∈ fE_ (bg_ ps) (ax_ a z.r b) :=
  List.mem_map.2 ⟨z, pm5.2 ⟨hz, hk, rfl⟩, rfl⟩
theorem mD_ (hx : x.of S Fm) (hr : ∀ x ∈ ps, x.vok) {z : Pc} {a b c : Str} (hz : z ∈ ps) (hk : z.kind = 6) (h : S (ax_ b z.s c)) : ax_ a z.t c ∈ eV_ (bg_ ps) x (ax_ a z.r b) :=
  List.mem_flatMap.2 ⟨z, (pm6 ((hr z hz).rok.1 (by simp [hk]))).2 ⟨hz, hk, rfl⟩, List.mem_map.2 ⟨c, di_.2 ((hx.frm _ _ _).2 ⟨_, h, rfl, rfl, rfl, rfl⟩), rfl⟩⟩
theorem mC_ (hx : x.of S Fm) (hr : ∀ x ∈ ps, x.vok) {z : Pc} {a b c : Str} (hz : z ∈ ps) (hk : z.kind = 6) (h : S (ax_ a z.r b)) : ax_ a z.t c ∈ gc_ (bg_ ps) x (ax_ b z.s c) :=
  List.mem_flatMap.2 ⟨z, (pm6' ((hr z hz).rok.2.1 hk).1).2 ⟨hz, hk, rfl⟩, List.mem_map.2 ⟨a, di_.2 ((hx.into _ _ _).2 ⟨_, h, rfl, rfl, rfl, rfl⟩), rfl⟩⟩
theorem kH_ (hx : x.of S Fm) (hr : ∀ x ∈ ps, x.vok) {z : Pc} {a b : Str} (hz : z ∈ ps) (hk : z.kind = 4) (h : S (an_ b z.a)) : an_ a z.c ∈ eZ_ (bg_ ps) x (ax_ a z.r b) :=
  List.mem_flatMap.2 ⟨z.a, di_.2 ((hx.above _ _).2 ⟨_, h, rfl, rfl, rfl⟩), List.mem_map.2 ⟨z, (pm4' ((hr z hz).rok.1 (by simp [hk]))).2 ⟨hz, hk, rfl, rfl⟩, rfl⟩⟩
theorem kI_ (hx : x.of S Fm) (hr : ∀ x ∈ ps, x.vok) {z : Pc} {a b : Str} (hz : z ∈ ps) (hk : z.kind = 4) (h : S (ax_ a z.r b)) : an_ a z.c ∈ fa_ (bg_ ps) x (an_ b z.a) :=
  List.mem_flatMap.2 ⟨z, (pm4 (fun x hx => (hr x hx).rok)).2 ⟨hz, hk, rfl⟩, List.mem_map.2 ⟨a, di_.2 ((hx.into _ _ _).2 ⟨_, h, rfl, rfl, rfl, rfl⟩), rfl⟩⟩
theorem jD_ (hx : x.of S Fm) {a r b : Str} (h : S (ax_ a r b)) : an_ a [33] ∈ dw_ x (an_ b [33]) := by
  unfold dw_
  rw [if_pos (show (an_ b [33]).b = [33] from rfl)]
  exact List.mem_map.2 ⟨a, di_.2 ((hx.under _ _).2 ⟨_, h, rfl, rfl, rfl⟩), rfl⟩
theorem qc_ {z : Pc} {a : Str} {lo hi : Int} (hz : z ∈ ps) (hk : z.kind = 9) (h1 : z.lo ≤ lo) (h2 : hi ≤ z.hi) : an_ a z.c ∈ nE_ (bg_ ps) (aP_ a z.r lo hi) :=
  List.mem_map.2 ⟨z, List.mem_filter.2 ⟨pm9.2 ⟨hz, hk, rfl⟩, decide_eq_true ⟨h1, h2⟩⟩, rfl⟩
theorem kd_ (hx : x.of S Fm) {firm : Bool} (hfm : firm = true ↔ Fm f) {y : Fc} (hy : S y) (hk : y.kind = 3) (ha : y.a = f.a) (hr : y.r = f.r) (hm : Fm f ∨ Fm y) : y ∈ ek_ x f firm := by
  unfold ek_
  cases firm with
  | true => rw [if_pos rfl]; exact di_.2 ((hx.ranges _ _ _).2 ⟨hy, hk, ha, hr⟩)
  | false =>
    rw [if_neg (by decide)]
    refine di_.2 ((hx.firms _ _ _).2 ⟨hy, hm.resolve_left (fun q => ?_), hk, ha, hr⟩)
    exact absurd (hfm.2 q) (by decide)
theorem lI_ {l : List Fc} {y : Fc} (hy : y ∈ l) :
    (max f.lo y.lo ≤ min f.hi y.hi → dJ_ f y ∈ fm_ f l ∨ dJ_ f y = f ∨ dJ_ f y = y) ∧ (min f.hi y.hi < max f.lo y.lo → an_ f.a [33] ∈ ge_ f l) := by
  refine ⟨fun h => ?_, fun h => ?_⟩
  · by_cases h1 : dJ_ f y = f
    · exact .inr (.inl h1)
    · by_cases h2 : dJ_ f y = y
      · exact .inr (.inr h2)
      · refine .inl (List.mem_map.2 ⟨y, List.mem_filter.2 ⟨hy, ?_⟩, rfl⟩)
        simp only [cP_, Bool.and_eq_true, Bool.not_eq_true', decide_eq_false_iff_not, Int.not_lt, decide_eq_true_eq]
        exact ⟨h, h1, h2⟩
  · unfold ge_
    rw [if_pos (List.any_eq_true.2 ⟨y, hy, by simpa [cP_] using h⟩)]
    simp
end
section
variable (stp : Fc → List Fc → List Fc) (kof : List Fc → List Fc) (pm : List (Ky × Pc)) (x : Ix) (f : Fc)
def rl (j : Nat) (s : List Fc × List Fc) : List Fc × List Fc :=
  if f.kind = 1 then
    (match j with
    | 0 => (emits stp (fH_ pm f) s.1, s.2)
    | 1 => (ef_ stp kof f (lat pm ⟨2, [], f.b⟩) s.1, s.2)
    | 2 => (emits stp (jT_ pm f) s.1, s.2)
    | 3 => (emits stp (fa_ pm x f) s.1, s.2)
    | 4 => (emits stp (dw_ x f) s.1, s.2)
    | _ => cD_ stp kof f (lat pm ⟨8, [], f.b⟩) s)
  else if f.kind = 2 then
    (match j with
    | 0 => (emits stp (fE_ pm f) s.1, s.2)
    | 1 => (emits stp (eV_ pm x f ++ gc_ pm x f) s.1, s.2)
    | 2 => (emits stp (eZ_ pm x f) s.1, s.2)
    | _ => (if an_ f.b [33] ∈ kof s.1 then stp (an_ f.a [33]) s.1 else s.1, s.2))
  else
    (match j with
    | 0 => (emits stp (fm_ f (ek_ x f (decide (f ∈ s.2))) ++ ge_ f (ek_ x f (decide (f ∈ s.2)))) s.1, s.2)
    | _ => (emits stp (nE_ pm f) s.1, s.2))
def rls : Nat → List Fc × List Fc → List Fc × List Fc
  | 0, s => s
  | j + 1, s => rl stp kof pm x f j (rls j s)
def nrl : Nat := if f.kind = 1 then 6 else if f.kind = 2 then 4 else 2
end
structure Cmpl (ps : List Pc) (S Fm kn good : Fc → Prop) (f : Fc) : Prop where
  c3 : ∀ z a, z ∈ ps → z.kind = 1 → f = an_ a z.a → good (an_ a z.c)
  c4 : ∀ z a, z ∈ ps → z.kind = 2 → f = an_ a z.a → kn (an_ a z.b) → good (an_ a z.c)
  c4' : ∀ z a, z ∈ ps → z.kind = 2 → f = an_ a z.b → kn (an_ a z.a) → good (an_ a z.c)
  c5 : ∀ z a, z ∈ ps → z.kind = 3 → f = an_ a z.a → good (ax_ a z.r z.c)
  c6 : ∀ z a b, z ∈ ps → z.kind = 5 → f = ax_ a z.r b → good (ax_ a z.t b)
  c7 : ∀ z a b c, z ∈ ps → z.kind = 6 → f = ax_ a z.r b → S (ax_ b z.s c) → good (ax_ a z.t c)
  c7' : ∀ z a b c, z ∈ ps → z.kind = 6 → f = ax_ b z.s c → S (ax_ a z.r b) → good (ax_ a z.t c)
  c8 : ∀ z a b, z ∈ ps → z.kind = 4 → f = ax_ a z.r b → S (an_ b z.a) → good (an_ a z.c)
  c8' : ∀ z a b, z ∈ ps → z.kind = 4 → f = an_ b z.a → S (ax_ a z.r b) → good (an_ a z.c)
  c9 : ∀ a r b, f = ax_ a r b → kn (an_ b [33]) → good (an_ a [33])
  c9' : ∀ a r b, f = an_ b [33] → S (ax_ a r b) → good (an_ a [33])
  c11 : ∀ z a, z ∈ ps → z.kind = 8 → f = an_ a z.a → good (aP_ a z.r z.lo z.hi)
  c12 : ∀ y, f.kind = 3 → S y → y.kind = 3 → y.a = f.a → y.r = f.r → (Fm f ∨ Fm y) → max f.lo y.lo ≤ min f.hi y.hi → good (dJ_ f y)
  c13 : ∀ y, f.kind = 3 → S y → y.kind = 3 → y.a = f.a → y.r = f.r → (Fm f ∨ Fm y) → min f.hi y.hi < max f.lo y.lo → good (an_ f.a [33])
  c14 : ∀ z a lo hi, z ∈ ps → z.kind = 9 → f = aP_ a z.r lo hi → z.lo ≤ lo → hi ≤ z.hi → good (an_ a z.c)
section
variable {stp : Fc → List Fc → List Fc} {kof : List Fc → List Fc} {ps : List Pc} {A : List Str} {x : Ix} {S Fm : Fc → Prop} {f : Fc}
theorem lo_ (hg : Grows stp kof) (j : Nat) (s : List Fc × List Fc) : ∃ L, (rl stp kof (bg_ ps) x f j s).1 = emits stp L s.1 := by
  unfold rl
  split
  · split
    · exact ⟨_, rfl⟩
    · obtain ⟨L, h, _⟩ := eM_ hg f (lat (bg_ ps) ⟨2, [], f.b⟩) s.1
      exact ⟨L, h⟩
    · exact ⟨_, rfl⟩
    · exact ⟨_, rfl⟩
    · exact ⟨_, rfl⟩
    · exact ⟨_, ez_ stp kof f _ s.1 s.2⟩
  · split
    · split
      · exact ⟨_, rfl⟩
      · exact ⟨_, rfl⟩
      · exact ⟨_, rfl⟩
      · simp only
        split
        · exact ⟨[an_ f.a [33]], rfl⟩
        · exact ⟨[], rfl⟩
    · split
      · exact ⟨_, rfl⟩
      · exact ⟨_, rfl⟩
theorem hN_ (hg : Grows stp kof) (j : Nat) (s : List Fc × List Fc) : ∃ L, (rls stp kof (bg_ ps) x f j s).1 = emits stp L s.1 := by
  induction j with
  | zero => exact ⟨[], rfl⟩
  | succ j ih =>
    obtain ⟨L, h⟩ := ih
    obtain ⟨M, h'⟩ := lo_ (ps := ps) (x := x) (f := f) hg j (rls stp kof (bg_ ps) x f j s)
    exact ⟨L ++ M, by rw [rls, h', h, aV_]⟩
theorem hM_ (hg : Grows stp kof) (j : Nat) (s : List Fc × List Fc) (z : Fc) (hz : z ∈ kof s.1) : z ∈ kof (rls stp kof (bg_ ps) x f j s).1 := by
  obtain ⟨L, h⟩ := hN_ (ps := ps) (x := x) (f := f) hg j s
  rw [h]; exact hg.emits L _ z hz
theorem ln_ (j : Nat) (s : List Fc × List Fc) (h : f.kind = 1 → j ≤ 5) : (rls stp kof (bg_ ps) x f j s).2 = s.2 := by
  induction j with
  | zero => rfl
  | succ j ih =>
    rw [← ih (fun hk => by have := h hk; omega), rls, rl.eq_def]
    split
    · rename_i hk
      have := h hk
      match j, this with
      | 0, _ => rfl
      | 1, _ => rfl
      | 2, _ => rfl
      | 3, _ => rfl
      | 4, _ => rfl
    · split
      · split <;> rfl
      · split <;> rfl
theorem oz_ (hg : Grows stp kof) (hr : ∀ x ∈ ps, x.vok) (hx : x.of S Fm) (s : List Fc × List Fc) (hfm : ∀ y, S y → (Fm y ↔ y ∈ s.2)) (hf : S f) (hSk : ∀ y, S y → y ∈ kof s.1) (good : Fc → Prop) (hS : ∀ y, S y → good y)
    (H : ∀ j, j < nrl f → ∀ L, (rls stp kof (bg_ ps) x f (j + 1) s).1 = emits stp L (rls stp kof (bg_ ps) x f j s).1 → ∀ y ∈ L, good y) :
    Cmpl ps S Fm (· ∈ kof s.1) good f := by
  have K : ∀ k j, f.kind = k → j < nrl f → ∀ L, (rl stp kof (bg_ ps) x f j (rls stp kof (bg_ ps) x f j s)).1 = emits stp L (rls stp kof (bg_ ps) x f j s).1 → ∀ y ∈ L, good y := fun k j _ hj L hL => H j hj L (by rw [rls]; exact hL)
  have n1 : f.kind = 1 → nrl f = 6 := fun h => by simp [nrl, h]
  have n2 : f.kind = 2 → nrl f = 4 := fun h => by simp [nrl, h]
  have n3 : f.kind = 3 → nrl f = 2 := fun h => by simp [nrl, h]
  have k1 : ∀ {a b}, f = an_ a b → f.kind = 1 := fun e => by rw [e]; rfl
  have k2 : ∀ {a r b}, f = ax_ a r b → f.kind = 2 := fun e => by rw [e]; rfl
  have k3 : ∀ {a r lo hi}, f = aP_ a r lo hi → f.kind = 3 := fun e => by rw [e]; rfl
  have both : ∀ z a, z ∈ ps → z.kind = 2 → f.kind = 1 → f.a = a → (z.a = f.b ∨ z.b = f.b) → an_ a z.a ∈ kof s.1 → an_ a z.b ∈ kof s.1 → good (an_ a z.c) := by
    intro z a hz hk h1 ha hb g1 g2
    subst ha
    obtain ⟨L, e1, e2, e3⟩ := eM_ hg f (lat (bg_ ps) ⟨2, [], f.b⟩) (rls stp kof (bg_ ps) x f 1 s).1
    exact K 1 1 h1 (by rw [n1 h1]; decide) L (by rw [rl.eq_def, if_pos h1]; exact e1) _ (e3 z (pm2.2 ⟨hz, hk, hb⟩) (hM_ hg 1 s _ g1) (hM_ hg 1 s _ g2))
  have mt : f.kind = 3 → (∀ y ∈ fm_ f (ek_ x f (decide (f ∈ s.2))) ++ ge_ f (ek_ x f (decide (f ∈ s.2))), good y) := fun h3 =>
    K 3 0 h3 (by rw [n3 h3]; decide) _ (by rw [rl.eq_def, if_neg (by rw [h3]; decide), if_neg (by rw [h3]; decide)]; rfl)
  have hfirm : decide (f ∈ s.2) = true ↔ Fm f := by rw [decide_eq_true_eq]; exact (hfm f hf).symm
  refine ⟨?_, ?_, ?_, ?_, ?_, ?_, ?_, ?_, ?_, ?_, ?_, ?_, ?_, ?_, ?_⟩
  · intro z a hz hk e
    have h1 := k1 e
    exact K 1 0 h1 (by rw [n1 h1]; decide) (fH_ (bg_ ps) f) (by rw [rl.eq_def, if_pos h1] <;> rfl) _ (by rw [e]; exact lV_ hz hk)
  · intro z a hz hk e h
    have h1 := k1 e
    exact both z a hz hk h1 (by rw [e]; rfl) (by rw [e]; exact .inl rfl) (by rw [← e]; exact hSk f hf) h
  · intro z a hz hk e h
    have h1 := k1 e
    exact both z a hz hk h1 (by rw [e]; rfl) (by rw [e]; exact .inr rfl) h (by rw [← e]; exact hSk f hf)
  · intro z a hz hk e
    have h1 := k1 e
    exact K 1 2 h1 (by rw [n1 h1]; decide) (jT_ (bg_ ps) f) (by rw [rl.eq_def, if_pos h1] <;> rfl) _ (by rw [e]; exact os_ hz hk)
  · intro z a b hz hk e
    have h1 := k2 e
    exact K 2 0 h1 (by rw [n2 h1]; decide) (fE_ (bg_ ps) f) (by rw [rl.eq_def, if_neg (by rw [h1]; decide), if_pos h1] <;> rfl) _ (by rw [e]; exact lR_ hz hk)
  · intro z a b c hz hk e h
    have h1 := k2 e
    exact K 2 1 h1 (by rw [n2 h1]; decide) (eV_ (bg_ ps) x f ++ gc_ (bg_ ps) x f) (by rw [rl.eq_def, if_neg (by rw [h1]; decide), if_pos h1] <;> rfl) _ (List.mem_append_left _ (by rw [e]; exact mD_ hx hr hz hk h))
  · intro z a b c hz hk e h
    have h1 := k2 e
    exact K 2 1 h1 (by rw [n2 h1]; decide) (eV_ (bg_ ps) x f ++ gc_ (bg_ ps) x f) (by rw [rl.eq_def, if_neg (by rw [h1]; decide), if_pos h1] <;> rfl) _ (List.mem_append_right _ (by rw [e]; exact mC_ hx hr hz hk h))
  · intro z a b hz hk e h
    have h1 := k2 e
    exact K 2 2 h1 (by rw [n2 h1]; decide) (eZ_ (bg_ ps) x f) (by rw [rl.eq_def, if_neg (by rw [h1]; decide), if_pos h1] <;> rfl) _ (by rw [e]; exact kH_ hx hr hz hk h)
  · intro z a b hz hk e h
    have h1 := k1 e
    exact K 1 3 h1 (by rw [n1 h1]; decide) (fa_ (bg_ ps) x f) (by rw [rl.eq_def, if_pos h1] <;> rfl) _ (by rw [e]; exact kI_ hx hr hz hk h)
  · intro a r b e h
    have h1 := k2 e
    have e1 : an_ f.b [33] ∈ kof (rls stp kof (bg_ ps) x f 3 s).1 := hM_ hg 3 s _ (by rw [e]; exact h)
    exact K 2 3 h1 (by rw [n2 h1]; decide) [an_ f.a [33]] (by rw [rl.eq_def, if_neg (by rw [h1]; decide), if_pos h1]; simp only [if_pos e1]; rfl) _ (by rw [e]; simp [ax_])
  · intro a r b e h
    have h1 := k1 e
    exact K 1 4 h1 (by rw [n1 h1]; decide) (dw_ x f) (by rw [rl.eq_def, if_pos h1] <;> rfl) _ (by rw [e]; exact jD_ hx h)
  · intro z a hz hk e
    have h1 := k1 e
    exact K 1 5 h1 (by rw [n1 h1]; decide) ((lat (bg_ ps) ⟨8, [], f.b⟩).map fun y => aP_ f.a y.r y.lo y.hi) (by rw [rl.eq_def, if_pos h1]; exact ez_ stp kof f _ _ _) _ (by rw [e]; exact nn_ hz hk)
  · intro y h3 hy hk ha hr' hm hl
    have hmem := kd_ hx hfirm hy hk ha hr' hm
    rcases (lI_ (f := f) hmem).1 hl with q | q | q
    · exact mt h3 _ (List.mem_append_left _ q)
    · rw [q]; exact hS f hf
    · rw [q]; exact hS y hy
  · intro y h3 hy hk ha hr' hm hl
    have hmem := kd_ hx hfirm hy hk ha hr' hm
    exact mt h3 _ (List.mem_append_right _ ((lI_ (f := f) hmem).2 hl))
  · intro z a lo hi hz hk e g1 g2
    have h1 := k3 e
    exact K 3 1 h1 (by rw [n3 h1]; decide) (nE_ (bg_ ps) f) (by rw [rl.eq_def, if_neg (by rw [h1]; decide), if_neg (by rw [h1]; decide)] <;> rfl) _ (by rw [e]; exact qc_ hz hk g1 g2)
end
end Go.Vs
namespace Go.Vs
open Go Go.Sx
def bH_ (m : Nat) (y : Fc) (q : List Fc) : List Fc := if q.length ≤ m ∧ y ∉ q then q ++ [y] else q
abbrev idk : List Fc → List Fc := fun q => q
theorem lf_ (m : Nat) (y : Fc) (q : List Fc) : ∃ t, bH_ m y q = q ++ t := by
  unfold bH_; split
  · exact ⟨[y], rfl⟩
  · exact ⟨[], by simp⟩
theorem hF_ (m : Nat) : ∀ (L q : List Fc), ∃ t, emits (bH_ m) L q = q ++ t
  | [], q => ⟨[], by simp [emits]⟩
  | y :: L, q => by
    obtain ⟨t, h⟩ := lf_ m y q
    obtain ⟨u, h'⟩ := hF_ m L (bH_ m y q)
    exact ⟨t ++ u, by rw [← List.append_assoc, ← h, ← h']; rfl⟩
theorem eR_ (m : Nat) : Grows (bH_ m) idk := ⟨fun y s z hz => by obtain ⟨t, h⟩ := lf_ m y s; rw [h]; exact List.mem_append_left _ hz⟩
theorem fq_ (m : Nat) : ∀ (L q : List Fc) (z : Fc), z ∈ emits (bH_ m) L q → z ∈ q ∨ z ∈ L
  | [], q, z, h => .inl h
  | y :: L, q, z, h => by
    rcases fq_ m L (bH_ m y q) z h with h | h
    · unfold bH_ at h
      split at h
      · rcases List.mem_append.1 h with h | h
        · exact .inl h
        · exact .inr (by simp at h; simp [h])
      · exact .inl h
    · exact .inr (List.mem_cons_of_mem _ h)
theorem gN_ (m : Nat) : ∀ (L q : List Fc), q.Nodup → (emits (bH_ m) L q).Nodup
  | [], q, h => h
  | y :: L, q, h => by
    refine gN_ m L (bH_ m y q) ?_
    unfold bH_
    split
    · rename_i hc
      rw [List.nodup_append]
      exact ⟨h, by simp, fun a ha b hb e => by simp at hb; subst hb; subst e; exact hc.2 ha⟩
    · exact h
theorem kJ_ (m : Nat) : ∀ (L q : List Fc), q.length ≤ m + 1 → (emits (bH_ m) L q).length ≤ m + 1
  | [], q, h => h
  | y :: L, q, h => by
    refine kJ_ m L (bH_ m y q) ?_
    unfold bH_
    split
    · rename_i hc; simp; exact hc.1
    · exact h
theorem gO_ (m : Nat) : ∀ (L q : List Fc), (emits (bH_ m) L q).length ≤ m → ∀ y ∈ L, y ∈ emits (bH_ m) L q
  | [], q, _, y, hy => by simp at hy
  | x :: L, q, h, y, hy => by
    have e : emits (bH_ m) (x :: L) q = emits (bH_ m) L (bH_ m x q) := rfl
    rw [e] at h ⊢
    rcases List.mem_cons.1 hy with rfl | hy
    · obtain ⟨t, ht⟩ := hF_ m L (bH_ m y q)
      rw [ht] at h ⊢
      refine List.mem_append_left _ ?_
      have hl : (bH_ m y q).length ≤ m := by rw [List.length_append] at h; omega
      unfold bH_ at hl ⊢
      split
      · simp
      · rename_i hc
        rw [if_neg hc] at hl
        exact Classical.byContradiction fun hn => hc ⟨hl, hn⟩
    · exact gO_ m L _ h y hy
theorem ig_ {ps : List Pc} {A : List Str} {m : Nat} {f : Fc} : ∀ (l : List Pc) (s : List Fc), (∀ z ∈ l, z ∈ ps ∧ z.kind = 2) → (∀ y ∈ s, Der ps A y) → ∀ y ∈ ef_ (bH_ m) idk f l s, Der ps A y
  | [], s, _, hs, y, hy => hs y hy
  | z :: l, s, hl, hs, y, hy => by
    have hz := hl z (by simp)
    simp only [ef_, List.foldl_cons] at hy
    refine ig_ l _ (fun z hz => hl z (by simp [hz])) (fun y hy => ?_) y hy
    split at hy
    · rename_i hc
      have := fq_ m [an_ f.a z.c] s y hy
      rcases this with h | h
      · exact hs y h
      · simp at h; subst h
        exact Der.step (.r4 hz.1 hz.2 (hs _ hc.1) (hs _ hc.2))
    · exact hs y hy
section
variable {ps : List Pc} {A : List Str} {m : Nat} {x : Ix} {S Fm : Fc → Prop} {f : Fc}
theorem ns_ (hr : ∀ x ∈ ps, x.vok) (hx : x.of S Fm) (hS : ∀ y, S y → y.form) (hk : f.kind = 1 ∨ f.kind = 2 ∨ f.kind = 3) (hf : f.form) (j : Nat) (s : List Fc × List Fc) (hSs : ∀ y, S y → y ∈ s.1) (hfs : f ∈ s.1) (hs : ∀ y ∈ s.1, Der ps A y) :
    ∀ y ∈ (rl (bH_ m) idk (bg_ ps) x f j s).1, Der ps A y := by
  have E : ∀ L, (∀ y ∈ L, fv_ ps A (· ∈ s.1) y) → ∀ y ∈ emits (bH_ m) L s.1, Der ps A y := fun L hL y hy => by
    rcases fq_ m L s.1 y hy with h | h
    · exact hs y h
    · exact Der.step ((hL y h).mono (fun x hx => ⟨x, hx, x.frm, rfl⟩) (fun _ h => h) hs (fun _ _ h => h))
  unfold rl
  split
  · rename_i h1
    split
    · exact E _ (jF_ h1 hf hfs)
    · exact ig_ _ s.1 (fun z hz => by have := pm2.1 hz; exact ⟨this.1, this.2.1⟩) hs
    · exact E _ (mg_ h1 hf hfs)
    · exact E _ (jq_ hr hx hS hSs h1 hf hfs)
    · exact E _ (ij_ hx hS hSs h1 hf hfs)
    · rw [ez_]; exact E _ (lb_ h1 hf hfs)
  · split
    · rename_i h2
      split
      · exact E _ (jC_ h2 hf hfs)
      · exact E _ (lY_ hx hS hSs h2 hf hfs)
      · exact E _ (jo_ hx hS hSs h2 hf hfs)
      · simp only
        split
        · rename_i hc
          exact E [an_ f.a [33]] (fun y hy => by simp at hy; subst hy; exact ii_ h2 hf hfs hc)
        · exact hs
    · rename_i h1 h2
      have h3 : f.kind = 3 := by omega
      split
      · exact E _ (mp_ hx hS hSs h3 hf hfs)
      · exact E _ (nD_ h3 hf hfs)
theorem iF_ (hr : ∀ x ∈ ps, x.vok) (hx : x.of S Fm) (hS : ∀ y, S y → y.form) (hf : f.form) (s : List Fc × List Fc) (hSs : ∀ y, S y → y ∈ s.1) (hfs : f ∈ s.1) (hs : ∀ y ∈ s.1, Der ps A y) (j : Nat) :
    ∀ y ∈ (rls (bH_ m) idk (bg_ ps) x f j s).1, Der ps A y := by
  induction j with
  | zero => exact hs
  | succ j ih => exact ns_ hr hx hS (gK_ hf) hf j _ (fun y hy => hM_ (eR_ m) j s y (hSs y hy)) (hM_ (eR_ m) j s f hfs) ih
end
inductive Fmd (fm : List Fc) : Fc → Prop
  | base {y : Fc} (h : y ∈ fm) : Fmd fm y
  | meet {y z : Fc} (hy : Fmd fm y) (hz : Fmd fm z) (ha : z.a = y.a) (hr : z.r = y.r) (hl : max y.lo z.lo ≤ min y.hi z.hi) : Fmd fm (dJ_ y z)
theorem Fmd.mono {fm fm' : List Fc} (h : ∀ y ∈ fm, y ∈ fm') {y : Fc} (hy : Fmd fm y) : Fmd fm' y := by
  induction hy with
  | base h1 => exact .base (h _ h1)
  | meet _ _ ha hr hl ih1 ih2 => exact .meet ih1 ih2 ha hr hl
structure InvA (ps : List Pc) (A : List Str) (m n : Nat) (q fm : List Fc) (x : Ix) : Prop where
  nd : q.Nodup
  len : q.length ≤ m
  le : n ≤ q.length
  der : ∀ y ∈ q, Der ps A y
  form : ∀ y ∈ q, y.form
  ix : x.of (· ∈ q.take n) (· ∈ fm)
  fmq : ∀ y ∈ fm, y ∈ q ∧ y.kind = 3
  firm : ∀ y ∈ q, y.kind = 3 → Fmd fm y
  st : ∀ a ∈ A, an_ a a ∈ q ∧ an_ a [42] ∈ q ∧ ∀ z ∈ ps, z.kind = 7 → ax_ a z.r a ∈ q
  cl : ∀ y, One ps A (· ∈ q.take n) (fun y z => y ∈ fm ∨ z ∈ fm) y → y ∈ q
theorem Der.form {p : List Pc} {A : List Str} (hp : ∀ x ∈ p, x.vok) {y : Fc} (h : Der p A y) : y.form := h _ fun _ hz => One.form hp (fun _ h => h) hz
theorem hY_ {stp : Fc → List Fc → List Fc} {kof : List Fc → List Fc} (hk : ∀ i s z, z ∈ kof (stp i s) → z ∈ kof s ∨ z = i) (h : Grows stp kof) (f : Fc) : ∀ (l : List Pc) (s fm : List Fc), ∀ y ∈ l, aP_ f.a y.r y.lo y.hi ∈ kof s ∨ aP_ f.a y.r y.lo y.hi ∈ (cD_ stp kof f l (s, fm)).2
  | [], s, fm, y, hy => by simp at hy
  | x :: l, s, fm, y, hy => by
    have e : cD_ stp kof f (x :: l) (s, fm) = cD_ stp kof f l (stp (aP_ f.a x.r x.lo x.hi) s, if aP_ f.a x.r x.lo x.hi ∈ kof s then fm else aP_ f.a x.r x.lo x.hi :: fm) := rfl
    rw [e]
    by_cases he : aP_ f.a y.r y.lo y.hi = aP_ f.a x.r x.lo x.hi
    · rw [he]
      by_cases hc : aP_ f.a x.r x.lo x.hi ∈ kof s
      · exact .inl hc
      · refine .inr ((fQ_ h f l _ _ _).2 (.inl ?_))
        rw [if_neg hc]; simp
    · rcases List.mem_cons.1 hy with rfl | hy
      · exact absurd rfl he
      · rcases hY_ hk h f l (stp (aP_ f.a x.r x.lo x.hi) s) (if aP_ f.a x.r x.lo x.hi ∈ kof s then fm else aP_ f.a x.r x.lo x.hi :: fm) y hy with h1 | h1
        · exact (hk _ _ _ h1).imp id fun q => absurd q he
        · exact .inr h1
theorem ol_ {q : List Fc} {n : Nat} {f z : Fc} (hn : q[n]? = some f) : z ∈ q.take (n + 1) ↔ z ∈ q.take n ∨ z = f := by
  rw [List.take_add_one, hn]; simp
theorem nf_ {ps : List Pc} {A : List Str} {S Fm kn good : Fc → Prop} {f : Fc} (hc : Cmpl ps (fun y => S y ∨ y = f) Fm kn good f) (hkn : ∀ y, S y ∨ y = f → kn y) (h : ∀ y, One ps A S (fun y z => Fm y ∨ Fm z) y → good y) (y : Fc) (hy : One ps A (fun y => S y ∨ y = f) (fun y z => Fm y ∨ Fm z) y) : good y := by
  cases hy with
  | r1 h1 => exact h _ (.r1 h1)
  | r2 h1 => exact h _ (.r2 h1)
  | r10 hx hk h1 => exact h _ (.r10 hx hk h1)
  | r3 hx hk h1 => exact h1.elim (fun q => h _ (.r3 hx hk q)) (fun q => hc.c3 _ _ hx hk q.symm)
  | r4 hx hk h1 h2 =>
    rcases h1 with h1 | h1
    · rcases h2 with h2 | h2
      · exact h _ (.r4 hx hk h1 h2)
      · exact hc.c4' _ _ hx hk h2.symm (hkn _ (.inl h1))
    · exact hc.c4 _ _ hx hk h1.symm (hkn _ h2)
  | r5 hx hk h1 => exact h1.elim (fun q => h _ (.r5 hx hk q)) (fun q => hc.c5 _ _ hx hk q.symm)
  | r6 hx hk h1 => exact h1.elim (fun q => h _ (.r6 hx hk q)) (fun q => hc.c6 _ _ _ hx hk q.symm)
  | r7 hx hk h1 h2 =>
    rcases h1 with h1 | h1
    · rcases h2 with h2 | h2
      · exact h _ (.r7 hx hk h1 h2)
      · exact hc.c7' _ _ _ _ hx hk h2.symm (.inl h1)
    · exact hc.c7 _ _ _ _ hx hk h1.symm h2
  | r8 hx hk h1 h2 =>
    rcases h1 with h1 | h1
    · rcases h2 with h2 | h2
      · exact h _ (.r8 hx hk h1 h2)
      · exact hc.c8' _ _ _ hx hk h2.symm (.inl h1)
    · exact hc.c8 _ _ _ hx hk h1.symm h2
  | r9 h1 h2 =>
    rcases h1 with h1 | h1
    · rcases h2 with h2 | h2
      · exact h _ (.r9 h1 h2)
      · exact hc.c9' _ _ _ h2.symm (.inl h1)
    · exact hc.c9 _ _ _ h1.symm (hkn _ h2)
  | r11 hx hk h1 => exact h1.elim (fun q => h _ (.r11 hx hk q)) (fun q => hc.c11 _ _ hx hk q.symm)
  | @r12 a r lo hi lo' hi' h1 h2 hm hl =>
    rcases h1 with h1 | h1
    · rcases h2 with h2 | h2
      · exact h _ (.r12 h1 h2 hm hl)
      · have := hc.c12 (aP_ a r lo hi) (by rw [← h2]; rfl) (.inl h1) rfl (by rw [← h2]; rfl) (by rw [← h2]; rfl) (by rw [← h2]; exact hm.symm) (by rw [← h2]; simp only [aP_]; omega)
        rw [← h2] at this
        rw [Int.max_comm, Int.min_comm]; exact this
    · have := hc.c12 (aP_ a r lo' hi') (by rw [← h1]; rfl) h2 rfl (by rw [← h1]; rfl) (by rw [← h1]; rfl) (by rw [← h1]; exact hm) (by rw [← h1]; exact hl)
      rw [← h1] at this
      exact this
  | @r13 a r lo hi lo' hi' h1 h2 hm hl =>
    rcases h1 with h1 | h1
    · rcases h2 with h2 | h2
      · exact h _ (.r13 h1 h2 hm hl)
      · have := hc.c13 (aP_ a r lo hi) (by rw [← h2]; rfl) (.inl h1) rfl (by rw [← h2]; rfl) (by rw [← h2]; rfl) (by rw [← h2]; exact hm.symm) (by rw [← h2]; simp only [aP_]; omega)
        rw [← h2] at this
        exact this
    · have := hc.c13 (aP_ a r lo' hi') (by rw [← h1]; rfl) h2 rfl (by rw [← h1]; rfl) (by rw [← h1]; rfl) (by rw [← h1]; exact hm) (by rw [← h1]; exact hl)
      rw [← h1] at this
      exact this
  | r14 hx hk h1 g1 g2 => exact h1.elim (fun q => h _ (.r14 hx hk q g1 g2)) (fun q => hc.c14 _ _ _ _ hx hk q.symm g1 g2)
theorem One.congrM {p : List Pc} {A : List Str} {S : Fc → Prop} {M M' : Fc → Fc → Prop} (hM : ∀ y z, S y → S z → M y z → M' y z) {y : Fc} (h : One p A S M y) : One p A S M' y := by
  cases h with
  | r1 h => exact .r1 h
  | r2 h => exact .r2 h
  | r10 hx hk h => exact .r10 hx hk h
  | r3 hx hk h => exact .r3 hx hk h
  | r4 hx hk h h' => exact .r4 hx hk h h'
  | r5 hx hk h => exact .r5 hx hk h
  | r6 hx hk h => exact .r6 hx hk h
  | r7 hx hk h h' => exact .r7 hx hk h h'
  | r8 hx hk h h' => exact .r8 hx hk h h'
  | r9 h h' => exact .r9 h h'
  | r11 hx hk h => exact .r11 hx hk h
  | r12 h h' hm hl => exact .r12 h h' (hM _ _ h h' hm) hl
  | r13 h h' hm hl => exact .r13 h h' (hM _ _ h h' hm) hl
  | r14 hx hk h h1 h2 => exact .r14 hx hk h h1 h2
section
variable {ps : List Pc} {A : List Str} {m n : Nat} {q fm : List Fc} {x : Ix} {f : Fc}
theorem oA_ (j k : Nat) (s : List Fc × List Fc) : ∃ t, (rls (bH_ m) idk (bg_ ps) x f (j + k) s).1 = (rls (bH_ m) idk (bg_ ps) x f j s).1 ++ t := by
  induction k with
  | zero => exact ⟨[], by simp⟩
  | succ k ih =>
    obtain ⟨t, h⟩ := ih
    obtain ⟨L, h'⟩ := lo_ (ps := ps) (x := x) (f := f) (eR_ m) (j + k) (rls (bH_ m) idk (bg_ ps) x f (j + k) s)
    obtain ⟨u, h''⟩ := hF_ m L (rls (bH_ m) idk (bg_ ps) x f (j + k) s).1
    exact ⟨t ++ u, by rw [← Nat.add_assoc, rls, h', h'', h, List.append_assoc]⟩
theorem lp_ (j : Nat) (s : List Fc × List Fc) (h : f.kind = 1 → j ≤ 4) (h3 : f.kind = 3 → j ≠ 0) (hk : f.kind = 1 ∨ f.kind = 2 ∨ f.kind = 3) : ∀ y ∈ (rl (bH_ m) idk (bg_ ps) x f j s).1, y.kind = 3 → y ∈ s.1 := by
  have E : ∀ L : List Fc, (∀ y ∈ L, y.kind ≠ 3) → ∀ y ∈ emits (bH_ m) L s.1, y.kind = 3 → y ∈ s.1 := fun L hL y hy hk =>
    (fq_ m L s.1 y hy).elim id fun q => absurd hk (hL y q)
  have mp : ∀ {α : Type} (l : List α) (g : α → Fc), (∀ a, (g a).kind ≠ 3) → ∀ y ∈ l.map g, y.kind ≠ 3 := fun l g hg y hy => by
    obtain ⟨a, _, rfl⟩ := List.mem_map.1 hy; exact hg a
  have fmp : ∀ {α β : Type} (l : List α) (k : α → List β) (g : α → β → Fc), (∀ a b, (g a b).kind ≠ 3) → ∀ y ∈ l.flatMap (fun a => (k a).map (g a)), y.kind ≠ 3 := fun l k g hg y hy => by
    obtain ⟨a, _, hy⟩ := List.mem_flatMap.1 hy
    exact mp _ _ (hg a) y hy
  unfold rl
  split
  · rename_i h1
    split
    · exact E _ (mp _ _ fun _ => by simp [an_])
    · obtain ⟨L, e1, e2, _⟩ := eM_ (eR_ m) f (lat (bg_ ps) ⟨2, [], f.b⟩) s.1
      rw [e1]
      exact E L fun y hy => by obtain ⟨_, _, rfl, _⟩ := e2 y hy; simp [an_]
    · exact E _ (mp _ _ fun _ => by simp [ax_])
    · exact E _ (fmp _ _ _ fun _ _ => by simp [an_])
    · refine E _ fun y hy => ?_
      unfold dw_ at hy
      split at hy
      · exact mp _ _ (fun _ => by simp [an_]) y hy
      · simp at hy
    · have := h h1
      rename_i a1 a2 a3 a4 a5
      have hj : j = 0 ∨ j = 1 ∨ j = 2 ∨ j = 3 ∨ j = 4 := by omega
      rcases hj with hj | hj | hj | hj | hj
      · exact (a1 hj).elim
      · exact (a2 hj).elim
      · exact (a3 hj).elim
      · exact (a4 hj).elim
      · exact (a5 hj).elim
  · split
    · split
      · exact E _ (mp _ _ fun _ => by simp [ax_])
      · refine E _ fun y hy => ?_
        rcases List.mem_append.1 hy with hy | hy
        · exact fmp _ _ _ (fun _ _ => by simp [ax_]) y hy
        · exact fmp _ _ _ (fun _ _ => by simp [ax_]) y hy
      · exact E _ (fmp _ _ _ fun _ _ => by simp [an_])
      · simp only
        split
        · exact E [an_ f.a [33]] (by simp [an_])
        · exact fun y hy _ => hy
    · rename_i h1 h2
      split
      · exact absurd rfl (h3 (by omega))
      · exact E _ (mp _ _ fun _ => by simp [an_])
theorem jX_ (j : Nat) (s : List Fc × List Fc) (h : f.kind = 1 → j ≤ 5) (h3 : f.kind ≠ 3) (hk : f.kind = 1 ∨ f.kind = 2 ∨ f.kind = 3) : ∀ y ∈ (rls (bH_ m) idk (bg_ ps) x f j s).1, y.kind = 3 → y ∈ s.1 := by
  induction j with
  | zero => exact fun y hy _ => hy
  | succ j ih => exact fun y hy hk3 => ih (fun hh => by have := h hh; omega) y (lp_ j _ (fun hh => by have := h hh; omega) (fun hh => absurd hh h3) hk y hy hk3) hk3
theorem pg_ (hr : ∀ x ∈ ps, x.vok) (inv : InvA ps A m n q fm x) (hn : q[n]? = some f) {s' : List Fc × List Fc} (hs : rls (bH_ m) idk (bg_ ps) (x.add (decide (f ∈ fm)) f) f (nrl f) (q, fm) = s') (hl : s'.1.length ≤ m) :
    InvA ps A m (n + 1) s'.1 s'.2 (x.add (decide (f ∈ fm)) f) := by
  have hfq : f ∈ q := List.mem_of_getElem? hn
  have hlt : n < q.length := (List.getElem?_eq_some_iff.1 hn).1
  have hform := inv.form f hfq
  have hk := gK_ hform
  have hx' : (x.add (decide (f ∈ fm)) f).of (fun y => y ∈ q.take n ∨ y = f) (· ∈ fm) := Ix.of_add inv.ix f (by simp)
  have hSq : ∀ y, (y ∈ q.take n ∨ y = f) → y ∈ q := fun y hy => hy.elim (fun h => List.mem_of_mem_take h) (fun h => h ▸ hfq)
  obtain ⟨L, hL⟩ := hN_ (ps := ps) (x := x.add (decide (f ∈ fm)) f) (f := f) (eR_ m) (nrl f) (q, fm)
  rw [hs] at hL
  obtain ⟨t, ht⟩ := hF_ m L q
  have hpre : s'.1 = q ++ t := by rw [hL]; exact ht
  have hsub : ∀ y ∈ q, y ∈ s'.1 := fun y hy => by rw [hpre]; exact List.mem_append_left _ hy
  have htake : s'.1.take (n + 1) = q.take (n + 1) := by rw [hpre, List.take_append_of_le_length (by omega)]
  have hmem : ∀ y, y ∈ s'.1.take (n + 1) ↔ (y ∈ q.take n ∨ y = f) := fun y => by rw [htake]; exact ol_ hn
  have hder : ∀ y ∈ s'.1, Der ps A y := by rw [← hs]; exact iF_ hr hx' (fun y hy => inv.form y (hSq y hy)) hform (q, fm) hSq hfq inv.der (nrl f)
  have H : ∀ j, j < nrl f → ∀ L, (rls (bH_ m) idk (bg_ ps) (x.add (decide (f ∈ fm)) f) f (j + 1) (q, fm)).1 = emits (bH_ m) L (rls (bH_ m) idk (bg_ ps) (x.add (decide (f ∈ fm)) f) f j (q, fm)).1 → ∀ y ∈ L, y ∈ s'.1 := by
    intro j hj L hL y hy
    obtain ⟨u, hu⟩ := oA_ (m := m) (ps := ps) (x := x.add (decide (f ∈ fm)) f) (f := f) (j + 1) (nrl f - (j + 1)) (q, fm)
    rw [show j + 1 + (nrl f - (j + 1)) = nrl f by omega, hs] at hu
    have hle : (rls (bH_ m) idk (bg_ ps) (x.add (decide (f ∈ fm)) f) f (j + 1) (q, fm)).1.length ≤ m := by rw [hu, List.length_append] at hl; omega
    rw [hL] at hle
    have := gO_ m L _ hle y hy
    rw [hu, hL]
    exact List.mem_append_left _ this
  have hc := oz_ (eR_ m) hr hx' (q, fm) (fun _ _ => Iff.rfl) (.inr rfl) hSq (· ∈ s'.1) (fun y hy => hsub y (hSq y hy)) H
  -- the firm ones
  have hfm : (∀ y ∈ fm, y ∈ s'.2) ∧ (∀ y ∈ s'.2, y ∈ fm ∨ (y ∉ q ∧ y ∈ s'.1 ∧ y.kind = 3)) ∧ (∀ y ∈ s'.1, y.kind = 3 → y ∈ q ∨ y ∈ s'.2 ∨ ∃ z, (z ∈ q.take n ∨ z = f) ∧ z.kind = 3 ∧ f.kind = 3 ∧ z.a = f.a ∧ z.r = f.r ∧ max f.lo z.lo ≤ min f.hi z.hi ∧ y = dJ_ f z) := by
    by_cases h1 : f.kind = 1
    · have e6 : nrl f = 5 + 1 := by simp [nrl, h1]
      rw [e6, rls] at hs
      have hf5 : (rls (bH_ m) idk (bg_ ps) (x.add (decide (f ∈ fm)) f) f 5 (q, fm)).2 = fm := ln_ 5 (q, fm) (fun _ => Nat.le_refl _)
      have hk5 := jX_ (m := m) (ps := ps) (x := x.add (decide (f ∈ fm)) f) (f := f) 5 (q, fm) (fun _ => Nat.le_refl _) (by omega) hk
      have hq5 : ∀ y ∈ q, y ∈ (rls (bH_ m) idk (bg_ ps) (x.add (decide (f ∈ fm)) f) f 5 (q, fm)).1 := fun y hy => hM_ (eR_ m) 5 (q, fm) y hy
      have H5 := H 5 (by omega)
      rw [rls] at H5
      generalize rls (bH_ m) idk (bg_ ps) (x.add (decide (f ∈ fm)) f) f 5 (q, fm) = s5 at hs hf5 hk5 hq5 H5
      have er : rl (bH_ m) idk (bg_ ps) (x.add (decide (f ∈ fm)) f) f 5 s5 = cD_ (bH_ m) idk f (lat (bg_ ps) ⟨8, [], f.b⟩) s5 := by rw [rl.eq_def, if_pos h1] <;> rfl
      rw [er] at hs H5
      have es5 : s5 = (s5.1, fm) := by rw [← hf5]
      rw [es5] at hs H5
      have Hv := H5 _ (ez_ (bH_ m) idk f _ s5.1 fm)
      refine ⟨fun y hy => ?_, fun y hy => ?_, fun y hy hy3 => ?_⟩
      · rw [← hs]; exact (fQ_ (eR_ m) f _ _ _ _).2 (.inl hy)
      · rw [← hs] at hy
        rcases (fQ_ (eR_ m) f _ _ _ _).1 hy with h | h
        · exact .inl h
        · rcases iz_ f _ _ _ _ h.2 with g | ⟨z, hz, rfl⟩
          · exact .inl g
          · exact .inr ⟨fun hq => h.1 (hq5 _ hq), Hv _ (List.mem_map.2 ⟨z, hz, rfl⟩), rfl⟩
      · have hy' := hy
        rw [← hs, ez_] at hy
        rcases fq_ m _ _ y hy with h | h
        · exact .inl (hk5 y h hy3)
        · obtain ⟨z, hz, rfl⟩ := List.mem_map.1 h
          rcases hY_ (stp := bH_ m) (kof := idk) (fun i s z hz => (fq_ m [i] s z hz).imp id (by simp)) (eR_ m) f _ s5.1 fm z hz with g | g
          · exact .inl (hk5 _ g rfl)
          · exact .inr (.inl (by rw [← hs]; exact g))
    · have hf2 : s'.2 = fm := by rw [← hs]; exact ln_ _ (q, fm) (fun h => absurd h h1)
      refine ⟨fun y hy => by rw [hf2]; exact hy, fun y hy => .inl (by rw [← hf2]; exact hy), fun y hy hy3 => ?_⟩
      by_cases h3 : f.kind = 3
      · have e2 : nrl f = 0 + 1 + 1 := by simp [nrl, h3]
        rw [e2, rls] at hs
        rw [← hs] at hy
        have hy1 := lp_ 1 _ (fun h => absurd h h1) (fun _ => by decide) hk y hy hy3
        rw [rls, rl.eq_def, if_neg h1, if_neg (by omega)] at hy1
        rcases fq_ m _ _ y hy1 with h | h
        · exact .inl h
        · rcases List.mem_append.1 h with h | h
          · obtain ⟨z, hz, rfl⟩ := List.mem_map.1 h
            obtain ⟨hz, hcc⟩ := List.mem_filter.1 hz
            obtain ⟨g1, g2, g3, g4⟩ := hQ_ hx' hz
            simp only [cP_, Bool.and_eq_true, Bool.not_eq_true', decide_eq_false_iff_not, Int.not_lt] at hcc
            exact .inr (.inr ⟨z, g1, g2, h3, g3, g4, hcc.1, rfl⟩)
          · unfold ge_ at h
            split at h
            · simp at h; rw [h] at hy3; simp [an_] at hy3
            · simp at h
      · rw [← hs] at hy
        exact .inl (jX_ _ _ (fun h => absurd h h1) h3 hk y hy hy3)
  have hSfm : ∀ y, (y ∈ q.take n ∨ y = f) → (y ∈ fm ↔ y ∈ s'.2) := fun y hy => ⟨fun h => hfm.1 y h, fun h => (hfm.2.1 y h).elim id fun g => absurd (hSq y hy) g.1⟩
  refine ⟨?_, hl, ?_, hder, fun y hy => (hder y hy).form hr, ?_, ?_, ?_, ?_, ?_⟩
  · rw [hL]; exact gN_ m L q inv.nd
  · rw [hpre, List.length_append]; omega
  · have := Ix.of_firm hx' hSfm
    have e : (fun y => y ∈ s'.1.take (n + 1)) = (fun y => y ∈ q.take n ∨ y = f) := funext fun y => propext (hmem y)
    rw [e]; exact this
  · intro y hy
    rcases hfm.2.1 y hy with h | h
    · exact ⟨hsub y (inv.fmq y h).1, (inv.fmq y h).2⟩
    · exact h.2
  · intro y hy hk3
    rcases hfm.2.2 y hy hk3 with h | h | ⟨z, h1, h2, h3, h4, h5, h6, rfl⟩
    · exact (inv.firm y h hk3).mono hfm.1
    · exact .base h
    · exact .meet ((inv.firm f hfq h3).mono hfm.1) ((inv.firm z (hSq z h1) h2).mono hfm.1) h4 h5 h6
  · intro a ha
    obtain ⟨g1, g2, g3⟩ := inv.st a ha
    exact ⟨hsub _ g1, hsub _ g2, fun z hz hk => hsub _ (g3 z hz hk)⟩
  · intro y hy
    have e : (fun y => y ∈ s'.1.take (n + 1)) = (fun y => y ∈ q.take n ∨ y = f) := funext fun y => propext (hmem y)
    rw [e] at hy
    refine nf_ (A := A) hc hSq (fun z hz => hsub z (inv.cl z hz)) y (hy.congrM fun u v hu hv hm => hm.imp (hSfm u hu).2 (hSfm v hv).2)
theorem mm_le {a b c d e g : Int} (h : max a (max b c) ≤ min d (min e g)) : max a b ≤ min d e := by omega
theorem ph_ (inv : InvA ps A m q.length q fm x) (y : Fc) : Der ps A y ↔ y ∈ q := by
  refine ⟨fun h => h.least fun y hy => ?_, inv.der y⟩
  have hcl : ∀ y, One ps A (· ∈ q) (fun y z => y ∈ fm ∨ z ∈ fm) y → y ∈ q := fun y hy => inv.cl y (by rw [List.take_length]; exact hy)
  have key : ∀ f, Fmd fm f → ∀ z ∈ q, z.kind = 3 → z.a = f.a → z.r = f.r → (max z.lo f.lo ≤ min z.hi f.hi → dJ_ z f ∈ q) ∧ (min z.hi f.hi < max z.lo f.lo → an_ z.a [33] ∈ q) := by
    intro f hf
    induction hf with
    | @base f hb =>
      intro z hz hk ha hr'
      obtain ⟨hfq, hfk⟩ := inv.fmq f hb
      have ez := (gg_ (inv.form z hz) hk).1
      have ef := (gg_ (inv.form f hfq) hfk).1
      rw [← ha, ← hr'] at ef
      refine ⟨fun hl => hcl _ (.r12 (by rw [← ez]; exact hz) (by rw [← ef]; exact hfq) (.inr (by rw [← ef]; exact hb)) hl), fun hl => hcl _ (.r13 (r := z.r) (by rw [← ez]; exact hz) (by rw [← ef]; exact hfq) (.inr (by rw [← ef]; exact hb)) hl)⟩
    | @meet y w hy hw ha hr' hl ih1 ih2 =>
      intro z hz hk hza hzr
      have hza' : z.a = y.a := hza
      have hzr' : z.r = y.r := hzr
      obtain ⟨i1, i2⟩ := ih1 z hz hk hza' hzr'
      have hlo : (dJ_ y w).lo = max y.lo w.lo := rfl
      have hhi : (dJ_ y w).hi = min y.hi w.hi := rfl
      rw [hlo, hhi]
      by_cases hc : max z.lo y.lo ≤ min z.hi y.hi
      · have h1 := i1 hc
        obtain ⟨j1, j2⟩ := ih2 (dJ_ z y) h1 rfl (by rw [ha, ← hza']; rfl) (by rw [hr', ← hzr']; rfl)
        have e1 : (dJ_ z y).lo = max z.lo y.lo := rfl
        have e2 : (dJ_ z y).hi = min z.hi y.hi := rfl
        rw [e1, e2] at j1 j2
        refine ⟨fun hl' => ?_, fun hl' => j2 (by rw [Int.max_assoc, Int.min_assoc]; exact hl')⟩
        have := j1 (by rw [Int.max_assoc, Int.min_assoc]; exact hl')
        have e : dJ_ (dJ_ z y) w = dJ_ z (dJ_ y w) := by
          simp only [dJ_, aP_]
          rw [Int.max_assoc, Int.min_assoc]
        rw [← e]; exact this
      · exact ⟨fun hl' => absurd (mm_le hl') hc, fun _ => i2 (Int.not_le.1 hc)⟩
  have key2 : ∀ {a r : Str} {lo hi lo' hi' : Int}, aP_ a r lo hi ∈ q → aP_ a r lo' hi' ∈ q → (max lo lo' ≤ min hi hi' → aP_ a r (max lo lo') (min hi hi') ∈ q) ∧ (min hi hi' < max lo lo' → an_ a [33] ∈ q) := fun h h' => key _ (inv.firm _ h' rfl) _ h rfl rfl rfl
  cases hy with
  | r1 h => exact hcl _ (.r1 h)
  | r2 h => exact hcl _ (.r2 h)
  | r10 hx hk h => exact hcl _ (.r10 hx hk h)
  | r3 hx hk h => exact hcl _ (.r3 hx hk h)
  | r4 hx hk h h' => exact hcl _ (.r4 hx hk h h')
  | r5 hx hk h => exact hcl _ (.r5 hx hk h)
  | r6 hx hk h => exact hcl _ (.r6 hx hk h)
  | r7 hx hk h h' => exact hcl _ (.r7 hx hk h h')
  | r8 hx hk h h' => exact hcl _ (.r8 hx hk h h')
  | r9 h h' => exact hcl _ (.r9 h h')
  | r11 hx hk h => exact hcl _ (.r11 hx hk h)
  | r12 h h' hm hl => exact (key2 h h').1 hl
  | r13 h h' hm hl => exact (key2 h h').2 hl
  | r14 hx hk h h1 h2 => exact hcl _ (.r14 hx hk h h1 h2)
end
def ew_ (loops : List Str) (A : List Str) : List Fc := A.flatMap fun a => an_ a a :: an_ a [42] :: loops.map fun r => ax_ a r a
theorem gy_ {ps : List Pc} {A : List Str} {S : Fc → Prop} {M : Fc → Fc → Prop} : ∀ y ∈ ew_ (aH_ ps) A, One ps A S M y := by
  intro y hy
  obtain ⟨a, ha, hy⟩ := List.mem_flatMap.1 hy
  simp only [List.mem_cons] at hy
  rcases hy with rfl | rfl | hy
  · exact .r1 ha
  · exact .r2 ha
  · obtain ⟨r, hr, rfl⟩ := List.mem_map.1 hy
    obtain ⟨z, hz, rfl⟩ := List.mem_map.1 hr
    obtain ⟨h1, h2⟩ := List.mem_filter.1 hz
    exact .r10 h1 (of_decide_eq_true h2) ha
theorem fI_ {ps : List Pc} {A : List Str} {a : Str} (ha : a ∈ A) : an_ a a ∈ ew_ (aH_ ps) A ∧ an_ a [42] ∈ ew_ (aH_ ps) A ∧ ∀ z ∈ ps, z.kind = 7 → ax_ a z.r a ∈ ew_ (aH_ ps) A := by
  refine ⟨List.mem_flatMap.2 ⟨a, ha, by simp⟩, List.mem_flatMap.2 ⟨a, ha, by simp⟩, fun z hz hk => List.mem_flatMap.2 ⟨a, ha, ?_⟩⟩
  exact List.mem_cons_of_mem _ (List.mem_cons_of_mem _ (List.mem_map.2 ⟨z.r, List.mem_map.2 ⟨z, List.mem_filter.2 ⟨hz, decide_eq_true hk⟩, rfl⟩, rfl⟩))
structure LoopA (ps : List Pc) (A : List Str) (m n : Nat) (q fm : List Fc) (x : Ix) : Prop where
  nd : q.Nodup
  len : q.length ≤ m + 1
  le : n ≤ q.length
  der : ∀ y ∈ q, Der ps A y
  ix : x.of (· ∈ q.take n) (· ∈ fm)
  inv : q.length ≤ m → InvA ps A m n q fm x
section
variable {ps : List Pc} {A : List Str} {m n : Nat} {q fm : List Fc} {x : Ix} {f : Fc}
theorem lK_ (hr : ∀ x ∈ ps, x.vok) {q : List Fc} (hq : emits (bH_ m) (ew_ (aH_ ps) A) [] = q) : LoopA ps A m 0 q [] Ix.nil := by
  have hmem : ∀ y ∈ q, y ∈ ew_ (aH_ ps) A := fun y hy => by rw [← hq] at hy; exact (fq_ m _ _ y hy).elim (fun h => by simp at h) id
  have hder : ∀ y ∈ q, Der ps A y := fun y hy => Der.step (gy_ y (hmem y hy))
  have hnd : q.Nodup := by rw [← hq]; exact gN_ m _ _ List.nodup_nil
  have hix : Ix.nil.of (· ∈ q.take 0) (· ∈ ([] : List Fc)) := by
    have e : (fun y => y ∈ q.take 0) = (fun _ => False) := funext fun y => by simp
    rw [e]; exact Ix.of_nil _
  refine ⟨hnd, by rw [← hq]; exact kJ_ m _ _ (by simp), Nat.zero_le _, hder, hix, fun hl => ⟨hnd, hl, Nat.zero_le _, hder, fun y hy => (hder y hy).form hr, hix, by simp, fun y hy hk => ?_, fun a ha => ?_, fun y hy => ?_⟩⟩
  · exfalso
    obtain ⟨a, _, h⟩ := List.mem_flatMap.1 (hmem y hy)
    simp only [List.mem_cons] at h
    rcases h with rfl | rfl | h
    · simp [an_] at hk
    · simp [an_] at hk
    · obtain ⟨r, _, rfl⟩ := List.mem_map.1 h
      simp [ax_] at hk
  · obtain ⟨g1, g2, g3⟩ := fI_ (ps := ps) ha
    rw [← hq] at hl ⊢
    exact ⟨gO_ m _ _ hl _ g1, gO_ m _ _ hl _ g2, fun z hz hk => gO_ m _ _ hl _ (g3 z hz hk)⟩
  · rw [← hq] at hl
    have B : ∀ a ∈ A, _ := fun a ha => fI_ (ps := ps) ha
    have hin : ∀ z ∈ ew_ (aH_ ps) A, z ∈ q := fun z hz => by rw [← hq]; exact gO_ m _ _ hl z hz
    cases hy with
    | r1 h => exact hin _ (B _ h).1
    | r2 h => exact hin _ (B _ h).2.1
    | r10 hx hk h => exact hin _ ((B _ h).2.2 _ hx hk)
    | r3 hx hk h => simp at h
    | r4 hx hk h h' => simp at h
    | r5 hx hk h => simp at h
    | r6 hx hk h => simp at h
    | r7 hx hk h h' => simp at h
    | r8 hx hk h h' => simp at h
    | r9 h h' => simp at h
    | r11 hx hk h => simp at h
    | r12 h h' hm hl => simp at h
    | r13 h h' hm hl => simp at h
    | r14 hx hk h h1 h2 => simp at h
theorem cJ_ (hr : ∀ x ∈ ps, x.vok) (h : LoopA ps A m n q fm x) (hn : q[n]? = some f) (j : Nat) {s' : List Fc × List Fc} (hs : rls (bH_ m) idk (bg_ ps) (x.add (decide (f ∈ fm)) f) f j (q, fm) = s') :
    s'.1.Nodup ∧ s'.1.length ≤ m + 1 ∧ (∀ y ∈ s'.1, Der ps A y) ∧ ∃ t, s'.1 = q ++ t := by
  have hfq : f ∈ q := List.mem_of_getElem? hn
  have hSq : ∀ y, (y ∈ q.take n ∨ y = f) → y ∈ q := fun y hy => hy.elim (fun h => List.mem_of_mem_take h) (fun h => h ▸ hfq)
  obtain ⟨L, hL⟩ := hN_ (ps := ps) (x := x.add (decide (f ∈ fm)) f) (f := f) (eR_ m) j (q, fm)
  rw [hs] at hL
  refine ⟨by rw [hL]; exact gN_ m L q h.nd, by rw [hL]; exact kJ_ m L q h.len, ?_, by rw [hL]; exact hF_ m L q⟩
  rw [← hs]
  exact iF_ hr (Ix.of_add h.ix f (by simp)) (fun y hy => (h.der y (hSq y hy)).form hr) ((h.der f hfq).form hr) (q, fm) hSq hfq h.der j
theorem gY_ (hr : ∀ x ∈ ps, x.vok) (h : LoopA ps A m n q fm x) (hn : q[n]? = some f) {s' : List Fc × List Fc} (hs : rls (bH_ m) idk (bg_ ps) (x.add (decide (f ∈ fm)) f) f (nrl f) (q, fm) = s') (hl : s'.1.length ≤ m) :
    LoopA ps A m (n + 1) s'.1 s'.2 (x.add (decide (f ∈ fm)) f) := by
  obtain ⟨_, _, _, t, ht⟩ := cJ_ hr h hn (nrl f) hs
  have hi := pg_ hr (h.inv (by rw [ht, List.length_append] at hl; omega)) hn hs hl
  exact ⟨hi.nd, by have := hi.len; omega, hi.le, hi.der, hi.ix, fun _ => hi⟩
theorem mq_ (h : LoopA ps A m q.length q fm x) (hl : q.length ≤ m) (y : Fc) : Der ps A y ↔ y ∈ q := ph_ (h.inv hl) y
end
theorem zf_eq (x : Pc) : ∃ n, { x.zf with frm := n } = x := ⟨x.frm, rfl⟩
theorem lc_ {p : List Pc} {A : List Str} {y : Fc} : Der (uniq [] p) A y ↔ Der p A y := by
  constructor
  · refine Der.mono (fun x hx => ?_) (fun _ h => h)
    rcases (hj_ p [] x).1 hx with h | ⟨z, hz, rfl⟩
    · simp at h
    · exact ⟨z, hz, 0, rfl⟩
  · exact Der.mono (fun x hx => ⟨x.zf, (hj_ p [] _).2 (.inr ⟨x, hx, rfl⟩), zf_eq x⟩) (fun _ h => h)
theorem oj_ {p : List Pc} (h : ∀ x ∈ p, x.vok) : ∀ x ∈ uniq [] p, x.vok := fun x hx => by
  rcases (hj_ p [] x).1 hx with h1 | ⟨z, hz, rfl⟩
  · simp at h1
  · exact ⟨(h z hz).rok, (h z hz).num⟩
def Fc.lt (x y : Fc) : Prop := x.kind < y.kind ∨ x.kind = y.kind ∧ (x.a < y.a ∨ x.a = y.a ∧ (x.b < y.b ∨ x.b = y.b ∧ (x.r < y.r ∨ x.r = y.r ∧ (x.lo < y.lo ∨ x.lo = y.lo ∧ x.hi < y.hi))))
instance (x y : Fc) : Decidable (Fc.lt x y) := by unfold Fc.lt; exact inferInstance
theorem eh_ (x : Str) : ¬ x < x := List.lt_irrefl x
theorem kp_ (x y : Str) : x < y ∨ x = y ∨ y < x := by
  by_cases h : x < y
  · exact .inl h
  · by_cases h' : y < x
    · exact .inr (.inr h')
    · exact .inr (.inl (List.le_antisymm (List.not_lt.1 h') (List.not_lt.1 h)))
theorem Fc.lt_irr (x : Fc) : ¬ x.lt x := by
  unfold Fc.lt
  simp [eh_]
theorem Fc.lt_tri (x y : Fc) : x.lt y ∨ x = y ∨ y.lt x := by
  unfold Fc.lt
  rcases Int.lt_trichotomy x.kind y.kind with h | h | h
  · exact .inl (.inl h)
  · rcases kp_ x.a y.a with h1 | h1 | h1
    · exact .inl (.inr ⟨h, .inl h1⟩)
    · rcases kp_ x.b y.b with h2 | h2 | h2
      · exact .inl (.inr ⟨h, .inr ⟨h1, .inl h2⟩⟩)
      · rcases kp_ x.r y.r with h3 | h3 | h3
        · exact .inl (.inr ⟨h, .inr ⟨h1, .inr ⟨h2, .inl h3⟩⟩⟩)
        · rcases Int.lt_trichotomy x.lo y.lo with h4 | h4 | h4
          · exact .inl (.inr ⟨h, .inr ⟨h1, .inr ⟨h2, .inr ⟨h3, .inl h4⟩⟩⟩⟩)
          · rcases Int.lt_trichotomy x.hi y.hi with h5 | h5 | h5
            · exact .inl (.inr ⟨h, .inr ⟨h1, .inr ⟨h2, .inr ⟨h3, .inr ⟨h4, h5⟩⟩⟩⟩⟩)
            · refine .inr (.inl ?_); cases x; cases y; simp_all
            · exact .inr (.inr (.inr ⟨h.symm, .inr ⟨h1.symm, .inr ⟨h2.symm, .inr ⟨h3.symm, .inr ⟨h4.symm, h5⟩⟩⟩⟩⟩))
          · exact .inr (.inr (.inr ⟨h.symm, .inr ⟨h1.symm, .inr ⟨h2.symm, .inr ⟨h3.symm, .inl h4⟩⟩⟩⟩))
        · exact .inr (.inr (.inr ⟨h.symm, .inr ⟨h1.symm, .inr ⟨h2.symm, .inl h3⟩⟩⟩))
      · exact .inr (.inr (.inr ⟨h.symm, .inr ⟨h1.symm, .inl h2⟩⟩))
    · exact .inr (.inr (.inr ⟨h.symm, .inl h1⟩))
  · exact .inr (.inr (.inl h))
theorem fC_ {α : Type} {lt : α → α → Prop} (ht : ∀ {x y z}, lt x y → lt y z → lt x z) {x y z : α} {P Q R : Prop} (hr : x = y → y = z → P → Q → R) (h1 : lt x y ∨ x = y ∧ P) (h2 : lt y z ∨ y = z ∧ Q) : lt x z ∨ x = z ∧ R := by
  rcases h1 with h1 | ⟨rfl, h1⟩
  · rcases h2 with h2 | ⟨rfl, h2⟩
    · exact .inl (ht h1 h2)
    · exact .inl h1
  · rcases h2 with h2 | ⟨rfl, h2⟩
    · exact .inl h2
    · exact .inr ⟨rfl, hr rfl rfl h1 h2⟩
theorem Fc.lt_trans {x y z : Fc} (h1 : x.lt y) (h2 : y.lt z) : x.lt z :=
  fC_ (lt := fun a b : Int => a < b) Int.lt_trans (fun _ _ => fC_ (lt := fun a b : Str => a < b) List.lt_trans (fun _ _ => fC_ (lt := fun a b : Str => a < b) List.lt_trans (fun _ _ => fC_ (lt := fun a b : Str => a < b) List.lt_trans (fun _ _ => fC_ (lt := fun a b : Int => a < b) Int.lt_trans fun _ _ => Int.lt_trans)))) h1 h2
theorem eA_ {α : Type} {lt : α → α → Prop} (hi : ∀ x, ¬ lt x x) (ht : ∀ {x y z}, lt x y → lt y z → lt x z) : ∀ {l m : List α}, l.Pairwise lt → m.Pairwise lt → (∀ x, x ∈ l ↔ x ∈ m) → l = m
  | [], [], _, _, _ => rfl
  | [], y :: m, _, _, h => by have := (h y).2 (by simp); simp at this
  | x :: l, [], _, _, h => by have := (h x).1 (by simp); simp at this
  | x :: l, y :: m, h1, h2, h => by
    rw [List.pairwise_cons] at h1 h2
    have e : x = y := by
      rcases List.mem_cons.1 ((h x).1 (by simp)) with e | hx
      · exact e
      · rcases List.mem_cons.1 ((h y).2 (by simp)) with e | hy
        · exact e.symm
        · exact absurd (ht (h1.1 y hy) (h2.1 x hx)) (hi x)
    subst e
    congr 1
    refine eA_ hi ht h1.2 h2.2 fun z => ⟨fun hz => ?_, fun hz => ?_⟩
    · rcases List.mem_cons.1 ((h z).1 (by simp [hz])) with rfl | q
      · exact absurd (h1.1 z hz) (hi z)
      · exact q
    · rcases List.mem_cons.1 ((h z).2 (by simp [hz])) with rfl | q
      · exact absurd (h2.1 z hz) (hi z)
      · exact q
abbrev Srt (l : List Fc) : Prop := l.Pairwise Fc.lt
theorem Srt.ext {l m : List Fc} (h1 : Srt l) (h2 : Srt m) (h : ∀ x, x ∈ l ↔ x ∈ m) : l = m := eA_ Fc.lt_irr Fc.lt_trans h1 h2 h
theorem Srt.nodup {l : List Fc} (h : Srt l) : l.Nodup := by
  unfold List.Nodup
  refine List.Pairwise.imp ?_ h
  intro a b hab e
  exact Fc.lt_irr b (e ▸ hab)
def dt_ (p : List Pc) (A : List Str) (m : Nat) : Option (List Fc) → Prop
  | some L => Srt L ∧ (∀ y, y ∈ L ↔ Der p A y) ∧ L.length ≤ m
  | none => ∃ M : List Fc, M.Nodup ∧ (∀ y ∈ M, Der p A y) ∧ m < M.length
theorem iV_ {α : Type} [DecidableEq α] : ∀ {l m : List α}, l.Nodup → (∀ x ∈ l, x ∈ m) → l.length ≤ m.length
  | [], m, _, _ => by simp
  | x :: l, m, h, hs => by
    rw [List.nodup_cons] at h
    have := iV_ (l := l) (m := m.erase x) h.2 fun y hy => by
      have hne : y ≠ x := fun e => h.1 (e ▸ hy)
      exact (List.mem_erase_of_ne hne).2 (hs y (by simp [hy]))
    have hx := hs x (by simp)
    rw [List.length_erase_of_mem hx] at this
    have : 0 < m.length := List.length_pos_of_mem hx
    simp only [List.length_cons]
    omega
theorem dt_.uniq {p : List Pc} {A : List Str} {m : Nat} {r r' : Option (List Fc)} (h : dt_ p A m r) (h' : dt_ p A m r') : r = r' := by
  cases r with
  | none =>
    cases r' with
    | none => rfl
    | some L =>
      obtain ⟨M, h1, h2, h3⟩ := h
      obtain ⟨_, g2, g3⟩ := h'
      have := iV_ h1 fun x hx => (g2 x).2 (h2 x hx)
      omega
  | some L =>
    cases r' with
    | none =>
      obtain ⟨M, h1, h2, h3⟩ := h'
      obtain ⟨_, g2, g3⟩ := h
      have := iV_ h1 fun x hx => (g2 x).2 (h2 x hx)
      omega
    | some L' => rw [h.1.ext h'.1 fun x => by rw [h.2.1, h'.2.1]]
end Go.Vs
