/-
  Part of the proof of the law NormalChains over this seat: the small logic, the data, the contracts of functions (no condition).
-/
import Derived.Test.YtoafjmalfclpoaaGreatDoorQNormalChains3
import Derived.Test.YtoafjmalfclpoaaGreatDoorQNormalChains2
set_option linter.unusedVariables false
set_option linter.unusedSimpArgs false
set_option linter.unusedSectionVars false
namespace Go.Proofs.YtoafjmalfclpoaaGreatDoor
open Go Go.Sx Go.Proofs
attribute [local irreducible] Code.wp wpList wpAnyH
open Go.Vs
theorem gV_ (c : Con) (hok : c.ok) : Tri Tryz.prog 88 #[c.val] [] [bH_] (fun _ : Unit => .int .i64 c.fieldErr) (fun _ => []) (fun _ => []) := by
 obtain ⟨k, nm, lo, hi, ad, cap, ps⟩ := c
 have hlen := Con.ok_len hok
 simp only [Con.parts, Con.cap] at hlen
 refine M_ Tryz.func88 rfl rfl Tryz.ntmps88 rfl fun v0 => ?_
 refine f_ (b_ (aI_ rfl rfl fun b1 => ?_))
 refine a_ (e_ rfl) rfl (d_ (c_ rfl (f_ (f_ (b_ (a_ (m_ C_ rfl rfl rfl L_) rfl (a_ (t_ 0 O_ rfl rfl rfl) rfl (v_ (aN_ rfl rfl) rfl fun r1 hr1 => ?_))))))))
 refine a_ (g_ rfl) rfl ?_
 refine ay_ 4 ((decide (k < 1)) || (decide (7 < k))) (fun r => [(0, .agg #[.int .i64 k, str nm, .int .i64 lo, .int .i64 hi, .slice ad ps.length cap]), (1, zp_ b1 0), (2, .int .i64 0), (11, .bool r)]) ?_ fun r2 hr2 => ?_
 ·
  cases r1
  ·
   have qr2 := hr1
   replace hr1 := of_decide_eq_false hr1
   try dsimp only [Con.kind, Con.parts, Con.name, Con.lo, Con.hi, Con.cap, Con.ad] at hr1
   refine n_ rfl rfl (a_ (m_ C_ rfl rfl rfl L_) rfl (n_ rfl rfl (a_ (t_ 0 O_ rfl rfl rfl) rfl (n_ rfl rfl (v_ (ce_ rfl rfl) rfl fun r3 hr3 => ?_)))))
   refine a_ (F_ rfl rfl) rfl (d_ (o_ rfl ?_))
   exact met ⟨rfl, rfl, rfl, (y_ rfl (jof qr2 hr3)), trivial⟩
  ·
   have qr2 := hr1
   replace hr1 := of_decide_eq_true hr1
   try dsimp only [Con.kind, Con.parts, Con.name, Con.lo, Con.hi, Con.cap, Con.ad] at hr1
   refine q_ rfl rfl rfl rfl (q_ rfl rfl rfl rfl (q_ rfl rfl rfl rfl (a_ (K_ rfl rfl) rfl (d_ (o_ rfl ?_)))))
   exact met ⟨rfl, rfl, rfl, (y_ rfl (jot qr2)), trivial⟩
 ·
  refine d_ (c_ rfl ?_)
  cases r2
  ·
   simp at hr2
   try dsimp only [Con.kind, Con.parts, Con.name, Con.lo, Con.hi, Con.cap, Con.ad] at hr2
   obtain ⟨x, hx⟩ : ∃ x, eS_[k.toNat]? = some x := ⟨_, List.getElem?_eq_getElem (show k.toNat < 8 by omega)⟩
   have hnd : nd k = x := by simp [nd, hx]
   obtain ⟨x1, x2, x3, xb⟩ := x
   refine r_ rfl (D_ (c_ rfl (f_ (b_ (a_ (m_ C_ rfl rfl rfl L_) rfl (a_ (t_ 0 O_ rfl rfl rfl) rfl (a_ (dt_ Tryz.runUnderlying160 Tryz.sizeOf159 rfl rfl (by show (0 : Int) ≤ k; omega) (by show k < (8 : Int); omega)) rfl ?_)))))))
   refine a_ (aH_ (ad := some ⟨2, 0, none⟩) (k := k.toNat * 4) (us := jt_ (x1, x2, x3, xb)) Tryz.isAgg159 Tryz.sizeOf159 rfl (fun v _ h => h.1.1) (fQ_ _) (fun j y hj => by rw [gP_ jt_ 4 fQ_ eS_ k.toNat j _ hx (by have := (List.getElem?_eq_some_iff.1 hj).1; rwa [fQ_] at this)]; exact hj)) rfl ?_
   refine an_ Tryz.zeroValue159 rfl fun b2 => ?_
   refine ah_ 0 Tryz.sizeOf159 rfl rfl rfl rfl rfl rfl (d_ (c_ rfl (f_ (f_ (b_ (a_ (m_ C_ rfl rfl rfl bc_) rfl (a_ (t_ 1 bt_ rfl rfl rfl) rfl (a_ (ar_ P_ rfl) rfl (a_ (m_ ct_ rfl rfl rfl L_) rfl ?_)))))))))
   refine a_ (t_ 0 O_ rfl rfl rfl) rfl (v_ (aN_ rfl rfl) rfl fun r4 hr4 => ?_)
   refine a_ (g_ rfl) rfl ?_
   refine ay_ 7 ((decide ((ps.length : Int) < x2)) || (decide (x3 < (ps.length : Int)))) (fun r => [(0, .agg #[.int .i64 k, str nm, .int .i64 lo, .int .i64 hi, .slice ad ps.length cap]), (1, zp_ b1 0), (2, .int .i64 0), (11, .bool false), (12, zp_ b1 0), (13, .int .i64 k), (14, .pointer (some (rad (some ⟨2, 0, none⟩) (k.toNat * 4)))), (15, .agg #[.int .i64 x1, .int .i64 x2, .int .i64 x3, .bool xb]), (3, zp_ b2 0), (29, .bool r)]) ?_ fun r5 hr5 => ?_
   ·
    cases r4
    ·
     have qr5 := hr4
     replace hr4 := of_decide_eq_false hr4
     try dsimp only [Con.kind, Con.parts, Con.name, Con.lo, Con.hi, Con.cap, Con.ad] at hr4
     refine n_ rfl rfl (a_ (m_ C_ rfl rfl rfl bc_) rfl (n_ rfl rfl (a_ (t_ 1 bt_ rfl rfl rfl) rfl (n_ rfl rfl (a_ (ar_ P_ rfl) rfl (n_ rfl rfl (a_ (m_ ct_ rfl rfl rfl L_) rfl (n_ rfl rfl (a_ (t_ 0 O_ rfl rfl rfl) rfl ?_)))))))))
     refine n_ rfl rfl (v_ (ce_ rfl rfl) rfl fun r6 hr6 => ?_)
     refine a_ (F_ rfl rfl) rfl (d_ (o_ rfl ?_))
     exact met ⟨rfl, rfl, rfl, rfl, rfl, rfl, rfl, rfl, rfl, (y_ rfl (jof qr5 hr6)), trivial⟩
    ·
     have qr5 := hr4
     replace hr4 := of_decide_eq_true hr4
     try dsimp only [Con.kind, Con.parts, Con.name, Con.lo, Con.hi, Con.cap, Con.ad] at hr4
     refine q_ rfl rfl rfl rfl (q_ rfl rfl rfl rfl (q_ rfl rfl rfl rfl (q_ rfl rfl rfl rfl (q_ rfl rfl rfl rfl (q_ rfl rfl rfl rfl (a_ (K_ rfl rfl) rfl (d_ (o_ rfl ?_))))))))
     exact met ⟨rfl, rfl, rfl, rfl, rfl, rfl, rfl, rfl, rfl, (y_ rfl (jot qr5)), trivial⟩
   ·
    refine a_ (g_ rfl) rfl ?_
    refine ay_ 9 ((((decide ((ps.length : Int) < x2)) || (decide (x3 < (ps.length : Int))))) || (((x1 == 0) && (nm != [])))) (fun r => [(0, .agg #[.int .i64 k, str nm, .int .i64 lo, .int .i64 hi, .slice ad ps.length cap]), (1, zp_ b1 0), (2, .int .i64 0), (11, .bool false), (12, zp_ b1 0), (13, .int .i64 k), (14, .pointer (some (rad (some ⟨2, 0, none⟩) (k.toNat * 4)))), (15, .agg #[.int .i64 x1, .int .i64 x2, .int .i64 x3, .bool xb]), (3, zp_ b2 0), (39, .bool r)]) ?_ fun r7 hr7 => ?_
    ·
     cases r5
     ·
      have qr7 := hr5
      simp at hr5
      try dsimp only [Con.kind, Con.parts, Con.name, Con.lo, Con.hi, Con.cap, Con.ad] at hr5
      refine n_ rfl rfl (a_ (m_ ct_ rfl rfl rfl L_) rfl (n_ rfl rfl (a_ (t_ 0 O_ rfl rfl rfl) rfl (n_ rfl rfl (v_ (ai_ rfl rfl) rfl fun r8 hr8 => ?_)))))
      refine n_ rfl rfl (a_ (g_ rfl) rfl ?_)
      refine ay_ 4 ((x1 == 0) && (nm != [])) (fun r => [(0, .agg #[.int .i64 k, str nm, .int .i64 lo, .int .i64 hi, .slice ad ps.length cap]), (1, zp_ b1 0), (2, .int .i64 0), (11, .bool false), (12, zp_ b1 0), (13, .int .i64 k), (14, .pointer (some (rad (some ⟨2, 0, none⟩) (k.toNat * 4)))), (15, .agg #[.int .i64 x1, .int .i64 x2, .int .i64 x3, .bool xb]), (3, zp_ b2 0), (30, .bool false), (38, .bool r)]) ?_ fun r9 hr9 => ?_
      ·
       cases r8
       ·
        have qr9 := hr8
        replace hr8 := ne_of_beq_false hr8
        try dsimp only [Con.kind, Con.parts, Con.name, Con.lo, Con.hi, Con.cap, Con.ad] at hr8
        refine q_ rfl rfl rfl rfl (q_ rfl rfl rfl rfl (q_ rfl rfl rfl rfl (n_ rfl rfl (a_ (F_ rfl rfl) rfl (d_ (o_ rfl ?_))))))
        exact met ⟨rfl, rfl, rfl, rfl, rfl, rfl, rfl, rfl, rfl, rfl, (y_ rfl (jaf qr9)), trivial⟩
       ·
        have qr9 := hr8
        replace hr8 := eq_of_beq hr8
        try dsimp only [Con.kind, Con.parts, Con.name, Con.lo, Con.hi, Con.cap, Con.ad] at hr8
        refine n_ rfl rfl (a_ (m_ C_ rfl rfl rfl z_) rfl (n_ rfl rfl (a_ (t_ 1 E_ rfl rfl rfl) rfl (n_ rfl rfl (v_ (fq_ rfl rfl) rfl fun r10 hr10 => ?_)))))
        refine n_ rfl rfl (a_ (K_ rfl rfl) rfl (d_ (o_ rfl ?_)))
        exact met ⟨rfl, rfl, rfl, rfl, rfl, rfl, rfl, rfl, rfl, rfl, (y_ rfl (jat qr9 hr10)), trivial⟩
      ·
       refine a_ (F_ rfl rfl) rfl (d_ (o_ rfl ?_))
       exact met ⟨rfl, rfl, rfl, rfl, rfl, rfl, rfl, rfl, rfl, (y_ rfl (jof qr7 hr9)), trivial⟩
     ·
      have qr7 := hr5
      simp at hr5
      try dsimp only [Con.kind, Con.parts, Con.name, Con.lo, Con.hi, Con.cap, Con.ad] at hr5
      refine q_ rfl rfl rfl rfl (q_ rfl rfl rfl rfl (q_ rfl rfl rfl rfl (q_ rfl rfl rfl rfl (q_ rfl rfl rfl rfl (q_ rfl rfl rfl rfl (q_ rfl rfl rfl rfl (q_ rfl rfl rfl rfl (a_ (K_ rfl rfl) rfl (d_ ?_)))))))))
      refine o_ rfl ?_
      exact met ⟨rfl, rfl, rfl, rfl, rfl, rfl, rfl, rfl, rfl, (y_ rfl (jot qr7)), trivial⟩
    ·
     refine d_ (c_ rfl ?_)
     cases r7
     ·
      simp at hr7
      try dsimp only [Con.kind, Con.parts, Con.name, Con.lo, Con.hi, Con.cap, Con.ad] at hr7
      refine r_ rfl (D_ (c_ rfl (f_ (f_ (b_ (a_ (m_ ct_ rfl rfl rfl au_) rfl (a_ (t_ 0 aK_ rfl rfl rfl) rfl (d_ (c_ rfl ?_)))))))))
      cases xb
      ·
       try dsimp only [Con.kind, Con.parts, Con.name, Con.lo, Con.hi, Con.cap, Con.ad] at hxb
       refine r_ rfl (f_ (b_ (a_ (m_ C_ rfl rfl rfl L_) rfl (a_ (t_ 1 O_ rfl rfl rfl) rfl (v_ (bO_ rfl rfl) rfl fun r11 hr11 => ?_)))))
       refine a_ (g_ rfl) rfl ?_
       refine ay_ 4 ((lo != 0) || (hi != 0)) (fun r => [(0, .agg #[.int .i64 k, str nm, .int .i64 lo, .int .i64 hi, .slice ad ps.length cap]), (1, zp_ b1 0), (2, .int .i64 0), (11, .bool false), (12, zp_ b1 0), (13, .int .i64 k), (14, .pointer (some (rad (some ⟨2, 0, none⟩) (k.toNat * 4)))), (15, .agg #[.int .i64 x1, .int .i64 x2, .int .i64 x3, .bool false]), (3, zp_ b2 0), (39, .bool false), (40, zp_ b2 3), (41, .bool false), (64, .bool r)]) ?_ fun r12 hr12 => ?_
       ·
        cases r11
        ·
         have qr12 := hr11
         replace hr11 := bA_ hr11
         try dsimp only [Con.kind, Con.parts, Con.name, Con.lo, Con.hi, Con.cap, Con.ad] at hr11
         refine n_ rfl rfl (a_ (m_ C_ rfl rfl rfl L_) rfl (n_ rfl rfl (a_ (t_ 1 O_ rfl rfl rfl) rfl (n_ rfl rfl (v_ (bO_ rfl rfl) rfl fun r13 hr13 => ?_)))))
         refine a_ (F_ rfl rfl) rfl (d_ (o_ rfl ?_))
         exact met ⟨rfl, rfl, rfl, rfl, rfl, rfl, rfl, rfl, rfl, rfl, rfl, rfl, (y_ rfl (jof qr12 hr13)), trivial⟩
        ·
         have qr12 := hr11
         replace hr11 := bz_ hr11
         try dsimp only [Con.kind, Con.parts, Con.name, Con.lo, Con.hi, Con.cap, Con.ad] at hr11
         refine q_ rfl rfl rfl rfl (q_ rfl rfl rfl rfl (q_ rfl rfl rfl rfl (a_ (K_ rfl rfl) rfl (d_ (o_ rfl ?_)))))
         exact met ⟨rfl, rfl, rfl, rfl, rfl, rfl, rfl, rfl, rfl, rfl, rfl, rfl, (y_ rfl (jot qr12)), trivial⟩
       ·
        refine d_ (c_ rfl ?_)
        cases r12
        ·
         simp at hr12
         try dsimp only [Con.kind, Con.parts, Con.name, Con.lo, Con.hi, Con.cap, Con.ad] at hr12
         refine r_ rfl (D_ (c_ rfl (f_ (f_ (b_ (a_ (m_ ct_ rfl rfl rfl L_) rfl (a_ (t_ 0 O_ rfl rfl rfl) rfl (v_ (ai_ rfl rfl) rfl fun r14 hr14 => ?_))))))))
         refine a_ (g_ rfl) rfl ?_
         refine ay_ 4 ((x1 == 0) || (bF_ nm)) (fun r => [(0, .agg #[.int .i64 k, str nm, .int .i64 lo, .int .i64 hi, .slice ad ps.length cap]), (1, zp_ b1 0), (2, .int .i64 0), (11, .bool false), (12, zp_ b1 0), (13, .int .i64 k), (14, .pointer (some (rad (some ⟨2, 0, none⟩) (k.toNat * 4)))), (15, .agg #[.int .i64 x1, .int .i64 x2, .int .i64 x3, .bool false]), (3, zp_ b2 0), (39, .bool false), (40, zp_ b2 3), (41, .bool false), (64, .bool false), (72, .bool r)]) ?_ fun r15 hr15 => ?_
         ·
          cases r14
          ·
           have qr15 := hr14
           replace hr14 := ne_of_beq_false hr14
           try dsimp only [Con.kind, Con.parts, Con.name, Con.lo, Con.hi, Con.cap, Con.ad] at hr14
           refine n_ rfl rfl (a_ (m_ C_ rfl rfl rfl z_) rfl (n_ rfl rfl (a_ (t_ 1 E_ rfl rfl rfl) rfl (n_ rfl rfl (al_ (er_ nm) rfl (.refl _) (fun _ _ _ => trivial) rfl fun r16 hr16 => ?_)))))
           refine a_ (F_ rfl rfl) rfl (d_ (o_ rfl ?_))
           exact met ⟨rfl, rfl, rfl, rfl, rfl, rfl, rfl, rfl, rfl, rfl, rfl, rfl, rfl, (y_ rfl (jof qr15 hr16)), trivial⟩
          ·
           have qr15 := hr14
           replace hr14 := eq_of_beq hr14
           try dsimp only [Con.kind, Con.parts, Con.name, Con.lo, Con.hi, Con.cap, Con.ad] at hr14
           refine q_ rfl rfl rfl rfl (q_ rfl rfl rfl rfl (q_ rfl rfl rfl rfl (a_ (K_ rfl rfl) rfl (d_ (o_ rfl ?_)))))
           exact met ⟨rfl, rfl, rfl, rfl, rfl, rfl, rfl, rfl, rfl, rfl, rfl, rfl, rfl, (y_ rfl (jot qr15)), trivial⟩
         ·
          refine a_ (g_ rfl) rfl ?_
          refine ay_ 9 ((((x1 == 0) || (bF_ nm))) || (((x1 == 2) && (bY_ nm)))) (fun r => [(0, .agg #[.int .i64 k, str nm, .int .i64 lo, .int .i64 hi, .slice ad ps.length cap]), (1, zp_ b1 0), (2, .int .i64 0), (11, .bool false), (12, zp_ b1 0), (13, .int .i64 k), (14, .pointer (some (rad (some ⟨2, 0, none⟩) (k.toNat * 4)))), (15, .agg #[.int .i64 x1, .int .i64 x2, .int .i64 x3, .bool false]), (3, zp_ b2 0), (39, .bool false), (40, zp_ b2 3), (41, .bool false), (64, .bool false), (82, .bool r)]) ?_ fun r17 hr17 => ?_
          ·
           cases r15
           ·
            have qr17 := hr15
            simp at hr15
            try dsimp only [Con.kind, Con.parts, Con.name, Con.lo, Con.hi, Con.cap, Con.ad] at hr15
            refine n_ rfl rfl (a_ (m_ ct_ rfl rfl rfl L_) rfl (n_ rfl rfl (a_ (t_ 0 O_ rfl rfl rfl) rfl (n_ rfl rfl (v_ (ai_ rfl rfl) rfl fun r18 hr18 => ?_)))))
            refine n_ rfl rfl (a_ (g_ rfl) rfl ?_)
            refine ay_ 4 ((x1 == 2) && (bY_ nm)) (fun r => [(0, .agg #[.int .i64 k, str nm, .int .i64 lo, .int .i64 hi, .slice ad ps.length cap]), (1, zp_ b1 0), (2, .int .i64 0), (11, .bool false), (12, zp_ b1 0), (13, .int .i64 k), (14, .pointer (some (rad (some ⟨2, 0, none⟩) (k.toNat * 4)))), (15, .agg #[.int .i64 x1, .int .i64 x2, .int .i64 x3, .bool false]), (3, zp_ b2 0), (39, .bool false), (40, zp_ b2 3), (41, .bool false), (64, .bool false), (73, .bool false), (81, .bool r)]) ?_ fun r19 hr19 => ?_
            ·
             cases r18
             ·
              have qr19 := hr18
              replace hr18 := ne_of_beq_false hr18
              try dsimp only [Con.kind, Con.parts, Con.name, Con.lo, Con.hi, Con.cap, Con.ad] at hr18
              refine q_ rfl rfl rfl rfl (q_ rfl rfl rfl rfl (q_ rfl rfl rfl rfl (n_ rfl rfl (a_ (F_ rfl rfl) rfl (d_ (o_ rfl ?_))))))
              exact met ⟨rfl, rfl, rfl, rfl, rfl, rfl, rfl, rfl, rfl, rfl, rfl, rfl, rfl, rfl, (y_ rfl (jaf qr19)), trivial⟩
             ·
              have qr19 := hr18
              replace hr18 := eq_of_beq hr18
              try dsimp only [Con.kind, Con.parts, Con.name, Con.lo, Con.hi, Con.cap, Con.ad] at hr18
              refine n_ rfl rfl (a_ (m_ C_ rfl rfl rfl z_) rfl (n_ rfl rfl (a_ (t_ 1 E_ rfl rfl rfl) rfl (n_ rfl rfl (al_ (eE_ nm (Con.ok_name hok)) rfl (.refl _) (fun _ _ _ => trivial) rfl fun r20 hr20 => ?_)))))
              refine n_ rfl rfl (a_ (K_ rfl rfl) rfl (d_ (o_ rfl ?_)))
              exact met ⟨rfl, rfl, rfl, rfl, rfl, rfl, rfl, rfl, rfl, rfl, rfl, rfl, rfl, rfl, (y_ rfl (jat qr19 hr20)), trivial⟩
            ·
             refine a_ (F_ rfl rfl) rfl (d_ (o_ rfl ?_))
             exact met ⟨rfl, rfl, rfl, rfl, rfl, rfl, rfl, rfl, rfl, rfl, rfl, rfl, rfl, (y_ rfl (jof qr17 hr19)), trivial⟩
           ·
            have qr17 := hr15
            simp at hr15
            try dsimp only [Con.kind, Con.parts, Con.name, Con.lo, Con.hi, Con.cap, Con.ad] at hr15
            refine q_ rfl rfl rfl rfl (q_ rfl rfl rfl rfl (q_ rfl rfl rfl rfl (q_ rfl rfl rfl rfl (q_ rfl rfl rfl rfl (q_ rfl rfl rfl rfl (q_ rfl rfl rfl rfl (q_ rfl rfl rfl rfl (a_ (K_ rfl rfl) rfl (d_ ?_)))))))))
            refine o_ rfl ?_
            exact met ⟨rfl, rfl, rfl, rfl, rfl, rfl, rfl, rfl, rfl, rfl, rfl, rfl, rfl, (y_ rfl (jot qr17)), trivial⟩
          ·
           refine d_ (c_ rfl ?_)
           cases r17
           ·
            simp at hr17
            try dsimp only [Con.kind, Con.parts, Con.name, Con.lo, Con.hi, Con.cap, Con.ad] at hr17
            refine r_ rfl (D_ (c_ rfl (f_ (b_ (a_ (e_ rfl) rfl (d_ (c_ rfl (B_ ?_))))))))
            exact aj_ dS_ () (az_ rfl (by unfold Con.fieldErr; simp only [Con.kind, Con.parts, Con.name, Con.lo, Con.hi]; simp only [hnd]; repeat (first | rfl | exact (if_pos (by omega)).symm | (rw [if_pos (by first | omega | (simp_all; done) | (simp_all; omega) | grind)]; first | done | rfl) | (rw [if_neg (by first | omega | (simp_all; done) | (simp_all; omega) | grind)])))) (.refl _) (fun _ _ _ => trivial)
           ·
            simp at hr17
            try dsimp only [Con.kind, Con.parts, Con.name, Con.lo, Con.hi, Con.cap, Con.ad] at hr17
            refine p_ rfl (f_ (b_ (a_ (e_ rfl) rfl (d_ (c_ rfl (B_ ?_))))))
            exact aj_ dS_ () (az_ rfl (by unfold Con.fieldErr; simp only [Con.kind, Con.parts, Con.name, Con.lo, Con.hi]; simp only [hnd]; repeat (first | rfl | exact (if_pos (by omega)).symm | (rw [if_pos (by first | omega | (simp_all; done) | (simp_all; omega) | grind)]; first | done | rfl) | (rw [if_neg (by first | omega | (simp_all; done) | (simp_all; omega) | grind)])))) (.refl _) (fun _ _ _ => trivial)
        ·
         simp at hr12
         try dsimp only [Con.kind, Con.parts, Con.name, Con.lo, Con.hi, Con.cap, Con.ad] at hr12
         refine p_ rfl (f_ (b_ (a_ (e_ rfl) rfl (d_ (c_ rfl (B_ ?_))))))
         exact aj_ dS_ () (az_ rfl (by unfold Con.fieldErr; simp only [Con.kind, Con.parts, Con.name, Con.lo, Con.hi]; simp only [hnd]; repeat (first | rfl | exact (if_pos (by omega)).symm | (rw [if_pos (by first | omega | (simp_all; done) | (simp_all; omega) | grind)]; first | done | rfl) | (rw [if_neg (by first | omega | (simp_all; done) | (simp_all; omega) | grind)])))) (.refl _) (fun _ _ _ => trivial)
      ·
       try dsimp only [Con.kind, Con.parts, Con.name, Con.lo, Con.hi, Con.cap, Con.ad] at hxb
       refine p_ rfl (f_ (b_ (a_ (m_ C_ rfl rfl rfl L_) rfl (a_ (t_ 1 O_ rfl rfl rfl) rfl (v_ (aN_ rfl rfl) rfl fun r21 hr21 => ?_)))))
       refine a_ (g_ rfl) rfl ?_
       refine ay_ 6 ((decide (lo < (-1099511627776))) || (decide (hi < lo))) (fun r => [(0, .agg #[.int .i64 k, str nm, .int .i64 lo, .int .i64 hi, .slice ad ps.length cap]), (1, zp_ b1 0), (2, .int .i64 0), (11, .bool false), (12, zp_ b1 0), (13, .int .i64 k), (14, .pointer (some (rad (some ⟨2, 0, none⟩) (k.toNat * 4)))), (15, .agg #[.int .i64 x1, .int .i64 x2, .int .i64 x3, .bool true]), (3, zp_ b2 0), (39, .bool false), (40, zp_ b2 3), (41, .bool true), (51, .bool r)]) ?_ fun r22 hr22 => ?_
       ·
        cases r21
        ·
         have qr22 := hr21
         replace hr21 := of_decide_eq_false hr21
         try dsimp only [Con.kind, Con.parts, Con.name, Con.lo, Con.hi, Con.cap, Con.ad] at hr21
         refine n_ rfl rfl (a_ (m_ C_ rfl rfl rfl L_) rfl (n_ rfl rfl (a_ (t_ 1 O_ rfl rfl rfl) rfl (n_ rfl rfl (a_ (m_ C_ rfl rfl rfl L_) rfl (n_ rfl rfl (a_ (t_ 1 O_ rfl rfl rfl) rfl (n_ rfl rfl (v_ (ce_ rfl rfl) rfl fun r23 hr23 => ?_)))))))))
         refine a_ (F_ rfl rfl) rfl (d_ (o_ rfl ?_))
         exact met ⟨rfl, rfl, rfl, rfl, rfl, rfl, rfl, rfl, rfl, rfl, rfl, rfl, (y_ rfl (jof qr22 hr23)), trivial⟩
        ·
         have qr22 := hr21
         replace hr21 := of_decide_eq_true hr21
         try dsimp only [Con.kind, Con.parts, Con.name, Con.lo, Con.hi, Con.cap, Con.ad] at hr21
         refine q_ rfl rfl rfl rfl (q_ rfl rfl rfl rfl (q_ rfl rfl rfl rfl (q_ rfl rfl rfl rfl (q_ rfl rfl rfl rfl (a_ (K_ rfl rfl) rfl (d_ (o_ rfl ?_)))))))
         exact met ⟨rfl, rfl, rfl, rfl, rfl, rfl, rfl, rfl, rfl, rfl, rfl, rfl, (y_ rfl (jot qr22)), trivial⟩
       ·
        refine a_ (g_ rfl) rfl ?_
        refine ay_ 4 ((((decide (lo < (-1099511627776))) || (decide (hi < lo)))) || (decide (1099511627776 < hi))) (fun r => [(0, .agg #[.int .i64 k, str nm, .int .i64 lo, .int .i64 hi, .slice ad ps.length cap]), (1, zp_ b1 0), (2, .int .i64 0), (11, .bool false), (12, zp_ b1 0), (13, .int .i64 k), (14, .pointer (some (rad (some ⟨2, 0, none⟩) (k.toNat * 4)))), (15, .agg #[.int .i64 x1, .int .i64 x2, .int .i64 x3, .bool true]), (3, zp_ b2 0), (39, .bool false), (40, zp_ b2 3), (41, .bool true), (56, .bool r)]) ?_ fun r24 hr24 => ?_
        ·
         cases r22
         ·
          have qr24 := hr22
          simp at hr22
          try dsimp only [Con.kind, Con.parts, Con.name, Con.lo, Con.hi, Con.cap, Con.ad] at hr22
          refine n_ rfl rfl (a_ (m_ C_ rfl rfl rfl L_) rfl (n_ rfl rfl (a_ (t_ 1 O_ rfl rfl rfl) rfl (n_ rfl rfl (v_ (ce_ rfl rfl) rfl fun r25 hr25 => ?_)))))
          refine a_ (F_ rfl rfl) rfl (d_ (o_ rfl ?_))
          exact met ⟨rfl, rfl, rfl, rfl, rfl, rfl, rfl, rfl, rfl, rfl, rfl, rfl, (y_ rfl (jof qr24 hr25)), trivial⟩
         ·
          have qr24 := hr22
          simp at hr22
          try dsimp only [Con.kind, Con.parts, Con.name, Con.lo, Con.hi, Con.cap, Con.ad] at hr22
          refine q_ rfl rfl rfl rfl (q_ rfl rfl rfl rfl (q_ rfl rfl rfl rfl (a_ (K_ rfl rfl) rfl (d_ (o_ rfl ?_)))))
          exact met ⟨rfl, rfl, rfl, rfl, rfl, rfl, rfl, rfl, rfl, rfl, rfl, rfl, (y_ rfl (jot qr24)), trivial⟩
        ·
         refine d_ (c_ rfl ?_)
         cases r24
         ·
          simp at hr24
          try dsimp only [Con.kind, Con.parts, Con.name, Con.lo, Con.hi, Con.cap, Con.ad] at hr24
          refine r_ rfl (D_ (c_ rfl (f_ (f_ (b_ (a_ (m_ ct_ rfl rfl rfl L_) rfl (a_ (t_ 0 O_ rfl rfl rfl) rfl (v_ (ai_ rfl rfl) rfl fun r26 hr26 => ?_))))))))
          refine a_ (g_ rfl) rfl ?_
          refine ay_ 4 ((x1 == 0) || (bF_ nm)) (fun r => [(0, .agg #[.int .i64 k, str nm, .int .i64 lo, .int .i64 hi, .slice ad ps.length cap]), (1, zp_ b1 0), (2, .int .i64 0), (11, .bool false), (12, zp_ b1 0), (13, .int .i64 k), (14, .pointer (some (rad (some ⟨2, 0, none⟩) (k.toNat * 4)))), (15, .agg #[.int .i64 x1, .int .i64 x2, .int .i64 x3, .bool true]), (3, zp_ b2 0), (39, .bool false), (40, zp_ b2 3), (41, .bool true), (56, .bool false), (72, .bool r)]) ?_ fun r27 hr27 => ?_
          ·
           cases r26
           ·
            have qr27 := hr26
            replace hr26 := ne_of_beq_false hr26
            try dsimp only [Con.kind, Con.parts, Con.name, Con.lo, Con.hi, Con.cap, Con.ad] at hr26
            refine n_ rfl rfl (a_ (m_ C_ rfl rfl rfl z_) rfl (n_ rfl rfl (a_ (t_ 1 E_ rfl rfl rfl) rfl (n_ rfl rfl (al_ (er_ nm) rfl (.refl _) (fun _ _ _ => trivial) rfl fun r28 hr28 => ?_)))))
            refine a_ (F_ rfl rfl) rfl (d_ (o_ rfl ?_))
            exact met ⟨rfl, rfl, rfl, rfl, rfl, rfl, rfl, rfl, rfl, rfl, rfl, rfl, rfl, (y_ rfl (jof qr27 hr28)), trivial⟩
           ·
            have qr27 := hr26
            replace hr26 := eq_of_beq hr26
            try dsimp only [Con.kind, Con.parts, Con.name, Con.lo, Con.hi, Con.cap, Con.ad] at hr26
            refine q_ rfl rfl rfl rfl (q_ rfl rfl rfl rfl (q_ rfl rfl rfl rfl (a_ (K_ rfl rfl) rfl (d_ (o_ rfl ?_)))))
            exact met ⟨rfl, rfl, rfl, rfl, rfl, rfl, rfl, rfl, rfl, rfl, rfl, rfl, rfl, (y_ rfl (jot qr27)), trivial⟩
          ·
           refine a_ (g_ rfl) rfl ?_
           refine ay_ 9 ((((x1 == 0) || (bF_ nm))) || (((x1 == 2) && (bY_ nm)))) (fun r => [(0, .agg #[.int .i64 k, str nm, .int .i64 lo, .int .i64 hi, .slice ad ps.length cap]), (1, zp_ b1 0), (2, .int .i64 0), (11, .bool false), (12, zp_ b1 0), (13, .int .i64 k), (14, .pointer (some (rad (some ⟨2, 0, none⟩) (k.toNat * 4)))), (15, .agg #[.int .i64 x1, .int .i64 x2, .int .i64 x3, .bool true]), (3, zp_ b2 0), (39, .bool false), (40, zp_ b2 3), (41, .bool true), (56, .bool false), (82, .bool r)]) ?_ fun r29 hr29 => ?_
           ·
            cases r27
            ·
             have qr29 := hr27
             simp at hr27
             try dsimp only [Con.kind, Con.parts, Con.name, Con.lo, Con.hi, Con.cap, Con.ad] at hr27
             refine n_ rfl rfl (a_ (m_ ct_ rfl rfl rfl L_) rfl (n_ rfl rfl (a_ (t_ 0 O_ rfl rfl rfl) rfl (n_ rfl rfl (v_ (ai_ rfl rfl) rfl fun r30 hr30 => ?_)))))
             refine n_ rfl rfl (a_ (g_ rfl) rfl ?_)
             refine ay_ 4 ((x1 == 2) && (bY_ nm)) (fun r => [(0, .agg #[.int .i64 k, str nm, .int .i64 lo, .int .i64 hi, .slice ad ps.length cap]), (1, zp_ b1 0), (2, .int .i64 0), (11, .bool false), (12, zp_ b1 0), (13, .int .i64 k), (14, .pointer (some (rad (some ⟨2, 0, none⟩) (k.toNat * 4)))), (15, .agg #[.int .i64 x1, .int .i64 x2, .int .i64 x3, .bool true]), (3, zp_ b2 0), (39, .bool false), (40, zp_ b2 3), (41, .bool true), (56, .bool false), (73, .bool false), (81, .bool r)]) ?_ fun r31 hr31 => ?_
             ·
              cases r30
              ·
               have qr31 := hr30
               replace hr30 := ne_of_beq_false hr30
               try dsimp only [Con.kind, Con.parts, Con.name, Con.lo, Con.hi, Con.cap, Con.ad] at hr30
               refine q_ rfl rfl rfl rfl (q_ rfl rfl rfl rfl (q_ rfl rfl rfl rfl (n_ rfl rfl (a_ (F_ rfl rfl) rfl (d_ (o_ rfl ?_))))))
               exact met ⟨rfl, rfl, rfl, rfl, rfl, rfl, rfl, rfl, rfl, rfl, rfl, rfl, rfl, rfl, (y_ rfl (jaf qr31)), trivial⟩
              ·
               have qr31 := hr30
               replace hr30 := eq_of_beq hr30
               try dsimp only [Con.kind, Con.parts, Con.name, Con.lo, Con.hi, Con.cap, Con.ad] at hr30
               refine n_ rfl rfl (a_ (m_ C_ rfl rfl rfl z_) rfl (n_ rfl rfl (a_ (t_ 1 E_ rfl rfl rfl) rfl (n_ rfl rfl (al_ (eE_ nm (Con.ok_name hok)) rfl (.refl _) (fun _ _ _ => trivial) rfl fun r32 hr32 => ?_)))))
               refine n_ rfl rfl (a_ (K_ rfl rfl) rfl (d_ (o_ rfl ?_)))
               exact met ⟨rfl, rfl, rfl, rfl, rfl, rfl, rfl, rfl, rfl, rfl, rfl, rfl, rfl, rfl, (y_ rfl (jat qr31 hr32)), trivial⟩
             ·
              refine a_ (F_ rfl rfl) rfl (d_ (o_ rfl ?_))
              exact met ⟨rfl, rfl, rfl, rfl, rfl, rfl, rfl, rfl, rfl, rfl, rfl, rfl, rfl, (y_ rfl (jof qr29 hr31)), trivial⟩
            ·
             have qr29 := hr27
             simp at hr27
             try dsimp only [Con.kind, Con.parts, Con.name, Con.lo, Con.hi, Con.cap, Con.ad] at hr27
             refine q_ rfl rfl rfl rfl (q_ rfl rfl rfl rfl (q_ rfl rfl rfl rfl (q_ rfl rfl rfl rfl (q_ rfl rfl rfl rfl (q_ rfl rfl rfl rfl (q_ rfl rfl rfl rfl (q_ rfl rfl rfl rfl (a_ (K_ rfl rfl) rfl (d_ ?_)))))))))
             refine o_ rfl ?_
             exact met ⟨rfl, rfl, rfl, rfl, rfl, rfl, rfl, rfl, rfl, rfl, rfl, rfl, rfl, (y_ rfl (jot qr29)), trivial⟩
           ·
            refine d_ (c_ rfl ?_)
            cases r29
            ·
             simp at hr29
             try dsimp only [Con.kind, Con.parts, Con.name, Con.lo, Con.hi, Con.cap, Con.ad] at hr29
             refine r_ rfl (D_ (c_ rfl (f_ (b_ (a_ (e_ rfl) rfl (d_ (c_ rfl (B_ ?_))))))))
             exact aj_ dS_ () (az_ rfl (by unfold Con.fieldErr; simp only [Con.kind, Con.parts, Con.name, Con.lo, Con.hi]; simp only [hnd]; repeat (first | rfl | exact (if_pos (by omega)).symm | (rw [if_pos (by first | omega | (simp_all; done) | (simp_all; omega) | grind)]; first | done | rfl) | (rw [if_neg (by first | omega | (simp_all; done) | (simp_all; omega) | grind)])))) (.refl _) (fun _ _ _ => trivial)
            ·
             simp at hr29
             try dsimp only [Con.kind, Con.parts, Con.name, Con.lo, Con.hi, Con.cap, Con.ad] at hr29
             refine p_ rfl (f_ (b_ (a_ (e_ rfl) rfl (d_ (c_ rfl (B_ ?_))))))
             exact aj_ dS_ () (az_ rfl (by unfold Con.fieldErr; simp only [Con.kind, Con.parts, Con.name, Con.lo, Con.hi]; simp only [hnd]; repeat (first | rfl | exact (if_pos (by omega)).symm | (rw [if_pos (by first | omega | (simp_all; done) | (simp_all; omega) | grind)]; first | done | rfl) | (rw [if_neg (by first | omega | (simp_all; done) | (simp_all; omega) | grind)])))) (.refl _) (fun _ _ _ => trivial)
         ·
          simp at hr24
          try dsimp only [Con.kind, Con.parts, Con.name, Con.lo, Con.hi, Con.cap, Con.ad] at hr24
          refine p_ rfl (f_ (b_ (a_ (e_ rfl) rfl (d_ (c_ rfl (B_ ?_))))))
          exact aj_ dS_ () (az_ rfl (by unfold Con.fieldErr; simp only [Con.kind, Con.parts, Con.name, Con.lo, Con.hi]; simp only [hnd]; repeat (first | rfl | exact (if_pos (by omega)).symm | (rw [if_pos (by first | omega | (simp_all; done) | (simp_all; omega) | grind)]; first | done | rfl) | (rw [if_neg (by first | omega | (simp_all; done) | (simp_all; omega) | grind)])))) (.refl _) (fun _ _ _ => trivial)
     ·
      simp at hr7
      try dsimp only [Con.kind, Con.parts, Con.name, Con.lo, Con.hi, Con.cap, Con.ad] at hr7
      refine p_ rfl (f_ (b_ (a_ (e_ rfl) rfl (d_ (c_ rfl (B_ ?_))))))
      exact aj_ dS_ () (az_ rfl (by unfold Con.fieldErr; simp only [Con.kind, Con.parts, Con.name, Con.lo, Con.hi]; simp only [hnd]; repeat (first | rfl | exact (if_pos (by omega)).symm | (rw [if_pos (by first | omega | (simp_all; done) | (simp_all; omega) | grind)]; first | done | rfl) | (rw [if_neg (by first | omega | (simp_all; done) | (simp_all; omega) | grind)])))) (.refl _) (fun _ _ _ => trivial)
  ·
   simp at hr2
   try dsimp only [Con.kind, Con.parts, Con.name, Con.lo, Con.hi, Con.cap, Con.ad] at hr2
   refine p_ rfl (f_ (b_ (a_ (e_ rfl) rfl (d_ (c_ rfl (B_ ?_))))))
   exact aj_ dS_ () (az_ rfl (by unfold Con.fieldErr; simp only [Con.kind, Con.parts, Con.name, Con.lo, Con.hi]; repeat (first | rfl | exact (if_pos (by omega)).symm | (rw [if_pos (by first | omega | (simp_all; done) | (simp_all; omega) | grind)]; first | done | rfl) | (rw [if_neg (by first | omega | (simp_all; done) | (simp_all; omega) | grind)])))) (.refl _) (fun _ _ _ => trivial)
end Go.Proofs.YtoafjmalfclpoaaGreatDoor
namespace Go.Proofs.YtoafjmalfclpoaaGreatDoor
open Go Go.Sx Go.Proofs
attribute [local irreducible] Code.wp wpList wpAnyH
open Go.Vs
theorem ls_ {σ τ : Type} {l : Nat} {Gj : σ → Hp} {Gx : τ → Hp} {stp : Con → σ → σ ⊕ τ} {E : List Fct} {good : Con → Prop} (hgood : ∀ c p, good c → p ∈ c.parts → good p)
  (hY : ∀ s x, x.ok → good x → ko_ Tryz.prog l x.val (Gj s) (x.memF :: E) (fun _ : Unit => .bool (stp x s).isLeft) (fun _ => iH_ Gj Gx (stp x s)) (fun _ => [])) :
  ∀ (m : Nat) (c : Con), c.sz ≤ m → c.ok → good c → ∀ (s : σ) r, Con.fold stp c s = r →
  Tri Tryz.prog 136 #[c.val, .func (.yield l) #[] #[]] (Gj s) (c.memF :: E) (fun _ : Unit => .bool r.isLeft) (fun _ => iH_ Gj Gx r) (fun _ => []) := by
 intro m
 induction m with
 | zero => intro c h; have := c.sz_pos; omega
 | succ m ih =>
  intro c hm hok hg s r hr
  obtain ⟨k, nm, lo, hi, ad, cap, ps⟩ := c
  have hlen := Con.ok_len hok
  simp only [Con.parts, Con.cap] at hlen
  have hgp : ∀ p ∈ ps, good p := fun p hp => hgood _ p hg hp
  refine M_ Tryz.func136 rfl rfl Tryz.ntmps136 rfl fun v0 => ?_
  refine f_ (b_ (aI_ rfl rfl fun b1 => ?_))
  refine a_ (e_ rfl) rfl (d_ (c_ rfl (f_ (f_ ?_))))
  rcases hfc : stp (.mk k nm lo hi ad cap ps) s with s1 | t1
  ·
   refine hY_ (ι := Unit) (fun _ => [(1, .func (.yield l) #[] #[]), (2, zp_ b1 0), (10, .bool false)]) (fun _ => (b1, .cells (Con.mk k nm lo hi ad cap ps).cells.toArray 38 (0, 0)) :: Gj s1) (fun _ => [(Con.mk k nm lo hi ad cap ps).memF] ++ E) ?_ fun _ => ?_
   ·
    refine cL_ ?_
    refine cN_ dW_ (g_ rfl) rfl rfl ?_
    refine cN_ dW_ (cs_ (c := .mk k nm lo hi ad cap ps) 0 x_ k_ rfl rfl) rfl rfl ?_
    refine gF_ (hY s _ hok hg) rfl rfl (@List.perm_append_comm _ [_] _) (fun v _ h => h) rfl fun _ => ?_
    rw [hfc]
    refine cN_ dW_ (bf_ rfl) rfl rfl ?_
    refine dV_ ?_
    refine fK_ rfl ?_
    exact fR_ () ⟨rfl, rfl, rfl, trivial⟩ (F := []) (by rw [List.append_nil]; exact @List.perm_append_comm _ _ [_]) (fun _ _ h => h)
   ·
    refine c_ rfl (r_ rfl (D_ (c_ rfl (f_ (f_ (b_ (a_ (m_ C_ rfl rfl rfl bc_) rfl (a_ (t_ 0 bt_ rfl rfl rfl) rfl (a_ (ar_ P_ rfl) rfl ?_)))))))))
    refine a_ (g_ rfl) rfl (d_ (c_ rfl (T_ (bs_ [(1, .func (.yield l) #[] #[]), (12, .slice ad ps.length cap), (13, .int .i64 (ps.length : Int)), (14, .int .i64 ((0 : Nat) : Int))] ⟨rfl, rfl, rfl, rfl, trivial⟩ ?_))))
    refine bE_ (ι := {q : Nat × σ // q.1 ≤ ps.length ∧ Con.fold.folds stp (ps.take q.1) s1 = .inl q.2}) (fun i => [(1, .func (.yield l) #[] #[]), (12, .slice ad ps.length cap), (13, .int .i64 (ps.length : Int)), (14, .int .i64 (i.1.1 : Int))]) (fun i => _ :: Gj i.1.2) (fun _ => _) (fun i => ps.length - i.1.1) ⟨(0, s1), by simp [Con.fold.folds]⟩ ?_
    rintro ⟨⟨i, m1⟩, hk⟩
    refine bs_ [(1, .func (.yield l) #[] #[]), (12, .slice ad ps.length cap), (13, .int .i64 (ps.length : Int)), (14, .int .i64 (i : Int))] ⟨rfl, rfl, rfl, rfl, trivial⟩ ?_
    refine f_ (b_ (v_ (aN_ rfl rfl) rfl fun r1 hr1 => ?_))
    refine d_ (c_ rfl (f_ ?_))
    cases r1
    ·
     replace hr1 := of_decide_eq_false hr1
     try dsimp only [Con.kind, Con.parts, Con.name, Con.lo, Con.hi, Con.cap, Con.ad] at hr1
     refine r_ rfl (aU_ rfl (c_ rfl (f_ (b_ (a_ (e_ rfl) rfl (d_ (c_ rfl (B_ ?_))))))))
     obtain rfl : r = .inl m1 := by rw [← hr, Con.fold_eq, hfc]; exact Con.folds_yes (show ps.length ≤ i by omega) hk.2
     exact aj_ Tryz.results136 () rfl (@List.perm_append_comm _ [_] _) (fun _ _ _ => trivial)
    ·
     replace hr1 := of_decide_eq_true hr1
     try dsimp only [Con.kind, Con.parts, Con.name, Con.lo, Con.hi, Con.cap, Con.ad] at hr1
     have hlt : i < ps.length := by omega
     obtain ⟨p, hp⟩ : ∃ p, ps[i]? = some p := ⟨_, List.getElem?_eq_getElem hlt⟩
     have hpm : p ∈ ps := List.mem_of_getElem? hp
     refine p_ rfl (D_ (c_ rfl (f_ (T_ (f_ (b_ (a_ (am_ P_ k_ rfl rfl (fun v _ h => Con.row_addr (c := .mk k nm lo hi ad cap ps) h.1 hp) (by omega) (by omega)) rfl (a_ (aH_ (us := p.cells) x_ k_ rfl (fun v _ h => ((Con.mem_iff (.mk k nm lo hi ad cap ps) v).1 h.1).1) p.cells_len (Con.part_cells (c := .mk k nm lo hi ad cap ps) (i := i) hp)) rfl (an_ aw_ rfl fun b2 => ?_)))))))))
     refine dw_ 0 k_ rfl rfl rfl rfl (d_ (c_ rfl (f_ ?_)))
     rcases hfp : Con.fold stp p m1 with m2 | t2
     ·
      refine b_ (a_ (cs_ 0 x_ k_ rfl rfl) rfl (a_ (g_ rfl) rfl (A_ (ih p (by have := Con.sz_part (c := .mk k nm lo hi ad cap ps) hpm; omega) (Con.ok_part (c := .mk k nm lo hi ad cap ps) hok hpm) (hgp p hpm) m1 _ hfp) rfl (@List.perm_append_comm _ [_, _] _) (fun v _ h => ⟨Con.mem_part (c := .mk k nm lo hi ad cap ps) h.1 hpm, h.2⟩) rfl fun _ => ?_)))
      refine Y_ (@List.perm_append_comm _ _ [_, _]) (a_ (bf_ rfl) rfl (d_ (c_ rfl (r_ rfl (D_ (c_ rfl (b_ (a_ (R_ rfl rfl rfl (aq_ (by omega) (by omega))) rfl (a_ (g_ rfl) rfl ?_)))))))))
      refine d_ (o_ rfl ?_)
      exact av_ ⟨(i + 1, m2), hlt, Con.folds_step hp hk.2 hfp⟩ (by simp; omega) ⟨rfl, rfl, rfl, rfl, trivial⟩ (F := [_]) (@List.perm_append_comm _ [_] _) (fun _ _ h => h)
     ·
      refine b_ (a_ (cs_ 0 x_ k_ rfl rfl) rfl (a_ (g_ rfl) rfl (A_ (ih p (by have := Con.sz_part (c := .mk k nm lo hi ad cap ps) hpm; omega) (Con.ok_part (c := .mk k nm lo hi ad cap ps) hok hpm) (hgp p hpm) m1 _ hfp) rfl (@List.perm_append_comm _ [_, _] _) (fun v _ h => ⟨Con.mem_part (c := .mk k nm lo hi ad cap ps) h.1 hpm, h.2⟩) rfl fun _ => ?_)))
      refine Y_ (@List.perm_append_comm _ _ [_, _]) (a_ (bf_ rfl) rfl (d_ (c_ rfl (p_ rfl (f_ (b_ (a_ (e_ rfl) rfl (d_ (c_ rfl ?_)))))))))
      refine B_ ?_
      obtain rfl : r = .inr t2 := by rw [← hr, Con.fold_eq, hfc]; exact Con.folds_no hp hk.2 hfp
      exact aj_ Tryz.results136 () rfl (@List.perm_append_comm _ [_, _] _) (fun _ _ _ => trivial)
  ·
   refine hY_ (ι := Unit) (fun _ => [(1, .func (.yield l) #[] #[]), (2, zp_ b1 0), (10, .bool true)]) (fun _ => (b1, .cells (Con.mk k nm lo hi ad cap ps).cells.toArray 38 (0, 0)) :: Gx t1) (fun _ => [(Con.mk k nm lo hi ad cap ps).memF] ++ E) ?_ fun _ => ?_
   ·
    refine cL_ ?_
    refine cN_ dW_ (g_ rfl) rfl rfl ?_
    refine cN_ dW_ (cs_ (c := .mk k nm lo hi ad cap ps) 0 x_ k_ rfl rfl) rfl rfl ?_
    refine gF_ (hY s _ hok hg) rfl rfl (@List.perm_append_comm _ [_] _) (fun v _ h => h) rfl fun _ => ?_
    rw [hfc]
    refine cN_ dW_ (bf_ rfl) rfl rfl ?_
    refine dV_ ?_
    refine fK_ rfl ?_
    exact fR_ () ⟨rfl, rfl, rfl, trivial⟩ (F := []) (by rw [List.append_nil]; exact @List.perm_append_comm _ _ [_]) (fun _ _ h => h)
   ·
    refine c_ rfl (p_ rfl (f_ (b_ (a_ (e_ rfl) rfl (d_ (c_ rfl (B_ ?_)))))))
    obtain rfl : r = .inr t1 := by rw [← hr, Con.fold_eq, hfc]
    exact aj_ Tryz.results136 () rfl (@List.perm_append_comm _ [_] _) (fun _ _ _ => trivial)
theorem walk_c (c : Con) :
    Tri Tryz.prog 87 #[c.val] [] [] (fun b : Nat => .func (.func 135) #[] #[zp_ b 0]) (fun b => [(b, .cells c.cells.toArray 38 (0, 0))]) (fun _ => []) := by
  refine M_ Tryz.func87 rfl rfl Tryz.ntmps87 rfl fun v0 => ?_
  refine f_ (b_ (aI_ rfl rfl fun b1 => ?_))
  refine a_ (e_ rfl) rfl (d_ (c_ rfl (f_ (b_ (a_ (fr_ rfl rfl) rfl (a_ (e_ rfl) rfl (d_ (c_ rfl (B_ ?_)))))))))
  exact aj_ Tryz.results87 b1 rfl (F := []) (.refl _) (fun _ _ _ => trivial)
theorem lr_ {σ τ : Type} {l b : Nat} {Gj : σ → Hp} {Gx : τ → Hp} {stp : Con → σ → σ ⊕ τ} {E : List Fct} {good : Con → Prop} (hgood : ∀ c p, good c → p ∈ c.parts → good p)
    (hY : ∀ s x, x.ok → good x → ko_ Tryz.prog l x.val (Gj s) (x.memF :: E) (fun _ : Unit => .bool (stp x s).isLeft) (fun _ => iH_ Gj Gx (stp x s)) (fun _ => []))
    (c : Con) (hok : c.ok) (hg : good c) (s : σ) :
    Tri Tryz.prog 135 #[.func (.yield l) #[] #[], zp_ b 0] ((b, .cells c.cells.toArray 38 (0, 0)) :: Gj s) (c.memF :: E) (fun _ : Unit => .tuple #[]) (fun _ => (b, .cells c.cells.toArray 38 (0, 0)) :: iH_ Gj Gx (Con.fold stp c s)) (fun _ => []) := by
  refine M_ Tryz.func135 rfl rfl Tryz.ntmps135 rfl fun v0 => ?_
  refine b_ (a_ (cs_ (c := c) 0 x_ k_ rfl rfl) rfl (a_ (g_ rfl) rfl (A_ (ls_ hgood hY _ c (Nat.le_refl _) hok hg s _ rfl) rfl (@List.perm_append_comm _ [_] _) (fun v _ h => h) rfl fun _ => ?_)))
  refine d_ (aL_ rfl ?_)
  exact dL_ Tryz.results135 () rfl (F := []) (by rw [List.append_nil]; exact @List.perm_append_comm _ _ [_]) (fun _ _ _ => trivial)
theorem dq_ (c : Con) (hok : c.ok) : Tri Tryz.prog 44 #[c.val] [] [c.memF, bH_] (fun _ : Unit => .int .i64 c.check) (fun _ => []) (fun _ => []) := by
  obtain ⟨k, nm, lo, hi, ad, cap, ps⟩ := c
  refine hq_ Tryz.func44 rfl rfl Tryz.ntmps44 rfl fun v0 => ?_
  refine f_ (b_ (aI_ rfl rfl fun b1 => ?_))
  refine an_ Tryz.zeroValue26 rfl fun b2 => ?_
  refine d_ (c_ rfl (f_ (b_ (an_ Tryz.zeroValue3 rfl fun b3 => ?_))))
  refine ah_ 0 L_ rfl rfl rfl rfl rfl rfl (d_ (c_ rfl (f_ (f_ (b_ (a_ (G_ 2 x_ k_ rfl rfl rfl) rfl (gE_ 0 (fits_c _ (.mk k nm lo hi ad cap ps) (Nat.le_refl _) hok 0 0 b3 (by omega) (by omega) _ rfl) rfl rfl (fun v _ h => ⟨h.1, trivial⟩) rfl fun r1 hr1 => ?_)))))))
  refine a_ (bf_ rfl) rfl (d_ (c_ rfl ?_))
  cases r1
  · skip
    try dsimp only [Con.kind, Con.parts, Con.name, Con.lo, Con.hi, Con.cap, Con.ad] at hr1
    refine p_ rfl (f_ (b_ (ah_ 1 Tryz.sizeOf26 rfl rfl rfl rfl rfl rfl (d_ (c_ rfl (B_ ?_))))))
    exact retM () (fun a v h1 h2 _ => by rw [gx_ 1 Tryz.results44 Tryz.isAgg26 rfl rfl a v h1 h2]; simp [Con.check, *]) (.refl _) (fun _ _ _ => trivial)
  · skip
    try dsimp only [Con.kind, Con.parts, Con.name, Con.lo, Con.hi, Con.cap, Con.ad] at hr1
    refine r_ rfl (D_ (c_ rfl (f_ (f_ (b_ (a_ (G_ 2 x_ k_ rfl rfl rfl) rfl (A_ (walk_c (.mk k nm lo hi ad cap ps)) rfl (.refl _) (fun _ _ _ => trivial) rfl fun b => ?_)))))))
    refine d_ (c_ rfl (T_ (bs_ [(2, zp_ b2 0), (10, .func (.func 135) #[] #[zp_ b 0])] ⟨rfl, rfl, trivial⟩ ?_)))
    refine ea_ (H' := [_, _]) (F := [_, _]) (.cons _ (.swap _ _ _)) (fun _ _ h => h) ?_
    refine jO_ (α := {c : Con // c.ok}) (xv := fun x => x.1.val) (good := fun _ => True) (stp := fun x => Con.chk x.1) (Γx := fun x => [x.1.memF, bH_]) (Γi := [Con.memF (.mk k nm lo hi ad cap ps), bH_]) (Hj := fun _ : Unit => [(b2, .cells #[.int .i64 0] 26 (0, 0))]) (Hx := fun t : Int => [(b2, .cells #[.int .i64 t] 26 (0, 0))]) (Hc := [(b, .cells (Con.mk k nm lo hi ad cap ps).cells.toArray 38 (0, 0))]) (caps := [zp_ b 0]) () (Con.fold Con.chk (.mk k nm lo hi ad cap ps) ()) rfl (.refl _) (fun v _ h => h) ?_ ?_ ?_ ?_
    · rintro l D rec hp hst hpe ht hasg hbody s ⟨x, hx⟩ -
      refine iO_ (ι := Nat) (Hj := fun _ : Unit => [(b2, .cells #[.int .i64 0] 26 (0, 0))]) (Hx := fun t : Int => [(b2, .cells #[.int .i64 t] 26 (0, 0))]) (s := s) (res := Con.chk x s) (Γ := [x.memF, bH_]) (fun b4 => [(2, zp_ b2 0), (4, zp_ b4 0)]) (fun b4 => [(b4, .cells x.cells.toArray 38 (0, 0)), (b2, .cells #[.int .i64 0] 26 (0, 0))]) hp hst hpe ht rfl ?_ ?_
      · intro n v0 H0 HL
        rw [hasg]
        refine cL_ ?_
        refine jb_ (di_ _) aw_ rfl fun b4 => ?_
        refine ir_ (di_ _) 0 k_ rfl rfl rfl rfl ?_
        refine dV_ ?_
        refine fK_ rfl ?_
        exact fR_ b4 ⟨rfl, rfl, trivial⟩ (F := []) (by rw [List.append_nil]; exact .refl _) (fun _ _ h => h)
      · intro n v0 H0 HL b4
        rw [hbody]
        refine iT_ ?_
        refine fy_ ?_
        refine cL_ ?_
        refine cN_ (di_ _) (cs_ 0 x_ k_ rfl rfl) rfl rfl ?_
        refine kb_ (gV_ x hx) rfl (.refl _) (fun v _ h => ⟨h.2.1, trivial⟩) rfl fun _ => ?_
        refine cN_ (di_ _) (e_ rfl) rfl rfl ?_
        refine dV_ ?_
        refine eu_ rfl ?_
        refine fy_ ?_
        refine cL_ ?_
        refine cN_ (di_ _) (g_ rfl) rfl rfl ?_
        refine ka_ (di_ _) (bO_ rfl rfl) rfl rfl fun r2 hr2 => ?_
        refine dV_ ?_
        refine eu_ rfl ?_
        cases r2
        · skip
          replace hr2 := bA_ hr2
          try dsimp only [Con.kind, Con.parts, Con.name, Con.lo, Con.hi, Con.cap, Con.ad] at hr2
          refine id_ rfl ?_
          refine jQ_ ?_
          refine fK_ rfl ?_
          exact jT_ () (by simp [Con.chk, *]) (G := [_]) (@List.perm_append_comm _ [_] _)
        · skip
          replace hr2 := bz_ hr2
          try dsimp only [Con.kind, Con.parts, Con.name, Con.lo, Con.hi, Con.cap, Con.ad] at hr2
          refine ic_ rfl ?_
          refine fy_ ?_
          refine cL_ ?_
          refine cN_ (di_ _) (g_ rfl) rfl rfl ?_
          refine fj_ (di_ _) 1 Tryz.sizeOf26 rfl rfl rfl rfl rfl rfl ?_
          refine dV_ ?_
          refine eu_ rfl ?_
          refine ib_ ?_
          exact jS_ x.fieldErr (by simp [Con.chk, *]) (G := [_]) (@List.perm_append_comm _ [_] _)
    · intro l Gj Gx hY
      exact lr_ (E := [bH_]) (good := fun _ => True) (fun _ _ _ _ => trivial) (fun s x hx _ => hY s ⟨x, hx⟩ trivial) _ hok trivial ()
    · intro s hs D l r
      rw [Con.fold_chk _ _ (Nat.le_refl _)] at hs
      refine eu_ rfl ?_
      refine fy_ ?_
      refine cL_ ?_
      refine fj_ dW_ 1 Tryz.sizeOf26 rfl rfl rfl rfl rfl rfl ?_
      refine dV_ ?_
      refine eu_ rfl ?_
      refine ib_ ?_
      have hz : (0 : Int) = (Con.mk k nm lo hi ad cap ps).check := by unfold Con.check; rw [if_pos (by assumption)]; split at hs; (rename_i h; exact h.symm); cases hs
      exact lQ_ (G := [_, _, _]) () (fun a v h1 h2 => by rw [← hz]; exact gx_ 1 Tryz.results44 Tryz.isAgg26 rfl rfl a v h1 h2) (dI_ (i := 3) rfl) ⟨_, .refl _⟩ rfl
    · intro t hs D l r
      rw [Con.fold_chk _ _ (Nat.le_refl _)] at hs
      have hz : t = (Con.mk k nm lo hi ad cap ps).check := by unfold Con.check; rw [if_pos (by assumption)]; split at hs; cases hs; injection hs with hs; exact hs.symm
      exact lQ_ (G := [_, _, _]) () (fun a v h1 h2 => by rw [← hz]; exact gx_ 1 Tryz.results44 Tryz.isAgg26 rfl rfl a v h1 h2) (dI_ (i := 3) rfl) ⟨_, .refl _⟩ rfl
end Go.Proofs.YtoafjmalfclpoaaGreatDoor
