/-
  Part of the proof of the law NormalChains over this seat: the small logic, the data, the contracts of functions (no condition).
-/
import Derived.Test.YtoafjmalfclpoaaGreatDoorQNormalChains4
set_option linter.unusedVariables false
set_option linter.unusedSimpArgs false
set_option linter.unusedSectionVars false
namespace Go.Proofs.YtoafjmalfclpoaaGreatDoor
open Go Go.Sx Go.Proofs
attribute [local irreducible] Code.wp wpList wpAnyH
open Go.Vs
theorem hj_ (c : Con) : Fn0 Tryz.prog 96 #[c.val] (.bool c.empty) := by
 obtain ⟨k, nm, lo, hi, ad, cap, ps⟩ := c
 refine M_ Tryz.func96 rfl rfl Tryz.ntmps96 rfl fun v0 => ?_
 refine f_ (b_ (aI_ rfl rfl fun b1 => ?_))
 refine a_ (e_ rfl) rfl (d_ (c_ rfl (f_ (b_ (a_ (m_ C_ rfl rfl rfl L_) rfl (a_ (t_ 0 O_ rfl rfl rfl) rfl (v_ (ai_ rfl rfl) rfl fun r1 hr1 => ?_)))))))
 refine a_ (g_ rfl) rfl ?_
 refine ay_ 4 ((k == 0) && (nm == [])) (fun r => [(0, .agg #[.int .i64 k, str nm, .int .i64 lo, .int .i64 hi, .slice ad ps.length cap]), (1, zp_ b1 0), (2, .bool false), (10, .bool r)]) ?_ fun r2 hr2 => ?_
 ·
  cases r1
  ·
   have qr2 := hr1
   replace hr1 := ne_of_beq_false hr1
   try dsimp only [Con.kind, Con.parts, Con.name, Con.lo, Con.hi, Con.cap, Con.ad] at hr1
   refine q_ rfl rfl rfl rfl (q_ rfl rfl rfl rfl (q_ rfl rfl rfl rfl (a_ (F_ rfl rfl) rfl (d_ (o_ rfl ?_)))))
   exact met ⟨rfl, rfl, rfl, (y_ rfl (jaf qr2)), trivial⟩
  ·
   have qr2 := hr1
   replace hr1 := eq_of_beq hr1
   try dsimp only [Con.kind, Con.parts, Con.name, Con.lo, Con.hi, Con.cap, Con.ad] at hr1
   refine n_ rfl rfl (a_ (m_ C_ rfl rfl rfl z_) rfl (n_ rfl rfl (a_ (t_ 0 E_ rfl rfl rfl) rfl (n_ rfl rfl (v_ (aV_ rfl rfl) rfl fun r3 hr3 => ?_)))))
   refine a_ (K_ rfl rfl) rfl (d_ (o_ rfl ?_))
   exact met ⟨rfl, rfl, rfl, (y_ rfl (jat qr2 hr3)), trivial⟩
 ·
  refine a_ (g_ rfl) rfl ?_
  refine ay_ 4 ((((k == 0) && (nm == []))) && (lo == 0)) (fun r => [(0, .agg #[.int .i64 k, str nm, .int .i64 lo, .int .i64 hi, .slice ad ps.length cap]), (1, zp_ b1 0), (2, .bool false), (15, .bool r)]) ?_ fun r4 hr4 => ?_
  ·
   cases r2
   ·
    have qr4 := hr2
    simp at hr2
    try dsimp only [Con.kind, Con.parts, Con.name, Con.lo, Con.hi, Con.cap, Con.ad] at hr2
    refine q_ rfl rfl rfl rfl (q_ rfl rfl rfl rfl (q_ rfl rfl rfl rfl (a_ (F_ rfl rfl) rfl (d_ (o_ rfl ?_)))))
    exact met ⟨rfl, rfl, rfl, (y_ rfl (jaf qr4)), trivial⟩
   ·
    have qr4 := hr2
    simp at hr2
    try dsimp only [Con.kind, Con.parts, Con.name, Con.lo, Con.hi, Con.cap, Con.ad] at hr2
    refine n_ rfl rfl (a_ (m_ C_ rfl rfl rfl L_) rfl (n_ rfl rfl (a_ (t_ 0 O_ rfl rfl rfl) rfl (n_ rfl rfl (v_ (ai_ rfl rfl) rfl fun r5 hr5 => ?_)))))
    refine a_ (K_ rfl rfl) rfl (d_ (o_ rfl ?_))
    exact met ⟨rfl, rfl, rfl, (y_ rfl (jat qr4 hr5)), trivial⟩
  ·
   refine a_ (g_ rfl) rfl ?_
   refine ay_ 4 ((((((k == 0) && (nm == []))) && (lo == 0))) && (hi == 0)) (fun r => [(0, .agg #[.int .i64 k, str nm, .int .i64 lo, .int .i64 hi, .slice ad ps.length cap]), (1, zp_ b1 0), (2, .bool false), (20, .bool r)]) ?_ fun r6 hr6 => ?_
   ·
    cases r4
    ·
     have qr6 := hr4
     simp at hr4
     try dsimp only [Con.kind, Con.parts, Con.name, Con.lo, Con.hi, Con.cap, Con.ad] at hr4
     refine q_ rfl rfl rfl rfl (q_ rfl rfl rfl rfl (q_ rfl rfl rfl rfl (a_ (F_ rfl rfl) rfl (d_ (o_ rfl ?_)))))
     exact met ⟨rfl, rfl, rfl, (y_ rfl (jaf qr6)), trivial⟩
    ·
     have qr6 := hr4
     simp at hr4
     try dsimp only [Con.kind, Con.parts, Con.name, Con.lo, Con.hi, Con.cap, Con.ad] at hr4
     refine n_ rfl rfl (a_ (m_ C_ rfl rfl rfl L_) rfl (n_ rfl rfl (a_ (t_ 0 O_ rfl rfl rfl) rfl (n_ rfl rfl (v_ (ai_ rfl rfl) rfl fun r7 hr7 => ?_)))))
     refine a_ (K_ rfl rfl) rfl (d_ (o_ rfl ?_))
     exact met ⟨rfl, rfl, rfl, (y_ rfl (jat qr6 hr7)), trivial⟩
   ·
    refine a_ (g_ rfl) rfl ?_
    refine ay_ 5 ((((((((k == 0) && (nm == []))) && (lo == 0))) && (hi == 0))) && ((ps.length : Int) == 0)) (fun r => [(0, .agg #[.int .i64 k, str nm, .int .i64 lo, .int .i64 hi, .slice ad ps.length cap]), (2, .bool false), (26, .bool r)]) ?_ fun r8 hr8 => ?_
    ·
     cases r6
     ·
      have qr8 := hr6
      simp at hr6
      try dsimp only [Con.kind, Con.parts, Con.name, Con.lo, Con.hi, Con.cap, Con.ad] at hr6
      refine q_ rfl rfl rfl rfl (q_ rfl rfl rfl rfl (q_ rfl rfl rfl rfl (q_ rfl rfl rfl rfl (a_ (F_ rfl rfl) rfl (d_ (o_ rfl ?_))))))
      exact met ⟨rfl, rfl, (y_ rfl (jaf qr8)), trivial⟩
     ·
      have qr8 := hr6
      simp at hr6
      try dsimp only [Con.kind, Con.parts, Con.name, Con.lo, Con.hi, Con.cap, Con.ad] at hr6
      refine n_ rfl rfl (a_ (m_ C_ rfl rfl rfl bc_) rfl (n_ rfl rfl (a_ (t_ 0 bt_ rfl rfl rfl) rfl (n_ rfl rfl (a_ (ar_ P_ rfl) rfl (n_ rfl rfl (v_ (ai_ rfl rfl) rfl fun r9 hr9 => ?_)))))))
      refine a_ (K_ rfl rfl) rfl (d_ (o_ rfl ?_))
      exact met ⟨rfl, rfl, (y_ rfl (jat qr8 hr9)), trivial⟩
    ·
     refine a_ (e_ rfl) rfl (d_ (c_ rfl (B_ ?_)))
     exact aj_ Tryz.results96 () (y_ rfl hr8.symm) (.refl _) (fun _ _ _ => trivial)
theorem hK_ {g : FuncId} {pred : Con → Bool} (c : Con) (hok : c.ok) (hT : ∀ p ∈ c.parts, Tri Tryz.prog g #[p.val] [] [p.memF] (fun _ : Unit => .bool (pred p)) (fun _ => []) (fun _ => [])) :
    Tri Tryz.prog 141 #[.slice c.ad c.parts.length c.cap, .func (.func g) #[] #[]] [] [c.memF] (fun r : {r : Int // decide (0 ≤ r) = c.parts.any pred} => .int .i64 r.1) (fun _ => []) (fun _ => []) := by
  obtain ⟨k, nm, lo, hi, ad, cap, ps⟩ := c
  have hlen := Con.ok_len hok
  simp only [Con.parts, Con.cap] at hlen
  refine M_ Tryz.func141 rfl rfl Tryz.ntmps141 rfl fun v0 => ?_
  refine f_ (b_ (a_ (e_ rfl) rfl (d_ (c_ rfl (f_ (f_ (b_ (a_ (g_ rfl) rfl (a_ (ar_ P_ rfl) rfl ?_)))))))))
  refine a_ (g_ rfl) rfl (d_ (c_ rfl (T_ (bs_ [(0, .slice ad ps.length cap), (1, .func (.func g) #[] #[]), (7, .int .i64 (ps.length : Int)), (8, .int .i64 ((0 : Nat) : Int))] ⟨rfl, rfl, rfl, rfl, trivial⟩ ?_))))
  refine bE_ (ι := {q : Nat // q ≤ ps.length ∧ (ps.take q).any pred = false}) (fun i => [(0, .slice ad ps.length cap), (1, .func (.func g) #[] #[]), (7, .int .i64 (ps.length : Int)), (8, .int .i64 (i.1 : Int))]) (fun _ => _) (fun _ => _) (fun i => ps.length - i.1) ⟨0, by simp⟩ ?_
  rintro ⟨i, hk⟩
  refine bs_ [(0, .slice ad ps.length cap), (1, .func (.func g) #[] #[]), (7, .int .i64 (ps.length : Int)), (8, .int .i64 (i : Int))] ⟨rfl, rfl, rfl, rfl, trivial⟩ ?_
  refine f_ (b_ (v_ (aN_ rfl rfl) rfl fun r1 hr1 => ?_))
  refine d_ (c_ rfl (f_ ?_))
  cases r1
  · skip
    replace hr1 := of_decide_eq_false hr1
    try dsimp only [Con.kind, Con.parts, Con.name, Con.lo, Con.hi, Con.cap, Con.ad] at hr1
    refine r_ rfl (aU_ rfl (c_ rfl (f_ (b_ (a_ (e_ rfl) rfl (d_ (c_ rfl (B_ ?_))))))))
    exact aj_ Tryz.results141 ⟨-1, by have := hk.2; rw [List.take_of_length_le (by omega)] at this; show _ = ps.any pred; rw [this]; rfl⟩ rfl (.refl _) (fun _ _ _ => trivial)
  · skip
    replace hr1 := of_decide_eq_true hr1
    try dsimp only [Con.kind, Con.parts, Con.name, Con.lo, Con.hi, Con.cap, Con.ad] at hr1
    have hlt : i < ps.length := by omega
    obtain ⟨p, hp⟩ : ∃ p, ps[i]? = some p := ⟨_, List.getElem?_eq_getElem hlt⟩
    have hpm : p ∈ ps := List.mem_of_getElem? hp
    refine p_ rfl (D_ (c_ rfl (f_ (T_ (f_ (b_ (a_ (g_ rfl) rfl (a_ (e_ rfl) rfl (d_ ?_)))))))))
    refine c_ rfl (f_ (b_ (a_ (g_ rfl) rfl (a_ (g_ rfl) rfl (a_ (g_ rfl) rfl (a_ (am_ P_ k_ rfl rfl (fun v _ h => aS_ (n := 5) Con.cells_len (by decide) (((Con.mem_iff (.mk k nm lo hi ad cap ps) v).1 h.1).1) hp) (by omega) (by first | omega | (simp only [Con.parts]; omega) | (simp [Con.parts]; done))) rfl (a_ (aH_ (ad := ad) (us := p.cells) x_ k_ rfl (fun v _ h => ((Con.mem_iff (.mk k nm lo hi ad cap ps) v).1 h.1).1) (Con.cells_len _) (ao_ Con.cells_len hp)) rfl (bJ_ (hT p hpm) rfl rfl (.refl _) (fun v _ h => by exact ⟨Con.mem_part (c := (.mk k nm lo hi ad cap ps)) h.1 hpm, trivial⟩) rfl fun r2 hr2 => ?_))))))))
    refine d_ (c_ rfl ?_)
    cases r2
    · skip
      try dsimp only [Con.kind, Con.parts, Con.name, Con.lo, Con.hi, Con.cap, Con.ad] at hr2
      refine r_ rfl (D_ (c_ rfl (b_ (a_ (R_ rfl rfl rfl (aq_ (by omega) (by omega))) rfl (a_ (g_ rfl) rfl (d_ (o_ rfl ?_)))))))
      exact av_ ⟨i + 1, hlt, by rw [Con.take_snoc hp, List.any_append, hk.2]; simp [*]⟩ (by simp; omega) ⟨rfl, rfl, rfl, rfl, trivial⟩ (.refl _) (fun _ _ h => h)
    · skip
      try dsimp only [Con.kind, Con.parts, Con.name, Con.lo, Con.hi, Con.cap, Con.ad] at hr2
      refine p_ rfl (f_ (b_ (a_ (g_ rfl) rfl (a_ (e_ rfl) rfl (d_ (c_ rfl (B_ ?_)))))))
      exact aj_ Tryz.results141 ⟨(i : Int), by show _ = ps.any pred; rw [show ps.any pred = true from List.any_eq_true.2 ⟨p, hpm, by assumption⟩]; exact decide_eq_true (by omega)⟩ rfl (.refl _) (fun _ _ _ => trivial)
theorem gd_ {g : FuncId} {pred : Con → Bool} (c : Con) (hok : c.ok) (hT : ∀ p ∈ c.parts, Tri Tryz.prog g #[p.val] [] [p.memF] (fun _ : Unit => .bool (pred p)) (fun _ => []) (fun _ => [])) :
    Tri Tryz.prog 97 #[.slice c.ad c.parts.length c.cap, .func (.func g) #[] #[]] [] [c.memF] (fun _ : Unit => .bool (c.parts.any pred)) (fun _ => []) (fun _ => []) := by
  obtain ⟨k, nm, lo, hi, ad, cap, ps⟩ := c
  refine M_ Tryz.func97 rfl rfl Tryz.ntmps97 rfl fun v0 => ?_
  refine f_ (b_ (a_ (e_ rfl) rfl (d_ (c_ rfl (f_ (b_ (a_ (g_ rfl) rfl (a_ (g_ rfl) rfl (A_ (hK_ (.mk k nm lo hi ad cap ps) hok hT) rfl (.refl _) (fun v _ h => h) rfl fun x => ?_)))))))))
  refine v_ (dm_ rfl rfl) rfl fun r1 hr1 => ?_
  refine a_ (e_ rfl) rfl (d_ (c_ rfl (B_ ?_)))
  exact aj_ Tryz.results97 () (y_ rfl (hr1.symm.trans x.2)) (.refl _) (fun _ _ _ => trivial)
theorem bM_ : ∀ (m : Nat) (c : Con), c.sz ≤ m → c.ok → Tri Tryz.prog 56 #[c.val] [] [c.memF] (fun _ : Unit => .bool c.bare) (fun _ => []) (fun _ => []) := by
  intro m
  induction m with
  | zero => intro c h; have := c.sz_pos; omega
  | succ m ih =>
    intro c hm hok
    obtain ⟨k, nm, lo, hi, ad, cap, ps⟩ := c
    refine M_ Tryz.func56 rfl rfl Tryz.ntmps56 rfl fun v0 => ?_
    refine f_ (b_ (aI_ rfl rfl fun b1 => ?_))
    refine a_ (e_ rfl) rfl (d_ (c_ rfl (f_ (f_ (b_ (a_ (m_ C_ rfl rfl rfl L_) rfl (a_ (t_ 0 O_ rfl rfl rfl) rfl (d_ (c_ rfl ?_)))))))))
    refine T_ (f_ (b_ (v_ (ai_ rfl rfl) rfl fun r1 hr1 => ?_)))
    refine a_ (e_ rfl) rfl (d_ (c_ rfl ?_))
    cases r1
    · skip
      replace hr1 := ne_of_beq_false hr1
      try dsimp only [Con.kind, Con.parts, Con.name, Con.lo, Con.hi, Con.cap, Con.ad] at hr1
      refine r_ rfl (f_ (b_ (v_ (ai_ rfl rfl) rfl fun r2 hr2 => ?_)))
      refine a_ (e_ rfl) rfl (d_ (c_ rfl ?_))
      cases r2
      · skip
        replace hr2 := ne_of_beq_false hr2
        try dsimp only [Con.kind, Con.parts, Con.name, Con.lo, Con.hi, Con.cap, Con.ad] at hr2
        refine r_ rfl (D_ (c_ rfl (f_ (b_ (a_ (e_ rfl) rfl (d_ (c_ rfl (B_ ?_))))))))
        exact aj_ Tryz.results56 () (y_ rfl (by rw [Con.bare_eq]; simp only [Con.kind, Con.parts] at *; simp [*])) (.refl _) (fun _ _ _ => trivial)
      · skip
        replace hr2 := eq_of_beq hr2
        try dsimp only [Con.kind, Con.parts, Con.name, Con.lo, Con.hi, Con.cap, Con.ad] at hr2
        refine p_ rfl (f_ (b_ (a_ (m_ C_ rfl rfl rfl bc_) rfl (a_ (t_ 0 bt_ rfl rfl rfl) rfl (al_ (gd_ (pred := Con.bare) (.mk k nm lo hi ad cap ps) hok (fun p hp => ih p (by have := Con.sz_part (c := (.mk k nm lo hi ad cap ps)) hp; omega) (Con.ok_part (c := (.mk k nm lo hi ad cap ps)) hok hp))) rfl (.refl _) (fun v _ h => h) rfl fun r3 hr3 => ?_)))))
        refine a_ (e_ rfl) rfl (d_ (c_ rfl (B_ ?_)))
        exact aj_ Tryz.results56 () (y_ rfl (by rw [Con.bare_eq]; simp only [Con.kind, Con.parts] at *; simp [*])) (.refl _) (fun _ _ _ => trivial)
    · skip
      replace hr1 := eq_of_beq hr1
      try dsimp only [Con.kind, Con.parts, Con.name, Con.lo, Con.hi, Con.cap, Con.ad] at hr1
      refine p_ rfl (f_ (b_ (a_ (e_ rfl) rfl (d_ (c_ rfl (B_ ?_))))))
      exact aj_ Tryz.results56 () (y_ rfl (by rw [Con.bare_eq]; simp only [Con.kind, Con.parts] at *; simp [*])) (.refl _) (fun _ _ _ => trivial)
theorem je_ (x : Ax) : Tri Tryz.prog 54 #[x.val] [] [bH_] (fun _ : Unit => .bool x.shaped) (fun _ => []) (fun _ => []) := by
 obtain ⟨k, op, ⟨kl, nl, ll, hl, al, cl, pl⟩, ⟨kr, nr, lr, hr, ar, cr, pr⟩, ad, cap, rs, ro, a, b⟩ := x
 refine M_ Tryz.func54 rfl rfl Tryz.ntmps54 rfl fun v0 => ?_
 refine f_ (b_ (aI_ rfl rfl fun b1 => ?_))
 refine a_ (e_ rfl) rfl (d_ (c_ rfl (f_ (f_ (b_ (a_ (m_ l_ rfl rfl rfl L_) rfl (a_ (t_ 0 O_ rfl rfl rfl) rfl (v_ (aN_ rfl rfl) rfl fun r1 hr1 => ?_))))))))
 refine a_ (g_ rfl) rfl ?_
 refine ay_ 4 ((decide (k < 1)) || (decide (9 < k))) (fun r => [(0, .agg #[.int .i64 k, .bool op, .int .i64 kl, str nl, .int .i64 ll, .int .i64 hl, .slice al pl.length cl, .int .i64 kr, str nr, .int .i64 lr, .int .i64 hr, .slice ar pr.length cr, .slice ad rs.length cap, str ro, str a, str b]), (1, zp_ b1 0), (2, .bool false), (11, .bool r)]) ?_ fun r2 hr2 => ?_
 ·
  cases r1
  ·
   have qr2 := hr1
   replace hr1 := of_decide_eq_false hr1
   try dsimp only [Con.kind, Con.parts, Con.name, Con.lo, Con.hi, Con.cap, Con.ad] at hr1
   refine n_ rfl rfl (a_ (m_ l_ rfl rfl rfl L_) rfl (n_ rfl rfl (a_ (t_ 0 O_ rfl rfl rfl) rfl (n_ rfl rfl (v_ (ce_ rfl rfl) rfl fun r3 hr3 => ?_)))))
   refine a_ (F_ rfl rfl) rfl (d_ (o_ rfl ?_))
   exact met ⟨rfl, rfl, rfl, (y_ rfl (jof qr2 hr3)), trivial⟩
  ·
   have qr2 := hr1
   replace hr1 := of_decide_eq_true hr1
   try dsimp only [Con.kind, Con.parts, Con.name, Con.lo, Con.hi, Con.cap, Con.ad] at hr1
   refine q_ rfl rfl rfl rfl (q_ rfl rfl rfl rfl (q_ rfl rfl rfl rfl (a_ (K_ rfl rfl) rfl (d_ (o_ rfl ?_)))))
   exact met ⟨rfl, rfl, rfl, (y_ rfl (jot qr2)), trivial⟩
 ·
  refine d_ (c_ rfl ?_)
  cases r2
  ·
   simp at hr2
   try dsimp only [Con.kind, Con.parts, Con.name, Con.lo, Con.hi, Con.cap, Con.ad] at hr2
   obtain ⟨u, hx⟩ : ∃ u, ku_[k.toNat]? = some u := ⟨_, List.getElem?_eq_getElem (show k.toNat < 10 by omega)⟩
   have hus : us k = u := by simp [us, hx]
   obtain ⟨ul, ur, uo, ua, ub, um, un⟩ := u
   refine r_ rfl (D_ (c_ rfl (f_ (b_ (a_ (m_ l_ rfl rfl rfl L_) rfl (a_ (t_ 0 O_ rfl rfl rfl) rfl (a_ (dt_ Tryz.runUnderlying88 fo_ rfl rfl (by show (0 : Int) ≤ k; omega) (by show k < (10 : Int); omega)) rfl (a_ (aH_ (ad := some ⟨0, 0, none⟩) (us := Use.cells ⟨ul, ur, uo, ua, ub, um, un⟩) Tryz.isAgg87 fo_ rfl (fun v _ h => h.1.2.1) (Use.cells_len _) (ao_ Use.cells_len hx)) rfl (an_ Tryz.zeroValue87 rfl fun b2 => ?_)))))))))
   refine ah_ 0 fo_ rfl rfl rfl rfl rfl rfl (d_ (c_ rfl (f_ (b_ (a_ (m_ bd_ rfl rfl rfl au_) rfl (a_ (t_ 0 aK_ rfl rfl rfl) rfl (a_ (g_ rfl) rfl ?_)))))))
   refine ay_ 4 ((ul) || (Con.empty (.mk kl nl ll hl al cl pl))) (fun r => [(0, .agg #[.int .i64 k, .bool op, .int .i64 kl, str nl, .int .i64 ll, .int .i64 hl, .slice al pl.length cl, .int .i64 kr, str nr, .int .i64 lr, .int .i64 hr, .slice ar pr.length cr, .slice ad rs.length cap, str ro, str a, str b]), (1, zp_ b1 0), (2, .bool false), (11, .bool false), (12, zp_ b1 0), (13, .int .i64 k), (14, .pointer (some (rad (some ⟨0, 0, none⟩) (k.toNat * 7)))), (15, .agg #[.bool ul, .bool ur, .bool uo, .bool ua, .bool ub, .int .i64 um, .int .i64 un]), (3, zp_ b2 0), (22, .bool r)]) ?_ fun r4 hr4 => ?_
   ·
    cases ul
    ·
     try dsimp only [Con.kind, Con.parts, Con.name, Con.lo, Con.hi, Con.cap, Con.ad] at hul
     refine n_ rfl rfl (a_ (m_ l_ rfl rfl rfl k_) rfl (n_ rfl rfl (a_ (G_ 1 x_ k_ rfl rfl rfl) rfl (n_ rfl rfl (al_ (hj_ (.mk kl nl ll hl al cl pl)) rfl (.refl _) (fun _ _ _ => trivial) rfl fun r5 hr5 => ?_)))))
     refine a_ (F_ rfl rfl) rfl (d_ (o_ rfl ?_))
     exact met ⟨rfl, rfl, rfl, rfl, rfl, rfl, rfl, rfl, rfl, (y_ rfl (jof rfl hr5)), trivial⟩
    ·
     try dsimp only [Con.kind, Con.parts, Con.name, Con.lo, Con.hi, Con.cap, Con.ad] at hul
     refine q_ rfl rfl rfl rfl (q_ rfl rfl rfl rfl (q_ rfl rfl rfl rfl (a_ (K_ rfl rfl) rfl (d_ (o_ rfl ?_)))))
     exact met ⟨rfl, rfl, rfl, rfl, rfl, rfl, rfl, rfl, rfl, (y_ rfl (jot rfl)), trivial⟩
   ·
    refine a_ (g_ rfl) rfl ?_
    refine ay_ 8 ((((ul) || (Con.empty (.mk kl nl ll hl al cl pl)))) && (((ur) || (Con.empty (.mk kr nr lr hr ar cr pr))))) (fun r => [(0, .agg #[.int .i64 k, .bool op, .int .i64 kl, str nl, .int .i64 ll, .int .i64 hl, .slice al pl.length cl, .int .i64 kr, str nr, .int .i64 lr, .int .i64 hr, .slice ar pr.length cr, .slice ad rs.length cap, str ro, str a, str b]), (1, zp_ b1 0), (2, .bool false), (11, .bool false), (12, zp_ b1 0), (13, .int .i64 k), (14, .pointer (some (rad (some ⟨0, 0, none⟩) (k.toNat * 7)))), (15, .agg #[.bool ul, .bool ur, .bool uo, .bool ua, .bool ub, .int .i64 um, .int .i64 un]), (3, zp_ b2 0), (31, .bool r)]) ?_ fun r6 hr6 => ?_
    ·
     cases r4
     ·
      have qr6 := hr4
      simp at hr4
      try dsimp only [Con.kind, Con.parts, Con.name, Con.lo, Con.hi, Con.cap, Con.ad] at hr4
      refine q_ rfl rfl rfl rfl (q_ rfl rfl rfl rfl (q_ rfl rfl rfl rfl (q_ rfl rfl rfl rfl (q_ rfl rfl rfl rfl (q_ rfl rfl rfl rfl (q_ rfl rfl rfl rfl (a_ (F_ rfl rfl) rfl (d_ (o_ rfl ?_)))))))))
      exact met ⟨rfl, rfl, rfl, rfl, rfl, rfl, rfl, rfl, rfl, (y_ rfl (jaf qr6)), trivial⟩
     ·
      have qr6 := hr4
      simp at hr4
      try dsimp only [Con.kind, Con.parts, Con.name, Con.lo, Con.hi, Con.cap, Con.ad] at hr4
      refine n_ rfl rfl (a_ (m_ bd_ rfl rfl rfl au_) rfl (n_ rfl rfl (a_ (t_ 0 aK_ rfl rfl rfl) rfl (n_ rfl rfl (a_ (g_ rfl) rfl ?_)))))
      refine ay_ 4 ((ur) || (Con.empty (.mk kr nr lr hr ar cr pr))) (fun r => [(0, .agg #[.int .i64 k, .bool op, .int .i64 kl, str nl, .int .i64 ll, .int .i64 hl, .slice al pl.length cl, .int .i64 kr, str nr, .int .i64 lr, .int .i64 hr, .slice ar pr.length cr, .slice ad rs.length cap, str ro, str a, str b]), (1, zp_ b1 0), (2, .bool false), (11, .bool false), (12, zp_ b1 0), (13, .int .i64 k), (14, .pointer (some (rad (some ⟨0, 0, none⟩) (k.toNat * 7)))), (15, .agg #[.bool ul, .bool ur, .bool uo, .bool ua, .bool ub, .int .i64 um, .int .i64 un]), (3, zp_ b2 0), (23, .bool true), (30, .bool r)]) ?_ fun r7 hr7 => ?_
      ·
       cases ur
       ·
        try dsimp only [Con.kind, Con.parts, Con.name, Con.lo, Con.hi, Con.cap, Con.ad] at hur
        refine n_ rfl rfl (a_ (m_ l_ rfl rfl rfl k_) rfl (n_ rfl rfl (a_ (G_ 1 x_ k_ rfl rfl rfl) rfl (n_ rfl rfl (al_ (hj_ (.mk kr nr lr hr ar cr pr)) rfl (.refl _) (fun _ _ _ => trivial) rfl fun r8 hr8 => ?_)))))
        refine n_ rfl rfl (a_ (F_ rfl rfl) rfl (d_ (o_ rfl ?_)))
        exact met ⟨rfl, rfl, rfl, rfl, rfl, rfl, rfl, rfl, rfl, rfl, (y_ rfl (jof rfl hr8)), trivial⟩
       ·
        try dsimp only [Con.kind, Con.parts, Con.name, Con.lo, Con.hi, Con.cap, Con.ad] at hur
        refine q_ rfl rfl rfl rfl (q_ rfl rfl rfl rfl (q_ rfl rfl rfl rfl (n_ rfl rfl (a_ (K_ rfl rfl) rfl (d_ (o_ rfl ?_))))))
        exact met ⟨rfl, rfl, rfl, rfl, rfl, rfl, rfl, rfl, rfl, rfl, (y_ rfl (jot rfl)), trivial⟩
      ·
       refine a_ (K_ rfl rfl) rfl (d_ (o_ rfl ?_))
       exact met ⟨rfl, rfl, rfl, rfl, rfl, rfl, rfl, rfl, rfl, (y_ rfl (jat qr6 hr7)), trivial⟩
    ·
     refine a_ (g_ rfl) rfl ?_
     refine ay_ 8 ((((((ul) || (Con.empty (.mk kl nl ll hl al cl pl)))) && (((ur) || (Con.empty (.mk kr nr lr hr ar cr pr)))))) && (((uo) || (ro == [])))) (fun r => [(0, .agg #[.int .i64 k, .bool op, .int .i64 kl, str nl, .int .i64 ll, .int .i64 hl, .slice al pl.length cl, .int .i64 kr, str nr, .int .i64 lr, .int .i64 hr, .slice ar pr.length cr, .slice ad rs.length cap, str ro, str a, str b]), (1, zp_ b1 0), (2, .bool false), (11, .bool false), (12, zp_ b1 0), (13, .int .i64 k), (14, .pointer (some (rad (some ⟨0, 0, none⟩) (k.toNat * 7)))), (15, .agg #[.bool ul, .bool ur, .bool uo, .bool ua, .bool ub, .int .i64 um, .int .i64 un]), (3, zp_ b2 0), (40, .bool r)]) ?_ fun r9 hr9 => ?_
     ·
      cases r6
      ·
       have qr9 := hr6
       simp at hr6
       try dsimp only [Con.kind, Con.parts, Con.name, Con.lo, Con.hi, Con.cap, Con.ad] at hr6
       refine q_ rfl rfl rfl rfl (q_ rfl rfl rfl rfl (q_ rfl rfl rfl rfl (q_ rfl rfl rfl rfl (q_ rfl rfl rfl rfl (q_ rfl rfl rfl rfl (q_ rfl rfl rfl rfl (a_ (F_ rfl rfl) rfl (d_ (o_ rfl ?_)))))))))
       exact met ⟨rfl, rfl, rfl, rfl, rfl, rfl, rfl, rfl, rfl, (y_ rfl (jaf qr9)), trivial⟩
      ·
       have qr9 := hr6
       simp at hr6
       try dsimp only [Con.kind, Con.parts, Con.name, Con.lo, Con.hi, Con.cap, Con.ad] at hr6
       refine n_ rfl rfl (a_ (m_ bd_ rfl rfl rfl au_) rfl (n_ rfl rfl (a_ (t_ 0 aK_ rfl rfl rfl) rfl (n_ rfl rfl (a_ (g_ rfl) rfl ?_)))))
       refine ay_ 4 ((uo) || (ro == [])) (fun r => [(0, .agg #[.int .i64 k, .bool op, .int .i64 kl, str nl, .int .i64 ll, .int .i64 hl, .slice al pl.length cl, .int .i64 kr, str nr, .int .i64 lr, .int .i64 hr, .slice ar pr.length cr, .slice ad rs.length cap, str ro, str a, str b]), (1, zp_ b1 0), (2, .bool false), (11, .bool false), (12, zp_ b1 0), (13, .int .i64 k), (14, .pointer (some (rad (some ⟨0, 0, none⟩) (k.toNat * 7)))), (15, .agg #[.bool ul, .bool ur, .bool uo, .bool ua, .bool ub, .int .i64 um, .int .i64 un]), (3, zp_ b2 0), (32, .bool true), (39, .bool r)]) ?_ fun r10 hr10 => ?_
       ·
        cases uo
        ·
         try dsimp only [Con.kind, Con.parts, Con.name, Con.lo, Con.hi, Con.cap, Con.ad] at huo
         refine n_ rfl rfl (a_ (m_ l_ rfl rfl rfl z_) rfl (n_ rfl rfl (a_ (t_ 1 E_ rfl rfl rfl) rfl (n_ rfl rfl (v_ (aV_ rfl rfl) rfl fun r11 hr11 => ?_)))))
         refine n_ rfl rfl (a_ (F_ rfl rfl) rfl (d_ (o_ rfl ?_)))
         exact met ⟨rfl, rfl, rfl, rfl, rfl, rfl, rfl, rfl, rfl, rfl, (y_ rfl (jof rfl hr11)), trivial⟩
        ·
         try dsimp only [Con.kind, Con.parts, Con.name, Con.lo, Con.hi, Con.cap, Con.ad] at huo
         refine q_ rfl rfl rfl rfl (q_ rfl rfl rfl rfl (q_ rfl rfl rfl rfl (n_ rfl rfl (a_ (K_ rfl rfl) rfl (d_ (o_ rfl ?_))))))
         exact met ⟨rfl, rfl, rfl, rfl, rfl, rfl, rfl, rfl, rfl, rfl, (y_ rfl (jot rfl)), trivial⟩
       ·
        refine a_ (K_ rfl rfl) rfl (d_ (o_ rfl ?_))
        exact met ⟨rfl, rfl, rfl, rfl, rfl, rfl, rfl, rfl, rfl, (y_ rfl (jat qr9 hr10)), trivial⟩
     ·
      refine a_ (g_ rfl) rfl ?_
      refine ay_ 8 ((((((((ul) || (Con.empty (.mk kl nl ll hl al cl pl)))) && (((ur) || (Con.empty (.mk kr nr lr hr ar cr pr)))))) && (((uo) || (ro == []))))) && (((ua) || (a == [])))) (fun r => [(0, .agg #[.int .i64 k, .bool op, .int .i64 kl, str nl, .int .i64 ll, .int .i64 hl, .slice al pl.length cl, .int .i64 kr, str nr, .int .i64 lr, .int .i64 hr, .slice ar pr.length cr, .slice ad rs.length cap, str ro, str a, str b]), (1, zp_ b1 0), (2, .bool false), (11, .bool false), (12, zp_ b1 0), (13, .int .i64 k), (14, .pointer (some (rad (some ⟨0, 0, none⟩) (k.toNat * 7)))), (15, .agg #[.bool ul, .bool ur, .bool uo, .bool ua, .bool ub, .int .i64 um, .int .i64 un]), (3, zp_ b2 0), (49, .bool r)]) ?_ fun r12 hr12 => ?_
      ·
       cases r9
       ·
        have qr12 := hr9
        simp at hr9
        try dsimp only [Con.kind, Con.parts, Con.name, Con.lo, Con.hi, Con.cap, Con.ad] at hr9
        refine q_ rfl rfl rfl rfl (q_ rfl rfl rfl rfl (q_ rfl rfl rfl rfl (q_ rfl rfl rfl rfl (q_ rfl rfl rfl rfl (q_ rfl rfl rfl rfl (q_ rfl rfl rfl rfl (a_ (F_ rfl rfl) rfl (d_ (o_ rfl ?_)))))))))
        exact met ⟨rfl, rfl, rfl, rfl, rfl, rfl, rfl, rfl, rfl, (y_ rfl (jaf qr12)), trivial⟩
       ·
        have qr12 := hr9
        simp at hr9
        try dsimp only [Con.kind, Con.parts, Con.name, Con.lo, Con.hi, Con.cap, Con.ad] at hr9
        refine n_ rfl rfl (a_ (m_ bd_ rfl rfl rfl au_) rfl (n_ rfl rfl (a_ (t_ 0 aK_ rfl rfl rfl) rfl (n_ rfl rfl (a_ (g_ rfl) rfl ?_)))))
        refine ay_ 4 ((ua) || (a == [])) (fun r => [(0, .agg #[.int .i64 k, .bool op, .int .i64 kl, str nl, .int .i64 ll, .int .i64 hl, .slice al pl.length cl, .int .i64 kr, str nr, .int .i64 lr, .int .i64 hr, .slice ar pr.length cr, .slice ad rs.length cap, str ro, str a, str b]), (1, zp_ b1 0), (2, .bool false), (11, .bool false), (12, zp_ b1 0), (13, .int .i64 k), (14, .pointer (some (rad (some ⟨0, 0, none⟩) (k.toNat * 7)))), (15, .agg #[.bool ul, .bool ur, .bool uo, .bool ua, .bool ub, .int .i64 um, .int .i64 un]), (3, zp_ b2 0), (41, .bool true), (48, .bool r)]) ?_ fun r13 hr13 => ?_
        ·
         cases ua
         ·
          try dsimp only [Con.kind, Con.parts, Con.name, Con.lo, Con.hi, Con.cap, Con.ad] at hua
          refine n_ rfl rfl (a_ (m_ l_ rfl rfl rfl z_) rfl (n_ rfl rfl (a_ (t_ 1 E_ rfl rfl rfl) rfl (n_ rfl rfl (v_ (aV_ rfl rfl) rfl fun r14 hr14 => ?_)))))
          refine n_ rfl rfl (a_ (F_ rfl rfl) rfl (d_ (o_ rfl ?_)))
          exact met ⟨rfl, rfl, rfl, rfl, rfl, rfl, rfl, rfl, rfl, rfl, (y_ rfl (jof rfl hr14)), trivial⟩
         ·
          try dsimp only [Con.kind, Con.parts, Con.name, Con.lo, Con.hi, Con.cap, Con.ad] at hua
          refine q_ rfl rfl rfl rfl (q_ rfl rfl rfl rfl (q_ rfl rfl rfl rfl (n_ rfl rfl (a_ (K_ rfl rfl) rfl (d_ (o_ rfl ?_))))))
          exact met ⟨rfl, rfl, rfl, rfl, rfl, rfl, rfl, rfl, rfl, rfl, (y_ rfl (jot rfl)), trivial⟩
        ·
         refine a_ (K_ rfl rfl) rfl (d_ (o_ rfl ?_))
         exact met ⟨rfl, rfl, rfl, rfl, rfl, rfl, rfl, rfl, rfl, (y_ rfl (jat qr12 hr13)), trivial⟩
      ·
       refine a_ (g_ rfl) rfl ?_
       refine ay_ 8 ((((((((((ul) || (Con.empty (.mk kl nl ll hl al cl pl)))) && (((ur) || (Con.empty (.mk kr nr lr hr ar cr pr)))))) && (((uo) || (ro == []))))) && (((ua) || (a == []))))) && (((ub) || (b == [])))) (fun r => [(0, .agg #[.int .i64 k, .bool op, .int .i64 kl, str nl, .int .i64 ll, .int .i64 hl, .slice al pl.length cl, .int .i64 kr, str nr, .int .i64 lr, .int .i64 hr, .slice ar pr.length cr, .slice ad rs.length cap, str ro, str a, str b]), (1, zp_ b1 0), (2, .bool false), (11, .bool false), (12, zp_ b1 0), (13, .int .i64 k), (14, .pointer (some (rad (some ⟨0, 0, none⟩) (k.toNat * 7)))), (15, .agg #[.bool ul, .bool ur, .bool uo, .bool ua, .bool ub, .int .i64 um, .int .i64 un]), (3, zp_ b2 0), (58, .bool r)]) ?_ fun r15 hr15 => ?_
       ·
        cases r12
        ·
         have qr15 := hr12
         simp at hr12
         try dsimp only [Con.kind, Con.parts, Con.name, Con.lo, Con.hi, Con.cap, Con.ad] at hr12
         refine q_ rfl rfl rfl rfl (q_ rfl rfl rfl rfl (q_ rfl rfl rfl rfl (q_ rfl rfl rfl rfl (q_ rfl rfl rfl rfl (q_ rfl rfl rfl rfl (q_ rfl rfl rfl rfl (a_ (F_ rfl rfl) rfl (d_ (o_ rfl ?_)))))))))
         exact met ⟨rfl, rfl, rfl, rfl, rfl, rfl, rfl, rfl, rfl, (y_ rfl (jaf qr15)), trivial⟩
        ·
         have qr15 := hr12
         simp at hr12
         try dsimp only [Con.kind, Con.parts, Con.name, Con.lo, Con.hi, Con.cap, Con.ad] at hr12
         refine n_ rfl rfl (a_ (m_ bd_ rfl rfl rfl au_) rfl (n_ rfl rfl (a_ (t_ 0 aK_ rfl rfl rfl) rfl (n_ rfl rfl (a_ (g_ rfl) rfl ?_)))))
         refine ay_ 4 ((ub) || (b == [])) (fun r => [(0, .agg #[.int .i64 k, .bool op, .int .i64 kl, str nl, .int .i64 ll, .int .i64 hl, .slice al pl.length cl, .int .i64 kr, str nr, .int .i64 lr, .int .i64 hr, .slice ar pr.length cr, .slice ad rs.length cap, str ro, str a, str b]), (1, zp_ b1 0), (2, .bool false), (11, .bool false), (12, zp_ b1 0), (13, .int .i64 k), (14, .pointer (some (rad (some ⟨0, 0, none⟩) (k.toNat * 7)))), (15, .agg #[.bool ul, .bool ur, .bool uo, .bool ua, .bool ub, .int .i64 um, .int .i64 un]), (3, zp_ b2 0), (50, .bool true), (57, .bool r)]) ?_ fun r16 hr16 => ?_
         ·
          cases ub
          ·
           try dsimp only [Con.kind, Con.parts, Con.name, Con.lo, Con.hi, Con.cap, Con.ad] at hub
           refine n_ rfl rfl (a_ (m_ l_ rfl rfl rfl z_) rfl (n_ rfl rfl (a_ (t_ 1 E_ rfl rfl rfl) rfl (n_ rfl rfl (v_ (aV_ rfl rfl) rfl fun r17 hr17 => ?_)))))
           refine n_ rfl rfl (a_ (F_ rfl rfl) rfl (d_ (o_ rfl ?_)))
           exact met ⟨rfl, rfl, rfl, rfl, rfl, rfl, rfl, rfl, rfl, rfl, (y_ rfl (jof rfl hr17)), trivial⟩
          ·
           try dsimp only [Con.kind, Con.parts, Con.name, Con.lo, Con.hi, Con.cap, Con.ad] at hub
           refine q_ rfl rfl rfl rfl (q_ rfl rfl rfl rfl (q_ rfl rfl rfl rfl (n_ rfl rfl (a_ (K_ rfl rfl) rfl (d_ (o_ rfl ?_))))))
           exact met ⟨rfl, rfl, rfl, rfl, rfl, rfl, rfl, rfl, rfl, rfl, (y_ rfl (jot rfl)), trivial⟩
         ·
          refine a_ (K_ rfl rfl) rfl (d_ (o_ rfl ?_))
          exact met ⟨rfl, rfl, rfl, rfl, rfl, rfl, rfl, rfl, rfl, (y_ rfl (jat qr15 hr16)), trivial⟩
       ·
        refine a_ (g_ rfl) rfl ?_
        refine ay_ 7 ((((((((((((ul) || (Con.empty (.mk kl nl ll hl al cl pl)))) && (((ur) || (Con.empty (.mk kr nr lr hr ar cr pr)))))) && (((uo) || (ro == []))))) && (((ua) || (a == []))))) && (((ub) || (b == []))))) && (decide (um ≤ (rs.length : Int)))) (fun r => [(0, .agg #[.int .i64 k, .bool op, .int .i64 kl, str nl, .int .i64 ll, .int .i64 hl, .slice al pl.length cl, .int .i64 kr, str nr, .int .i64 lr, .int .i64 hr, .slice ar pr.length cr, .slice ad rs.length cap, str ro, str a, str b]), (1, zp_ b1 0), (2, .bool false), (11, .bool false), (12, zp_ b1 0), (13, .int .i64 k), (14, .pointer (some (rad (some ⟨0, 0, none⟩) (k.toNat * 7)))), (15, .agg #[.bool ul, .bool ur, .bool uo, .bool ua, .bool ub, .int .i64 um, .int .i64 un]), (3, zp_ b2 0), (66, .bool r)]) ?_ fun r18 hr18 => ?_
        ·
         cases r15
         ·
          have qr18 := hr15
          simp at hr15
          try dsimp only [Con.kind, Con.parts, Con.name, Con.lo, Con.hi, Con.cap, Con.ad] at hr15
          refine q_ rfl rfl rfl rfl (q_ rfl rfl rfl rfl (q_ rfl rfl rfl rfl (q_ rfl rfl rfl rfl (q_ rfl rfl rfl rfl (q_ rfl rfl rfl rfl (a_ (F_ rfl rfl) rfl (d_ (o_ rfl ?_))))))))
          exact met ⟨rfl, rfl, rfl, rfl, rfl, rfl, rfl, rfl, rfl, (y_ rfl (jaf qr18)), trivial⟩
         ·
          have qr18 := hr15
          simp at hr15
          try dsimp only [Con.kind, Con.parts, Con.name, Con.lo, Con.hi, Con.cap, Con.ad] at hr15
          refine n_ rfl rfl (a_ (m_ l_ rfl rfl rfl bp_) rfl (n_ rfl rfl (a_ (t_ 1 bS_ rfl rfl rfl) rfl (n_ rfl rfl (a_ (ar_ J_ rfl) rfl (n_ rfl rfl (a_ (m_ bd_ rfl rfl rfl L_) rfl (n_ rfl rfl (a_ (t_ 0 O_ rfl rfl rfl) rfl ?_)))))))))
          refine n_ rfl rfl (v_ (dm_ rfl rfl) rfl fun r19 hr19 => ?_)
          refine a_ (K_ rfl rfl) rfl (d_ (o_ rfl ?_))
          exact met ⟨rfl, rfl, rfl, rfl, rfl, rfl, rfl, rfl, rfl, (y_ rfl (jat qr18 hr19)), trivial⟩
        ·
         refine a_ (g_ rfl) rfl ?_
         refine ay_ 7 ((((((((((((((ul) || (Con.empty (.mk kl nl ll hl al cl pl)))) && (((ur) || (Con.empty (.mk kr nr lr hr ar cr pr)))))) && (((uo) || (ro == []))))) && (((ua) || (a == []))))) && (((ub) || (b == []))))) && (decide (um ≤ (rs.length : Int))))) && (decide ((rs.length : Int) ≤ un))) (fun r => [(0, .agg #[.int .i64 k, .bool op, .int .i64 kl, str nl, .int .i64 ll, .int .i64 hl, .slice al pl.length cl, .int .i64 kr, str nr, .int .i64 lr, .int .i64 hr, .slice ar pr.length cr, .slice ad rs.length cap, str ro, str a, str b]), (1, zp_ b1 0), (2, .bool false), (11, .bool false), (12, zp_ b1 0), (13, .int .i64 k), (14, .pointer (some (rad (some ⟨0, 0, none⟩) (k.toNat * 7)))), (15, .agg #[.bool ul, .bool ur, .bool uo, .bool ua, .bool ub, .int .i64 um, .int .i64 un]), (3, zp_ b2 0), (74, .bool r)]) ?_ fun r20 hr20 => ?_
         ·
          cases r18
          ·
           have qr20 := hr18
           simp at hr18
           try dsimp only [Con.kind, Con.parts, Con.name, Con.lo, Con.hi, Con.cap, Con.ad] at hr18
           refine q_ rfl rfl rfl rfl (q_ rfl rfl rfl rfl (q_ rfl rfl rfl rfl (q_ rfl rfl rfl rfl (q_ rfl rfl rfl rfl (q_ rfl rfl rfl rfl (a_ (F_ rfl rfl) rfl (d_ (o_ rfl ?_))))))))
           exact met ⟨rfl, rfl, rfl, rfl, rfl, rfl, rfl, rfl, rfl, (y_ rfl (jaf qr20)), trivial⟩
          ·
           have qr20 := hr18
           simp at hr18
           try dsimp only [Con.kind, Con.parts, Con.name, Con.lo, Con.hi, Con.cap, Con.ad] at hr18
           refine n_ rfl rfl (a_ (m_ l_ rfl rfl rfl bp_) rfl (n_ rfl rfl (a_ (t_ 1 bS_ rfl rfl rfl) rfl (n_ rfl rfl (a_ (ar_ J_ rfl) rfl (n_ rfl rfl (a_ (m_ bd_ rfl rfl rfl L_) rfl (n_ rfl rfl (a_ (t_ 0 O_ rfl rfl rfl) rfl ?_)))))))))
           refine n_ rfl rfl (v_ (cy_ rfl rfl) rfl fun r21 hr21 => ?_)
           refine a_ (K_ rfl rfl) rfl (d_ (o_ rfl ?_))
           exact met ⟨rfl, rfl, rfl, rfl, rfl, rfl, rfl, rfl, rfl, (y_ rfl (jat qr20 hr21)), trivial⟩
         ·
          refine a_ (e_ rfl) rfl (d_ (c_ rfl (B_ ?_)))
          exact aj_ Tryz.results54 () (y_ rfl (by unfold Ax.shaped; rw [if_neg (by simp only [not_or]; omega)]; simp only [hus]; exact hr20.symm)) (.refl _) (fun _ _ _ => trivial)
  ·
   simp at hr2
   try dsimp only [Con.kind, Con.parts, Con.name, Con.lo, Con.hi, Con.cap, Con.ad] at hr2
   refine p_ rfl (f_ (b_ (a_ (e_ rfl) rfl (d_ (c_ rfl (B_ ?_))))))
   exact aj_ Tryz.results54 () (y_ rfl (by unfold Ax.shaped; rw [if_pos (by simpa using hr2)])) (.refl _) (fun _ _ _ => trivial)
theorem pn (s : Str) : (((if bb_ s then 0 else 20) : Int) != 0) = !bb_ s := by cases bb_ s <;> rfl
theorem kh_ (x : Ax) (hok : x.ok) (u : Use) : Tri Tryz.prog 55 #[x.val, .agg u.cells.toArray] [] [x.memF] (fun _ : Unit => .bool (x.namedU u)) (fun _ => []) (fun _ => []) := by
 obtain ⟨k, op, ⟨kl, nl, ll, hl, al, cl, pl⟩, ⟨kr, nr, lr, hr, ar, cr, pr⟩, ad, cap, rs, ro, a, b⟩ := x
 obtain ⟨ul, ur, uo, ua, ub, um, un⟩ := u
 have hlen := hok.len
 have hcap := hok.cap
 dsimp only at hlen hcap
 refine M_ Tryz.func55 rfl rfl Tryz.ntmps55 rfl fun v0 => ?_
 refine f_ (b_ (aI_ rfl rfl fun b1 => ?_))
 refine aI_ rfl rfl fun b2 => ?_
 refine a_ (e_ rfl) rfl (d_ (c_ rfl (f_ (f_ (b_ (a_ (m_ bd_ rfl rfl rfl au_) rfl (a_ (t_ 0 aK_ rfl rfl rfl) rfl (a_ (g_ rfl) rfl ?_))))))))
 refine ay_ 5 ((uo) && (!(bF_ ro))) (fun r => [(0, .agg #[.int .i64 k, .bool op, .int .i64 kl, str nl, .int .i64 ll, .int .i64 hl, .slice al pl.length cl, .int .i64 kr, str nr, .int .i64 lr, .int .i64 hr, .slice ar pr.length cr, .slice ad rs.length cap, str ro, str a, str b]), (1, .agg #[.bool ul, .bool ur, .bool uo, .bool ua, .bool ub, .int .i64 um, .int .i64 un]), (2, zp_ b1 0), (3, zp_ b2 0), (4, .bool false), (14, .bool r)]) ?_ fun r1 hr1 => ?_
 ·
  cases uo
  ·
   try dsimp only [Con.kind, Con.parts, Con.name, Con.lo, Con.hi, Con.cap, Con.ad] at huo
   refine q_ rfl rfl rfl rfl (q_ rfl rfl rfl rfl (q_ rfl rfl rfl rfl (q_ rfl rfl rfl rfl (a_ (F_ rfl rfl) rfl (d_ (o_ rfl ?_))))))
   exact met ⟨rfl, rfl, rfl, rfl, rfl, (y_ rfl (jaf rfl)), trivial⟩
  ·
   try dsimp only [Con.kind, Con.parts, Con.name, Con.lo, Con.hi, Con.cap, Con.ad] at huo
   refine n_ rfl rfl (a_ (m_ l_ rfl rfl rfl z_) rfl (n_ rfl rfl (a_ (t_ 1 E_ rfl rfl rfl) rfl (n_ rfl rfl (al_ (er_ _) rfl (.refl _) (fun _ _ _ => trivial) rfl fun r2 hr2 => ?_)))))
   refine n_ rfl rfl (a_ (bf_ rfl) rfl (a_ (K_ rfl rfl) rfl (d_ (o_ rfl ?_))))
   exact met ⟨rfl, rfl, rfl, rfl, rfl, (y_ rfl (jat rfl (jn hr2))), trivial⟩
 ·
  refine a_ (g_ rfl) rfl ?_
  refine ay_ 9 ((((uo) && (!(bF_ ro)))) || (((ua) && (((if bb_ a then 0 else 20) : Int) != 0)))) (fun r => [(0, .agg #[.int .i64 k, .bool op, .int .i64 kl, str nl, .int .i64 ll, .int .i64 hl, .slice al pl.length cl, .int .i64 kr, str nr, .int .i64 lr, .int .i64 hr, .slice ar pr.length cr, .slice ad rs.length cap, str ro, str a, str b]), (1, .agg #[.bool ul, .bool ur, .bool uo, .bool ua, .bool ub, .int .i64 um, .int .i64 un]), (2, zp_ b1 0), (3, zp_ b2 0), (4, .bool false), (24, .bool r)]) ?_ fun r3 hr3 => ?_
  ·
   cases r1
   ·
    have qr3 := hr1
    try dsimp only [Con.kind, Con.parts, Con.name, Con.lo, Con.hi, Con.cap, Con.ad] at hr1
    refine n_ rfl rfl (a_ (m_ bd_ rfl rfl rfl au_) rfl (n_ rfl rfl (a_ (t_ 0 aK_ rfl rfl rfl) rfl (n_ rfl rfl (a_ (g_ rfl) rfl ?_)))))
    refine ay_ 5 ((ua) && (((if bb_ a then 0 else 20) : Int) != 0)) (fun r => [(0, .agg #[.int .i64 k, .bool op, .int .i64 kl, str nl, .int .i64 ll, .int .i64 hl, .slice al pl.length cl, .int .i64 kr, str nr, .int .i64 lr, .int .i64 hr, .slice ar pr.length cr, .slice ad rs.length cap, str ro, str a, str b]), (1, .agg #[.bool ul, .bool ur, .bool uo, .bool ua, .bool ub, .int .i64 um, .int .i64 un]), (2, zp_ b1 0), (3, zp_ b2 0), (4, .bool false), (15, .bool false), (23, .bool r)]) ?_ fun r4 hr4 => ?_
    ·
     cases ua
     ·
      try dsimp only [Con.kind, Con.parts, Con.name, Con.lo, Con.hi, Con.cap, Con.ad] at hua
      refine q_ rfl rfl rfl rfl (q_ rfl rfl rfl rfl (q_ rfl rfl rfl rfl (q_ rfl rfl rfl rfl (n_ rfl rfl (a_ (F_ rfl rfl) rfl (d_ (o_ rfl ?_)))))))
      exact met ⟨rfl, rfl, rfl, rfl, rfl, rfl, (y_ rfl (jaf rfl)), trivial⟩
     ·
      try dsimp only [Con.kind, Con.parts, Con.name, Con.lo, Con.hi, Con.cap, Con.ad] at hua
      refine n_ rfl rfl (a_ (m_ l_ rfl rfl rfl z_) rfl (n_ rfl rfl (a_ (t_ 1 E_ rfl rfl rfl) rfl (n_ rfl rfl (A_ (dE_ _ hok.a) rfl (.refl _) (fun _ _ _ => trivial) rfl fun _ => ?_)))))
      refine n_ rfl rfl (v_ (bO_ rfl rfl) rfl fun r5 hr5 => ?_)
      refine n_ rfl rfl (a_ (K_ rfl rfl) rfl (d_ (o_ rfl ?_)))
      exact met ⟨rfl, rfl, rfl, rfl, rfl, rfl, (y_ rfl (jat rfl hr5)), trivial⟩
    ·
     refine a_ (F_ rfl rfl) rfl (d_ (o_ rfl ?_))
     exact met ⟨rfl, rfl, rfl, rfl, rfl, (y_ rfl (jof qr3 hr4)), trivial⟩
   ·
    have qr3 := hr1
    try dsimp only [Con.kind, Con.parts, Con.name, Con.lo, Con.hi, Con.cap, Con.ad] at hr1
    refine q_ rfl rfl rfl rfl (q_ rfl rfl rfl rfl (q_ rfl rfl rfl rfl (q_ rfl rfl rfl rfl (q_ rfl rfl rfl rfl (q_ rfl rfl rfl rfl (q_ rfl rfl rfl rfl (q_ rfl rfl rfl rfl (a_ (K_ rfl rfl) rfl (d_ ?_)))))))))
    refine o_ rfl ?_
    exact met ⟨rfl, rfl, rfl, rfl, rfl, (y_ rfl (jot qr3)), trivial⟩
  ·
   refine a_ (g_ rfl) rfl ?_
   refine ay_ 9 ((((((uo) && (!(bF_ ro)))) || (((ua) && (((if bb_ a then 0 else 20) : Int) != 0))))) || (((ub) && (((if bb_ b then 0 else 20) : Int) != 0)))) (fun r => [(0, .agg #[.int .i64 k, .bool op, .int .i64 kl, str nl, .int .i64 ll, .int .i64 hl, .slice al pl.length cl, .int .i64 kr, str nr, .int .i64 lr, .int .i64 hr, .slice ar pr.length cr, .slice ad rs.length cap, str ro, str a, str b]), (1, .agg #[.bool ul, .bool ur, .bool uo, .bool ua, .bool ub, .int .i64 um, .int .i64 un]), (2, zp_ b1 0), (4, .bool false), (34, .bool r)]) ?_ fun r6 hr6 => ?_
   ·
    cases r3
    ·
     have qr6 := hr3
     try dsimp only [Con.kind, Con.parts, Con.name, Con.lo, Con.hi, Con.cap, Con.ad] at hr3
     refine n_ rfl rfl (a_ (m_ bd_ rfl rfl rfl au_) rfl (n_ rfl rfl (a_ (t_ 0 aK_ rfl rfl rfl) rfl (n_ rfl rfl (a_ (g_ rfl) rfl ?_)))))
     refine ay_ 5 ((ub) && (((if bb_ b then 0 else 20) : Int) != 0)) (fun r => [(0, .agg #[.int .i64 k, .bool op, .int .i64 kl, str nl, .int .i64 ll, .int .i64 hl, .slice al pl.length cl, .int .i64 kr, str nr, .int .i64 lr, .int .i64 hr, .slice ar pr.length cr, .slice ad rs.length cap, str ro, str a, str b]), (1, .agg #[.bool ul, .bool ur, .bool uo, .bool ua, .bool ub, .int .i64 um, .int .i64 un]), (2, zp_ b1 0), (4, .bool false), (25, .bool false), (33, .bool r)]) ?_ fun r7 hr7 => ?_
     ·
      cases ub
      ·
       try dsimp only [Con.kind, Con.parts, Con.name, Con.lo, Con.hi, Con.cap, Con.ad] at hub
       refine q_ rfl rfl rfl rfl (q_ rfl rfl rfl rfl (q_ rfl rfl rfl rfl (q_ rfl rfl rfl rfl (n_ rfl rfl (a_ (F_ rfl rfl) rfl (d_ (o_ rfl ?_)))))))
       exact met ⟨rfl, rfl, rfl, rfl, rfl, (y_ rfl (jaf rfl)), trivial⟩
      ·
       try dsimp only [Con.kind, Con.parts, Con.name, Con.lo, Con.hi, Con.cap, Con.ad] at hub
       refine n_ rfl rfl (a_ (m_ l_ rfl rfl rfl z_) rfl (n_ rfl rfl (a_ (t_ 1 E_ rfl rfl rfl) rfl (n_ rfl rfl (A_ (dE_ _ hok.b) rfl (.refl _) (fun _ _ _ => trivial) rfl fun _ => ?_)))))
       refine n_ rfl rfl (v_ (bO_ rfl rfl) rfl fun r8 hr8 => ?_)
       refine n_ rfl rfl (a_ (K_ rfl rfl) rfl (d_ (o_ rfl ?_)))
       exact met ⟨rfl, rfl, rfl, rfl, rfl, (y_ rfl (jat rfl hr8)), trivial⟩
     ·
      refine a_ (F_ rfl rfl) rfl (d_ (o_ rfl ?_))
      exact met ⟨rfl, rfl, rfl, rfl, (y_ rfl (jof qr6 hr7)), trivial⟩
    ·
     have qr6 := hr3
     try dsimp only [Con.kind, Con.parts, Con.name, Con.lo, Con.hi, Con.cap, Con.ad] at hr3
     refine q_ rfl rfl rfl rfl (q_ rfl rfl rfl rfl (q_ rfl rfl rfl rfl (q_ rfl rfl rfl rfl (q_ rfl rfl rfl rfl (q_ rfl rfl rfl rfl (q_ rfl rfl rfl rfl (q_ rfl rfl rfl rfl (a_ (K_ rfl rfl) rfl (d_ ?_)))))))))
     refine o_ rfl ?_
     exact met ⟨rfl, rfl, rfl, rfl, (y_ rfl (jot qr6)), trivial⟩
   ·
    refine d_ (c_ rfl ?_)
    cases r6
    ·
     try dsimp only [Con.kind, Con.parts, Con.name, Con.lo, Con.hi, Con.cap, Con.ad] at hr6
     refine r_ rfl (D_ (c_ rfl (f_ (f_ (b_ (a_ (m_ l_ rfl rfl rfl bp_) rfl (a_ (t_ 1 bS_ rfl rfl rfl) rfl (a_ (ar_ J_ rfl) rfl (a_ (g_ rfl) rfl ?_)))))))))
     refine d_ (c_ rfl (T_ (bs_ [(36, .slice ad rs.length cap), (37, .int .i64 (rs.length : Int)), (38, .int .i64 ((0 : Nat) : Int))] ⟨rfl, rfl, rfl, trivial⟩ ?_)))
     refine bE_ (ι := {q : Nat // q ≤ rs.length ∧ (rs.take q).all bF_ = true}) (fun i => [(36, .slice ad rs.length cap), (37, .int .i64 (rs.length : Int)), (38, .int .i64 (i.1 : Int))]) (fun _ => _) (fun _ => _) (fun i => rs.length - i.1) ⟨0, by simp⟩ ?_
     rintro ⟨i, hk⟩
     refine bs_ [(36, .slice ad rs.length cap), (37, .int .i64 (rs.length : Int)), (38, .int .i64 (i : Int))] ⟨rfl, rfl, rfl, trivial⟩ ?_
     refine f_ (b_ (v_ (aN_ rfl rfl) rfl fun r9 hr9 => ?_))
     refine d_ (c_ rfl (f_ ?_))
     cases r9
     ·
      replace hr9 := of_decide_eq_false hr9
      try dsimp only [Con.kind, Con.parts, Con.name, Con.lo, Con.hi, Con.cap, Con.ad] at hr9
      refine r_ rfl (aU_ rfl (c_ rfl (f_ (b_ (a_ (e_ rfl) rfl (d_ (c_ rfl (B_ ?_))))))))
      exact aj_ Tryz.results55 () (y_ rfl (by have hf : rs.all bF_ = true := (by have := hk.2; rwa [List.take_of_length_le (by omega)] at this); unfold Ax.namedU; simp only [pn] at hr6; simp only [hf, hr6]; rfl)) (.refl _) (fun _ _ _ => trivial)
     ·
      replace hr9 := of_decide_eq_true hr9
      try dsimp only [Con.kind, Con.parts, Con.name, Con.lo, Con.hi, Con.cap, Con.ad] at hr9
      have hlt : i < rs.length := by omega
      obtain ⟨q, hp⟩ : ∃ q, rs[i]? = some q := ⟨_, List.getElem?_eq_getElem hlt⟩
      refine p_ rfl (D_ (c_ rfl (f_ (T_ (f_ (b_ (a_ (am_ J_ z_ rfl rfl (fun v _ h => aS_ (n := 1) aM_ (by decide) (h.1.2.2) hp) (by omega) (by first | omega | (simp only [Con.parts]; omega) | (simp [Con.parts]; done))) rfl (a_ (bw_ (ad := ad) E_ rfl (fun v _ h => h.1.2.2) (ao_ aM_ hp 0 _ rfl)) rfl (a_ (e_ rfl) rfl ?_)))))))))
      refine d_ (c_ rfl (f_ (b_ (a_ (g_ rfl) rfl (al_ (er_ _) rfl (.refl _) (fun _ _ _ => trivial) rfl fun r10 hr10 => ?_)))))
      refine a_ (bf_ rfl) rfl (d_ (c_ rfl ?_))
      cases r10
      ·
       try dsimp only [Con.kind, Con.parts, Con.name, Con.lo, Con.hi, Con.cap, Con.ad] at hr10
       refine p_ rfl (f_ (b_ (a_ (e_ rfl) rfl (d_ (c_ rfl (B_ ?_))))))
       exact aj_ Tryz.results55 () (y_ rfl (by have hf : rs.all bF_ = false := List.all_eq_false.2 ⟨q, List.mem_of_getElem? hp, by simp [*]⟩; unfold Ax.namedU; simp only [hf, Bool.and_false])) (.refl _) (fun _ _ _ => trivial)
      ·
       try dsimp only [Con.kind, Con.parts, Con.name, Con.lo, Con.hi, Con.cap, Con.ad] at hr10
       refine r_ rfl (D_ (c_ rfl (b_ (a_ (R_ rfl rfl rfl (aq_ (by omega) (by omega))) rfl (a_ (g_ rfl) rfl (d_ (o_ rfl ?_)))))))
       exact av_ ⟨i + 1, hlt, by rw [List.take_add_one, hp]; simp only [Option.toList_some, List.all_append, hk.2]; simp [*]⟩ (by simp; omega) ⟨rfl, rfl, rfl, trivial⟩ (.refl _) (fun _ _ h => h)
    ·
     try dsimp only [Con.kind, Con.parts, Con.name, Con.lo, Con.hi, Con.cap, Con.ad] at hr6
     refine p_ rfl (f_ (b_ (a_ (e_ rfl) rfl (d_ (c_ rfl (B_ ?_))))))
     exact aj_ Tryz.results55 () (y_ rfl (by unfold Ax.namedU; simp only [pn] at hr6; simp only [hr6]; rfl)) (.refl _) (fun _ _ _ => trivial)
theorem Ax.shaped_kind {x : Ax} (h : x.shaped = true) : 1 ≤ x.kind ∧ x.kind ≤ 9 := by
  unfold Ax.shaped at h
  split at h
  · cases h
  · rename_i hh; simp only [not_or] at hh; omega
theorem dM_ (x : Ax) (hok : x.ok) : Tri Tryz.prog 20 #[x.val] [] [x.memF, bH_] (fun _ : Unit => .int .i64 x.check) (fun _ => []) (fun _ => []) := by
 obtain ⟨k, op, ⟨kl, nl, ll, hl, al, cl, pl⟩, ⟨kr, nr, lr, hr, ar, cr, pr⟩, ad, cap, rs, ro, a, b⟩ := x
 refine M_ Tryz.func20 rfl rfl Tryz.ntmps20 rfl fun v0 => ?_
 refine f_ (b_ (aI_ rfl rfl fun b1 => ?_))
 refine a_ (e_ rfl) rfl (d_ (c_ rfl (f_ (f_ (b_ (a_ (G_ 0 bR_ ae_ rfl rfl rfl) rfl (al_ (je_ ⟨k, op, (.mk kl nl ll hl al cl pl), (.mk kr nr lr hr ar cr pr), ad, cap, rs, ro, a, b⟩) rfl (.refl _) (fun v _ h => ⟨h.2.1, trivial⟩) rfl fun r1 hr1 => ?_)))))))
 refine a_ (bf_ rfl) rfl (d_ (c_ rfl ?_))
 cases r1
 ·
  try dsimp only [Con.kind, Con.parts, Con.name, Con.lo, Con.hi, Con.cap, Con.ad] at hr1
  refine p_ rfl (f_ (b_ (a_ (e_ rfl) rfl (d_ (c_ rfl (B_ ?_))))))
  exact aj_ Z_ () (az_ rfl (by unfold Ax.check; simp_all)) (.refl _) (fun _ _ _ => trivial)
 ·
  try dsimp only [Con.kind, Con.parts, Con.name, Con.lo, Con.hi, Con.cap, Con.ad] at hr1
  have hk0 : 1 ≤ k ∧ k ≤ 9 := Ax.shaped_kind hr1
  obtain ⟨u, hx⟩ : ∃ u, ku_[k.toNat]? = some u := ⟨_, List.getElem?_eq_getElem (show k.toNat < 10 by omega)⟩
  have hus : us k = u := by simp [us, hx]
  obtain ⟨ul, ur, uo, ua, ub, um, un⟩ := u
  refine r_ rfl (D_ (c_ rfl (f_ (b_ (a_ (m_ l_ rfl rfl rfl L_) rfl (a_ (t_ 0 O_ rfl rfl rfl) rfl (a_ (dt_ Tryz.runUnderlying88 fo_ rfl rfl (by show (0 : Int) ≤ k; omega) (by show k < (10 : Int); omega)) rfl (a_ (aH_ (ad := some ⟨0, 0, none⟩) (us := Use.cells ⟨ul, ur, uo, ua, ub, um, un⟩) Tryz.isAgg87 fo_ rfl (fun v _ h => h.2.1.2.1) (Use.cells_len _) (ao_ Use.cells_len hx)) rfl (an_ Tryz.zeroValue87 rfl fun b2 => ?_)))))))))
  refine ah_ 0 fo_ rfl rfl rfl rfl rfl rfl (d_ (c_ rfl (f_ (f_ (b_ (a_ (G_ 1 bR_ ae_ rfl rfl rfl) rfl (a_ (G_ 0 Tryz.isAgg87 fo_ rfl rfl rfl) rfl (al_ (kh_ ⟨k, op, (.mk kl nl ll hl al cl pl), (.mk kr nr lr hr ar cr pr), ad, cap, rs, ro, a, b⟩ hok ⟨ul, ur, uo, ua, ub, um, un⟩) rfl (.refl _) (fun v _ h => ⟨h.1, trivial⟩) rfl fun r2 hr2 => ?_))))))))
  refine a_ (bf_ rfl) rfl (d_ (c_ rfl ?_))
  cases r2
  ·
   try dsimp only [Con.kind, Con.parts, Con.name, Con.lo, Con.hi, Con.cap, Con.ad] at hr2
   refine p_ rfl (f_ (b_ (a_ (e_ rfl) rfl (d_ (c_ rfl (B_ ?_))))))
   exact aj_ Z_ () (az_ rfl (by unfold Ax.check; simp only [hus]; simp_all)) (.refl _) (fun _ _ _ => trivial)
  ·
   try dsimp only [Con.kind, Con.parts, Con.name, Con.lo, Con.hi, Con.cap, Con.ad] at hr2
   refine r_ rfl (D_ (c_ rfl (f_ (f_ (b_ (a_ (m_ bd_ rfl rfl rfl au_) rfl (a_ (t_ 0 aK_ rfl rfl rfl) rfl (d_ (c_ rfl ?_)))))))))
   cases ul
   ·
    try dsimp only [Con.kind, Con.parts, Con.name, Con.lo, Con.hi, Con.cap, Con.ad] at hul
    refine r_ rfl (D_ (c_ rfl (f_ (f_ (b_ (a_ (m_ bd_ rfl rfl rfl au_) rfl (a_ (t_ 0 aK_ rfl rfl rfl) rfl (d_ (c_ rfl ?_)))))))))
    cases ur
    ·
     try dsimp only [Con.kind, Con.parts, Con.name, Con.lo, Con.hi, Con.cap, Con.ad] at hur
     refine r_ rfl (D_ (c_ rfl (f_ (f_ (b_ (a_ (m_ l_ rfl rfl rfl L_) rfl (a_ (t_ 1 O_ rfl rfl rfl) rfl (d_ (c_ rfl ?_)))))))))
     refine T_ (f_ (b_ (v_ (ai_ rfl rfl) rfl fun r3 hr3 => ?_)))
     refine a_ (e_ rfl) rfl (d_ (c_ rfl ?_))
     cases r3
     ·
      replace hr3 := ne_of_beq_false hr3
      try dsimp only [Con.kind, Con.parts, Con.name, Con.lo, Con.hi, Con.cap, Con.ad] at hr3
      refine r_ rfl (f_ (f_ (b_ (v_ (ai_ rfl rfl) rfl fun r4 hr4 => ?_))))
      refine a_ (e_ rfl) rfl (d_ (c_ rfl ?_))
      cases r4
      ·
       replace hr4 := ne_of_beq_false hr4
       try dsimp only [Con.kind, Con.parts, Con.name, Con.lo, Con.hi, Con.cap, Con.ad] at hr4
       refine r_ rfl (f_ (b_ (v_ (ai_ rfl rfl) rfl fun r5 hr5 => ?_)))
       refine a_ (e_ rfl) rfl (d_ (c_ rfl ?_))
       cases r5
       ·
        replace hr5 := ne_of_beq_false hr5
        try dsimp only [Con.kind, Con.parts, Con.name, Con.lo, Con.hi, Con.cap, Con.ad] at hr5
        refine r_ rfl (b_ (v_ (ai_ rfl rfl) rfl fun r6 hr6 => ?_))
        refine a_ (e_ rfl) rfl (d_ (c_ rfl ?_))
        cases r6
        ·
         replace hr6 := ne_of_beq_false hr6
         try dsimp only [Con.kind, Con.parts, Con.name, Con.lo, Con.hi, Con.cap, Con.ad] at hr6
         refine r_ rfl (D_ (c_ rfl (f_ (b_ (a_ (e_ rfl) rfl (d_ (c_ rfl (B_ ?_))))))))
         exact aj_ Z_ () (az_ rfl (by unfold Ax.check; simp only [hus]; simp_all)) (.refl _) (fun _ _ _ => trivial)
        ·
         replace hr6 := eq_of_beq hr6
         try dsimp only [Con.kind, Con.parts, Con.name, Con.lo, Con.hi, Con.cap, Con.ad] at hr6
         refine p_ rfl (f_ (b_ (a_ (m_ l_ rfl rfl rfl k_) rfl (a_ (G_ 1 x_ k_ rfl rfl rfl) rfl (al_ (bM_ _ (.mk kr nr lr hr ar cr pr) (Nat.le_refl _) hok.right) rfl (.refl _) (fun v _ h => ⟨h.1.2.1, trivial⟩) rfl fun r7 hr7 => ?_)))))
         refine d_ (c_ rfl ?_)
         cases r7
         ·
          try dsimp only [Con.kind, Con.parts, Con.name, Con.lo, Con.hi, Con.cap, Con.ad] at hr7
          refine r_ rfl (D_ (c_ rfl (f_ (b_ (a_ (e_ rfl) rfl (d_ (c_ rfl (B_ ?_))))))))
          exact aj_ Z_ () (az_ rfl (by unfold Ax.check; simp only [hus]; simp_all)) (.refl _) (fun _ _ _ => trivial)
         ·
          try dsimp only [Con.kind, Con.parts, Con.name, Con.lo, Con.hi, Con.cap, Con.ad] at hr7
          refine p_ rfl (f_ (b_ (a_ (e_ rfl) rfl (d_ (c_ rfl (B_ ?_))))))
          exact aj_ Z_ () (az_ rfl (by unfold Ax.check; simp only [hus]; simp_all)) (.refl _) (fun _ _ _ => trivial)
       ·
        replace hr5 := eq_of_beq hr5
        try dsimp only [Con.kind, Con.parts, Con.name, Con.lo, Con.hi, Con.cap, Con.ad] at hr5
        refine p_ rfl (D_ (c_ rfl (p_ rfl (f_ (b_ (a_ (m_ l_ rfl rfl rfl k_) rfl (a_ (G_ 1 x_ k_ rfl rfl rfl) rfl (al_ (bM_ _ (.mk kr nr lr hr ar cr pr) (Nat.le_refl _) hok.right) rfl (.refl _) (fun v _ h => ⟨h.1.2.1, trivial⟩) rfl fun r8 hr8 => ?_))))))))
        refine d_ (c_ rfl ?_)
        cases r8
        ·
         try dsimp only [Con.kind, Con.parts, Con.name, Con.lo, Con.hi, Con.cap, Con.ad] at hr8
         refine r_ rfl (D_ (c_ rfl (f_ (b_ (a_ (e_ rfl) rfl (d_ (c_ rfl (B_ ?_))))))))
         exact aj_ Z_ () (az_ rfl (by unfold Ax.check; simp only [hus]; simp_all)) (.refl _) (fun _ _ _ => trivial)
        ·
         try dsimp only [Con.kind, Con.parts, Con.name, Con.lo, Con.hi, Con.cap, Con.ad] at hr8
         refine p_ rfl (f_ (b_ (a_ (e_ rfl) rfl (d_ (c_ rfl (B_ ?_))))))
         exact aj_ Z_ () (az_ rfl (by unfold Ax.check; simp only [hus]; simp_all)) (.refl _) (fun _ _ _ => trivial)
      ·
       replace hr4 := eq_of_beq hr4
       try dsimp only [Con.kind, Con.parts, Con.name, Con.lo, Con.hi, Con.cap, Con.ad] at hr4
       refine p_ rfl (D_ (c_ rfl (p_ rfl (f_ (b_ (a_ (m_ l_ rfl rfl rfl k_) rfl (a_ (G_ 1 x_ k_ rfl rfl rfl) rfl (al_ (bM_ _ (.mk kr nr lr hr ar cr pr) (Nat.le_refl _) hok.right) rfl (.refl _) (fun v _ h => ⟨h.1.2.1, trivial⟩) rfl fun r9 hr9 => ?_))))))))
       refine d_ (c_ rfl ?_)
       cases r9
       ·
        try dsimp only [Con.kind, Con.parts, Con.name, Con.lo, Con.hi, Con.cap, Con.ad] at hr9
        refine r_ rfl (D_ (c_ rfl (f_ (b_ (a_ (e_ rfl) rfl (d_ (c_ rfl (B_ ?_))))))))
        exact aj_ Z_ () (az_ rfl (by unfold Ax.check; simp only [hus]; simp_all)) (.refl _) (fun _ _ _ => trivial)
       ·
        try dsimp only [Con.kind, Con.parts, Con.name, Con.lo, Con.hi, Con.cap, Con.ad] at hr9
        refine p_ rfl (f_ (b_ (a_ (e_ rfl) rfl (d_ (c_ rfl (B_ ?_))))))
        exact aj_ Z_ () (az_ rfl (by unfold Ax.check; simp only [hus]; simp_all)) (.refl _) (fun _ _ _ => trivial)
     ·
      replace hr3 := eq_of_beq hr3
      try dsimp only [Con.kind, Con.parts, Con.name, Con.lo, Con.hi, Con.cap, Con.ad] at hr3
      refine p_ rfl (f_ (b_ (a_ (m_ l_ rfl rfl rfl k_) rfl (a_ (G_ 1 x_ k_ rfl rfl rfl) rfl (al_ (bM_ _ (.mk kl nl ll hl al cl pl) (Nat.le_refl _) hok.left) rfl (.refl _) (fun v _ h => ⟨h.1.1, trivial⟩) rfl fun r10 hr10 => ?_)))))
      refine a_ (g_ rfl) rfl ?_
      refine ay_ 4 ((Con.bare (.mk kl nl ll hl al cl pl)) || (Con.bare (.mk kr nr lr hr ar cr pr))) (fun r => [(0, .agg #[.int .i64 k, .bool op, .int .i64 kl, str nl, .int .i64 ll, .int .i64 hl, .slice al pl.length cl, .int .i64 kr, str nr, .int .i64 lr, .int .i64 hr, .slice ar pr.length cr, .slice ad rs.length cap, str ro, str a, str b]), (1, zp_ b1 0), (2, .int .i64 0), (6, .agg #[.int .i64 k, .bool op, .int .i64 kl, str nl, .int .i64 ll, .int .i64 hl, .slice al pl.length cl, .int .i64 kr, str nr, .int .i64 lr, .int .i64 hr, .slice ar pr.length cr, .slice ad rs.length cap, str ro, str a, str b]), (7, .bool true), (8, .bool false), (9, zp_ b1 0), (10, .int .i64 k), (11, .pointer (some (rad (some ⟨0, 0, none⟩) (k.toNat * 7)))), (12, .agg #[.bool false, .bool false, .bool uo, .bool ua, .bool ub, .int .i64 um, .int .i64 un]), (3, zp_ b2 0), (13, .agg #[.int .i64 k, .bool op, .int .i64 kl, str nl, .int .i64 ll, .int .i64 hl, .slice al pl.length cl, .int .i64 kr, str nr, .int .i64 lr, .int .i64 hr, .slice ar pr.length cr, .slice ad rs.length cap, str ro, str a, str b]), (14, .agg #[.bool false, .bool false, .bool uo, .bool ua, .bool ub, .int .i64 um, .int .i64 un]), (15, .bool true), (16, .bool false), (17, zp_ b2 0), (18, .bool false), (25, zp_ b2 1), (26, .bool false), (33, zp_ b1 0), (34, .int .i64 k), (36, .bool true), (35, .bool true), (44, .bool r)]) ?_ fun r11 hr11 => ?_
      ·
       cases r10
       ·
        have qr11 := hr10
        try dsimp only [Con.kind, Con.parts, Con.name, Con.lo, Con.hi, Con.cap, Con.ad] at hr10
        refine n_ rfl rfl (a_ (m_ l_ rfl rfl rfl k_) rfl (n_ rfl rfl (a_ (G_ 1 x_ k_ rfl rfl rfl) rfl (n_ rfl rfl (al_ (bM_ _ (.mk kr nr lr hr ar cr pr) (Nat.le_refl _) hok.right) rfl (.refl _) (fun v _ h => ⟨h.1.2.1, trivial⟩) rfl fun r12 hr12 => ?_)))))
        refine a_ (F_ rfl rfl) rfl (d_ (o_ rfl ?_))
        exact met ⟨rfl, rfl, rfl, rfl, rfl, rfl, rfl, rfl, rfl, rfl, rfl, rfl, rfl, rfl, rfl, rfl, rfl, rfl, rfl, rfl, rfl, rfl, rfl, (y_ rfl (jof qr11 hr12)), trivial⟩
       ·
        have qr11 := hr10
        try dsimp only [Con.kind, Con.parts, Con.name, Con.lo, Con.hi, Con.cap, Con.ad] at hr10
        refine q_ rfl rfl rfl rfl (q_ rfl rfl rfl rfl (q_ rfl rfl rfl rfl (a_ (K_ rfl rfl) rfl (d_ (o_ rfl ?_)))))
        exact met ⟨rfl, rfl, rfl, rfl, rfl, rfl, rfl, rfl, rfl, rfl, rfl, rfl, rfl, rfl, rfl, rfl, rfl, rfl, rfl, rfl, rfl, rfl, rfl, (y_ rfl (jot qr11)), trivial⟩
      ·
       refine d_ (c_ rfl ?_)
       cases r11
       ·
        simp at hr11
        try dsimp only [Con.kind, Con.parts, Con.name, Con.lo, Con.hi, Con.cap, Con.ad] at hr11
        refine r_ rfl (D_ (c_ rfl (f_ (b_ (a_ (e_ rfl) rfl (d_ (c_ rfl (B_ ?_))))))))
        exact aj_ Z_ () (az_ rfl (by unfold Ax.check; simp only [hus]; simp_all)) (.refl _) (fun _ _ _ => trivial)
       ·
        simp at hr11
        try dsimp only [Con.kind, Con.parts, Con.name, Con.lo, Con.hi, Con.cap, Con.ad] at hr11
        refine p_ rfl (f_ (b_ (a_ (e_ rfl) rfl (d_ (c_ rfl (B_ ?_))))))
        exact aj_ Z_ () (az_ rfl (by unfold Ax.check; simp only [hus]; simp_all)) (.refl _) (fun _ _ _ => trivial)
    ·
     try dsimp only [Con.kind, Con.parts, Con.name, Con.lo, Con.hi, Con.cap, Con.ad] at hur
     refine p_ rfl (f_ (b_ (a_ (m_ l_ rfl rfl rfl k_) rfl (a_ (G_ 1 x_ k_ rfl rfl rfl) rfl (A_ (dq_ (.mk kr nr lr hr ar cr pr) hok.right) rfl (.refl _) (fun v _ h => ⟨h.1.2.1, h.2.1, trivial⟩) rfl fun _ => ?_)))))
     refine a_ (e_ rfl) rfl (d_ (c_ rfl (f_ (b_ (a_ (g_ rfl) rfl (v_ (bO_ rfl rfl) rfl fun r13 hr13 => ?_))))))
     refine d_ (c_ rfl ?_)
     cases r13
     ·
      replace hr13 := bA_ hr13
      try dsimp only [Con.kind, Con.parts, Con.name, Con.lo, Con.hi, Con.cap, Con.ad] at hr13
      refine r_ rfl (D_ (c_ rfl (f_ (f_ (b_ (a_ (m_ l_ rfl rfl rfl L_) rfl (a_ (t_ 1 O_ rfl rfl rfl) rfl (d_ (c_ rfl ?_)))))))))
      refine T_ (f_ (b_ (v_ (ai_ rfl rfl) rfl fun r14 hr14 => ?_)))
      refine a_ (e_ rfl) rfl (d_ (c_ rfl ?_))
      cases r14
      ·
       replace hr14 := ne_of_beq_false hr14
       try dsimp only [Con.kind, Con.parts, Con.name, Con.lo, Con.hi, Con.cap, Con.ad] at hr14
       refine r_ rfl (f_ (f_ (b_ (v_ (ai_ rfl rfl) rfl fun r15 hr15 => ?_))))
       refine a_ (e_ rfl) rfl (d_ (c_ rfl ?_))
       cases r15
       ·
        replace hr15 := ne_of_beq_false hr15
        try dsimp only [Con.kind, Con.parts, Con.name, Con.lo, Con.hi, Con.cap, Con.ad] at hr15
        refine r_ rfl (f_ (b_ (v_ (ai_ rfl rfl) rfl fun r16 hr16 => ?_)))
        refine a_ (e_ rfl) rfl (d_ (c_ rfl ?_))
        cases r16
        ·
         replace hr16 := ne_of_beq_false hr16
         try dsimp only [Con.kind, Con.parts, Con.name, Con.lo, Con.hi, Con.cap, Con.ad] at hr16
         refine r_ rfl (b_ (v_ (ai_ rfl rfl) rfl fun r17 hr17 => ?_))
         refine a_ (e_ rfl) rfl (d_ (c_ rfl ?_))
         cases r17
         ·
          replace hr17 := ne_of_beq_false hr17
          try dsimp only [Con.kind, Con.parts, Con.name, Con.lo, Con.hi, Con.cap, Con.ad] at hr17
          refine r_ rfl (D_ (c_ rfl (f_ (b_ (a_ (e_ rfl) rfl (d_ (c_ rfl (B_ ?_))))))))
          exact aj_ Z_ () (az_ rfl (by unfold Ax.check; simp only [hus]; simp_all)) (.refl _) (fun _ _ _ => trivial)
         ·
          replace hr17 := eq_of_beq hr17
          try dsimp only [Con.kind, Con.parts, Con.name, Con.lo, Con.hi, Con.cap, Con.ad] at hr17
          refine p_ rfl (f_ (b_ (a_ (m_ l_ rfl rfl rfl k_) rfl (a_ (G_ 1 x_ k_ rfl rfl rfl) rfl (al_ (bM_ _ (.mk kr nr lr hr ar cr pr) (Nat.le_refl _) hok.right) rfl (.refl _) (fun v _ h => ⟨h.1.2.1, trivial⟩) rfl fun r18 hr18 => ?_)))))
          refine d_ (c_ rfl ?_)
          cases r18
          ·
           try dsimp only [Con.kind, Con.parts, Con.name, Con.lo, Con.hi, Con.cap, Con.ad] at hr18
           refine r_ rfl (D_ (c_ rfl (f_ (b_ (a_ (e_ rfl) rfl (d_ (c_ rfl (B_ ?_))))))))
           exact aj_ Z_ () (az_ rfl (by unfold Ax.check; simp only [hus]; simp_all)) (.refl _) (fun _ _ _ => trivial)
          ·
           try dsimp only [Con.kind, Con.parts, Con.name, Con.lo, Con.hi, Con.cap, Con.ad] at hr18
           refine p_ rfl (f_ (b_ (a_ (e_ rfl) rfl (d_ (c_ rfl (B_ ?_))))))
           exact aj_ Z_ () (az_ rfl (by unfold Ax.check; simp only [hus]; simp_all)) (.refl _) (fun _ _ _ => trivial)
        ·
         replace hr16 := eq_of_beq hr16
         try dsimp only [Con.kind, Con.parts, Con.name, Con.lo, Con.hi, Con.cap, Con.ad] at hr16
         refine p_ rfl (D_ (c_ rfl (p_ rfl (f_ (b_ (a_ (m_ l_ rfl rfl rfl k_) rfl (a_ (G_ 1 x_ k_ rfl rfl rfl) rfl (al_ (bM_ _ (.mk kr nr lr hr ar cr pr) (Nat.le_refl _) hok.right) rfl (.refl _) (fun v _ h => ⟨h.1.2.1, trivial⟩) rfl fun r19 hr19 => ?_))))))))
         refine d_ (c_ rfl ?_)
         cases r19
         ·
          try dsimp only [Con.kind, Con.parts, Con.name, Con.lo, Con.hi, Con.cap, Con.ad] at hr19
          refine r_ rfl (D_ (c_ rfl (f_ (b_ (a_ (e_ rfl) rfl (d_ (c_ rfl (B_ ?_))))))))
          exact aj_ Z_ () (az_ rfl (by unfold Ax.check; simp only [hus]; simp_all)) (.refl _) (fun _ _ _ => trivial)
         ·
          try dsimp only [Con.kind, Con.parts, Con.name, Con.lo, Con.hi, Con.cap, Con.ad] at hr19
          refine p_ rfl (f_ (b_ (a_ (e_ rfl) rfl (d_ (c_ rfl (B_ ?_))))))
          exact aj_ Z_ () (az_ rfl (by unfold Ax.check; simp only [hus]; simp_all)) (.refl _) (fun _ _ _ => trivial)
       ·
        replace hr15 := eq_of_beq hr15
        try dsimp only [Con.kind, Con.parts, Con.name, Con.lo, Con.hi, Con.cap, Con.ad] at hr15
        refine p_ rfl (D_ (c_ rfl (p_ rfl (f_ (b_ (a_ (m_ l_ rfl rfl rfl k_) rfl (a_ (G_ 1 x_ k_ rfl rfl rfl) rfl (al_ (bM_ _ (.mk kr nr lr hr ar cr pr) (Nat.le_refl _) hok.right) rfl (.refl _) (fun v _ h => ⟨h.1.2.1, trivial⟩) rfl fun r20 hr20 => ?_))))))))
        refine d_ (c_ rfl ?_)
        cases r20
        ·
         try dsimp only [Con.kind, Con.parts, Con.name, Con.lo, Con.hi, Con.cap, Con.ad] at hr20
         refine r_ rfl (D_ (c_ rfl (f_ (b_ (a_ (e_ rfl) rfl (d_ (c_ rfl (B_ ?_))))))))
         exact aj_ Z_ () (az_ rfl (by unfold Ax.check; simp only [hus]; simp_all)) (.refl _) (fun _ _ _ => trivial)
        ·
         try dsimp only [Con.kind, Con.parts, Con.name, Con.lo, Con.hi, Con.cap, Con.ad] at hr20
         refine p_ rfl (f_ (b_ (a_ (e_ rfl) rfl (d_ (c_ rfl (B_ ?_))))))
         exact aj_ Z_ () (az_ rfl (by unfold Ax.check; simp only [hus]; simp_all)) (.refl _) (fun _ _ _ => trivial)
      ·
       replace hr14 := eq_of_beq hr14
       try dsimp only [Con.kind, Con.parts, Con.name, Con.lo, Con.hi, Con.cap, Con.ad] at hr14
       refine p_ rfl (f_ (b_ (a_ (m_ l_ rfl rfl rfl k_) rfl (a_ (G_ 1 x_ k_ rfl rfl rfl) rfl (al_ (bM_ _ (.mk kl nl ll hl al cl pl) (Nat.le_refl _) hok.left) rfl (.refl _) (fun v _ h => ⟨h.1.1, trivial⟩) rfl fun r21 hr21 => ?_)))))
       refine a_ (g_ rfl) rfl ?_
       refine ay_ 4 ((Con.bare (.mk kl nl ll hl al cl pl)) || (Con.bare (.mk kr nr lr hr ar cr pr))) (fun r => [(0, .agg #[.int .i64 k, .bool op, .int .i64 kl, str nl, .int .i64 ll, .int .i64 hl, .slice al pl.length cl, .int .i64 kr, str nr, .int .i64 lr, .int .i64 hr, .slice ar pr.length cr, .slice ad rs.length cap, str ro, str a, str b]), (1, zp_ b1 0), (2, .int .i64 0), (6, .agg #[.int .i64 k, .bool op, .int .i64 kl, str nl, .int .i64 ll, .int .i64 hl, .slice al pl.length cl, .int .i64 kr, str nr, .int .i64 lr, .int .i64 hr, .slice ar pr.length cr, .slice ad rs.length cap, str ro, str a, str b]), (7, .bool true), (8, .bool false), (9, zp_ b1 0), (10, .int .i64 k), (11, .pointer (some (rad (some ⟨0, 0, none⟩) (k.toNat * 7)))), (12, .agg #[.bool false, .bool true, .bool uo, .bool ua, .bool ub, .int .i64 um, .int .i64 un]), (3, zp_ b2 0), (13, .agg #[.int .i64 k, .bool op, .int .i64 kl, str nl, .int .i64 ll, .int .i64 hl, .slice al pl.length cl, .int .i64 kr, str nr, .int .i64 lr, .int .i64 hr, .slice ar pr.length cr, .slice ad rs.length cap, str ro, str a, str b]), (14, .agg #[.bool false, .bool true, .bool uo, .bool ua, .bool ub, .int .i64 um, .int .i64 un]), (15, .bool true), (16, .bool false), (17, zp_ b2 0), (18, .bool false), (25, zp_ b2 1), (26, .bool true), (27, zp_ b1 7), (28, .agg #[.int .i64 kr, str nr, .int .i64 lr, .int .i64 hr, .slice ar pr.length cr]), (29, .int .i64 (Con.check (.mk kr nr lr hr ar cr pr))), (5, .int .i64 (Con.check (.mk kr nr lr hr ar cr pr))), (30, .int .i64 (Con.check (.mk kr nr lr hr ar cr pr))), (31, .bool false), (33, zp_ b1 0), (34, .int .i64 k), (36, .bool true), (35, .bool true), (44, .bool r)]) ?_ fun r22 hr22 => ?_
       ·
        cases r21
        ·
         have qr22 := hr21
         try dsimp only [Con.kind, Con.parts, Con.name, Con.lo, Con.hi, Con.cap, Con.ad] at hr21
         refine n_ rfl rfl (a_ (m_ l_ rfl rfl rfl k_) rfl (n_ rfl rfl (a_ (G_ 1 x_ k_ rfl rfl rfl) rfl (n_ rfl rfl (al_ (bM_ _ (.mk kr nr lr hr ar cr pr) (Nat.le_refl _) hok.right) rfl (.refl _) (fun v _ h => ⟨h.1.2.1, trivial⟩) rfl fun r23 hr23 => ?_)))))
         refine a_ (F_ rfl rfl) rfl (d_ (o_ rfl ?_))
         exact met ⟨rfl, rfl, rfl, rfl, rfl, rfl, rfl, rfl, rfl, rfl, rfl, rfl, rfl, rfl, rfl, rfl, rfl, rfl, rfl, rfl, rfl, rfl, rfl, rfl, rfl, rfl, rfl, rfl, rfl, (y_ rfl (jof qr22 hr23)), trivial⟩
        ·
         have qr22 := hr21
         try dsimp only [Con.kind, Con.parts, Con.name, Con.lo, Con.hi, Con.cap, Con.ad] at hr21
         refine q_ rfl rfl rfl rfl (q_ rfl rfl rfl rfl (q_ rfl rfl rfl rfl (a_ (K_ rfl rfl) rfl (d_ (o_ rfl ?_)))))
         exact met ⟨rfl, rfl, rfl, rfl, rfl, rfl, rfl, rfl, rfl, rfl, rfl, rfl, rfl, rfl, rfl, rfl, rfl, rfl, rfl, rfl, rfl, rfl, rfl, rfl, rfl, rfl, rfl, rfl, rfl, (y_ rfl (jot qr22)), trivial⟩
       ·
        refine d_ (c_ rfl ?_)
        cases r22
        ·
         simp at hr22
         try dsimp only [Con.kind, Con.parts, Con.name, Con.lo, Con.hi, Con.cap, Con.ad] at hr22
         refine r_ rfl (D_ (c_ rfl (f_ (b_ (a_ (e_ rfl) rfl (d_ (c_ rfl (B_ ?_))))))))
         exact aj_ Z_ () (az_ rfl (by unfold Ax.check; simp only [hus]; simp_all)) (.refl _) (fun _ _ _ => trivial)
        ·
         simp at hr22
         try dsimp only [Con.kind, Con.parts, Con.name, Con.lo, Con.hi, Con.cap, Con.ad] at hr22
         refine p_ rfl (f_ (b_ (a_ (e_ rfl) rfl (d_ (c_ rfl (B_ ?_))))))
         exact aj_ Z_ () (az_ rfl (by unfold Ax.check; simp only [hus]; simp_all)) (.refl _) (fun _ _ _ => trivial)
     ·
      replace hr13 := bz_ hr13
      try dsimp only [Con.kind, Con.parts, Con.name, Con.lo, Con.hi, Con.cap, Con.ad] at hr13
      refine p_ rfl (f_ (b_ (a_ (g_ rfl) rfl (a_ (e_ rfl) rfl (d_ (c_ rfl (B_ ?_)))))))
      exact aj_ Z_ () (az_ rfl (by unfold Ax.check; simp only [hus]; simp_all)) (.refl _) (fun _ _ _ => trivial)
   ·
    try dsimp only [Con.kind, Con.parts, Con.name, Con.lo, Con.hi, Con.cap, Con.ad] at hul
    refine p_ rfl (f_ (b_ (a_ (m_ l_ rfl rfl rfl k_) rfl (a_ (G_ 1 x_ k_ rfl rfl rfl) rfl (A_ (dq_ (.mk kl nl ll hl al cl pl) hok.left) rfl (.refl _) (fun v _ h => ⟨h.1.1, h.2.1, trivial⟩) rfl fun _ => ?_)))))
    refine a_ (e_ rfl) rfl (d_ (c_ rfl (f_ (b_ (a_ (g_ rfl) rfl (v_ (bO_ rfl rfl) rfl fun r24 hr24 => ?_))))))
    refine d_ (c_ rfl ?_)
    cases r24
    ·
     replace hr24 := bA_ hr24
     try dsimp only [Con.kind, Con.parts, Con.name, Con.lo, Con.hi, Con.cap, Con.ad] at hr24
     refine r_ rfl (D_ (c_ rfl (f_ (f_ (b_ (a_ (m_ bd_ rfl rfl rfl au_) rfl (a_ (t_ 0 aK_ rfl rfl rfl) rfl (d_ (c_ rfl ?_)))))))))
     cases ur
     ·
      try dsimp only [Con.kind, Con.parts, Con.name, Con.lo, Con.hi, Con.cap, Con.ad] at hur
      refine r_ rfl (D_ (c_ rfl (f_ (f_ (b_ (a_ (m_ l_ rfl rfl rfl L_) rfl (a_ (t_ 1 O_ rfl rfl rfl) rfl (d_ (c_ rfl ?_)))))))))
      refine T_ (f_ (b_ (v_ (ai_ rfl rfl) rfl fun r25 hr25 => ?_)))
      refine a_ (e_ rfl) rfl (d_ (c_ rfl ?_))
      cases r25
      ·
       replace hr25 := ne_of_beq_false hr25
       try dsimp only [Con.kind, Con.parts, Con.name, Con.lo, Con.hi, Con.cap, Con.ad] at hr25
       refine r_ rfl (f_ (f_ (b_ (v_ (ai_ rfl rfl) rfl fun r26 hr26 => ?_))))
       refine a_ (e_ rfl) rfl (d_ (c_ rfl ?_))
       cases r26
       ·
        replace hr26 := ne_of_beq_false hr26
        try dsimp only [Con.kind, Con.parts, Con.name, Con.lo, Con.hi, Con.cap, Con.ad] at hr26
        refine r_ rfl (f_ (b_ (v_ (ai_ rfl rfl) rfl fun r27 hr27 => ?_)))
        refine a_ (e_ rfl) rfl (d_ (c_ rfl ?_))
        cases r27
        ·
         replace hr27 := ne_of_beq_false hr27
         try dsimp only [Con.kind, Con.parts, Con.name, Con.lo, Con.hi, Con.cap, Con.ad] at hr27
         refine r_ rfl (b_ (v_ (ai_ rfl rfl) rfl fun r28 hr28 => ?_))
         refine a_ (e_ rfl) rfl (d_ (c_ rfl ?_))
         cases r28
         ·
          replace hr28 := ne_of_beq_false hr28
          try dsimp only [Con.kind, Con.parts, Con.name, Con.lo, Con.hi, Con.cap, Con.ad] at hr28
          refine r_ rfl (D_ (c_ rfl (f_ (b_ (a_ (e_ rfl) rfl (d_ (c_ rfl (B_ ?_))))))))
          exact aj_ Z_ () (az_ rfl (by unfold Ax.check; simp only [hus]; simp_all)) (.refl _) (fun _ _ _ => trivial)
         ·
          replace hr28 := eq_of_beq hr28
          try dsimp only [Con.kind, Con.parts, Con.name, Con.lo, Con.hi, Con.cap, Con.ad] at hr28
          refine p_ rfl (f_ (b_ (a_ (m_ l_ rfl rfl rfl k_) rfl (a_ (G_ 1 x_ k_ rfl rfl rfl) rfl (al_ (bM_ _ (.mk kr nr lr hr ar cr pr) (Nat.le_refl _) hok.right) rfl (.refl _) (fun v _ h => ⟨h.1.2.1, trivial⟩) rfl fun r29 hr29 => ?_)))))
          refine d_ (c_ rfl ?_)
          cases r29
          ·
           try dsimp only [Con.kind, Con.parts, Con.name, Con.lo, Con.hi, Con.cap, Con.ad] at hr29
           refine r_ rfl (D_ (c_ rfl (f_ (b_ (a_ (e_ rfl) rfl (d_ (c_ rfl (B_ ?_))))))))
           exact aj_ Z_ () (az_ rfl (by unfold Ax.check; simp only [hus]; simp_all)) (.refl _) (fun _ _ _ => trivial)
          ·
           try dsimp only [Con.kind, Con.parts, Con.name, Con.lo, Con.hi, Con.cap, Con.ad] at hr29
           refine p_ rfl (f_ (b_ (a_ (e_ rfl) rfl (d_ (c_ rfl (B_ ?_))))))
           exact aj_ Z_ () (az_ rfl (by unfold Ax.check; simp only [hus]; simp_all)) (.refl _) (fun _ _ _ => trivial)
        ·
         replace hr27 := eq_of_beq hr27
         try dsimp only [Con.kind, Con.parts, Con.name, Con.lo, Con.hi, Con.cap, Con.ad] at hr27
         refine p_ rfl (D_ (c_ rfl (p_ rfl (f_ (b_ (a_ (m_ l_ rfl rfl rfl k_) rfl (a_ (G_ 1 x_ k_ rfl rfl rfl) rfl (al_ (bM_ _ (.mk kr nr lr hr ar cr pr) (Nat.le_refl _) hok.right) rfl (.refl _) (fun v _ h => ⟨h.1.2.1, trivial⟩) rfl fun r30 hr30 => ?_))))))))
         refine d_ (c_ rfl ?_)
         cases r30
         ·
          try dsimp only [Con.kind, Con.parts, Con.name, Con.lo, Con.hi, Con.cap, Con.ad] at hr30
          refine r_ rfl (D_ (c_ rfl (f_ (b_ (a_ (e_ rfl) rfl (d_ (c_ rfl (B_ ?_))))))))
          exact aj_ Z_ () (az_ rfl (by unfold Ax.check; simp only [hus]; simp_all)) (.refl _) (fun _ _ _ => trivial)
         ·
          try dsimp only [Con.kind, Con.parts, Con.name, Con.lo, Con.hi, Con.cap, Con.ad] at hr30
          refine p_ rfl (f_ (b_ (a_ (e_ rfl) rfl (d_ (c_ rfl (B_ ?_))))))
          exact aj_ Z_ () (az_ rfl (by unfold Ax.check; simp only [hus]; simp_all)) (.refl _) (fun _ _ _ => trivial)
       ·
        replace hr26 := eq_of_beq hr26
        try dsimp only [Con.kind, Con.parts, Con.name, Con.lo, Con.hi, Con.cap, Con.ad] at hr26
        refine p_ rfl (D_ (c_ rfl (p_ rfl (f_ (b_ (a_ (m_ l_ rfl rfl rfl k_) rfl (a_ (G_ 1 x_ k_ rfl rfl rfl) rfl (al_ (bM_ _ (.mk kr nr lr hr ar cr pr) (Nat.le_refl _) hok.right) rfl (.refl _) (fun v _ h => ⟨h.1.2.1, trivial⟩) rfl fun r31 hr31 => ?_))))))))
        refine d_ (c_ rfl ?_)
        cases r31
        ·
         try dsimp only [Con.kind, Con.parts, Con.name, Con.lo, Con.hi, Con.cap, Con.ad] at hr31
         refine r_ rfl (D_ (c_ rfl (f_ (b_ (a_ (e_ rfl) rfl (d_ (c_ rfl (B_ ?_))))))))
         exact aj_ Z_ () (az_ rfl (by unfold Ax.check; simp only [hus]; simp_all)) (.refl _) (fun _ _ _ => trivial)
        ·
         try dsimp only [Con.kind, Con.parts, Con.name, Con.lo, Con.hi, Con.cap, Con.ad] at hr31
         refine p_ rfl (f_ (b_ (a_ (e_ rfl) rfl (d_ (c_ rfl (B_ ?_))))))
         exact aj_ Z_ () (az_ rfl (by unfold Ax.check; simp only [hus]; simp_all)) (.refl _) (fun _ _ _ => trivial)
      ·
       replace hr25 := eq_of_beq hr25
       try dsimp only [Con.kind, Con.parts, Con.name, Con.lo, Con.hi, Con.cap, Con.ad] at hr25
       refine p_ rfl (f_ (b_ (a_ (m_ l_ rfl rfl rfl k_) rfl (a_ (G_ 1 x_ k_ rfl rfl rfl) rfl (al_ (bM_ _ (.mk kl nl ll hl al cl pl) (Nat.le_refl _) hok.left) rfl (.refl _) (fun v _ h => ⟨h.1.1, trivial⟩) rfl fun r32 hr32 => ?_)))))
       refine a_ (g_ rfl) rfl ?_
       refine ay_ 4 ((Con.bare (.mk kl nl ll hl al cl pl)) || (Con.bare (.mk kr nr lr hr ar cr pr))) (fun r => [(0, .agg #[.int .i64 k, .bool op, .int .i64 kl, str nl, .int .i64 ll, .int .i64 hl, .slice al pl.length cl, .int .i64 kr, str nr, .int .i64 lr, .int .i64 hr, .slice ar pr.length cr, .slice ad rs.length cap, str ro, str a, str b]), (1, zp_ b1 0), (2, .int .i64 0), (6, .agg #[.int .i64 k, .bool op, .int .i64 kl, str nl, .int .i64 ll, .int .i64 hl, .slice al pl.length cl, .int .i64 kr, str nr, .int .i64 lr, .int .i64 hr, .slice ar pr.length cr, .slice ad rs.length cap, str ro, str a, str b]), (7, .bool true), (8, .bool false), (9, zp_ b1 0), (10, .int .i64 k), (11, .pointer (some (rad (some ⟨0, 0, none⟩) (k.toNat * 7)))), (12, .agg #[.bool true, .bool false, .bool uo, .bool ua, .bool ub, .int .i64 um, .int .i64 un]), (3, zp_ b2 0), (13, .agg #[.int .i64 k, .bool op, .int .i64 kl, str nl, .int .i64 ll, .int .i64 hl, .slice al pl.length cl, .int .i64 kr, str nr, .int .i64 lr, .int .i64 hr, .slice ar pr.length cr, .slice ad rs.length cap, str ro, str a, str b]), (14, .agg #[.bool true, .bool false, .bool uo, .bool ua, .bool ub, .int .i64 um, .int .i64 un]), (15, .bool true), (16, .bool false), (17, zp_ b2 0), (18, .bool true), (19, zp_ b1 2), (20, .agg #[.int .i64 kl, str nl, .int .i64 ll, .int .i64 hl, .slice al pl.length cl]), (21, .int .i64 (Con.check (.mk kl nl ll hl al cl pl))), (4, .int .i64 (Con.check (.mk kl nl ll hl al cl pl))), (22, .int .i64 (Con.check (.mk kl nl ll hl al cl pl))), (23, .bool false), (25, zp_ b2 1), (26, .bool false), (33, zp_ b1 0), (34, .int .i64 k), (36, .bool true), (35, .bool true), (44, .bool r)]) ?_ fun r33 hr33 => ?_
       ·
        cases r32
        ·
         have qr33 := hr32
         try dsimp only [Con.kind, Con.parts, Con.name, Con.lo, Con.hi, Con.cap, Con.ad] at hr32
         refine n_ rfl rfl (a_ (m_ l_ rfl rfl rfl k_) rfl (n_ rfl rfl (a_ (G_ 1 x_ k_ rfl rfl rfl) rfl (n_ rfl rfl (al_ (bM_ _ (.mk kr nr lr hr ar cr pr) (Nat.le_refl _) hok.right) rfl (.refl _) (fun v _ h => ⟨h.1.2.1, trivial⟩) rfl fun r34 hr34 => ?_)))))
         refine a_ (F_ rfl rfl) rfl (d_ (o_ rfl ?_))
         exact met ⟨rfl, rfl, rfl, rfl, rfl, rfl, rfl, rfl, rfl, rfl, rfl, rfl, rfl, rfl, rfl, rfl, rfl, rfl, rfl, rfl, rfl, rfl, rfl, rfl, rfl, rfl, rfl, rfl, rfl, (y_ rfl (jof qr33 hr34)), trivial⟩
        ·
         have qr33 := hr32
         try dsimp only [Con.kind, Con.parts, Con.name, Con.lo, Con.hi, Con.cap, Con.ad] at hr32
         refine q_ rfl rfl rfl rfl (q_ rfl rfl rfl rfl (q_ rfl rfl rfl rfl (a_ (K_ rfl rfl) rfl (d_ (o_ rfl ?_)))))
         exact met ⟨rfl, rfl, rfl, rfl, rfl, rfl, rfl, rfl, rfl, rfl, rfl, rfl, rfl, rfl, rfl, rfl, rfl, rfl, rfl, rfl, rfl, rfl, rfl, rfl, rfl, rfl, rfl, rfl, rfl, (y_ rfl (jot qr33)), trivial⟩
       ·
        refine d_ (c_ rfl ?_)
        cases r33
        ·
         simp at hr33
         try dsimp only [Con.kind, Con.parts, Con.name, Con.lo, Con.hi, Con.cap, Con.ad] at hr33
         refine r_ rfl (D_ (c_ rfl (f_ (b_ (a_ (e_ rfl) rfl (d_ (c_ rfl (B_ ?_))))))))
         exact aj_ Z_ () (az_ rfl (by unfold Ax.check; simp only [hus]; simp_all)) (.refl _) (fun _ _ _ => trivial)
        ·
         simp at hr33
         try dsimp only [Con.kind, Con.parts, Con.name, Con.lo, Con.hi, Con.cap, Con.ad] at hr33
         refine p_ rfl (f_ (b_ (a_ (e_ rfl) rfl (d_ (c_ rfl (B_ ?_))))))
         exact aj_ Z_ () (az_ rfl (by unfold Ax.check; simp only [hus]; simp_all)) (.refl _) (fun _ _ _ => trivial)
     ·
      try dsimp only [Con.kind, Con.parts, Con.name, Con.lo, Con.hi, Con.cap, Con.ad] at hur
      refine p_ rfl (f_ (b_ (a_ (m_ l_ rfl rfl rfl k_) rfl (a_ (G_ 1 x_ k_ rfl rfl rfl) rfl (A_ (dq_ (.mk kr nr lr hr ar cr pr) hok.right) rfl (.refl _) (fun v _ h => ⟨h.1.2.1, h.2.1, trivial⟩) rfl fun _ => ?_)))))
      refine a_ (e_ rfl) rfl (d_ (c_ rfl (f_ (b_ (a_ (g_ rfl) rfl (v_ (bO_ rfl rfl) rfl fun r35 hr35 => ?_))))))
      refine d_ (c_ rfl ?_)
      cases r35
      ·
       replace hr35 := bA_ hr35
       try dsimp only [Con.kind, Con.parts, Con.name, Con.lo, Con.hi, Con.cap, Con.ad] at hr35
       refine r_ rfl (D_ (c_ rfl (f_ (f_ (b_ (a_ (m_ l_ rfl rfl rfl L_) rfl (a_ (t_ 1 O_ rfl rfl rfl) rfl (d_ (c_ rfl ?_)))))))))
       refine T_ (f_ (b_ (v_ (ai_ rfl rfl) rfl fun r36 hr36 => ?_)))
       refine a_ (e_ rfl) rfl (d_ (c_ rfl ?_))
       cases r36
       ·
        replace hr36 := ne_of_beq_false hr36
        try dsimp only [Con.kind, Con.parts, Con.name, Con.lo, Con.hi, Con.cap, Con.ad] at hr36
        refine r_ rfl (f_ (f_ (b_ (v_ (ai_ rfl rfl) rfl fun r37 hr37 => ?_))))
        refine a_ (e_ rfl) rfl (d_ (c_ rfl ?_))
        cases r37
        ·
         replace hr37 := ne_of_beq_false hr37
         try dsimp only [Con.kind, Con.parts, Con.name, Con.lo, Con.hi, Con.cap, Con.ad] at hr37
         refine r_ rfl (f_ (b_ (v_ (ai_ rfl rfl) rfl fun r38 hr38 => ?_)))
         refine a_ (e_ rfl) rfl (d_ (c_ rfl ?_))
         cases r38
         ·
          replace hr38 := ne_of_beq_false hr38
          try dsimp only [Con.kind, Con.parts, Con.name, Con.lo, Con.hi, Con.cap, Con.ad] at hr38
          refine r_ rfl (b_ (v_ (ai_ rfl rfl) rfl fun r39 hr39 => ?_))
          refine a_ (e_ rfl) rfl (d_ (c_ rfl ?_))
          cases r39
          ·
           replace hr39 := ne_of_beq_false hr39
           try dsimp only [Con.kind, Con.parts, Con.name, Con.lo, Con.hi, Con.cap, Con.ad] at hr39
           refine r_ rfl (D_ (c_ rfl (f_ (b_ (a_ (e_ rfl) rfl (d_ (c_ rfl (B_ ?_))))))))
           exact aj_ Z_ () (az_ rfl (by unfold Ax.check; simp only [hus]; simp_all)) (.refl _) (fun _ _ _ => trivial)
          ·
           replace hr39 := eq_of_beq hr39
           try dsimp only [Con.kind, Con.parts, Con.name, Con.lo, Con.hi, Con.cap, Con.ad] at hr39
           refine p_ rfl (f_ (b_ (a_ (m_ l_ rfl rfl rfl k_) rfl (a_ (G_ 1 x_ k_ rfl rfl rfl) rfl (al_ (bM_ _ (.mk kr nr lr hr ar cr pr) (Nat.le_refl _) hok.right) rfl (.refl _) (fun v _ h => ⟨h.1.2.1, trivial⟩) rfl fun r40 hr40 => ?_)))))
           refine d_ (c_ rfl ?_)
           cases r40
           ·
            try dsimp only [Con.kind, Con.parts, Con.name, Con.lo, Con.hi, Con.cap, Con.ad] at hr40
            refine r_ rfl (D_ (c_ rfl (f_ (b_ (a_ (e_ rfl) rfl (d_ (c_ rfl (B_ ?_))))))))
            exact aj_ Z_ () (az_ rfl (by unfold Ax.check; simp only [hus]; simp_all)) (.refl _) (fun _ _ _ => trivial)
           ·
            try dsimp only [Con.kind, Con.parts, Con.name, Con.lo, Con.hi, Con.cap, Con.ad] at hr40
            refine p_ rfl (f_ (b_ (a_ (e_ rfl) rfl (d_ (c_ rfl (B_ ?_))))))
            exact aj_ Z_ () (az_ rfl (by unfold Ax.check; simp only [hus]; simp_all)) (.refl _) (fun _ _ _ => trivial)
         ·
          replace hr38 := eq_of_beq hr38
          try dsimp only [Con.kind, Con.parts, Con.name, Con.lo, Con.hi, Con.cap, Con.ad] at hr38
          refine p_ rfl (D_ (c_ rfl (p_ rfl (f_ (b_ (a_ (m_ l_ rfl rfl rfl k_) rfl (a_ (G_ 1 x_ k_ rfl rfl rfl) rfl (al_ (bM_ _ (.mk kr nr lr hr ar cr pr) (Nat.le_refl _) hok.right) rfl (.refl _) (fun v _ h => ⟨h.1.2.1, trivial⟩) rfl fun r41 hr41 => ?_))))))))
          refine d_ (c_ rfl ?_)
          cases r41
          ·
           try dsimp only [Con.kind, Con.parts, Con.name, Con.lo, Con.hi, Con.cap, Con.ad] at hr41
           refine r_ rfl (D_ (c_ rfl (f_ (b_ (a_ (e_ rfl) rfl (d_ (c_ rfl (B_ ?_))))))))
           exact aj_ Z_ () (az_ rfl (by unfold Ax.check; simp only [hus]; simp_all)) (.refl _) (fun _ _ _ => trivial)
          ·
           try dsimp only [Con.kind, Con.parts, Con.name, Con.lo, Con.hi, Con.cap, Con.ad] at hr41
           refine p_ rfl (f_ (b_ (a_ (e_ rfl) rfl (d_ (c_ rfl (B_ ?_))))))
           exact aj_ Z_ () (az_ rfl (by unfold Ax.check; simp only [hus]; simp_all)) (.refl _) (fun _ _ _ => trivial)
        ·
         replace hr37 := eq_of_beq hr37
         try dsimp only [Con.kind, Con.parts, Con.name, Con.lo, Con.hi, Con.cap, Con.ad] at hr37
         refine p_ rfl (D_ (c_ rfl (p_ rfl (f_ (b_ (a_ (m_ l_ rfl rfl rfl k_) rfl (a_ (G_ 1 x_ k_ rfl rfl rfl) rfl (al_ (bM_ _ (.mk kr nr lr hr ar cr pr) (Nat.le_refl _) hok.right) rfl (.refl _) (fun v _ h => ⟨h.1.2.1, trivial⟩) rfl fun r42 hr42 => ?_))))))))
         refine d_ (c_ rfl ?_)
         cases r42
         ·
          try dsimp only [Con.kind, Con.parts, Con.name, Con.lo, Con.hi, Con.cap, Con.ad] at hr42
          refine r_ rfl (D_ (c_ rfl (f_ (b_ (a_ (e_ rfl) rfl (d_ (c_ rfl (B_ ?_))))))))
          exact aj_ Z_ () (az_ rfl (by unfold Ax.check; simp only [hus]; simp_all)) (.refl _) (fun _ _ _ => trivial)
         ·
          try dsimp only [Con.kind, Con.parts, Con.name, Con.lo, Con.hi, Con.cap, Con.ad] at hr42
          refine p_ rfl (f_ (b_ (a_ (e_ rfl) rfl (d_ (c_ rfl (B_ ?_))))))
          exact aj_ Z_ () (az_ rfl (by unfold Ax.check; simp only [hus]; simp_all)) (.refl _) (fun _ _ _ => trivial)
       ·
        replace hr36 := eq_of_beq hr36
        try dsimp only [Con.kind, Con.parts, Con.name, Con.lo, Con.hi, Con.cap, Con.ad] at hr36
        refine p_ rfl (f_ (b_ (a_ (m_ l_ rfl rfl rfl k_) rfl (a_ (G_ 1 x_ k_ rfl rfl rfl) rfl (al_ (bM_ _ (.mk kl nl ll hl al cl pl) (Nat.le_refl _) hok.left) rfl (.refl _) (fun v _ h => ⟨h.1.1, trivial⟩) rfl fun r43 hr43 => ?_)))))
        refine a_ (g_ rfl) rfl ?_
        refine ay_ 4 ((Con.bare (.mk kl nl ll hl al cl pl)) || (Con.bare (.mk kr nr lr hr ar cr pr))) (fun r => [(0, .agg #[.int .i64 k, .bool op, .int .i64 kl, str nl, .int .i64 ll, .int .i64 hl, .slice al pl.length cl, .int .i64 kr, str nr, .int .i64 lr, .int .i64 hr, .slice ar pr.length cr, .slice ad rs.length cap, str ro, str a, str b]), (1, zp_ b1 0), (2, .int .i64 0), (6, .agg #[.int .i64 k, .bool op, .int .i64 kl, str nl, .int .i64 ll, .int .i64 hl, .slice al pl.length cl, .int .i64 kr, str nr, .int .i64 lr, .int .i64 hr, .slice ar pr.length cr, .slice ad rs.length cap, str ro, str a, str b]), (7, .bool true), (8, .bool false), (9, zp_ b1 0), (10, .int .i64 k), (11, .pointer (some (rad (some ⟨0, 0, none⟩) (k.toNat * 7)))), (12, .agg #[.bool true, .bool true, .bool uo, .bool ua, .bool ub, .int .i64 um, .int .i64 un]), (3, zp_ b2 0), (13, .agg #[.int .i64 k, .bool op, .int .i64 kl, str nl, .int .i64 ll, .int .i64 hl, .slice al pl.length cl, .int .i64 kr, str nr, .int .i64 lr, .int .i64 hr, .slice ar pr.length cr, .slice ad rs.length cap, str ro, str a, str b]), (14, .agg #[.bool true, .bool true, .bool uo, .bool ua, .bool ub, .int .i64 um, .int .i64 un]), (15, .bool true), (16, .bool false), (17, zp_ b2 0), (18, .bool true), (19, zp_ b1 2), (20, .agg #[.int .i64 kl, str nl, .int .i64 ll, .int .i64 hl, .slice al pl.length cl]), (21, .int .i64 (Con.check (.mk kl nl ll hl al cl pl))), (4, .int .i64 (Con.check (.mk kl nl ll hl al cl pl))), (22, .int .i64 (Con.check (.mk kl nl ll hl al cl pl))), (23, .bool false), (25, zp_ b2 1), (26, .bool true), (27, zp_ b1 7), (28, .agg #[.int .i64 kr, str nr, .int .i64 lr, .int .i64 hr, .slice ar pr.length cr]), (29, .int .i64 (Con.check (.mk kr nr lr hr ar cr pr))), (5, .int .i64 (Con.check (.mk kr nr lr hr ar cr pr))), (30, .int .i64 (Con.check (.mk kr nr lr hr ar cr pr))), (31, .bool false), (33, zp_ b1 0), (34, .int .i64 k), (36, .bool true), (35, .bool true), (44, .bool r)]) ?_ fun r44 hr44 => ?_
        ·
         cases r43
         ·
          have qr44 := hr43
          try dsimp only [Con.kind, Con.parts, Con.name, Con.lo, Con.hi, Con.cap, Con.ad] at hr43
          refine n_ rfl rfl (a_ (m_ l_ rfl rfl rfl k_) rfl (n_ rfl rfl (a_ (G_ 1 x_ k_ rfl rfl rfl) rfl (n_ rfl rfl (al_ (bM_ _ (.mk kr nr lr hr ar cr pr) (Nat.le_refl _) hok.right) rfl (.refl _) (fun v _ h => ⟨h.1.2.1, trivial⟩) rfl fun r45 hr45 => ?_)))))
          refine a_ (F_ rfl rfl) rfl (d_ (o_ rfl ?_))
          exact met ⟨rfl, rfl, rfl, rfl, rfl, rfl, rfl, rfl, rfl, rfl, rfl, rfl, rfl, rfl, rfl, rfl, rfl, rfl, rfl, rfl, rfl, rfl, rfl, rfl, rfl, rfl, rfl, rfl, rfl, rfl, rfl, rfl, rfl, rfl, rfl, (y_ rfl (jof qr44 hr45)), trivial⟩
         ·
          have qr44 := hr43
          try dsimp only [Con.kind, Con.parts, Con.name, Con.lo, Con.hi, Con.cap, Con.ad] at hr43
          refine q_ rfl rfl rfl rfl (q_ rfl rfl rfl rfl (q_ rfl rfl rfl rfl (a_ (K_ rfl rfl) rfl (d_ (o_ rfl ?_)))))
          exact met ⟨rfl, rfl, rfl, rfl, rfl, rfl, rfl, rfl, rfl, rfl, rfl, rfl, rfl, rfl, rfl, rfl, rfl, rfl, rfl, rfl, rfl, rfl, rfl, rfl, rfl, rfl, rfl, rfl, rfl, rfl, rfl, rfl, rfl, rfl, rfl, (y_ rfl (jot qr44)), trivial⟩
        ·
         refine d_ (c_ rfl ?_)
         cases r44
         ·
          simp at hr44
          try dsimp only [Con.kind, Con.parts, Con.name, Con.lo, Con.hi, Con.cap, Con.ad] at hr44
          refine r_ rfl (D_ (c_ rfl (f_ (b_ (a_ (e_ rfl) rfl (d_ (c_ rfl (B_ ?_))))))))
          exact aj_ Z_ () (az_ rfl (by unfold Ax.check; simp only [hus]; simp_all)) (.refl _) (fun _ _ _ => trivial)
         ·
          simp at hr44
          try dsimp only [Con.kind, Con.parts, Con.name, Con.lo, Con.hi, Con.cap, Con.ad] at hr44
          refine p_ rfl (f_ (b_ (a_ (e_ rfl) rfl (d_ (c_ rfl (B_ ?_))))))
          exact aj_ Z_ () (az_ rfl (by unfold Ax.check; simp only [hus]; simp_all)) (.refl _) (fun _ _ _ => trivial)
      ·
       replace hr35 := bz_ hr35
       try dsimp only [Con.kind, Con.parts, Con.name, Con.lo, Con.hi, Con.cap, Con.ad] at hr35
       refine p_ rfl (f_ (b_ (a_ (g_ rfl) rfl (a_ (e_ rfl) rfl (d_ (c_ rfl (B_ ?_)))))))
       exact aj_ Z_ () (az_ rfl (by unfold Ax.check; simp only [hus]; simp_all)) (.refl _) (fun _ _ _ => trivial)
    ·
     replace hr24 := bz_ hr24
     try dsimp only [Con.kind, Con.parts, Con.name, Con.lo, Con.hi, Con.cap, Con.ad] at hr24
     refine p_ rfl (f_ (b_ (a_ (g_ rfl) rfl (a_ (e_ rfl) rfl (d_ (c_ rfl (B_ ?_)))))))
     exact aj_ Z_ () (az_ rfl (by unfold Ax.check; simp only [hus]; simp_all)) (.refl _) (fun _ _ _ => trivial)
end Go.Proofs.YtoafjmalfclpoaaGreatDoor
