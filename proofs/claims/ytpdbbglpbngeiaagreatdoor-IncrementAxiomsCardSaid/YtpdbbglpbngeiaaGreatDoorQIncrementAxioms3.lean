/-
  Part of the proof of the law IncrementAxioms over this seat: the small logic, the data, the contracts of functions (no condition).
-/
import Derived.Test.YtpdbbglpbngeiaaGreatDoorQIncrementAxioms2
import Derived.Test.YtpdbbglpbngeiaaGreatDoorQIncrementAxioms1
import Derived.Test.YtpdbbglpbngeiaaGreatDoorProg
set_option linter.unusedVariables false
set_option linter.unusedSimpArgs false
set_option linter.unusedSectionVars false
namespace Go.Proofs.YtpdbbglpbngeiaaGreatDoor
open Go Go.Sx Go.Proofs
attribute [local irreducible] Code.wp wpList wpAnyH
open Go.Vs
theorem kS_ (c : Con) : Fn0 Tryz.prog 175 #[c.val] (.bool c.empty) := by
 obtain ⟨k, nm, lo, hi, ad, cap, ps⟩ := c
 refine M_ Tryz.func175 rfl rfl Tryz.ntmps175 rfl fun v0 => ?_
 refine f_ (c_ (aF_ rfl rfl fun b1 => ?_))
 refine a_ (g_ rfl) rfl (d_ (b_ rfl (f_ (c_ (a_ (j_ K_ rfl rfl rfl H_) rfl (a_ (q_ 0 J_ rfl rfl rfl) rfl (x_ (aA_ rfl rfl) rfl fun r1 hr1 => ?_)))))))
 refine a_ (h_ rfl) rfl ?_
 refine aT_ 4 ((k == 0) && (nm == [])) (fun r => [(0, .agg #[.int .i64 k, str nm, .int .i64 lo, .int .i64 hi, .slice ad ps.length cap]), (1, zp_ b1 0), (2, .bool false), (10, .bool r)]) ?_ fun r2 hr2 => ?_
 ·
  cases r1
  ·
   have qr2 := hr1
   replace hr1 := ne_of_beq_false hr1
   try dsimp only [Con.kind, Con.parts, Con.name, Con.lo, Con.hi, Con.cap, Con.ad] at hr1
   refine t_ rfl rfl rfl rfl (t_ rfl rfl rfl rfl (t_ rfl rfl rfl rfl (a_ (N_ rfl rfl) rfl (d_ (r_ rfl ?_)))))
   exact met ⟨rfl, rfl, rfl, (E_ rfl (jaf qr2)), trivial⟩
  ·
   have qr2 := hr1
   replace hr1 := eq_of_beq hr1
   try dsimp only [Con.kind, Con.parts, Con.name, Con.lo, Con.hi, Con.cap, Con.ad] at hr1
   refine o_ rfl rfl (a_ (j_ K_ rfl rfl rfl s_) rfl (o_ rfl rfl (a_ (q_ 0 w_ rfl rfl rfl) rfl (o_ rfl rfl (x_ (bv_ rfl rfl) rfl fun r3 hr3 => ?_)))))
   refine a_ (R_ rfl rfl) rfl (d_ (r_ rfl ?_))
   exact met ⟨rfl, rfl, rfl, (E_ rfl (jat qr2 hr3)), trivial⟩
 ·
  refine a_ (h_ rfl) rfl ?_
  refine aT_ 4 ((((k == 0) && (nm == []))) && (lo == 0)) (fun r => [(0, .agg #[.int .i64 k, str nm, .int .i64 lo, .int .i64 hi, .slice ad ps.length cap]), (1, zp_ b1 0), (2, .bool false), (15, .bool r)]) ?_ fun r4 hr4 => ?_
  ·
   cases r2
   ·
    have qr4 := hr2
    simp at hr2
    try dsimp only [Con.kind, Con.parts, Con.name, Con.lo, Con.hi, Con.cap, Con.ad] at hr2
    refine t_ rfl rfl rfl rfl (t_ rfl rfl rfl rfl (t_ rfl rfl rfl rfl (a_ (N_ rfl rfl) rfl (d_ (r_ rfl ?_)))))
    exact met ⟨rfl, rfl, rfl, (E_ rfl (jaf qr4)), trivial⟩
   ·
    have qr4 := hr2
    simp at hr2
    try dsimp only [Con.kind, Con.parts, Con.name, Con.lo, Con.hi, Con.cap, Con.ad] at hr2
    refine o_ rfl rfl (a_ (j_ K_ rfl rfl rfl H_) rfl (o_ rfl rfl (a_ (q_ 0 J_ rfl rfl rfl) rfl (o_ rfl rfl (x_ (aA_ rfl rfl) rfl fun r5 hr5 => ?_)))))
    refine a_ (R_ rfl rfl) rfl (d_ (r_ rfl ?_))
    exact met ⟨rfl, rfl, rfl, (E_ rfl (jat qr4 hr5)), trivial⟩
  ·
   refine a_ (h_ rfl) rfl ?_
   refine aT_ 4 ((((((k == 0) && (nm == []))) && (lo == 0))) && (hi == 0)) (fun r => [(0, .agg #[.int .i64 k, str nm, .int .i64 lo, .int .i64 hi, .slice ad ps.length cap]), (1, zp_ b1 0), (2, .bool false), (20, .bool r)]) ?_ fun r6 hr6 => ?_
   ·
    cases r4
    ·
     have qr6 := hr4
     simp at hr4
     try dsimp only [Con.kind, Con.parts, Con.name, Con.lo, Con.hi, Con.cap, Con.ad] at hr4
     refine t_ rfl rfl rfl rfl (t_ rfl rfl rfl rfl (t_ rfl rfl rfl rfl (a_ (N_ rfl rfl) rfl (d_ (r_ rfl ?_)))))
     exact met ⟨rfl, rfl, rfl, (E_ rfl (jaf qr6)), trivial⟩
    ·
     have qr6 := hr4
     simp at hr4
     try dsimp only [Con.kind, Con.parts, Con.name, Con.lo, Con.hi, Con.cap, Con.ad] at hr4
     refine o_ rfl rfl (a_ (j_ K_ rfl rfl rfl H_) rfl (o_ rfl rfl (a_ (q_ 0 J_ rfl rfl rfl) rfl (o_ rfl rfl (x_ (aA_ rfl rfl) rfl fun r7 hr7 => ?_)))))
     refine a_ (R_ rfl rfl) rfl (d_ (r_ rfl ?_))
     exact met ⟨rfl, rfl, rfl, (E_ rfl (jat qr6 hr7)), trivial⟩
   ·
    refine a_ (h_ rfl) rfl ?_
    refine aT_ 5 ((((((((k == 0) && (nm == []))) && (lo == 0))) && (hi == 0))) && ((ps.length : Int) == 0)) (fun r => [(0, .agg #[.int .i64 k, str nm, .int .i64 lo, .int .i64 hi, .slice ad ps.length cap]), (2, .bool false), (26, .bool r)]) ?_ fun r8 hr8 => ?_
    ·
     cases r6
     ·
      have qr8 := hr6
      simp at hr6
      try dsimp only [Con.kind, Con.parts, Con.name, Con.lo, Con.hi, Con.cap, Con.ad] at hr6
      refine t_ rfl rfl rfl rfl (t_ rfl rfl rfl rfl (t_ rfl rfl rfl rfl (t_ rfl rfl rfl rfl (a_ (N_ rfl rfl) rfl (d_ (r_ rfl ?_))))))
      exact met ⟨rfl, rfl, (E_ rfl (jaf qr8)), trivial⟩
     ·
      have qr8 := hr6
      simp at hr6
      try dsimp only [Con.kind, Con.parts, Con.name, Con.lo, Con.hi, Con.cap, Con.ad] at hr6
      refine o_ rfl rfl (a_ (j_ K_ rfl rfl rfl bw_) rfl (o_ rfl rfl (a_ (q_ 0 bM_ rfl rfl rfl) rfl (o_ rfl rfl (a_ (ah_ av_ rfl) rfl (o_ rfl rfl (x_ (aA_ rfl rfl) rfl fun r9 hr9 => ?_)))))))
      refine a_ (R_ rfl rfl) rfl (d_ (r_ rfl ?_))
      exact met ⟨rfl, rfl, (E_ rfl (jat qr8 hr9)), trivial⟩
    ·
     refine a_ (g_ rfl) rfl (d_ (b_ rfl (B_ ?_)))
     exact as_ Tryz.results175 () (E_ rfl hr8.symm) (.refl _) (fun _ _ _ => trivial)
theorem lB_ {g : FuncId} {pred : Con → Bool} (c : Con) (hok : c.ok) (hT : ∀ p ∈ c.parts, Tri Tryz.prog g #[p.val] [] [p.memF] (fun _ : Unit => .bool (pred p)) (fun _ => []) (fun _ => [])) :
    Tri Tryz.prog 202 #[.slice c.ad c.parts.length c.cap, .func (.func g) #[] #[]] [] [c.memF] (fun r : {r : Int // decide (0 ≤ r) = c.parts.any pred} => .int .i64 r.1) (fun _ => []) (fun _ => []) := by
  obtain ⟨k, nm, lo, hi, ad, cap, ps⟩ := c
  have hlen := Con.ok_len hok
  simp only [Con.parts, Con.cap] at hlen
  refine M_ Tryz.func202 rfl rfl Tryz.ntmps202 rfl fun v0 => ?_
  refine f_ (c_ (a_ (g_ rfl) rfl (d_ (b_ rfl (f_ (f_ (c_ (a_ (h_ rfl) rfl (a_ (ah_ av_ rfl) rfl ?_)))))))))
  refine a_ (h_ rfl) rfl (d_ (b_ rfl (S_ (bS_ [(0, .slice ad ps.length cap), (1, .func (.func g) #[] #[]), (7, .int .i64 (ps.length : Int)), (8, .int .i64 ((0 : Nat) : Int))] ⟨rfl, rfl, rfl, rfl, trivial⟩ ?_))))
  refine bY_ (ι := {q : Nat // q ≤ ps.length ∧ (ps.take q).any pred = false}) (fun i => [(0, .slice ad ps.length cap), (1, .func (.func g) #[] #[]), (7, .int .i64 (ps.length : Int)), (8, .int .i64 (i.1 : Int))]) (fun _ => _) (fun _ => _) (fun i => ps.length - i.1) ⟨0, by simp⟩ ?_
  rintro ⟨i, hk⟩
  refine bS_ [(0, .slice ad ps.length cap), (1, .func (.func g) #[] #[]), (7, .int .i64 (ps.length : Int)), (8, .int .i64 (i : Int))] ⟨rfl, rfl, rfl, rfl, trivial⟩ ?_
  refine f_ (c_ (x_ (az_ rfl rfl) rfl fun r1 hr1 => ?_))
  refine d_ (b_ rfl (f_ ?_))
  cases r1
  · skip
    replace hr1 := of_decide_eq_false hr1
    try dsimp only [Con.kind, Con.parts, Con.name, Con.lo, Con.hi, Con.cap, Con.ad] at hr1
    refine p_ rfl (aD_ rfl (b_ rfl (f_ (c_ (a_ (g_ rfl) rfl (d_ (b_ rfl (B_ ?_))))))))
    exact as_ Tryz.results202 ⟨-1, by have := hk.2; rw [List.take_of_length_le (by omega)] at this; show _ = ps.any pred; rw [this]; rfl⟩ rfl (.refl _) (fun _ _ _ => trivial)
  · skip
    replace hr1 := of_decide_eq_true hr1
    try dsimp only [Con.kind, Con.parts, Con.name, Con.lo, Con.hi, Con.cap, Con.ad] at hr1
    have hlt : i < ps.length := by omega
    obtain ⟨p, hp⟩ : ∃ p, ps[i]? = some p := ⟨_, List.getElem?_eq_getElem hlt⟩
    have hpm : p ∈ ps := List.mem_of_getElem? hp
    refine n_ rfl (A_ (b_ rfl (f_ (S_ (f_ (c_ (a_ (h_ rfl) rfl (a_ (g_ rfl) rfl (d_ ?_)))))))))
    refine b_ rfl (f_ (c_ (a_ (h_ rfl) rfl (a_ (h_ rfl) rfl (a_ (h_ rfl) rfl (a_ (ak_ av_ v_ rfl rfl (fun v _ h => aL_ (n := 5) Con.cells_len (by decide) (((Con.mem_iff (.mk k nm lo hi ad cap ps) v).1 h.1).1) hp) (by omega) (by first | omega | (simp only [Con.parts]; omega) | (simp [Con.parts]; done))) rfl (a_ (aE_ (ad := ad) (us := p.cells) T_ v_ rfl (fun v _ h => ((Con.mem_iff (.mk k nm lo hi ad cap ps) v).1 h.1).1) (Con.cells_len _) (an_ Con.cells_len hp)) rfl (ce_ (hT p hpm) rfl rfl (.refl _) (fun v _ h => by exact ⟨Con.mem_part (c := (.mk k nm lo hi ad cap ps)) h.1 hpm, trivial⟩) rfl fun r2 hr2 => ?_))))))))
    refine d_ (b_ rfl ?_)
    cases r2
    · skip
      try dsimp only [Con.kind, Con.parts, Con.name, Con.lo, Con.hi, Con.cap, Con.ad] at hr2
      refine p_ rfl (A_ (b_ rfl (c_ (a_ (V_ rfl rfl rfl (aq_ (by omega) (by omega))) rfl (a_ (h_ rfl) rfl (d_ (r_ rfl ?_)))))))
      exact ao_ ⟨i + 1, hlt, by rw [Con.take_snoc hp, List.any_append, hk.2]; simp [*]⟩ (by simp; omega) ⟨rfl, rfl, rfl, rfl, trivial⟩ (.refl _) (fun _ _ h => h)
    · skip
      try dsimp only [Con.kind, Con.parts, Con.name, Con.lo, Con.hi, Con.cap, Con.ad] at hr2
      refine n_ rfl (f_ (c_ (a_ (h_ rfl) rfl (a_ (g_ rfl) rfl (d_ (b_ rfl (B_ ?_)))))))
      exact as_ Tryz.results202 ⟨(i : Int), by show _ = ps.any pred; rw [show ps.any pred = true from List.any_eq_true.2 ⟨p, hpm, by assumption⟩]; exact decide_eq_true (by omega)⟩ rfl (.refl _) (fun _ _ _ => trivial)
theorem iW_ {g : FuncId} {pred : Con → Bool} (c : Con) (hok : c.ok) (hT : ∀ p ∈ c.parts, Tri Tryz.prog g #[p.val] [] [p.memF] (fun _ : Unit => .bool (pred p)) (fun _ => []) (fun _ => [])) :
    Tri Tryz.prog 180 #[.slice c.ad c.parts.length c.cap, .func (.func g) #[] #[]] [] [c.memF] (fun _ : Unit => .bool (c.parts.any pred)) (fun _ => []) (fun _ => []) := by
  obtain ⟨k, nm, lo, hi, ad, cap, ps⟩ := c
  refine M_ Tryz.func180 rfl rfl Tryz.ntmps180 rfl fun v0 => ?_
  refine f_ (c_ (a_ (g_ rfl) rfl (d_ (b_ rfl (f_ (c_ (a_ (h_ rfl) rfl (a_ (h_ rfl) rfl (Q_ (lB_ (.mk k nm lo hi ad cap ps) hok hT) rfl (.refl _) (fun v _ h => h) rfl fun x => ?_)))))))))
  refine x_ (dI_ rfl rfl) rfl fun r1 hr1 => ?_
  refine a_ (g_ rfl) rfl (d_ (b_ rfl (B_ ?_)))
  exact as_ Tryz.results180 () (E_ rfl (hr1.symm.trans x.2)) (.refl _) (fun _ _ _ => trivial)
theorem cj_ : ∀ (m : Nat) (c : Con), c.sz ≤ m → c.ok → Tri Tryz.prog 136 #[c.val] [] [c.memF] (fun _ : Unit => .bool c.bare) (fun _ => []) (fun _ => []) := by
  intro m
  induction m with
  | zero => intro c h; have := c.sz_pos; omega
  | succ m ih =>
    intro c hm hok
    obtain ⟨k, nm, lo, hi, ad, cap, ps⟩ := c
    refine M_ Tryz.func136 rfl rfl Tryz.ntmps136 rfl fun v0 => ?_
    refine f_ (c_ (aF_ rfl rfl fun b1 => ?_))
    refine a_ (g_ rfl) rfl (d_ (b_ rfl (f_ (f_ (c_ (a_ (j_ K_ rfl rfl rfl H_) rfl (a_ (q_ 0 J_ rfl rfl rfl) rfl (d_ (b_ rfl ?_)))))))))
    refine S_ (f_ (c_ (x_ (aA_ rfl rfl) rfl fun r1 hr1 => ?_)))
    refine a_ (g_ rfl) rfl (d_ (b_ rfl ?_))
    cases r1
    · skip
      replace hr1 := ne_of_beq_false hr1
      try dsimp only [Con.kind, Con.parts, Con.name, Con.lo, Con.hi, Con.cap, Con.ad] at hr1
      refine p_ rfl (f_ (c_ (x_ (aA_ rfl rfl) rfl fun r2 hr2 => ?_)))
      refine a_ (g_ rfl) rfl (d_ (b_ rfl ?_))
      cases r2
      · skip
        replace hr2 := ne_of_beq_false hr2
        try dsimp only [Con.kind, Con.parts, Con.name, Con.lo, Con.hi, Con.cap, Con.ad] at hr2
        refine p_ rfl (A_ (b_ rfl (f_ (c_ (a_ (g_ rfl) rfl (d_ (b_ rfl (B_ ?_))))))))
        exact as_ Tryz.results136 () (E_ rfl (by rw [Con.bare_eq]; simp only [Con.kind, Con.parts] at *; simp [*])) (.refl _) (fun _ _ _ => trivial)
      · skip
        replace hr2 := eq_of_beq hr2
        try dsimp only [Con.kind, Con.parts, Con.name, Con.lo, Con.hi, Con.cap, Con.ad] at hr2
        refine n_ rfl (f_ (c_ (a_ (j_ K_ rfl rfl rfl bw_) rfl (a_ (q_ 0 bM_ rfl rfl rfl) rfl (ax_ (iW_ (pred := Con.bare) (.mk k nm lo hi ad cap ps) hok (fun p hp => ih p (by have := Con.sz_part (c := (.mk k nm lo hi ad cap ps)) hp; omega) (Con.ok_part (c := (.mk k nm lo hi ad cap ps)) hok hp))) rfl (.refl _) (fun v _ h => h) rfl fun r3 hr3 => ?_)))))
        refine a_ (g_ rfl) rfl (d_ (b_ rfl (B_ ?_)))
        exact as_ Tryz.results136 () (E_ rfl (by rw [Con.bare_eq]; simp only [Con.kind, Con.parts] at *; simp [*])) (.refl _) (fun _ _ _ => trivial)
    · skip
      replace hr1 := eq_of_beq hr1
      try dsimp only [Con.kind, Con.parts, Con.name, Con.lo, Con.hi, Con.cap, Con.ad] at hr1
      refine n_ rfl (f_ (c_ (a_ (g_ rfl) rfl (d_ (b_ rfl (B_ ?_))))))
      exact as_ Tryz.results136 () (E_ rfl (by rw [Con.bare_eq]; simp only [Con.kind, Con.parts] at *; simp [*])) (.refl _) (fun _ _ _ => trivial)
theorem nT_ (x : Ax) : Tri Tryz.prog 133 #[x.val] [] [dB_] (fun _ : Unit => .bool x.shaped) (fun _ => []) (fun _ => []) := by
 obtain ⟨k, op, ⟨kl, nl, ll, hl, al, cl, pl⟩, ⟨kr, nr, lr, hr, ar, cr, pr⟩, ad, cap, rs, ro, a, b⟩ := x
 refine M_ Tryz.func133 rfl rfl Tryz.ntmps133 rfl fun v0 => ?_
 refine f_ (c_ (aF_ rfl rfl fun b1 => ?_))
 refine a_ (g_ rfl) rfl (d_ (b_ rfl (f_ (f_ (c_ (a_ (j_ y_ rfl rfl rfl H_) rfl (a_ (q_ 0 J_ rfl rfl rfl) rfl (x_ (az_ rfl rfl) rfl fun r1 hr1 => ?_))))))))
 refine a_ (h_ rfl) rfl ?_
 refine aT_ 4 ((decide (k < 1)) || (decide (9 < k))) (fun r => [(0, .agg #[.int .i64 k, .bool op, .int .i64 kl, str nl, .int .i64 ll, .int .i64 hl, .slice al pl.length cl, .int .i64 kr, str nr, .int .i64 lr, .int .i64 hr, .slice ar pr.length cr, .slice ad rs.length cap, str ro, str a, str b]), (1, zp_ b1 0), (2, .bool false), (11, .bool r)]) ?_ fun r2 hr2 => ?_
 ·
  cases r1
  ·
   have qr2 := hr1
   replace hr1 := of_decide_eq_false hr1
   try dsimp only [Con.kind, Con.parts, Con.name, Con.lo, Con.hi, Con.cap, Con.ad] at hr1
   refine o_ rfl rfl (a_ (j_ y_ rfl rfl rfl H_) rfl (o_ rfl rfl (a_ (q_ 0 J_ rfl rfl rfl) rfl (o_ rfl rfl (x_ (bK_ rfl rfl) rfl fun r3 hr3 => ?_)))))
   refine a_ (N_ rfl rfl) rfl (d_ (r_ rfl ?_))
   exact met ⟨rfl, rfl, rfl, (E_ rfl (jof qr2 hr3)), trivial⟩
  ·
   have qr2 := hr1
   replace hr1 := of_decide_eq_true hr1
   try dsimp only [Con.kind, Con.parts, Con.name, Con.lo, Con.hi, Con.cap, Con.ad] at hr1
   refine t_ rfl rfl rfl rfl (t_ rfl rfl rfl rfl (t_ rfl rfl rfl rfl (a_ (R_ rfl rfl) rfl (d_ (r_ rfl ?_)))))
   exact met ⟨rfl, rfl, rfl, (E_ rfl (jot qr2)), trivial⟩
 ·
  refine d_ (b_ rfl ?_)
  cases r2
  ·
   simp at hr2
   try dsimp only [Con.kind, Con.parts, Con.name, Con.lo, Con.hi, Con.cap, Con.ad] at hr2
   obtain ⟨u, hx⟩ : ∃ u, pZ_[k.toNat]? = some u := ⟨_, List.getElem?_eq_getElem (show k.toNat < 10 by omega)⟩
   have hus : us k = u := by simp [us, hx]
   obtain ⟨ul, ur, uo, ua, ub, um, un⟩ := u
   refine p_ rfl (A_ (b_ rfl (f_ (c_ (a_ (j_ y_ rfl rfl rfl H_) rfl (a_ (q_ 0 J_ rfl rfl rfl) rfl (a_ (ei_ Tryz.runUnderlying161 gH_ rfl rfl (by show (0 : Int) ≤ k; omega) (by show k < (10 : Int); omega)) rfl (a_ (aE_ (ad := some ⟨1, 0, none⟩) (us := Use.cells ⟨ul, ur, uo, ua, ub, um, un⟩) Tryz.isAgg160 gH_ rfl (fun v _ h => h.1.2.1) (Use.cells_len _) (an_ Use.cells_len hx)) rfl (al_ Tryz.zeroValue160 rfl fun b2 => ?_)))))))))
   refine Z_ 0 gH_ rfl rfl rfl rfl rfl rfl (d_ (b_ rfl (f_ (c_ (a_ (j_ bA_ rfl rfl rfl br_) rfl (a_ (q_ 0 bE_ rfl rfl rfl) rfl (a_ (h_ rfl) rfl ?_)))))))
   refine aT_ 4 ((ul) || (Con.empty (.mk kl nl ll hl al cl pl))) (fun r => [(0, .agg #[.int .i64 k, .bool op, .int .i64 kl, str nl, .int .i64 ll, .int .i64 hl, .slice al pl.length cl, .int .i64 kr, str nr, .int .i64 lr, .int .i64 hr, .slice ar pr.length cr, .slice ad rs.length cap, str ro, str a, str b]), (1, zp_ b1 0), (2, .bool false), (11, .bool false), (12, zp_ b1 0), (13, .int .i64 k), (14, .pointer (some (rad (some ⟨1, 0, none⟩) (k.toNat * 7)))), (15, .agg #[.bool ul, .bool ur, .bool uo, .bool ua, .bool ub, .int .i64 um, .int .i64 un]), (3, zp_ b2 0), (22, .bool r)]) ?_ fun r4 hr4 => ?_
   ·
    cases ul
    ·
     try dsimp only [Con.kind, Con.parts, Con.name, Con.lo, Con.hi, Con.cap, Con.ad] at hul
     refine o_ rfl rfl (a_ (j_ y_ rfl rfl rfl v_) rfl (o_ rfl rfl (a_ (L_ 1 T_ v_ rfl rfl rfl) rfl (o_ rfl rfl (ax_ (kS_ (.mk kl nl ll hl al cl pl)) rfl (.refl _) (fun _ _ _ => trivial) rfl fun r5 hr5 => ?_)))))
     refine a_ (N_ rfl rfl) rfl (d_ (r_ rfl ?_))
     exact met ⟨rfl, rfl, rfl, rfl, rfl, rfl, rfl, rfl, rfl, (E_ rfl (jof rfl hr5)), trivial⟩
    ·
     try dsimp only [Con.kind, Con.parts, Con.name, Con.lo, Con.hi, Con.cap, Con.ad] at hul
     refine t_ rfl rfl rfl rfl (t_ rfl rfl rfl rfl (t_ rfl rfl rfl rfl (a_ (R_ rfl rfl) rfl (d_ (r_ rfl ?_)))))
     exact met ⟨rfl, rfl, rfl, rfl, rfl, rfl, rfl, rfl, rfl, (E_ rfl (jot rfl)), trivial⟩
   ·
    refine a_ (h_ rfl) rfl ?_
    refine aT_ 8 ((((ul) || (Con.empty (.mk kl nl ll hl al cl pl)))) && (((ur) || (Con.empty (.mk kr nr lr hr ar cr pr))))) (fun r => [(0, .agg #[.int .i64 k, .bool op, .int .i64 kl, str nl, .int .i64 ll, .int .i64 hl, .slice al pl.length cl, .int .i64 kr, str nr, .int .i64 lr, .int .i64 hr, .slice ar pr.length cr, .slice ad rs.length cap, str ro, str a, str b]), (1, zp_ b1 0), (2, .bool false), (11, .bool false), (12, zp_ b1 0), (13, .int .i64 k), (14, .pointer (some (rad (some ⟨1, 0, none⟩) (k.toNat * 7)))), (15, .agg #[.bool ul, .bool ur, .bool uo, .bool ua, .bool ub, .int .i64 um, .int .i64 un]), (3, zp_ b2 0), (31, .bool r)]) ?_ fun r6 hr6 => ?_
    ·
     cases r4
     ·
      have qr6 := hr4
      simp at hr4
      try dsimp only [Con.kind, Con.parts, Con.name, Con.lo, Con.hi, Con.cap, Con.ad] at hr4
      refine t_ rfl rfl rfl rfl (t_ rfl rfl rfl rfl (t_ rfl rfl rfl rfl (t_ rfl rfl rfl rfl (t_ rfl rfl rfl rfl (t_ rfl rfl rfl rfl (t_ rfl rfl rfl rfl (a_ (N_ rfl rfl) rfl (d_ (r_ rfl ?_)))))))))
      exact met ⟨rfl, rfl, rfl, rfl, rfl, rfl, rfl, rfl, rfl, (E_ rfl (jaf qr6)), trivial⟩
     ·
      have qr6 := hr4
      simp at hr4
      try dsimp only [Con.kind, Con.parts, Con.name, Con.lo, Con.hi, Con.cap, Con.ad] at hr4
      refine o_ rfl rfl (a_ (j_ bA_ rfl rfl rfl br_) rfl (o_ rfl rfl (a_ (q_ 0 bE_ rfl rfl rfl) rfl (o_ rfl rfl (a_ (h_ rfl) rfl ?_)))))
      refine aT_ 4 ((ur) || (Con.empty (.mk kr nr lr hr ar cr pr))) (fun r => [(0, .agg #[.int .i64 k, .bool op, .int .i64 kl, str nl, .int .i64 ll, .int .i64 hl, .slice al pl.length cl, .int .i64 kr, str nr, .int .i64 lr, .int .i64 hr, .slice ar pr.length cr, .slice ad rs.length cap, str ro, str a, str b]), (1, zp_ b1 0), (2, .bool false), (11, .bool false), (12, zp_ b1 0), (13, .int .i64 k), (14, .pointer (some (rad (some ⟨1, 0, none⟩) (k.toNat * 7)))), (15, .agg #[.bool ul, .bool ur, .bool uo, .bool ua, .bool ub, .int .i64 um, .int .i64 un]), (3, zp_ b2 0), (23, .bool true), (30, .bool r)]) ?_ fun r7 hr7 => ?_
      ·
       cases ur
       ·
        try dsimp only [Con.kind, Con.parts, Con.name, Con.lo, Con.hi, Con.cap, Con.ad] at hur
        refine o_ rfl rfl (a_ (j_ y_ rfl rfl rfl v_) rfl (o_ rfl rfl (a_ (L_ 1 T_ v_ rfl rfl rfl) rfl (o_ rfl rfl (ax_ (kS_ (.mk kr nr lr hr ar cr pr)) rfl (.refl _) (fun _ _ _ => trivial) rfl fun r8 hr8 => ?_)))))
        refine o_ rfl rfl (a_ (N_ rfl rfl) rfl (d_ (r_ rfl ?_)))
        exact met ⟨rfl, rfl, rfl, rfl, rfl, rfl, rfl, rfl, rfl, rfl, (E_ rfl (jof rfl hr8)), trivial⟩
       ·
        try dsimp only [Con.kind, Con.parts, Con.name, Con.lo, Con.hi, Con.cap, Con.ad] at hur
        refine t_ rfl rfl rfl rfl (t_ rfl rfl rfl rfl (t_ rfl rfl rfl rfl (o_ rfl rfl (a_ (R_ rfl rfl) rfl (d_ (r_ rfl ?_))))))
        exact met ⟨rfl, rfl, rfl, rfl, rfl, rfl, rfl, rfl, rfl, rfl, (E_ rfl (jot rfl)), trivial⟩
      ·
       refine a_ (R_ rfl rfl) rfl (d_ (r_ rfl ?_))
       exact met ⟨rfl, rfl, rfl, rfl, rfl, rfl, rfl, rfl, rfl, (E_ rfl (jat qr6 hr7)), trivial⟩
    ·
     refine a_ (h_ rfl) rfl ?_
     refine aT_ 8 ((((((ul) || (Con.empty (.mk kl nl ll hl al cl pl)))) && (((ur) || (Con.empty (.mk kr nr lr hr ar cr pr)))))) && (((uo) || (ro == [])))) (fun r => [(0, .agg #[.int .i64 k, .bool op, .int .i64 kl, str nl, .int .i64 ll, .int .i64 hl, .slice al pl.length cl, .int .i64 kr, str nr, .int .i64 lr, .int .i64 hr, .slice ar pr.length cr, .slice ad rs.length cap, str ro, str a, str b]), (1, zp_ b1 0), (2, .bool false), (11, .bool false), (12, zp_ b1 0), (13, .int .i64 k), (14, .pointer (some (rad (some ⟨1, 0, none⟩) (k.toNat * 7)))), (15, .agg #[.bool ul, .bool ur, .bool uo, .bool ua, .bool ub, .int .i64 um, .int .i64 un]), (3, zp_ b2 0), (40, .bool r)]) ?_ fun r9 hr9 => ?_
     ·
      cases r6
      ·
       have qr9 := hr6
       simp at hr6
       try dsimp only [Con.kind, Con.parts, Con.name, Con.lo, Con.hi, Con.cap, Con.ad] at hr6
       refine t_ rfl rfl rfl rfl (t_ rfl rfl rfl rfl (t_ rfl rfl rfl rfl (t_ rfl rfl rfl rfl (t_ rfl rfl rfl rfl (t_ rfl rfl rfl rfl (t_ rfl rfl rfl rfl (a_ (N_ rfl rfl) rfl (d_ (r_ rfl ?_)))))))))
       exact met ⟨rfl, rfl, rfl, rfl, rfl, rfl, rfl, rfl, rfl, (E_ rfl (jaf qr9)), trivial⟩
      ·
       have qr9 := hr6
       simp at hr6
       try dsimp only [Con.kind, Con.parts, Con.name, Con.lo, Con.hi, Con.cap, Con.ad] at hr6
       refine o_ rfl rfl (a_ (j_ bA_ rfl rfl rfl br_) rfl (o_ rfl rfl (a_ (q_ 0 bE_ rfl rfl rfl) rfl (o_ rfl rfl (a_ (h_ rfl) rfl ?_)))))
       refine aT_ 4 ((uo) || (ro == [])) (fun r => [(0, .agg #[.int .i64 k, .bool op, .int .i64 kl, str nl, .int .i64 ll, .int .i64 hl, .slice al pl.length cl, .int .i64 kr, str nr, .int .i64 lr, .int .i64 hr, .slice ar pr.length cr, .slice ad rs.length cap, str ro, str a, str b]), (1, zp_ b1 0), (2, .bool false), (11, .bool false), (12, zp_ b1 0), (13, .int .i64 k), (14, .pointer (some (rad (some ⟨1, 0, none⟩) (k.toNat * 7)))), (15, .agg #[.bool ul, .bool ur, .bool uo, .bool ua, .bool ub, .int .i64 um, .int .i64 un]), (3, zp_ b2 0), (32, .bool true), (39, .bool r)]) ?_ fun r10 hr10 => ?_
       ·
        cases uo
        ·
         try dsimp only [Con.kind, Con.parts, Con.name, Con.lo, Con.hi, Con.cap, Con.ad] at huo
         refine o_ rfl rfl (a_ (j_ y_ rfl rfl rfl s_) rfl (o_ rfl rfl (a_ (q_ 1 w_ rfl rfl rfl) rfl (o_ rfl rfl (x_ (bv_ rfl rfl) rfl fun r11 hr11 => ?_)))))
         refine o_ rfl rfl (a_ (N_ rfl rfl) rfl (d_ (r_ rfl ?_)))
         exact met ⟨rfl, rfl, rfl, rfl, rfl, rfl, rfl, rfl, rfl, rfl, (E_ rfl (jof rfl hr11)), trivial⟩
        ·
         try dsimp only [Con.kind, Con.parts, Con.name, Con.lo, Con.hi, Con.cap, Con.ad] at huo
         refine t_ rfl rfl rfl rfl (t_ rfl rfl rfl rfl (t_ rfl rfl rfl rfl (o_ rfl rfl (a_ (R_ rfl rfl) rfl (d_ (r_ rfl ?_))))))
         exact met ⟨rfl, rfl, rfl, rfl, rfl, rfl, rfl, rfl, rfl, rfl, (E_ rfl (jot rfl)), trivial⟩
       ·
        refine a_ (R_ rfl rfl) rfl (d_ (r_ rfl ?_))
        exact met ⟨rfl, rfl, rfl, rfl, rfl, rfl, rfl, rfl, rfl, (E_ rfl (jat qr9 hr10)), trivial⟩
     ·
      refine a_ (h_ rfl) rfl ?_
      refine aT_ 8 ((((((((ul) || (Con.empty (.mk kl nl ll hl al cl pl)))) && (((ur) || (Con.empty (.mk kr nr lr hr ar cr pr)))))) && (((uo) || (ro == []))))) && (((ua) || (a == [])))) (fun r => [(0, .agg #[.int .i64 k, .bool op, .int .i64 kl, str nl, .int .i64 ll, .int .i64 hl, .slice al pl.length cl, .int .i64 kr, str nr, .int .i64 lr, .int .i64 hr, .slice ar pr.length cr, .slice ad rs.length cap, str ro, str a, str b]), (1, zp_ b1 0), (2, .bool false), (11, .bool false), (12, zp_ b1 0), (13, .int .i64 k), (14, .pointer (some (rad (some ⟨1, 0, none⟩) (k.toNat * 7)))), (15, .agg #[.bool ul, .bool ur, .bool uo, .bool ua, .bool ub, .int .i64 um, .int .i64 un]), (3, zp_ b2 0), (49, .bool r)]) ?_ fun r12 hr12 => ?_
      ·
       cases r9
       ·
        have qr12 := hr9
        simp at hr9
        try dsimp only [Con.kind, Con.parts, Con.name, Con.lo, Con.hi, Con.cap, Con.ad] at hr9
        refine t_ rfl rfl rfl rfl (t_ rfl rfl rfl rfl (t_ rfl rfl rfl rfl (t_ rfl rfl rfl rfl (t_ rfl rfl rfl rfl (t_ rfl rfl rfl rfl (t_ rfl rfl rfl rfl (a_ (N_ rfl rfl) rfl (d_ (r_ rfl ?_)))))))))
        exact met ⟨rfl, rfl, rfl, rfl, rfl, rfl, rfl, rfl, rfl, (E_ rfl (jaf qr12)), trivial⟩
       ·
        have qr12 := hr9
        simp at hr9
        try dsimp only [Con.kind, Con.parts, Con.name, Con.lo, Con.hi, Con.cap, Con.ad] at hr9
        refine o_ rfl rfl (a_ (j_ bA_ rfl rfl rfl br_) rfl (o_ rfl rfl (a_ (q_ 0 bE_ rfl rfl rfl) rfl (o_ rfl rfl (a_ (h_ rfl) rfl ?_)))))
        refine aT_ 4 ((ua) || (a == [])) (fun r => [(0, .agg #[.int .i64 k, .bool op, .int .i64 kl, str nl, .int .i64 ll, .int .i64 hl, .slice al pl.length cl, .int .i64 kr, str nr, .int .i64 lr, .int .i64 hr, .slice ar pr.length cr, .slice ad rs.length cap, str ro, str a, str b]), (1, zp_ b1 0), (2, .bool false), (11, .bool false), (12, zp_ b1 0), (13, .int .i64 k), (14, .pointer (some (rad (some ⟨1, 0, none⟩) (k.toNat * 7)))), (15, .agg #[.bool ul, .bool ur, .bool uo, .bool ua, .bool ub, .int .i64 um, .int .i64 un]), (3, zp_ b2 0), (41, .bool true), (48, .bool r)]) ?_ fun r13 hr13 => ?_
        ·
         cases ua
         ·
          try dsimp only [Con.kind, Con.parts, Con.name, Con.lo, Con.hi, Con.cap, Con.ad] at hua
          refine o_ rfl rfl (a_ (j_ y_ rfl rfl rfl s_) rfl (o_ rfl rfl (a_ (q_ 1 w_ rfl rfl rfl) rfl (o_ rfl rfl (x_ (bv_ rfl rfl) rfl fun r14 hr14 => ?_)))))
          refine o_ rfl rfl (a_ (N_ rfl rfl) rfl (d_ (r_ rfl ?_)))
          exact met ⟨rfl, rfl, rfl, rfl, rfl, rfl, rfl, rfl, rfl, rfl, (E_ rfl (jof rfl hr14)), trivial⟩
         ·
          try dsimp only [Con.kind, Con.parts, Con.name, Con.lo, Con.hi, Con.cap, Con.ad] at hua
          refine t_ rfl rfl rfl rfl (t_ rfl rfl rfl rfl (t_ rfl rfl rfl rfl (o_ rfl rfl (a_ (R_ rfl rfl) rfl (d_ (r_ rfl ?_))))))
          exact met ⟨rfl, rfl, rfl, rfl, rfl, rfl, rfl, rfl, rfl, rfl, (E_ rfl (jot rfl)), trivial⟩
        ·
         refine a_ (R_ rfl rfl) rfl (d_ (r_ rfl ?_))
         exact met ⟨rfl, rfl, rfl, rfl, rfl, rfl, rfl, rfl, rfl, (E_ rfl (jat qr12 hr13)), trivial⟩
      ·
       refine a_ (h_ rfl) rfl ?_
       refine aT_ 8 ((((((((((ul) || (Con.empty (.mk kl nl ll hl al cl pl)))) && (((ur) || (Con.empty (.mk kr nr lr hr ar cr pr)))))) && (((uo) || (ro == []))))) && (((ua) || (a == []))))) && (((ub) || (b == [])))) (fun r => [(0, .agg #[.int .i64 k, .bool op, .int .i64 kl, str nl, .int .i64 ll, .int .i64 hl, .slice al pl.length cl, .int .i64 kr, str nr, .int .i64 lr, .int .i64 hr, .slice ar pr.length cr, .slice ad rs.length cap, str ro, str a, str b]), (1, zp_ b1 0), (2, .bool false), (11, .bool false), (12, zp_ b1 0), (13, .int .i64 k), (14, .pointer (some (rad (some ⟨1, 0, none⟩) (k.toNat * 7)))), (15, .agg #[.bool ul, .bool ur, .bool uo, .bool ua, .bool ub, .int .i64 um, .int .i64 un]), (3, zp_ b2 0), (58, .bool r)]) ?_ fun r15 hr15 => ?_
       ·
        cases r12
        ·
         have qr15 := hr12
         simp at hr12
         try dsimp only [Con.kind, Con.parts, Con.name, Con.lo, Con.hi, Con.cap, Con.ad] at hr12
         refine t_ rfl rfl rfl rfl (t_ rfl rfl rfl rfl (t_ rfl rfl rfl rfl (t_ rfl rfl rfl rfl (t_ rfl rfl rfl rfl (t_ rfl rfl rfl rfl (t_ rfl rfl rfl rfl (a_ (N_ rfl rfl) rfl (d_ (r_ rfl ?_)))))))))
         exact met ⟨rfl, rfl, rfl, rfl, rfl, rfl, rfl, rfl, rfl, (E_ rfl (jaf qr15)), trivial⟩
        ·
         have qr15 := hr12
         simp at hr12
         try dsimp only [Con.kind, Con.parts, Con.name, Con.lo, Con.hi, Con.cap, Con.ad] at hr12
         refine o_ rfl rfl (a_ (j_ bA_ rfl rfl rfl br_) rfl (o_ rfl rfl (a_ (q_ 0 bE_ rfl rfl rfl) rfl (o_ rfl rfl (a_ (h_ rfl) rfl ?_)))))
         refine aT_ 4 ((ub) || (b == [])) (fun r => [(0, .agg #[.int .i64 k, .bool op, .int .i64 kl, str nl, .int .i64 ll, .int .i64 hl, .slice al pl.length cl, .int .i64 kr, str nr, .int .i64 lr, .int .i64 hr, .slice ar pr.length cr, .slice ad rs.length cap, str ro, str a, str b]), (1, zp_ b1 0), (2, .bool false), (11, .bool false), (12, zp_ b1 0), (13, .int .i64 k), (14, .pointer (some (rad (some ⟨1, 0, none⟩) (k.toNat * 7)))), (15, .agg #[.bool ul, .bool ur, .bool uo, .bool ua, .bool ub, .int .i64 um, .int .i64 un]), (3, zp_ b2 0), (50, .bool true), (57, .bool r)]) ?_ fun r16 hr16 => ?_
         ·
          cases ub
          ·
           try dsimp only [Con.kind, Con.parts, Con.name, Con.lo, Con.hi, Con.cap, Con.ad] at hub
           refine o_ rfl rfl (a_ (j_ y_ rfl rfl rfl s_) rfl (o_ rfl rfl (a_ (q_ 1 w_ rfl rfl rfl) rfl (o_ rfl rfl (x_ (bv_ rfl rfl) rfl fun r17 hr17 => ?_)))))
           refine o_ rfl rfl (a_ (N_ rfl rfl) rfl (d_ (r_ rfl ?_)))
           exact met ⟨rfl, rfl, rfl, rfl, rfl, rfl, rfl, rfl, rfl, rfl, (E_ rfl (jof rfl hr17)), trivial⟩
          ·
           try dsimp only [Con.kind, Con.parts, Con.name, Con.lo, Con.hi, Con.cap, Con.ad] at hub
           refine t_ rfl rfl rfl rfl (t_ rfl rfl rfl rfl (t_ rfl rfl rfl rfl (o_ rfl rfl (a_ (R_ rfl rfl) rfl (d_ (r_ rfl ?_))))))
           exact met ⟨rfl, rfl, rfl, rfl, rfl, rfl, rfl, rfl, rfl, rfl, (E_ rfl (jot rfl)), trivial⟩
         ·
          refine a_ (R_ rfl rfl) rfl (d_ (r_ rfl ?_))
          exact met ⟨rfl, rfl, rfl, rfl, rfl, rfl, rfl, rfl, rfl, (E_ rfl (jat qr15 hr16)), trivial⟩
       ·
        refine a_ (h_ rfl) rfl ?_
        refine aT_ 7 ((((((((((((ul) || (Con.empty (.mk kl nl ll hl al cl pl)))) && (((ur) || (Con.empty (.mk kr nr lr hr ar cr pr)))))) && (((uo) || (ro == []))))) && (((ua) || (a == []))))) && (((ub) || (b == []))))) && (decide (um ≤ (rs.length : Int)))) (fun r => [(0, .agg #[.int .i64 k, .bool op, .int .i64 kl, str nl, .int .i64 ll, .int .i64 hl, .slice al pl.length cl, .int .i64 kr, str nr, .int .i64 lr, .int .i64 hr, .slice ar pr.length cr, .slice ad rs.length cap, str ro, str a, str b]), (1, zp_ b1 0), (2, .bool false), (11, .bool false), (12, zp_ b1 0), (13, .int .i64 k), (14, .pointer (some (rad (some ⟨1, 0, none⟩) (k.toNat * 7)))), (15, .agg #[.bool ul, .bool ur, .bool uo, .bool ua, .bool ub, .int .i64 um, .int .i64 un]), (3, zp_ b2 0), (66, .bool r)]) ?_ fun r18 hr18 => ?_
        ·
         cases r15
         ·
          have qr18 := hr15
          simp at hr15
          try dsimp only [Con.kind, Con.parts, Con.name, Con.lo, Con.hi, Con.cap, Con.ad] at hr15
          refine t_ rfl rfl rfl rfl (t_ rfl rfl rfl rfl (t_ rfl rfl rfl rfl (t_ rfl rfl rfl rfl (t_ rfl rfl rfl rfl (t_ rfl rfl rfl rfl (a_ (N_ rfl rfl) rfl (d_ (r_ rfl ?_))))))))
          exact met ⟨rfl, rfl, rfl, rfl, rfl, rfl, rfl, rfl, rfl, (E_ rfl (jaf qr18)), trivial⟩
         ·
          have qr18 := hr15
          simp at hr15
          try dsimp only [Con.kind, Con.parts, Con.name, Con.lo, Con.hi, Con.cap, Con.ad] at hr15
          refine o_ rfl rfl (a_ (j_ y_ rfl rfl rfl bJ_) rfl (o_ rfl rfl (a_ (q_ 1 cI_ rfl rfl rfl) rfl (o_ rfl rfl (a_ (ah_ P_ rfl) rfl (o_ rfl rfl (a_ (j_ bA_ rfl rfl rfl H_) rfl (o_ rfl rfl (a_ (q_ 0 J_ rfl rfl rfl) rfl ?_)))))))))
          refine o_ rfl rfl (x_ (dI_ rfl rfl) rfl fun r19 hr19 => ?_)
          refine a_ (R_ rfl rfl) rfl (d_ (r_ rfl ?_))
          exact met ⟨rfl, rfl, rfl, rfl, rfl, rfl, rfl, rfl, rfl, (E_ rfl (jat qr18 hr19)), trivial⟩
        ·
         refine a_ (h_ rfl) rfl ?_
         refine aT_ 7 ((((((((((((((ul) || (Con.empty (.mk kl nl ll hl al cl pl)))) && (((ur) || (Con.empty (.mk kr nr lr hr ar cr pr)))))) && (((uo) || (ro == []))))) && (((ua) || (a == []))))) && (((ub) || (b == []))))) && (decide (um ≤ (rs.length : Int))))) && (decide ((rs.length : Int) ≤ un))) (fun r => [(0, .agg #[.int .i64 k, .bool op, .int .i64 kl, str nl, .int .i64 ll, .int .i64 hl, .slice al pl.length cl, .int .i64 kr, str nr, .int .i64 lr, .int .i64 hr, .slice ar pr.length cr, .slice ad rs.length cap, str ro, str a, str b]), (1, zp_ b1 0), (2, .bool false), (11, .bool false), (12, zp_ b1 0), (13, .int .i64 k), (14, .pointer (some (rad (some ⟨1, 0, none⟩) (k.toNat * 7)))), (15, .agg #[.bool ul, .bool ur, .bool uo, .bool ua, .bool ub, .int .i64 um, .int .i64 un]), (3, zp_ b2 0), (74, .bool r)]) ?_ fun r20 hr20 => ?_
         ·
          cases r18
          ·
           have qr20 := hr18
           simp at hr18
           try dsimp only [Con.kind, Con.parts, Con.name, Con.lo, Con.hi, Con.cap, Con.ad] at hr18
           refine t_ rfl rfl rfl rfl (t_ rfl rfl rfl rfl (t_ rfl rfl rfl rfl (t_ rfl rfl rfl rfl (t_ rfl rfl rfl rfl (t_ rfl rfl rfl rfl (a_ (N_ rfl rfl) rfl (d_ (r_ rfl ?_))))))))
           exact met ⟨rfl, rfl, rfl, rfl, rfl, rfl, rfl, rfl, rfl, (E_ rfl (jaf qr20)), trivial⟩
          ·
           have qr20 := hr18
           simp at hr18
           try dsimp only [Con.kind, Con.parts, Con.name, Con.lo, Con.hi, Con.cap, Con.ad] at hr18
           refine o_ rfl rfl (a_ (j_ y_ rfl rfl rfl bJ_) rfl (o_ rfl rfl (a_ (q_ 1 cI_ rfl rfl rfl) rfl (o_ rfl rfl (a_ (ah_ P_ rfl) rfl (o_ rfl rfl (a_ (j_ bA_ rfl rfl rfl H_) rfl (o_ rfl rfl (a_ (q_ 0 J_ rfl rfl rfl) rfl ?_)))))))))
           refine o_ rfl rfl (x_ (cJ_ rfl rfl) rfl fun r21 hr21 => ?_)
           refine a_ (R_ rfl rfl) rfl (d_ (r_ rfl ?_))
           exact met ⟨rfl, rfl, rfl, rfl, rfl, rfl, rfl, rfl, rfl, (E_ rfl (jat qr20 hr21)), trivial⟩
         ·
          refine a_ (g_ rfl) rfl (d_ (b_ rfl (B_ ?_)))
          exact as_ Tryz.results133 () (E_ rfl (by unfold Ax.shaped; rw [if_neg (by simp only [not_or]; omega)]; simp only [hus]; exact hr20.symm)) (.refl _) (fun _ _ _ => trivial)
  ·
   simp at hr2
   try dsimp only [Con.kind, Con.parts, Con.name, Con.lo, Con.hi, Con.cap, Con.ad] at hr2
   refine n_ rfl (f_ (c_ (a_ (g_ rfl) rfl (d_ (b_ rfl (B_ ?_))))))
   exact as_ Tryz.results133 () (E_ rfl (by unfold Ax.shaped; rw [if_pos (by simpa using hr2)])) (.refl _) (fun _ _ _ => trivial)
theorem pn (s : Str) : (((if bi_ s then 0 else 20) : Int) != 0) = !bi_ s := by cases bi_ s <;> rfl
theorem pE_ (x : Ax) (hok : x.ok) (u : Use) : Tri Tryz.prog 134 #[x.val, .agg u.cells.toArray] [] [x.memF] (fun _ : Unit => .bool (x.namedU u)) (fun _ => []) (fun _ => []) := by
 obtain ⟨k, op, ⟨kl, nl, ll, hl, al, cl, pl⟩, ⟨kr, nr, lr, hr, ar, cr, pr⟩, ad, cap, rs, ro, a, b⟩ := x
 obtain ⟨ul, ur, uo, ua, ub, um, un⟩ := u
 have hlen := hok.len
 have hcap := hok.cap
 dsimp only at hlen hcap
 refine M_ Tryz.func134 rfl rfl Tryz.ntmps134 rfl fun v0 => ?_
 refine f_ (c_ (aF_ rfl rfl fun b1 => ?_))
 refine aF_ rfl rfl fun b2 => ?_
 refine a_ (g_ rfl) rfl (d_ (b_ rfl (f_ (f_ (c_ (a_ (j_ bA_ rfl rfl rfl br_) rfl (a_ (q_ 0 bE_ rfl rfl rfl) rfl (a_ (h_ rfl) rfl ?_))))))))
 refine aT_ 5 ((uo) && (!(bL_ ro))) (fun r => [(0, .agg #[.int .i64 k, .bool op, .int .i64 kl, str nl, .int .i64 ll, .int .i64 hl, .slice al pl.length cl, .int .i64 kr, str nr, .int .i64 lr, .int .i64 hr, .slice ar pr.length cr, .slice ad rs.length cap, str ro, str a, str b]), (1, .agg #[.bool ul, .bool ur, .bool uo, .bool ua, .bool ub, .int .i64 um, .int .i64 un]), (2, zp_ b1 0), (3, zp_ b2 0), (4, .bool false), (14, .bool r)]) ?_ fun r1 hr1 => ?_
 ·
  cases uo
  ·
   try dsimp only [Con.kind, Con.parts, Con.name, Con.lo, Con.hi, Con.cap, Con.ad] at huo
   refine t_ rfl rfl rfl rfl (t_ rfl rfl rfl rfl (t_ rfl rfl rfl rfl (t_ rfl rfl rfl rfl (a_ (N_ rfl rfl) rfl (d_ (r_ rfl ?_))))))
   exact met ⟨rfl, rfl, rfl, rfl, rfl, (E_ rfl (jaf rfl)), trivial⟩
  ·
   try dsimp only [Con.kind, Con.parts, Con.name, Con.lo, Con.hi, Con.cap, Con.ad] at huo
   refine o_ rfl rfl (a_ (j_ y_ rfl rfl rfl s_) rfl (o_ rfl rfl (a_ (q_ 1 w_ rfl rfl rfl) rfl (o_ rfl rfl (ax_ (fN_ _) rfl (.refl _) (fun _ _ _ => trivial) rfl fun r2 hr2 => ?_)))))
   refine o_ rfl rfl (a_ (bG_ rfl) rfl (a_ (R_ rfl rfl) rfl (d_ (r_ rfl ?_))))
   exact met ⟨rfl, rfl, rfl, rfl, rfl, (E_ rfl (jat rfl (jn hr2))), trivial⟩
 ·
  refine a_ (h_ rfl) rfl ?_
  refine aT_ 9 ((((uo) && (!(bL_ ro)))) || (((ua) && (((if bi_ a then 0 else 20) : Int) != 0)))) (fun r => [(0, .agg #[.int .i64 k, .bool op, .int .i64 kl, str nl, .int .i64 ll, .int .i64 hl, .slice al pl.length cl, .int .i64 kr, str nr, .int .i64 lr, .int .i64 hr, .slice ar pr.length cr, .slice ad rs.length cap, str ro, str a, str b]), (1, .agg #[.bool ul, .bool ur, .bool uo, .bool ua, .bool ub, .int .i64 um, .int .i64 un]), (2, zp_ b1 0), (3, zp_ b2 0), (4, .bool false), (24, .bool r)]) ?_ fun r3 hr3 => ?_
  ·
   cases r1
   ·
    have qr3 := hr1
    try dsimp only [Con.kind, Con.parts, Con.name, Con.lo, Con.hi, Con.cap, Con.ad] at hr1
    refine o_ rfl rfl (a_ (j_ bA_ rfl rfl rfl br_) rfl (o_ rfl rfl (a_ (q_ 0 bE_ rfl rfl rfl) rfl (o_ rfl rfl (a_ (h_ rfl) rfl ?_)))))
    refine aT_ 5 ((ua) && (((if bi_ a then 0 else 20) : Int) != 0)) (fun r => [(0, .agg #[.int .i64 k, .bool op, .int .i64 kl, str nl, .int .i64 ll, .int .i64 hl, .slice al pl.length cl, .int .i64 kr, str nr, .int .i64 lr, .int .i64 hr, .slice ar pr.length cr, .slice ad rs.length cap, str ro, str a, str b]), (1, .agg #[.bool ul, .bool ur, .bool uo, .bool ua, .bool ub, .int .i64 um, .int .i64 un]), (2, zp_ b1 0), (3, zp_ b2 0), (4, .bool false), (15, .bool false), (23, .bool r)]) ?_ fun r4 hr4 => ?_
    ·
     cases ua
     ·
      try dsimp only [Con.kind, Con.parts, Con.name, Con.lo, Con.hi, Con.cap, Con.ad] at hua
      refine t_ rfl rfl rfl rfl (t_ rfl rfl rfl rfl (t_ rfl rfl rfl rfl (t_ rfl rfl rfl rfl (o_ rfl rfl (a_ (N_ rfl rfl) rfl (d_ (r_ rfl ?_)))))))
      exact met ⟨rfl, rfl, rfl, rfl, rfl, rfl, (E_ rfl (jaf rfl)), trivial⟩
     ·
      try dsimp only [Con.kind, Con.parts, Con.name, Con.lo, Con.hi, Con.cap, Con.ad] at hua
      refine o_ rfl rfl (a_ (j_ y_ rfl rfl rfl s_) rfl (o_ rfl rfl (a_ (q_ 1 w_ rfl rfl rfl) rfl (o_ rfl rfl (Q_ (gV_ _ hok.a) rfl (.refl _) (fun _ _ _ => trivial) rfl fun _ => ?_)))))
      refine o_ rfl rfl (x_ (bR_ rfl rfl) rfl fun r5 hr5 => ?_)
      refine o_ rfl rfl (a_ (R_ rfl rfl) rfl (d_ (r_ rfl ?_)))
      exact met ⟨rfl, rfl, rfl, rfl, rfl, rfl, (E_ rfl (jat rfl hr5)), trivial⟩
    ·
     refine a_ (N_ rfl rfl) rfl (d_ (r_ rfl ?_))
     exact met ⟨rfl, rfl, rfl, rfl, rfl, (E_ rfl (jof qr3 hr4)), trivial⟩
   ·
    have qr3 := hr1
    try dsimp only [Con.kind, Con.parts, Con.name, Con.lo, Con.hi, Con.cap, Con.ad] at hr1
    refine t_ rfl rfl rfl rfl (t_ rfl rfl rfl rfl (t_ rfl rfl rfl rfl (t_ rfl rfl rfl rfl (t_ rfl rfl rfl rfl (t_ rfl rfl rfl rfl (t_ rfl rfl rfl rfl (t_ rfl rfl rfl rfl (a_ (R_ rfl rfl) rfl (d_ ?_)))))))))
    refine r_ rfl ?_
    exact met ⟨rfl, rfl, rfl, rfl, rfl, (E_ rfl (jot qr3)), trivial⟩
  ·
   refine a_ (h_ rfl) rfl ?_
   refine aT_ 9 ((((((uo) && (!(bL_ ro)))) || (((ua) && (((if bi_ a then 0 else 20) : Int) != 0))))) || (((ub) && (((if bi_ b then 0 else 20) : Int) != 0)))) (fun r => [(0, .agg #[.int .i64 k, .bool op, .int .i64 kl, str nl, .int .i64 ll, .int .i64 hl, .slice al pl.length cl, .int .i64 kr, str nr, .int .i64 lr, .int .i64 hr, .slice ar pr.length cr, .slice ad rs.length cap, str ro, str a, str b]), (1, .agg #[.bool ul, .bool ur, .bool uo, .bool ua, .bool ub, .int .i64 um, .int .i64 un]), (2, zp_ b1 0), (4, .bool false), (34, .bool r)]) ?_ fun r6 hr6 => ?_
   ·
    cases r3
    ·
     have qr6 := hr3
     try dsimp only [Con.kind, Con.parts, Con.name, Con.lo, Con.hi, Con.cap, Con.ad] at hr3
     refine o_ rfl rfl (a_ (j_ bA_ rfl rfl rfl br_) rfl (o_ rfl rfl (a_ (q_ 0 bE_ rfl rfl rfl) rfl (o_ rfl rfl (a_ (h_ rfl) rfl ?_)))))
     refine aT_ 5 ((ub) && (((if bi_ b then 0 else 20) : Int) != 0)) (fun r => [(0, .agg #[.int .i64 k, .bool op, .int .i64 kl, str nl, .int .i64 ll, .int .i64 hl, .slice al pl.length cl, .int .i64 kr, str nr, .int .i64 lr, .int .i64 hr, .slice ar pr.length cr, .slice ad rs.length cap, str ro, str a, str b]), (1, .agg #[.bool ul, .bool ur, .bool uo, .bool ua, .bool ub, .int .i64 um, .int .i64 un]), (2, zp_ b1 0), (4, .bool false), (25, .bool false), (33, .bool r)]) ?_ fun r7 hr7 => ?_
     ·
      cases ub
      ·
       try dsimp only [Con.kind, Con.parts, Con.name, Con.lo, Con.hi, Con.cap, Con.ad] at hub
       refine t_ rfl rfl rfl rfl (t_ rfl rfl rfl rfl (t_ rfl rfl rfl rfl (t_ rfl rfl rfl rfl (o_ rfl rfl (a_ (N_ rfl rfl) rfl (d_ (r_ rfl ?_)))))))
       exact met ⟨rfl, rfl, rfl, rfl, rfl, (E_ rfl (jaf rfl)), trivial⟩
      ·
       try dsimp only [Con.kind, Con.parts, Con.name, Con.lo, Con.hi, Con.cap, Con.ad] at hub
       refine o_ rfl rfl (a_ (j_ y_ rfl rfl rfl s_) rfl (o_ rfl rfl (a_ (q_ 1 w_ rfl rfl rfl) rfl (o_ rfl rfl (Q_ (gV_ _ hok.b) rfl (.refl _) (fun _ _ _ => trivial) rfl fun _ => ?_)))))
       refine o_ rfl rfl (x_ (bR_ rfl rfl) rfl fun r8 hr8 => ?_)
       refine o_ rfl rfl (a_ (R_ rfl rfl) rfl (d_ (r_ rfl ?_)))
       exact met ⟨rfl, rfl, rfl, rfl, rfl, (E_ rfl (jat rfl hr8)), trivial⟩
     ·
      refine a_ (N_ rfl rfl) rfl (d_ (r_ rfl ?_))
      exact met ⟨rfl, rfl, rfl, rfl, (E_ rfl (jof qr6 hr7)), trivial⟩
    ·
     have qr6 := hr3
     try dsimp only [Con.kind, Con.parts, Con.name, Con.lo, Con.hi, Con.cap, Con.ad] at hr3
     refine t_ rfl rfl rfl rfl (t_ rfl rfl rfl rfl (t_ rfl rfl rfl rfl (t_ rfl rfl rfl rfl (t_ rfl rfl rfl rfl (t_ rfl rfl rfl rfl (t_ rfl rfl rfl rfl (t_ rfl rfl rfl rfl (a_ (R_ rfl rfl) rfl (d_ ?_)))))))))
     refine r_ rfl ?_
     exact met ⟨rfl, rfl, rfl, rfl, (E_ rfl (jot qr6)), trivial⟩
   ·
    refine d_ (b_ rfl ?_)
    cases r6
    ·
     try dsimp only [Con.kind, Con.parts, Con.name, Con.lo, Con.hi, Con.cap, Con.ad] at hr6
     refine p_ rfl (A_ (b_ rfl (f_ (f_ (c_ (a_ (j_ y_ rfl rfl rfl bJ_) rfl (a_ (q_ 1 cI_ rfl rfl rfl) rfl (a_ (ah_ P_ rfl) rfl (a_ (h_ rfl) rfl ?_)))))))))
     refine d_ (b_ rfl (S_ (bS_ [(36, .slice ad rs.length cap), (37, .int .i64 (rs.length : Int)), (38, .int .i64 ((0 : Nat) : Int))] ⟨rfl, rfl, rfl, trivial⟩ ?_)))
     refine bY_ (ι := {q : Nat // q ≤ rs.length ∧ (rs.take q).all bL_ = true}) (fun i => [(36, .slice ad rs.length cap), (37, .int .i64 (rs.length : Int)), (38, .int .i64 (i.1 : Int))]) (fun _ => _) (fun _ => _) (fun i => rs.length - i.1) ⟨0, by simp⟩ ?_
     rintro ⟨i, hk⟩
     refine bS_ [(36, .slice ad rs.length cap), (37, .int .i64 (rs.length : Int)), (38, .int .i64 (i : Int))] ⟨rfl, rfl, rfl, trivial⟩ ?_
     refine f_ (c_ (x_ (az_ rfl rfl) rfl fun r9 hr9 => ?_))
     refine d_ (b_ rfl (f_ ?_))
     cases r9
     ·
      replace hr9 := of_decide_eq_false hr9
      try dsimp only [Con.kind, Con.parts, Con.name, Con.lo, Con.hi, Con.cap, Con.ad] at hr9
      refine p_ rfl (aD_ rfl (b_ rfl (f_ (c_ (a_ (g_ rfl) rfl (d_ (b_ rfl (B_ ?_))))))))
      exact as_ Tryz.results134 () (E_ rfl (by have hf : rs.all bL_ = true := (by have := hk.2; rwa [List.take_of_length_le (by omega)] at this); unfold Ax.namedU; simp only [pn] at hr6; simp only [hf, hr6]; rfl)) (.refl _) (fun _ _ _ => trivial)
     ·
      replace hr9 := of_decide_eq_true hr9
      try dsimp only [Con.kind, Con.parts, Con.name, Con.lo, Con.hi, Con.cap, Con.ad] at hr9
      have hlt : i < rs.length := by omega
      obtain ⟨q, hp⟩ : ∃ q, rs[i]? = some q := ⟨_, List.getElem?_eq_getElem hlt⟩
      refine n_ rfl (A_ (b_ rfl (f_ (S_ (f_ (c_ (a_ (ak_ P_ s_ rfl rfl (fun v _ h => aL_ (n := 1) aX_ (by decide) (h.1.2.2) hp) (by omega) (by first | omega | (simp only [Con.parts]; omega) | (simp [Con.parts]; done))) rfl (a_ (bH_ (ad := ad) w_ rfl (fun v _ h => h.1.2.2) (an_ aX_ hp 0 _ rfl)) rfl (a_ (g_ rfl) rfl ?_)))))))))
      refine d_ (b_ rfl (f_ (c_ (a_ (h_ rfl) rfl (ax_ (fN_ _) rfl (.refl _) (fun _ _ _ => trivial) rfl fun r10 hr10 => ?_)))))
      refine a_ (bG_ rfl) rfl (d_ (b_ rfl ?_))
      cases r10
      ·
       try dsimp only [Con.kind, Con.parts, Con.name, Con.lo, Con.hi, Con.cap, Con.ad] at hr10
       refine n_ rfl (f_ (c_ (a_ (g_ rfl) rfl (d_ (b_ rfl (B_ ?_))))))
       exact as_ Tryz.results134 () (E_ rfl (by have hf : rs.all bL_ = false := List.all_eq_false.2 ⟨q, List.mem_of_getElem? hp, by simp [*]⟩; unfold Ax.namedU; simp only [hf, Bool.and_false])) (.refl _) (fun _ _ _ => trivial)
      ·
       try dsimp only [Con.kind, Con.parts, Con.name, Con.lo, Con.hi, Con.cap, Con.ad] at hr10
       refine p_ rfl (A_ (b_ rfl (c_ (a_ (V_ rfl rfl rfl (aq_ (by omega) (by omega))) rfl (a_ (h_ rfl) rfl (d_ (r_ rfl ?_)))))))
       exact ao_ ⟨i + 1, hlt, by rw [List.take_add_one, hp]; simp only [Option.toList_some, List.all_append, hk.2]; simp [*]⟩ (by simp; omega) ⟨rfl, rfl, rfl, trivial⟩ (.refl _) (fun _ _ h => h)
    ·
     try dsimp only [Con.kind, Con.parts, Con.name, Con.lo, Con.hi, Con.cap, Con.ad] at hr6
     refine n_ rfl (f_ (c_ (a_ (g_ rfl) rfl (d_ (b_ rfl (B_ ?_))))))
     exact as_ Tryz.results134 () (E_ rfl (by unfold Ax.namedU; simp only [pn] at hr6; simp only [hr6]; rfl)) (.refl _) (fun _ _ _ => trivial)
theorem Ax.shaped_kind {x : Ax} (h : x.shaped = true) : 1 ≤ x.kind ∧ x.kind ≤ 9 := by
  unfold Ax.shaped at h
  split at h
  · cases h
  · rename_i hh; simp only [not_or] at hh; omega
theorem lN_ (x : Ax) (hok : x.ok) : Tri Tryz.prog 92 #[x.val] [] [x.memF, dB_] (fun _ : Unit => .int .i64 x.check) (fun _ => []) (fun _ => []) := by
 obtain ⟨k, op, ⟨kl, nl, ll, hl, al, cl, pl⟩, ⟨kr, nr, lr, hr, ar, cr, pr⟩, ad, cap, rs, ro, a, b⟩ := x
 refine M_ Tryz.func92 rfl rfl Tryz.ntmps92 rfl fun v0 => ?_
 refine f_ (c_ (aF_ rfl rfl fun b1 => ?_))
 refine a_ (g_ rfl) rfl (d_ (b_ rfl (f_ (f_ (c_ (a_ (L_ 0 hG_ cV_ rfl rfl rfl) rfl (ax_ (nT_ ⟨k, op, (.mk kl nl ll hl al cl pl), (.mk kr nr lr hr ar cr pr), ad, cap, rs, ro, a, b⟩) rfl (.refl _) (fun v _ h => ⟨h.2.1, trivial⟩) rfl fun r1 hr1 => ?_)))))))
 refine a_ (bG_ rfl) rfl (d_ (b_ rfl ?_))
 cases r1
 ·
  try dsimp only [Con.kind, Con.parts, Con.name, Con.lo, Con.hi, Con.cap, Con.ad] at hr1
  refine n_ rfl (f_ (c_ (a_ (g_ rfl) rfl (d_ (b_ rfl (B_ ?_))))))
  exact as_ aw_ () (aJ_ rfl (by unfold Ax.check; simp_all)) (.refl _) (fun _ _ _ => trivial)
 ·
  try dsimp only [Con.kind, Con.parts, Con.name, Con.lo, Con.hi, Con.cap, Con.ad] at hr1
  have hk0 : 1 ≤ k ∧ k ≤ 9 := Ax.shaped_kind hr1
  obtain ⟨u, hx⟩ : ∃ u, pZ_[k.toNat]? = some u := ⟨_, List.getElem?_eq_getElem (show k.toNat < 10 by omega)⟩
  have hus : us k = u := by simp [us, hx]
  obtain ⟨ul, ur, uo, ua, ub, um, un⟩ := u
  refine p_ rfl (A_ (b_ rfl (f_ (c_ (a_ (j_ y_ rfl rfl rfl H_) rfl (a_ (q_ 0 J_ rfl rfl rfl) rfl (a_ (ei_ Tryz.runUnderlying161 gH_ rfl rfl (by show (0 : Int) ≤ k; omega) (by show k < (10 : Int); omega)) rfl (a_ (aE_ (ad := some ⟨1, 0, none⟩) (us := Use.cells ⟨ul, ur, uo, ua, ub, um, un⟩) Tryz.isAgg160 gH_ rfl (fun v _ h => h.2.1.2.1) (Use.cells_len _) (an_ Use.cells_len hx)) rfl (al_ Tryz.zeroValue160 rfl fun b2 => ?_)))))))))
  refine Z_ 0 gH_ rfl rfl rfl rfl rfl rfl (d_ (b_ rfl (f_ (f_ (c_ (a_ (L_ 1 hG_ cV_ rfl rfl rfl) rfl (a_ (L_ 0 Tryz.isAgg160 gH_ rfl rfl rfl) rfl (ax_ (pE_ ⟨k, op, (.mk kl nl ll hl al cl pl), (.mk kr nr lr hr ar cr pr), ad, cap, rs, ro, a, b⟩ hok ⟨ul, ur, uo, ua, ub, um, un⟩) rfl (.refl _) (fun v _ h => ⟨h.1, trivial⟩) rfl fun r2 hr2 => ?_))))))))
  refine a_ (bG_ rfl) rfl (d_ (b_ rfl ?_))
  cases r2
  ·
   try dsimp only [Con.kind, Con.parts, Con.name, Con.lo, Con.hi, Con.cap, Con.ad] at hr2
   refine n_ rfl (f_ (c_ (a_ (g_ rfl) rfl (d_ (b_ rfl (B_ ?_))))))
   exact as_ aw_ () (aJ_ rfl (by unfold Ax.check; simp only [hus]; simp_all)) (.refl _) (fun _ _ _ => trivial)
  ·
   try dsimp only [Con.kind, Con.parts, Con.name, Con.lo, Con.hi, Con.cap, Con.ad] at hr2
   refine p_ rfl (A_ (b_ rfl (f_ (f_ (c_ (a_ (j_ bA_ rfl rfl rfl br_) rfl (a_ (q_ 0 bE_ rfl rfl rfl) rfl (d_ (b_ rfl ?_)))))))))
   cases ul
   ·
    try dsimp only [Con.kind, Con.parts, Con.name, Con.lo, Con.hi, Con.cap, Con.ad] at hul
    refine p_ rfl (A_ (b_ rfl (f_ (f_ (c_ (a_ (j_ bA_ rfl rfl rfl br_) rfl (a_ (q_ 0 bE_ rfl rfl rfl) rfl (d_ (b_ rfl ?_)))))))))
    cases ur
    ·
     try dsimp only [Con.kind, Con.parts, Con.name, Con.lo, Con.hi, Con.cap, Con.ad] at hur
     refine p_ rfl (A_ (b_ rfl (f_ (f_ (c_ (a_ (j_ y_ rfl rfl rfl H_) rfl (a_ (q_ 1 J_ rfl rfl rfl) rfl (d_ (b_ rfl ?_)))))))))
     refine S_ (f_ (c_ (x_ (aA_ rfl rfl) rfl fun r3 hr3 => ?_)))
     refine a_ (g_ rfl) rfl (d_ (b_ rfl ?_))
     cases r3
     ·
      replace hr3 := ne_of_beq_false hr3
      try dsimp only [Con.kind, Con.parts, Con.name, Con.lo, Con.hi, Con.cap, Con.ad] at hr3
      refine p_ rfl (f_ (f_ (c_ (x_ (aA_ rfl rfl) rfl fun r4 hr4 => ?_))))
      refine a_ (g_ rfl) rfl (d_ (b_ rfl ?_))
      cases r4
      ·
       replace hr4 := ne_of_beq_false hr4
       try dsimp only [Con.kind, Con.parts, Con.name, Con.lo, Con.hi, Con.cap, Con.ad] at hr4
       refine p_ rfl (f_ (c_ (x_ (aA_ rfl rfl) rfl fun r5 hr5 => ?_)))
       refine a_ (g_ rfl) rfl (d_ (b_ rfl ?_))
       cases r5
       ·
        replace hr5 := ne_of_beq_false hr5
        try dsimp only [Con.kind, Con.parts, Con.name, Con.lo, Con.hi, Con.cap, Con.ad] at hr5
        refine p_ rfl (c_ (x_ (aA_ rfl rfl) rfl fun r6 hr6 => ?_))
        refine a_ (g_ rfl) rfl (d_ (b_ rfl ?_))
        cases r6
        ·
         replace hr6 := ne_of_beq_false hr6
         try dsimp only [Con.kind, Con.parts, Con.name, Con.lo, Con.hi, Con.cap, Con.ad] at hr6
         refine p_ rfl (A_ (b_ rfl (f_ (c_ (a_ (g_ rfl) rfl (d_ (b_ rfl (B_ ?_))))))))
         exact as_ aw_ () (aJ_ rfl (by unfold Ax.check; simp only [hus]; simp_all)) (.refl _) (fun _ _ _ => trivial)
        ·
         replace hr6 := eq_of_beq hr6
         try dsimp only [Con.kind, Con.parts, Con.name, Con.lo, Con.hi, Con.cap, Con.ad] at hr6
         refine n_ rfl (f_ (c_ (a_ (j_ y_ rfl rfl rfl v_) rfl (a_ (L_ 1 T_ v_ rfl rfl rfl) rfl (ax_ (cj_ _ (.mk kr nr lr hr ar cr pr) (Nat.le_refl _) hok.right) rfl (.refl _) (fun v _ h => ⟨h.1.2.1, trivial⟩) rfl fun r7 hr7 => ?_)))))
         refine d_ (b_ rfl ?_)
         cases r7
         ·
          try dsimp only [Con.kind, Con.parts, Con.name, Con.lo, Con.hi, Con.cap, Con.ad] at hr7
          refine p_ rfl (A_ (b_ rfl (f_ (c_ (a_ (g_ rfl) rfl (d_ (b_ rfl (B_ ?_))))))))
          exact as_ aw_ () (aJ_ rfl (by unfold Ax.check; simp only [hus]; simp_all)) (.refl _) (fun _ _ _ => trivial)
         ·
          try dsimp only [Con.kind, Con.parts, Con.name, Con.lo, Con.hi, Con.cap, Con.ad] at hr7
          refine n_ rfl (f_ (c_ (a_ (g_ rfl) rfl (d_ (b_ rfl (B_ ?_))))))
          exact as_ aw_ () (aJ_ rfl (by unfold Ax.check; simp only [hus]; simp_all)) (.refl _) (fun _ _ _ => trivial)
       ·
        replace hr5 := eq_of_beq hr5
        try dsimp only [Con.kind, Con.parts, Con.name, Con.lo, Con.hi, Con.cap, Con.ad] at hr5
        refine n_ rfl (A_ (b_ rfl (n_ rfl (f_ (c_ (a_ (j_ y_ rfl rfl rfl v_) rfl (a_ (L_ 1 T_ v_ rfl rfl rfl) rfl (ax_ (cj_ _ (.mk kr nr lr hr ar cr pr) (Nat.le_refl _) hok.right) rfl (.refl _) (fun v _ h => ⟨h.1.2.1, trivial⟩) rfl fun r8 hr8 => ?_))))))))
        refine d_ (b_ rfl ?_)
        cases r8
        ·
         try dsimp only [Con.kind, Con.parts, Con.name, Con.lo, Con.hi, Con.cap, Con.ad] at hr8
         refine p_ rfl (A_ (b_ rfl (f_ (c_ (a_ (g_ rfl) rfl (d_ (b_ rfl (B_ ?_))))))))
         exact as_ aw_ () (aJ_ rfl (by unfold Ax.check; simp only [hus]; simp_all)) (.refl _) (fun _ _ _ => trivial)
        ·
         try dsimp only [Con.kind, Con.parts, Con.name, Con.lo, Con.hi, Con.cap, Con.ad] at hr8
         refine n_ rfl (f_ (c_ (a_ (g_ rfl) rfl (d_ (b_ rfl (B_ ?_))))))
         exact as_ aw_ () (aJ_ rfl (by unfold Ax.check; simp only [hus]; simp_all)) (.refl _) (fun _ _ _ => trivial)
      ·
       replace hr4 := eq_of_beq hr4
       try dsimp only [Con.kind, Con.parts, Con.name, Con.lo, Con.hi, Con.cap, Con.ad] at hr4
       refine n_ rfl (A_ (b_ rfl (n_ rfl (f_ (c_ (a_ (j_ y_ rfl rfl rfl v_) rfl (a_ (L_ 1 T_ v_ rfl rfl rfl) rfl (ax_ (cj_ _ (.mk kr nr lr hr ar cr pr) (Nat.le_refl _) hok.right) rfl (.refl _) (fun v _ h => ⟨h.1.2.1, trivial⟩) rfl fun r9 hr9 => ?_))))))))
       refine d_ (b_ rfl ?_)
       cases r9
       ·
        try dsimp only [Con.kind, Con.parts, Con.name, Con.lo, Con.hi, Con.cap, Con.ad] at hr9
        refine p_ rfl (A_ (b_ rfl (f_ (c_ (a_ (g_ rfl) rfl (d_ (b_ rfl (B_ ?_))))))))
        exact as_ aw_ () (aJ_ rfl (by unfold Ax.check; simp only [hus]; simp_all)) (.refl _) (fun _ _ _ => trivial)
       ·
        try dsimp only [Con.kind, Con.parts, Con.name, Con.lo, Con.hi, Con.cap, Con.ad] at hr9
        refine n_ rfl (f_ (c_ (a_ (g_ rfl) rfl (d_ (b_ rfl (B_ ?_))))))
        exact as_ aw_ () (aJ_ rfl (by unfold Ax.check; simp only [hus]; simp_all)) (.refl _) (fun _ _ _ => trivial)
     ·
      replace hr3 := eq_of_beq hr3
      try dsimp only [Con.kind, Con.parts, Con.name, Con.lo, Con.hi, Con.cap, Con.ad] at hr3
      refine n_ rfl (f_ (c_ (a_ (j_ y_ rfl rfl rfl v_) rfl (a_ (L_ 1 T_ v_ rfl rfl rfl) rfl (ax_ (cj_ _ (.mk kl nl ll hl al cl pl) (Nat.le_refl _) hok.left) rfl (.refl _) (fun v _ h => ⟨h.1.1, trivial⟩) rfl fun r10 hr10 => ?_)))))
      refine a_ (h_ rfl) rfl ?_
      refine aT_ 4 ((Con.bare (.mk kl nl ll hl al cl pl)) || (Con.bare (.mk kr nr lr hr ar cr pr))) (fun r => [(0, .agg #[.int .i64 k, .bool op, .int .i64 kl, str nl, .int .i64 ll, .int .i64 hl, .slice al pl.length cl, .int .i64 kr, str nr, .int .i64 lr, .int .i64 hr, .slice ar pr.length cr, .slice ad rs.length cap, str ro, str a, str b]), (1, zp_ b1 0), (2, .int .i64 0), (6, .agg #[.int .i64 k, .bool op, .int .i64 kl, str nl, .int .i64 ll, .int .i64 hl, .slice al pl.length cl, .int .i64 kr, str nr, .int .i64 lr, .int .i64 hr, .slice ar pr.length cr, .slice ad rs.length cap, str ro, str a, str b]), (7, .bool true), (8, .bool false), (9, zp_ b1 0), (10, .int .i64 k), (11, .pointer (some (rad (some ⟨1, 0, none⟩) (k.toNat * 7)))), (12, .agg #[.bool false, .bool false, .bool uo, .bool ua, .bool ub, .int .i64 um, .int .i64 un]), (3, zp_ b2 0), (13, .agg #[.int .i64 k, .bool op, .int .i64 kl, str nl, .int .i64 ll, .int .i64 hl, .slice al pl.length cl, .int .i64 kr, str nr, .int .i64 lr, .int .i64 hr, .slice ar pr.length cr, .slice ad rs.length cap, str ro, str a, str b]), (14, .agg #[.bool false, .bool false, .bool uo, .bool ua, .bool ub, .int .i64 um, .int .i64 un]), (15, .bool true), (16, .bool false), (17, zp_ b2 0), (18, .bool false), (25, zp_ b2 1), (26, .bool false), (33, zp_ b1 0), (34, .int .i64 k), (36, .bool true), (35, .bool true), (44, .bool r)]) ?_ fun r11 hr11 => ?_
      ·
       cases r10
       ·
        have qr11 := hr10
        try dsimp only [Con.kind, Con.parts, Con.name, Con.lo, Con.hi, Con.cap, Con.ad] at hr10
        refine o_ rfl rfl (a_ (j_ y_ rfl rfl rfl v_) rfl (o_ rfl rfl (a_ (L_ 1 T_ v_ rfl rfl rfl) rfl (o_ rfl rfl (ax_ (cj_ _ (.mk kr nr lr hr ar cr pr) (Nat.le_refl _) hok.right) rfl (.refl _) (fun v _ h => ⟨h.1.2.1, trivial⟩) rfl fun r12 hr12 => ?_)))))
        refine a_ (N_ rfl rfl) rfl (d_ (r_ rfl ?_))
        exact met ⟨rfl, rfl, rfl, rfl, rfl, rfl, rfl, rfl, rfl, rfl, rfl, rfl, rfl, rfl, rfl, rfl, rfl, rfl, rfl, rfl, rfl, rfl, rfl, (E_ rfl (jof qr11 hr12)), trivial⟩
       ·
        have qr11 := hr10
        try dsimp only [Con.kind, Con.parts, Con.name, Con.lo, Con.hi, Con.cap, Con.ad] at hr10
        refine t_ rfl rfl rfl rfl (t_ rfl rfl rfl rfl (t_ rfl rfl rfl rfl (a_ (R_ rfl rfl) rfl (d_ (r_ rfl ?_)))))
        exact met ⟨rfl, rfl, rfl, rfl, rfl, rfl, rfl, rfl, rfl, rfl, rfl, rfl, rfl, rfl, rfl, rfl, rfl, rfl, rfl, rfl, rfl, rfl, rfl, (E_ rfl (jot qr11)), trivial⟩
      ·
       refine d_ (b_ rfl ?_)
       cases r11
       ·
        simp at hr11
        try dsimp only [Con.kind, Con.parts, Con.name, Con.lo, Con.hi, Con.cap, Con.ad] at hr11
        refine p_ rfl (A_ (b_ rfl (f_ (c_ (a_ (g_ rfl) rfl (d_ (b_ rfl (B_ ?_))))))))
        exact as_ aw_ () (aJ_ rfl (by unfold Ax.check; simp only [hus]; simp_all)) (.refl _) (fun _ _ _ => trivial)
       ·
        simp at hr11
        try dsimp only [Con.kind, Con.parts, Con.name, Con.lo, Con.hi, Con.cap, Con.ad] at hr11
        refine n_ rfl (f_ (c_ (a_ (g_ rfl) rfl (d_ (b_ rfl (B_ ?_))))))
        exact as_ aw_ () (aJ_ rfl (by unfold Ax.check; simp only [hus]; simp_all)) (.refl _) (fun _ _ _ => trivial)
    ·
     try dsimp only [Con.kind, Con.parts, Con.name, Con.lo, Con.hi, Con.cap, Con.ad] at hur
     refine n_ rfl (f_ (c_ (a_ (j_ y_ rfl rfl rfl v_) rfl (a_ (L_ 1 T_ v_ rfl rfl rfl) rfl (Q_ (ez_ (.mk kr nr lr hr ar cr pr) hok.right) rfl (.refl _) (fun v _ h => ⟨h.1.2.1, h.2.1, trivial⟩) rfl fun _ => ?_)))))
     refine a_ (g_ rfl) rfl (d_ (b_ rfl (f_ (c_ (a_ (h_ rfl) rfl (x_ (bR_ rfl rfl) rfl fun r13 hr13 => ?_))))))
     refine d_ (b_ rfl ?_)
     cases r13
     ·
      replace hr13 := bc_ hr13
      try dsimp only [Con.kind, Con.parts, Con.name, Con.lo, Con.hi, Con.cap, Con.ad] at hr13
      refine p_ rfl (A_ (b_ rfl (f_ (f_ (c_ (a_ (j_ y_ rfl rfl rfl H_) rfl (a_ (q_ 1 J_ rfl rfl rfl) rfl (d_ (b_ rfl ?_)))))))))
      refine S_ (f_ (c_ (x_ (aA_ rfl rfl) rfl fun r14 hr14 => ?_)))
      refine a_ (g_ rfl) rfl (d_ (b_ rfl ?_))
      cases r14
      ·
       replace hr14 := ne_of_beq_false hr14
       try dsimp only [Con.kind, Con.parts, Con.name, Con.lo, Con.hi, Con.cap, Con.ad] at hr14
       refine p_ rfl (f_ (f_ (c_ (x_ (aA_ rfl rfl) rfl fun r15 hr15 => ?_))))
       refine a_ (g_ rfl) rfl (d_ (b_ rfl ?_))
       cases r15
       ·
        replace hr15 := ne_of_beq_false hr15
        try dsimp only [Con.kind, Con.parts, Con.name, Con.lo, Con.hi, Con.cap, Con.ad] at hr15
        refine p_ rfl (f_ (c_ (x_ (aA_ rfl rfl) rfl fun r16 hr16 => ?_)))
        refine a_ (g_ rfl) rfl (d_ (b_ rfl ?_))
        cases r16
        ·
         replace hr16 := ne_of_beq_false hr16
         try dsimp only [Con.kind, Con.parts, Con.name, Con.lo, Con.hi, Con.cap, Con.ad] at hr16
         refine p_ rfl (c_ (x_ (aA_ rfl rfl) rfl fun r17 hr17 => ?_))
         refine a_ (g_ rfl) rfl (d_ (b_ rfl ?_))
         cases r17
         ·
          replace hr17 := ne_of_beq_false hr17
          try dsimp only [Con.kind, Con.parts, Con.name, Con.lo, Con.hi, Con.cap, Con.ad] at hr17
          refine p_ rfl (A_ (b_ rfl (f_ (c_ (a_ (g_ rfl) rfl (d_ (b_ rfl (B_ ?_))))))))
          exact as_ aw_ () (aJ_ rfl (by unfold Ax.check; simp only [hus]; simp_all)) (.refl _) (fun _ _ _ => trivial)
         ·
          replace hr17 := eq_of_beq hr17
          try dsimp only [Con.kind, Con.parts, Con.name, Con.lo, Con.hi, Con.cap, Con.ad] at hr17
          refine n_ rfl (f_ (c_ (a_ (j_ y_ rfl rfl rfl v_) rfl (a_ (L_ 1 T_ v_ rfl rfl rfl) rfl (ax_ (cj_ _ (.mk kr nr lr hr ar cr pr) (Nat.le_refl _) hok.right) rfl (.refl _) (fun v _ h => ⟨h.1.2.1, trivial⟩) rfl fun r18 hr18 => ?_)))))
          refine d_ (b_ rfl ?_)
          cases r18
          ·
           try dsimp only [Con.kind, Con.parts, Con.name, Con.lo, Con.hi, Con.cap, Con.ad] at hr18
           refine p_ rfl (A_ (b_ rfl (f_ (c_ (a_ (g_ rfl) rfl (d_ (b_ rfl (B_ ?_))))))))
           exact as_ aw_ () (aJ_ rfl (by unfold Ax.check; simp only [hus]; simp_all)) (.refl _) (fun _ _ _ => trivial)
          ·
           try dsimp only [Con.kind, Con.parts, Con.name, Con.lo, Con.hi, Con.cap, Con.ad] at hr18
           refine n_ rfl (f_ (c_ (a_ (g_ rfl) rfl (d_ (b_ rfl (B_ ?_))))))
           exact as_ aw_ () (aJ_ rfl (by unfold Ax.check; simp only [hus]; simp_all)) (.refl _) (fun _ _ _ => trivial)
        ·
         replace hr16 := eq_of_beq hr16
         try dsimp only [Con.kind, Con.parts, Con.name, Con.lo, Con.hi, Con.cap, Con.ad] at hr16
         refine n_ rfl (A_ (b_ rfl (n_ rfl (f_ (c_ (a_ (j_ y_ rfl rfl rfl v_) rfl (a_ (L_ 1 T_ v_ rfl rfl rfl) rfl (ax_ (cj_ _ (.mk kr nr lr hr ar cr pr) (Nat.le_refl _) hok.right) rfl (.refl _) (fun v _ h => ⟨h.1.2.1, trivial⟩) rfl fun r19 hr19 => ?_))))))))
         refine d_ (b_ rfl ?_)
         cases r19
         ·
          try dsimp only [Con.kind, Con.parts, Con.name, Con.lo, Con.hi, Con.cap, Con.ad] at hr19
          refine p_ rfl (A_ (b_ rfl (f_ (c_ (a_ (g_ rfl) rfl (d_ (b_ rfl (B_ ?_))))))))
          exact as_ aw_ () (aJ_ rfl (by unfold Ax.check; simp only [hus]; simp_all)) (.refl _) (fun _ _ _ => trivial)
         ·
          try dsimp only [Con.kind, Con.parts, Con.name, Con.lo, Con.hi, Con.cap, Con.ad] at hr19
          refine n_ rfl (f_ (c_ (a_ (g_ rfl) rfl (d_ (b_ rfl (B_ ?_))))))
          exact as_ aw_ () (aJ_ rfl (by unfold Ax.check; simp only [hus]; simp_all)) (.refl _) (fun _ _ _ => trivial)
       ·
        replace hr15 := eq_of_beq hr15
        try dsimp only [Con.kind, Con.parts, Con.name, Con.lo, Con.hi, Con.cap, Con.ad] at hr15
        refine n_ rfl (A_ (b_ rfl (n_ rfl (f_ (c_ (a_ (j_ y_ rfl rfl rfl v_) rfl (a_ (L_ 1 T_ v_ rfl rfl rfl) rfl (ax_ (cj_ _ (.mk kr nr lr hr ar cr pr) (Nat.le_refl _) hok.right) rfl (.refl _) (fun v _ h => ⟨h.1.2.1, trivial⟩) rfl fun r20 hr20 => ?_))))))))
        refine d_ (b_ rfl ?_)
        cases r20
        ·
         try dsimp only [Con.kind, Con.parts, Con.name, Con.lo, Con.hi, Con.cap, Con.ad] at hr20
         refine p_ rfl (A_ (b_ rfl (f_ (c_ (a_ (g_ rfl) rfl (d_ (b_ rfl (B_ ?_))))))))
         exact as_ aw_ () (aJ_ rfl (by unfold Ax.check; simp only [hus]; simp_all)) (.refl _) (fun _ _ _ => trivial)
        ·
         try dsimp only [Con.kind, Con.parts, Con.name, Con.lo, Con.hi, Con.cap, Con.ad] at hr20
         refine n_ rfl (f_ (c_ (a_ (g_ rfl) rfl (d_ (b_ rfl (B_ ?_))))))
         exact as_ aw_ () (aJ_ rfl (by unfold Ax.check; simp only [hus]; simp_all)) (.refl _) (fun _ _ _ => trivial)
      ·
       replace hr14 := eq_of_beq hr14
       try dsimp only [Con.kind, Con.parts, Con.name, Con.lo, Con.hi, Con.cap, Con.ad] at hr14
       refine n_ rfl (f_ (c_ (a_ (j_ y_ rfl rfl rfl v_) rfl (a_ (L_ 1 T_ v_ rfl rfl rfl) rfl (ax_ (cj_ _ (.mk kl nl ll hl al cl pl) (Nat.le_refl _) hok.left) rfl (.refl _) (fun v _ h => ⟨h.1.1, trivial⟩) rfl fun r21 hr21 => ?_)))))
       refine a_ (h_ rfl) rfl ?_
       refine aT_ 4 ((Con.bare (.mk kl nl ll hl al cl pl)) || (Con.bare (.mk kr nr lr hr ar cr pr))) (fun r => [(0, .agg #[.int .i64 k, .bool op, .int .i64 kl, str nl, .int .i64 ll, .int .i64 hl, .slice al pl.length cl, .int .i64 kr, str nr, .int .i64 lr, .int .i64 hr, .slice ar pr.length cr, .slice ad rs.length cap, str ro, str a, str b]), (1, zp_ b1 0), (2, .int .i64 0), (6, .agg #[.int .i64 k, .bool op, .int .i64 kl, str nl, .int .i64 ll, .int .i64 hl, .slice al pl.length cl, .int .i64 kr, str nr, .int .i64 lr, .int .i64 hr, .slice ar pr.length cr, .slice ad rs.length cap, str ro, str a, str b]), (7, .bool true), (8, .bool false), (9, zp_ b1 0), (10, .int .i64 k), (11, .pointer (some (rad (some ⟨1, 0, none⟩) (k.toNat * 7)))), (12, .agg #[.bool false, .bool true, .bool uo, .bool ua, .bool ub, .int .i64 um, .int .i64 un]), (3, zp_ b2 0), (13, .agg #[.int .i64 k, .bool op, .int .i64 kl, str nl, .int .i64 ll, .int .i64 hl, .slice al pl.length cl, .int .i64 kr, str nr, .int .i64 lr, .int .i64 hr, .slice ar pr.length cr, .slice ad rs.length cap, str ro, str a, str b]), (14, .agg #[.bool false, .bool true, .bool uo, .bool ua, .bool ub, .int .i64 um, .int .i64 un]), (15, .bool true), (16, .bool false), (17, zp_ b2 0), (18, .bool false), (25, zp_ b2 1), (26, .bool true), (27, zp_ b1 7), (28, .agg #[.int .i64 kr, str nr, .int .i64 lr, .int .i64 hr, .slice ar pr.length cr]), (29, .int .i64 (Con.check (.mk kr nr lr hr ar cr pr))), (5, .int .i64 (Con.check (.mk kr nr lr hr ar cr pr))), (30, .int .i64 (Con.check (.mk kr nr lr hr ar cr pr))), (31, .bool false), (33, zp_ b1 0), (34, .int .i64 k), (36, .bool true), (35, .bool true), (44, .bool r)]) ?_ fun r22 hr22 => ?_
       ·
        cases r21
        ·
         have qr22 := hr21
         try dsimp only [Con.kind, Con.parts, Con.name, Con.lo, Con.hi, Con.cap, Con.ad] at hr21
         refine o_ rfl rfl (a_ (j_ y_ rfl rfl rfl v_) rfl (o_ rfl rfl (a_ (L_ 1 T_ v_ rfl rfl rfl) rfl (o_ rfl rfl (ax_ (cj_ _ (.mk kr nr lr hr ar cr pr) (Nat.le_refl _) hok.right) rfl (.refl _) (fun v _ h => ⟨h.1.2.1, trivial⟩) rfl fun r23 hr23 => ?_)))))
         refine a_ (N_ rfl rfl) rfl (d_ (r_ rfl ?_))
         exact met ⟨rfl, rfl, rfl, rfl, rfl, rfl, rfl, rfl, rfl, rfl, rfl, rfl, rfl, rfl, rfl, rfl, rfl, rfl, rfl, rfl, rfl, rfl, rfl, rfl, rfl, rfl, rfl, rfl, rfl, (E_ rfl (jof qr22 hr23)), trivial⟩
        ·
         have qr22 := hr21
         try dsimp only [Con.kind, Con.parts, Con.name, Con.lo, Con.hi, Con.cap, Con.ad] at hr21
         refine t_ rfl rfl rfl rfl (t_ rfl rfl rfl rfl (t_ rfl rfl rfl rfl (a_ (R_ rfl rfl) rfl (d_ (r_ rfl ?_)))))
         exact met ⟨rfl, rfl, rfl, rfl, rfl, rfl, rfl, rfl, rfl, rfl, rfl, rfl, rfl, rfl, rfl, rfl, rfl, rfl, rfl, rfl, rfl, rfl, rfl, rfl, rfl, rfl, rfl, rfl, rfl, (E_ rfl (jot qr22)), trivial⟩
       ·
        refine d_ (b_ rfl ?_)
        cases r22
        ·
         simp at hr22
         try dsimp only [Con.kind, Con.parts, Con.name, Con.lo, Con.hi, Con.cap, Con.ad] at hr22
         refine p_ rfl (A_ (b_ rfl (f_ (c_ (a_ (g_ rfl) rfl (d_ (b_ rfl (B_ ?_))))))))
         exact as_ aw_ () (aJ_ rfl (by unfold Ax.check; simp only [hus]; simp_all)) (.refl _) (fun _ _ _ => trivial)
        ·
         simp at hr22
         try dsimp only [Con.kind, Con.parts, Con.name, Con.lo, Con.hi, Con.cap, Con.ad] at hr22
         refine n_ rfl (f_ (c_ (a_ (g_ rfl) rfl (d_ (b_ rfl (B_ ?_))))))
         exact as_ aw_ () (aJ_ rfl (by unfold Ax.check; simp only [hus]; simp_all)) (.refl _) (fun _ _ _ => trivial)
     ·
      replace hr13 := bb_ hr13
      try dsimp only [Con.kind, Con.parts, Con.name, Con.lo, Con.hi, Con.cap, Con.ad] at hr13
      refine n_ rfl (f_ (c_ (a_ (h_ rfl) rfl (a_ (g_ rfl) rfl (d_ (b_ rfl (B_ ?_)))))))
      exact as_ aw_ () (aJ_ rfl (by unfold Ax.check; simp only [hus]; simp_all)) (.refl _) (fun _ _ _ => trivial)
   ·
    try dsimp only [Con.kind, Con.parts, Con.name, Con.lo, Con.hi, Con.cap, Con.ad] at hul
    refine n_ rfl (f_ (c_ (a_ (j_ y_ rfl rfl rfl v_) rfl (a_ (L_ 1 T_ v_ rfl rfl rfl) rfl (Q_ (ez_ (.mk kl nl ll hl al cl pl) hok.left) rfl (.refl _) (fun v _ h => ⟨h.1.1, h.2.1, trivial⟩) rfl fun _ => ?_)))))
    refine a_ (g_ rfl) rfl (d_ (b_ rfl (f_ (c_ (a_ (h_ rfl) rfl (x_ (bR_ rfl rfl) rfl fun r24 hr24 => ?_))))))
    refine d_ (b_ rfl ?_)
    cases r24
    ·
     replace hr24 := bc_ hr24
     try dsimp only [Con.kind, Con.parts, Con.name, Con.lo, Con.hi, Con.cap, Con.ad] at hr24
     refine p_ rfl (A_ (b_ rfl (f_ (f_ (c_ (a_ (j_ bA_ rfl rfl rfl br_) rfl (a_ (q_ 0 bE_ rfl rfl rfl) rfl (d_ (b_ rfl ?_)))))))))
     cases ur
     ·
      try dsimp only [Con.kind, Con.parts, Con.name, Con.lo, Con.hi, Con.cap, Con.ad] at hur
      refine p_ rfl (A_ (b_ rfl (f_ (f_ (c_ (a_ (j_ y_ rfl rfl rfl H_) rfl (a_ (q_ 1 J_ rfl rfl rfl) rfl (d_ (b_ rfl ?_)))))))))
      refine S_ (f_ (c_ (x_ (aA_ rfl rfl) rfl fun r25 hr25 => ?_)))
      refine a_ (g_ rfl) rfl (d_ (b_ rfl ?_))
      cases r25
      ·
       replace hr25 := ne_of_beq_false hr25
       try dsimp only [Con.kind, Con.parts, Con.name, Con.lo, Con.hi, Con.cap, Con.ad] at hr25
       refine p_ rfl (f_ (f_ (c_ (x_ (aA_ rfl rfl) rfl fun r26 hr26 => ?_))))
       refine a_ (g_ rfl) rfl (d_ (b_ rfl ?_))
       cases r26
       ·
        replace hr26 := ne_of_beq_false hr26
        try dsimp only [Con.kind, Con.parts, Con.name, Con.lo, Con.hi, Con.cap, Con.ad] at hr26
        refine p_ rfl (f_ (c_ (x_ (aA_ rfl rfl) rfl fun r27 hr27 => ?_)))
        refine a_ (g_ rfl) rfl (d_ (b_ rfl ?_))
        cases r27
        ·
         replace hr27 := ne_of_beq_false hr27
         try dsimp only [Con.kind, Con.parts, Con.name, Con.lo, Con.hi, Con.cap, Con.ad] at hr27
         refine p_ rfl (c_ (x_ (aA_ rfl rfl) rfl fun r28 hr28 => ?_))
         refine a_ (g_ rfl) rfl (d_ (b_ rfl ?_))
         cases r28
         ·
          replace hr28 := ne_of_beq_false hr28
          try dsimp only [Con.kind, Con.parts, Con.name, Con.lo, Con.hi, Con.cap, Con.ad] at hr28
          refine p_ rfl (A_ (b_ rfl (f_ (c_ (a_ (g_ rfl) rfl (d_ (b_ rfl (B_ ?_))))))))
          exact as_ aw_ () (aJ_ rfl (by unfold Ax.check; simp only [hus]; simp_all)) (.refl _) (fun _ _ _ => trivial)
         ·
          replace hr28 := eq_of_beq hr28
          try dsimp only [Con.kind, Con.parts, Con.name, Con.lo, Con.hi, Con.cap, Con.ad] at hr28
          refine n_ rfl (f_ (c_ (a_ (j_ y_ rfl rfl rfl v_) rfl (a_ (L_ 1 T_ v_ rfl rfl rfl) rfl (ax_ (cj_ _ (.mk kr nr lr hr ar cr pr) (Nat.le_refl _) hok.right) rfl (.refl _) (fun v _ h => ⟨h.1.2.1, trivial⟩) rfl fun r29 hr29 => ?_)))))
          refine d_ (b_ rfl ?_)
          cases r29
          ·
           try dsimp only [Con.kind, Con.parts, Con.name, Con.lo, Con.hi, Con.cap, Con.ad] at hr29
           refine p_ rfl (A_ (b_ rfl (f_ (c_ (a_ (g_ rfl) rfl (d_ (b_ rfl (B_ ?_))))))))
           exact as_ aw_ () (aJ_ rfl (by unfold Ax.check; simp only [hus]; simp_all)) (.refl _) (fun _ _ _ => trivial)
          ·
           try dsimp only [Con.kind, Con.parts, Con.name, Con.lo, Con.hi, Con.cap, Con.ad] at hr29
           refine n_ rfl (f_ (c_ (a_ (g_ rfl) rfl (d_ (b_ rfl (B_ ?_))))))
           exact as_ aw_ () (aJ_ rfl (by unfold Ax.check; simp only [hus]; simp_all)) (.refl _) (fun _ _ _ => trivial)
        ·
         replace hr27 := eq_of_beq hr27
         try dsimp only [Con.kind, Con.parts, Con.name, Con.lo, Con.hi, Con.cap, Con.ad] at hr27
         refine n_ rfl (A_ (b_ rfl (n_ rfl (f_ (c_ (a_ (j_ y_ rfl rfl rfl v_) rfl (a_ (L_ 1 T_ v_ rfl rfl rfl) rfl (ax_ (cj_ _ (.mk kr nr lr hr ar cr pr) (Nat.le_refl _) hok.right) rfl (.refl _) (fun v _ h => ⟨h.1.2.1, trivial⟩) rfl fun r30 hr30 => ?_))))))))
         refine d_ (b_ rfl ?_)
         cases r30
         ·
          try dsimp only [Con.kind, Con.parts, Con.name, Con.lo, Con.hi, Con.cap, Con.ad] at hr30
          refine p_ rfl (A_ (b_ rfl (f_ (c_ (a_ (g_ rfl) rfl (d_ (b_ rfl (B_ ?_))))))))
          exact as_ aw_ () (aJ_ rfl (by unfold Ax.check; simp only [hus]; simp_all)) (.refl _) (fun _ _ _ => trivial)
         ·
          try dsimp only [Con.kind, Con.parts, Con.name, Con.lo, Con.hi, Con.cap, Con.ad] at hr30
          refine n_ rfl (f_ (c_ (a_ (g_ rfl) rfl (d_ (b_ rfl (B_ ?_))))))
          exact as_ aw_ () (aJ_ rfl (by unfold Ax.check; simp only [hus]; simp_all)) (.refl _) (fun _ _ _ => trivial)
       ·
        replace hr26 := eq_of_beq hr26
        try dsimp only [Con.kind, Con.parts, Con.name, Con.lo, Con.hi, Con.cap, Con.ad] at hr26
        refine n_ rfl (A_ (b_ rfl (n_ rfl (f_ (c_ (a_ (j_ y_ rfl rfl rfl v_) rfl (a_ (L_ 1 T_ v_ rfl rfl rfl) rfl (ax_ (cj_ _ (.mk kr nr lr hr ar cr pr) (Nat.le_refl _) hok.right) rfl (.refl _) (fun v _ h => ⟨h.1.2.1, trivial⟩) rfl fun r31 hr31 => ?_))))))))
        refine d_ (b_ rfl ?_)
        cases r31
        ·
         try dsimp only [Con.kind, Con.parts, Con.name, Con.lo, Con.hi, Con.cap, Con.ad] at hr31
         refine p_ rfl (A_ (b_ rfl (f_ (c_ (a_ (g_ rfl) rfl (d_ (b_ rfl (B_ ?_))))))))
         exact as_ aw_ () (aJ_ rfl (by unfold Ax.check; simp only [hus]; simp_all)) (.refl _) (fun _ _ _ => trivial)
        ·
         try dsimp only [Con.kind, Con.parts, Con.name, Con.lo, Con.hi, Con.cap, Con.ad] at hr31
         refine n_ rfl (f_ (c_ (a_ (g_ rfl) rfl (d_ (b_ rfl (B_ ?_))))))
         exact as_ aw_ () (aJ_ rfl (by unfold Ax.check; simp only [hus]; simp_all)) (.refl _) (fun _ _ _ => trivial)
      ·
       replace hr25 := eq_of_beq hr25
       try dsimp only [Con.kind, Con.parts, Con.name, Con.lo, Con.hi, Con.cap, Con.ad] at hr25
       refine n_ rfl (f_ (c_ (a_ (j_ y_ rfl rfl rfl v_) rfl (a_ (L_ 1 T_ v_ rfl rfl rfl) rfl (ax_ (cj_ _ (.mk kl nl ll hl al cl pl) (Nat.le_refl _) hok.left) rfl (.refl _) (fun v _ h => ⟨h.1.1, trivial⟩) rfl fun r32 hr32 => ?_)))))
       refine a_ (h_ rfl) rfl ?_
       refine aT_ 4 ((Con.bare (.mk kl nl ll hl al cl pl)) || (Con.bare (.mk kr nr lr hr ar cr pr))) (fun r => [(0, .agg #[.int .i64 k, .bool op, .int .i64 kl, str nl, .int .i64 ll, .int .i64 hl, .slice al pl.length cl, .int .i64 kr, str nr, .int .i64 lr, .int .i64 hr, .slice ar pr.length cr, .slice ad rs.length cap, str ro, str a, str b]), (1, zp_ b1 0), (2, .int .i64 0), (6, .agg #[.int .i64 k, .bool op, .int .i64 kl, str nl, .int .i64 ll, .int .i64 hl, .slice al pl.length cl, .int .i64 kr, str nr, .int .i64 lr, .int .i64 hr, .slice ar pr.length cr, .slice ad rs.length cap, str ro, str a, str b]), (7, .bool true), (8, .bool false), (9, zp_ b1 0), (10, .int .i64 k), (11, .pointer (some (rad (some ⟨1, 0, none⟩) (k.toNat * 7)))), (12, .agg #[.bool true, .bool false, .bool uo, .bool ua, .bool ub, .int .i64 um, .int .i64 un]), (3, zp_ b2 0), (13, .agg #[.int .i64 k, .bool op, .int .i64 kl, str nl, .int .i64 ll, .int .i64 hl, .slice al pl.length cl, .int .i64 kr, str nr, .int .i64 lr, .int .i64 hr, .slice ar pr.length cr, .slice ad rs.length cap, str ro, str a, str b]), (14, .agg #[.bool true, .bool false, .bool uo, .bool ua, .bool ub, .int .i64 um, .int .i64 un]), (15, .bool true), (16, .bool false), (17, zp_ b2 0), (18, .bool true), (19, zp_ b1 2), (20, .agg #[.int .i64 kl, str nl, .int .i64 ll, .int .i64 hl, .slice al pl.length cl]), (21, .int .i64 (Con.check (.mk kl nl ll hl al cl pl))), (4, .int .i64 (Con.check (.mk kl nl ll hl al cl pl))), (22, .int .i64 (Con.check (.mk kl nl ll hl al cl pl))), (23, .bool false), (25, zp_ b2 1), (26, .bool false), (33, zp_ b1 0), (34, .int .i64 k), (36, .bool true), (35, .bool true), (44, .bool r)]) ?_ fun r33 hr33 => ?_
       ·
        cases r32
        ·
         have qr33 := hr32
         try dsimp only [Con.kind, Con.parts, Con.name, Con.lo, Con.hi, Con.cap, Con.ad] at hr32
         refine o_ rfl rfl (a_ (j_ y_ rfl rfl rfl v_) rfl (o_ rfl rfl (a_ (L_ 1 T_ v_ rfl rfl rfl) rfl (o_ rfl rfl (ax_ (cj_ _ (.mk kr nr lr hr ar cr pr) (Nat.le_refl _) hok.right) rfl (.refl _) (fun v _ h => ⟨h.1.2.1, trivial⟩) rfl fun r34 hr34 => ?_)))))
         refine a_ (N_ rfl rfl) rfl (d_ (r_ rfl ?_))
         exact met ⟨rfl, rfl, rfl, rfl, rfl, rfl, rfl, rfl, rfl, rfl, rfl, rfl, rfl, rfl, rfl, rfl, rfl, rfl, rfl, rfl, rfl, rfl, rfl, rfl, rfl, rfl, rfl, rfl, rfl, (E_ rfl (jof qr33 hr34)), trivial⟩
        ·
         have qr33 := hr32
         try dsimp only [Con.kind, Con.parts, Con.name, Con.lo, Con.hi, Con.cap, Con.ad] at hr32
         refine t_ rfl rfl rfl rfl (t_ rfl rfl rfl rfl (t_ rfl rfl rfl rfl (a_ (R_ rfl rfl) rfl (d_ (r_ rfl ?_)))))
         exact met ⟨rfl, rfl, rfl, rfl, rfl, rfl, rfl, rfl, rfl, rfl, rfl, rfl, rfl, rfl, rfl, rfl, rfl, rfl, rfl, rfl, rfl, rfl, rfl, rfl, rfl, rfl, rfl, rfl, rfl, (E_ rfl (jot qr33)), trivial⟩
       ·
        refine d_ (b_ rfl ?_)
        cases r33
        ·
         simp at hr33
         try dsimp only [Con.kind, Con.parts, Con.name, Con.lo, Con.hi, Con.cap, Con.ad] at hr33
         refine p_ rfl (A_ (b_ rfl (f_ (c_ (a_ (g_ rfl) rfl (d_ (b_ rfl (B_ ?_))))))))
         exact as_ aw_ () (aJ_ rfl (by unfold Ax.check; simp only [hus]; simp_all)) (.refl _) (fun _ _ _ => trivial)
        ·
         simp at hr33
         try dsimp only [Con.kind, Con.parts, Con.name, Con.lo, Con.hi, Con.cap, Con.ad] at hr33
         refine n_ rfl (f_ (c_ (a_ (g_ rfl) rfl (d_ (b_ rfl (B_ ?_))))))
         exact as_ aw_ () (aJ_ rfl (by unfold Ax.check; simp only [hus]; simp_all)) (.refl _) (fun _ _ _ => trivial)
     ·
      try dsimp only [Con.kind, Con.parts, Con.name, Con.lo, Con.hi, Con.cap, Con.ad] at hur
      refine n_ rfl (f_ (c_ (a_ (j_ y_ rfl rfl rfl v_) rfl (a_ (L_ 1 T_ v_ rfl rfl rfl) rfl (Q_ (ez_ (.mk kr nr lr hr ar cr pr) hok.right) rfl (.refl _) (fun v _ h => ⟨h.1.2.1, h.2.1, trivial⟩) rfl fun _ => ?_)))))
      refine a_ (g_ rfl) rfl (d_ (b_ rfl (f_ (c_ (a_ (h_ rfl) rfl (x_ (bR_ rfl rfl) rfl fun r35 hr35 => ?_))))))
      refine d_ (b_ rfl ?_)
      cases r35
      ·
       replace hr35 := bc_ hr35
       try dsimp only [Con.kind, Con.parts, Con.name, Con.lo, Con.hi, Con.cap, Con.ad] at hr35
       refine p_ rfl (A_ (b_ rfl (f_ (f_ (c_ (a_ (j_ y_ rfl rfl rfl H_) rfl (a_ (q_ 1 J_ rfl rfl rfl) rfl (d_ (b_ rfl ?_)))))))))
       refine S_ (f_ (c_ (x_ (aA_ rfl rfl) rfl fun r36 hr36 => ?_)))
       refine a_ (g_ rfl) rfl (d_ (b_ rfl ?_))
       cases r36
       ·
        replace hr36 := ne_of_beq_false hr36
        try dsimp only [Con.kind, Con.parts, Con.name, Con.lo, Con.hi, Con.cap, Con.ad] at hr36
        refine p_ rfl (f_ (f_ (c_ (x_ (aA_ rfl rfl) rfl fun r37 hr37 => ?_))))
        refine a_ (g_ rfl) rfl (d_ (b_ rfl ?_))
        cases r37
        ·
         replace hr37 := ne_of_beq_false hr37
         try dsimp only [Con.kind, Con.parts, Con.name, Con.lo, Con.hi, Con.cap, Con.ad] at hr37
         refine p_ rfl (f_ (c_ (x_ (aA_ rfl rfl) rfl fun r38 hr38 => ?_)))
         refine a_ (g_ rfl) rfl (d_ (b_ rfl ?_))
         cases r38
         ·
          replace hr38 := ne_of_beq_false hr38
          try dsimp only [Con.kind, Con.parts, Con.name, Con.lo, Con.hi, Con.cap, Con.ad] at hr38
          refine p_ rfl (c_ (x_ (aA_ rfl rfl) rfl fun r39 hr39 => ?_))
          refine a_ (g_ rfl) rfl (d_ (b_ rfl ?_))
          cases r39
          ·
           replace hr39 := ne_of_beq_false hr39
           try dsimp only [Con.kind, Con.parts, Con.name, Con.lo, Con.hi, Con.cap, Con.ad] at hr39
           refine p_ rfl (A_ (b_ rfl (f_ (c_ (a_ (g_ rfl) rfl (d_ (b_ rfl (B_ ?_))))))))
           exact as_ aw_ () (aJ_ rfl (by unfold Ax.check; simp only [hus]; simp_all)) (.refl _) (fun _ _ _ => trivial)
          ·
           replace hr39 := eq_of_beq hr39
           try dsimp only [Con.kind, Con.parts, Con.name, Con.lo, Con.hi, Con.cap, Con.ad] at hr39
           refine n_ rfl (f_ (c_ (a_ (j_ y_ rfl rfl rfl v_) rfl (a_ (L_ 1 T_ v_ rfl rfl rfl) rfl (ax_ (cj_ _ (.mk kr nr lr hr ar cr pr) (Nat.le_refl _) hok.right) rfl (.refl _) (fun v _ h => ⟨h.1.2.1, trivial⟩) rfl fun r40 hr40 => ?_)))))
           refine d_ (b_ rfl ?_)
           cases r40
           ·
            try dsimp only [Con.kind, Con.parts, Con.name, Con.lo, Con.hi, Con.cap, Con.ad] at hr40
            refine p_ rfl (A_ (b_ rfl (f_ (c_ (a_ (g_ rfl) rfl (d_ (b_ rfl (B_ ?_))))))))
            exact as_ aw_ () (aJ_ rfl (by unfold Ax.check; simp only [hus]; simp_all)) (.refl _) (fun _ _ _ => trivial)
           ·
            try dsimp only [Con.kind, Con.parts, Con.name, Con.lo, Con.hi, Con.cap, Con.ad] at hr40
            refine n_ rfl (f_ (c_ (a_ (g_ rfl) rfl (d_ (b_ rfl (B_ ?_))))))
            exact as_ aw_ () (aJ_ rfl (by unfold Ax.check; simp only [hus]; simp_all)) (.refl _) (fun _ _ _ => trivial)
         ·
          replace hr38 := eq_of_beq hr38
          try dsimp only [Con.kind, Con.parts, Con.name, Con.lo, Con.hi, Con.cap, Con.ad] at hr38
          refine n_ rfl (A_ (b_ rfl (n_ rfl (f_ (c_ (a_ (j_ y_ rfl rfl rfl v_) rfl (a_ (L_ 1 T_ v_ rfl rfl rfl) rfl (ax_ (cj_ _ (.mk kr nr lr hr ar cr pr) (Nat.le_refl _) hok.right) rfl (.refl _) (fun v _ h => ⟨h.1.2.1, trivial⟩) rfl fun r41 hr41 => ?_))))))))
          refine d_ (b_ rfl ?_)
          cases r41
          ·
           try dsimp only [Con.kind, Con.parts, Con.name, Con.lo, Con.hi, Con.cap, Con.ad] at hr41
           refine p_ rfl (A_ (b_ rfl (f_ (c_ (a_ (g_ rfl) rfl (d_ (b_ rfl (B_ ?_))))))))
           exact as_ aw_ () (aJ_ rfl (by unfold Ax.check; simp only [hus]; simp_all)) (.refl _) (fun _ _ _ => trivial)
          ·
           try dsimp only [Con.kind, Con.parts, Con.name, Con.lo, Con.hi, Con.cap, Con.ad] at hr41
           refine n_ rfl (f_ (c_ (a_ (g_ rfl) rfl (d_ (b_ rfl (B_ ?_))))))
           exact as_ aw_ () (aJ_ rfl (by unfold Ax.check; simp only [hus]; simp_all)) (.refl _) (fun _ _ _ => trivial)
        ·
         replace hr37 := eq_of_beq hr37
         try dsimp only [Con.kind, Con.parts, Con.name, Con.lo, Con.hi, Con.cap, Con.ad] at hr37
         refine n_ rfl (A_ (b_ rfl (n_ rfl (f_ (c_ (a_ (j_ y_ rfl rfl rfl v_) rfl (a_ (L_ 1 T_ v_ rfl rfl rfl) rfl (ax_ (cj_ _ (.mk kr nr lr hr ar cr pr) (Nat.le_refl _) hok.right) rfl (.refl _) (fun v _ h => ⟨h.1.2.1, trivial⟩) rfl fun r42 hr42 => ?_))))))))
         refine d_ (b_ rfl ?_)
         cases r42
         ·
          try dsimp only [Con.kind, Con.parts, Con.name, Con.lo, Con.hi, Con.cap, Con.ad] at hr42
          refine p_ rfl (A_ (b_ rfl (f_ (c_ (a_ (g_ rfl) rfl (d_ (b_ rfl (B_ ?_))))))))
          exact as_ aw_ () (aJ_ rfl (by unfold Ax.check; simp only [hus]; simp_all)) (.refl _) (fun _ _ _ => trivial)
         ·
          try dsimp only [Con.kind, Con.parts, Con.name, Con.lo, Con.hi, Con.cap, Con.ad] at hr42
          refine n_ rfl (f_ (c_ (a_ (g_ rfl) rfl (d_ (b_ rfl (B_ ?_))))))
          exact as_ aw_ () (aJ_ rfl (by unfold Ax.check; simp only [hus]; simp_all)) (.refl _) (fun _ _ _ => trivial)
       ·
        replace hr36 := eq_of_beq hr36
        try dsimp only [Con.kind, Con.parts, Con.name, Con.lo, Con.hi, Con.cap, Con.ad] at hr36
        refine n_ rfl (f_ (c_ (a_ (j_ y_ rfl rfl rfl v_) rfl (a_ (L_ 1 T_ v_ rfl rfl rfl) rfl (ax_ (cj_ _ (.mk kl nl ll hl al cl pl) (Nat.le_refl _) hok.left) rfl (.refl _) (fun v _ h => ⟨h.1.1, trivial⟩) rfl fun r43 hr43 => ?_)))))
        refine a_ (h_ rfl) rfl ?_
        refine aT_ 4 ((Con.bare (.mk kl nl ll hl al cl pl)) || (Con.bare (.mk kr nr lr hr ar cr pr))) (fun r => [(0, .agg #[.int .i64 k, .bool op, .int .i64 kl, str nl, .int .i64 ll, .int .i64 hl, .slice al pl.length cl, .int .i64 kr, str nr, .int .i64 lr, .int .i64 hr, .slice ar pr.length cr, .slice ad rs.length cap, str ro, str a, str b]), (1, zp_ b1 0), (2, .int .i64 0), (6, .agg #[.int .i64 k, .bool op, .int .i64 kl, str nl, .int .i64 ll, .int .i64 hl, .slice al pl.length cl, .int .i64 kr, str nr, .int .i64 lr, .int .i64 hr, .slice ar pr.length cr, .slice ad rs.length cap, str ro, str a, str b]), (7, .bool true), (8, .bool false), (9, zp_ b1 0), (10, .int .i64 k), (11, .pointer (some (rad (some ⟨1, 0, none⟩) (k.toNat * 7)))), (12, .agg #[.bool true, .bool true, .bool uo, .bool ua, .bool ub, .int .i64 um, .int .i64 un]), (3, zp_ b2 0), (13, .agg #[.int .i64 k, .bool op, .int .i64 kl, str nl, .int .i64 ll, .int .i64 hl, .slice al pl.length cl, .int .i64 kr, str nr, .int .i64 lr, .int .i64 hr, .slice ar pr.length cr, .slice ad rs.length cap, str ro, str a, str b]), (14, .agg #[.bool true, .bool true, .bool uo, .bool ua, .bool ub, .int .i64 um, .int .i64 un]), (15, .bool true), (16, .bool false), (17, zp_ b2 0), (18, .bool true), (19, zp_ b1 2), (20, .agg #[.int .i64 kl, str nl, .int .i64 ll, .int .i64 hl, .slice al pl.length cl]), (21, .int .i64 (Con.check (.mk kl nl ll hl al cl pl))), (4, .int .i64 (Con.check (.mk kl nl ll hl al cl pl))), (22, .int .i64 (Con.check (.mk kl nl ll hl al cl pl))), (23, .bool false), (25, zp_ b2 1), (26, .bool true), (27, zp_ b1 7), (28, .agg #[.int .i64 kr, str nr, .int .i64 lr, .int .i64 hr, .slice ar pr.length cr]), (29, .int .i64 (Con.check (.mk kr nr lr hr ar cr pr))), (5, .int .i64 (Con.check (.mk kr nr lr hr ar cr pr))), (30, .int .i64 (Con.check (.mk kr nr lr hr ar cr pr))), (31, .bool false), (33, zp_ b1 0), (34, .int .i64 k), (36, .bool true), (35, .bool true), (44, .bool r)]) ?_ fun r44 hr44 => ?_
        ·
         cases r43
         ·
          have qr44 := hr43
          try dsimp only [Con.kind, Con.parts, Con.name, Con.lo, Con.hi, Con.cap, Con.ad] at hr43
          refine o_ rfl rfl (a_ (j_ y_ rfl rfl rfl v_) rfl (o_ rfl rfl (a_ (L_ 1 T_ v_ rfl rfl rfl) rfl (o_ rfl rfl (ax_ (cj_ _ (.mk kr nr lr hr ar cr pr) (Nat.le_refl _) hok.right) rfl (.refl _) (fun v _ h => ⟨h.1.2.1, trivial⟩) rfl fun r45 hr45 => ?_)))))
          refine a_ (N_ rfl rfl) rfl (d_ (r_ rfl ?_))
          exact met ⟨rfl, rfl, rfl, rfl, rfl, rfl, rfl, rfl, rfl, rfl, rfl, rfl, rfl, rfl, rfl, rfl, rfl, rfl, rfl, rfl, rfl, rfl, rfl, rfl, rfl, rfl, rfl, rfl, rfl, rfl, rfl, rfl, rfl, rfl, rfl, (E_ rfl (jof qr44 hr45)), trivial⟩
         ·
          have qr44 := hr43
          try dsimp only [Con.kind, Con.parts, Con.name, Con.lo, Con.hi, Con.cap, Con.ad] at hr43
          refine t_ rfl rfl rfl rfl (t_ rfl rfl rfl rfl (t_ rfl rfl rfl rfl (a_ (R_ rfl rfl) rfl (d_ (r_ rfl ?_)))))
          exact met ⟨rfl, rfl, rfl, rfl, rfl, rfl, rfl, rfl, rfl, rfl, rfl, rfl, rfl, rfl, rfl, rfl, rfl, rfl, rfl, rfl, rfl, rfl, rfl, rfl, rfl, rfl, rfl, rfl, rfl, rfl, rfl, rfl, rfl, rfl, rfl, (E_ rfl (jot qr44)), trivial⟩
        ·
         refine d_ (b_ rfl ?_)
         cases r44
         ·
          simp at hr44
          try dsimp only [Con.kind, Con.parts, Con.name, Con.lo, Con.hi, Con.cap, Con.ad] at hr44
          refine p_ rfl (A_ (b_ rfl (f_ (c_ (a_ (g_ rfl) rfl (d_ (b_ rfl (B_ ?_))))))))
          exact as_ aw_ () (aJ_ rfl (by unfold Ax.check; simp only [hus]; simp_all)) (.refl _) (fun _ _ _ => trivial)
         ·
          simp at hr44
          try dsimp only [Con.kind, Con.parts, Con.name, Con.lo, Con.hi, Con.cap, Con.ad] at hr44
          refine n_ rfl (f_ (c_ (a_ (g_ rfl) rfl (d_ (b_ rfl (B_ ?_))))))
          exact as_ aw_ () (aJ_ rfl (by unfold Ax.check; simp only [hus]; simp_all)) (.refl _) (fun _ _ _ => trivial)
      ·
       replace hr35 := bb_ hr35
       try dsimp only [Con.kind, Con.parts, Con.name, Con.lo, Con.hi, Con.cap, Con.ad] at hr35
       refine n_ rfl (f_ (c_ (a_ (h_ rfl) rfl (a_ (g_ rfl) rfl (d_ (b_ rfl (B_ ?_)))))))
       exact as_ aw_ () (aJ_ rfl (by unfold Ax.check; simp only [hus]; simp_all)) (.refl _) (fun _ _ _ => trivial)
    ·
     replace hr24 := bb_ hr24
     try dsimp only [Con.kind, Con.parts, Con.name, Con.lo, Con.hi, Con.cap, Con.ad] at hr24
     refine n_ rfl (f_ (c_ (a_ (h_ rfl) rfl (a_ (g_ rfl) rfl (d_ (b_ rfl (B_ ?_)))))))
     exact as_ aw_ () (aJ_ rfl (by unfold Ax.check; simp only [hus]; simp_all)) (.refl _) (fun _ _ _ => trivial)
end Go.Proofs.YtpdbbglpbngeiaaGreatDoor
namespace Go.Proofs.YtpdbbglpbngeiaaGreatDoor
open Go Go.Sx Go.Proofs
attribute [local irreducible] Code.wp wpList wpAnyH
open Go.Vs
def prE : Array MapEntry := #[⟨.int .i64 1, .func (.func 226) #[] #[], 0⟩, ⟨.int .i64 2, .func (.func 227) #[] #[], 1⟩, ⟨.int .i64 3, .func (.func 228) #[] #[], 2⟩, ⟨.int .i64 4, .func (.func 229) #[] #[], 3⟩, ⟨.int .i64 5, .func (.func 230) #[] #[], 4⟩, ⟨.int .i64 6, .func (.func 231) #[] #[], 5⟩, ⟨.int .i64 7, .func (.func 232) #[] #[], 6⟩]
def prF (m : Nat) : Fct := dZ_ m (.map prE 7)
def prV (m n : Nat) : Value := .agg #[.map (some m), .map (some n)]
theorem elt39 : Elt Tryz.prog 25 9 1 16 := ki_ gE_ (z := .string ⟨#[]⟩) (by kernel_rfl) rfl (by decide)
theorem qO_ {b n cap : Nat} (xs : List Str) (sep : Str) (hn : xs.length = n) {arr : Array Value} {T : TypeId} {fz : Nat × Nat} (hc : ∀ (j : Nat) (x : Str), xs[j]? = some x → arr[j]? = some (str x)) (hcap : xs.length ≤ cap) (hN : xs.length ≤ 1000000) (hlen : (Lib.join xs sep).length ≤ 140737488355328) :
    Tri Tryz.prog 250 #[.slice (some ⟨b, 0, none⟩) n cap, str sep] [(b, .cells arr T fz)] [dB_] (fun _ : Unit => str (Lib.join xs sep)) (fun _ => [(b, .cells arr T fz)]) (fun _ => []) := by
  subst hn
  refine dA_ (callable Tryz.func250 rfl rfl) fun v h1 hs => ?_
  have hb := (h1.own _ List.mem_cons_self).1
  have e : (xs.map fun x => (⟨x.toArray⟩ : ByteArray)).map (·.data.toList) = xs := by simp [List.map_map, Function.comp_def]
  have := Tryz.strings_Join b 0 cap (xs.map fun x => ⟨x.toArray⟩) ⟨sep.toArray⟩ v.w (fun j x hj => by
    simp only [List.getElem?_map, Option.map_eq_some_iff] at hj
    obtain ⟨y, hy, rfl⟩ := hj
    simp only [World.cell?, hb, Nat.zero_add]
    exact hc j y hy) (Array.getElem?_eq_some_iff.1 hb).1 (by simp; omega) (by simpa using hcap) (by rw [e]; exact hlen)
  rw [e, List.length_map] at this
  exact this.mono fun _ _ q => ⟨q.1, q.2, .inl hs.1.2.2.2.1⟩
theorem qQ_ (n : Int) (h0 : -9223372036854775808 ≤ n) (h1 : n ≤ 9223372036854775807) : Tri Tryz.prog 252 #[.int .i64 n] [] [dB_] (fun _ : Unit => str (Lib.itoa n)) (fun _ => []) (fun _ => []) :=
  dA_ (callable Tryz.func252 rfl rfl) fun v _ h => (Tryz.strconv_Itoa n h0 h1 v.w (pj_ h.1.2.2.2)).mono (by
    rintro e w' ⟨rfl, k, os, rfl⟩
    exact ⟨rfl, of_ _ _ _, .inr (Nat.le_add_right _ _)⟩)
theorem on_ {b n : Nat} (xs : List Str) (hn : xs.length = n) {arr : Array Value} {T : TypeId} {fz : Nat × Nat} (hc : ∀ (j : Nat) (x : Str), xs[j]? = some x → arr[j]? = some (str x)) (hN : xs.length ≤ 1000000) (hlen : (Lib.join xs [32]).length ≤ 140737488355328) :
    Tri Tryz.prog 251 #[.slice (some ⟨b, 0, none⟩) n n] [(b, .cells arr T fz)] [dB_] (fun _ : Unit => str (Lib.join xs [32])) (fun _ => [(b, .cells arr T fz)]) (fun _ => []) := by
  refine M_ Tryz.func251 rfl rfl Tryz.ntmps251 rfl fun v0 => ?_
  refine f_ (c_ (a_ (g_ rfl) rfl (d_ (b_ rfl (f_ (c_ (a_ (h_ rfl) rfl (Q_ (qO_ xs [32] hn hc (Nat.le_of_eq hn) hN hlen) rfl (.refl _) (fun v _ h => h) rfl fun _ => ?_))))))))
  refine a_ (g_ rfl) rfl (d_ (b_ rfl (B_ ?_)))
  exact as_ Tryz.results251 () rfl (F := []) (.refl _) (fun _ _ _ => trivial)
theorem pr_top (c : Con) (m n : Nat) (hk : c.kind = 1) : Tri Tryz.prog 226 #[prV m n, c.val] [] [c.memF, prF m, dB_] (fun _ : Unit => str c.text) (fun _ => []) (fun _ => []) := by
  obtain ⟨k, nm, lo, hi, ad, cap, ps⟩ := c
  simp only [Con.kind] at hk
  refine M_ Tryz.func226 rfl rfl Tryz.ntmps226 rfl fun v0 => ?_
  refine f_ (c_ (aF_ rfl rfl fun b1 => ?_))
  refine aF_ rfl rfl fun b2 => ?_
  refine a_ (g_ rfl) rfl (d_ (b_ rfl (f_ (c_ (a_ (g_ rfl) rfl (d_ (b_ rfl (B_ ?_))))))))
  exact as_ Tryz.results226 () (dL_ rfl (by rw [Con.text_eq]; simp [Con.kind, Con.name, hk])) (.refl _) (fun _ _ _ => trivial)
theorem pi_ (c : Con) (m n : Nat) (hk : c.kind = 2) : Tri Tryz.prog 227 #[prV m n, c.val] [] [c.memF, prF m, dB_] (fun _ : Unit => str c.text) (fun _ => []) (fun _ => []) := by
  obtain ⟨k, nm, lo, hi, ad, cap, ps⟩ := c
  simp only [Con.kind] at hk
  refine M_ Tryz.func227 rfl rfl Tryz.ntmps227 rfl fun v0 => ?_
  refine f_ (c_ (aF_ rfl rfl fun b1 => ?_))
  refine aF_ rfl rfl fun b2 => ?_
  refine a_ (g_ rfl) rfl (d_ (b_ rfl (f_ (c_ (a_ (g_ rfl) rfl (d_ (b_ rfl (B_ ?_))))))))
  exact as_ Tryz.results227 () (dL_ rfl (by rw [Con.text_eq]; simp [Con.kind, Con.name, hk])) (.refl _) (fun _ _ _ => trivial)
theorem qv_ (c : Con) (m n : Nat) (hk : c.kind = 3) : Tri Tryz.prog 228 #[prV m n, c.val] [] [c.memF, prF m, dB_] (fun _ : Unit => str c.text) (fun _ => []) (fun _ => []) := by
  obtain ⟨k, nm, lo, hi, ad, cap, ps⟩ := c
  simp only [Con.kind] at hk
  refine M_ Tryz.func228 rfl rfl Tryz.ntmps228 rfl fun v0 => ?_
  refine f_ (c_ (aF_ rfl rfl fun b1 => ?_))
  refine aF_ rfl rfl fun b2 => ?_
  refine a_ (g_ rfl) rfl (d_ (b_ rfl (f_ (c_ (a_ (j_ K_ rfl rfl rfl s_) rfl (a_ (q_ 0 w_ rfl rfl rfl) rfl (a_ (g_ rfl) rfl (d_ (b_ rfl ?_)))))))))
  refine B_ ?_
  exact as_ Tryz.results228 () (dL_ rfl (by rw [Con.text_eq]; simp [Con.kind, Con.name, hk])) (.refl _) (fun _ _ _ => trivial)
theorem nE_ (c : Con) (m n : Nat) (hk : c.kind = 4) (hl : c.name.length ≤ 24) : Tri Tryz.prog 229 #[prV m n, c.val] [] [c.memF, prF m, dB_] (fun _ : Unit => str c.text) (fun _ => []) (fun _ => []) := by
  obtain ⟨k, nm, lo, hi, ad, cap, ps⟩ := c
  simp only [Con.kind] at hk
  refine M_ Tryz.func229 rfl rfl Tryz.ntmps229 rfl fun v0 => ?_
  simp only [Con.name] at hl
  refine f_ (c_ (aF_ rfl rfl fun b1 => ?_))
  refine aF_ rfl rfl fun b2 => ?_
  refine a_ (g_ rfl) rfl (d_ (b_ rfl (f_ (c_ (a_ (j_ K_ rfl rfl rfl s_) rfl (a_ (q_ 0 w_ rfl rfl rfl) rfl (a_ (eH_ rfl rfl (by simp [Con.name]; omega)) rfl (a_ (eH_ rfl rfl (by simp [Con.name]; omega)) rfl (a_ (g_ rfl) rfl ?_)))))))))
  refine d_ (b_ rfl (B_ ?_))
  exact as_ Tryz.results229 () (dL_ rfl (by rw [Con.text_eq]; simp [Con.kind, Con.name, hk])) (.refl _) (fun _ _ _ => trivial)
theorem nD_ (c : Con) (m n : Nat) (hl : c.text.length ≤ 100000) (hT : Tri Tryz.prog 219 #[prV m n, c.val] [] [c.memF, prF m, dB_] (fun _ : Unit => str c.text) (fun _ => []) (fun _ => [])) : Tri Tryz.prog 249 #[prV m n, c.val] [] [c.memF, prF m, dB_] (fun _ : Unit => str c.operand) (fun _ => []) (fun _ => []) := by
  obtain ⟨k, nm, lo, hi, ad, cap, ps⟩ := c
  refine M_ Tryz.func249 rfl rfl Tryz.ntmps249 rfl fun v0 => ?_
  refine f_ (c_ (aF_ rfl rfl fun b1 => ?_))
  refine aF_ rfl rfl fun b2 => ?_
  refine a_ (g_ rfl) rfl (d_ (b_ rfl (f_ (f_ (c_ (a_ (j_ K_ rfl rfl rfl H_) rfl (a_ (q_ 0 J_ rfl rfl rfl) rfl (x_ (aA_ rfl rfl) rfl fun r1 hr1 => ?_))))))))
  refine d_ (b_ rfl ?_)
  cases r1
  · skip
    replace hr1 := ne_of_beq_false hr1
    try dsimp only [Con.kind, Con.parts, Con.name, Con.lo, Con.hi, Con.cap, Con.ad] at hr1
    refine p_ rfl (A_ (b_ rfl (f_ (c_ (a_ (L_ 1 lv_ gG_ rfl rfl rfl) rfl (a_ (L_ 0 T_ v_ rfl rfl rfl) rfl (Q_ (hT) rfl (.refl _) (fun v _ h => h) rfl fun _ => ?_)))))))
    refine a_ (g_ rfl) rfl (d_ (b_ rfl (B_ ?_)))
    exact as_ Tryz.results249 () (dL_ rfl (by unfold Con.operand; first | exact (if_pos (by assumption)).symm | exact (if_neg (by assumption)).symm)) (.refl _) (fun _ _ _ => trivial)
  · skip
    replace hr1 := eq_of_beq hr1
    try dsimp only [Con.kind, Con.parts, Con.name, Con.lo, Con.hi, Con.cap, Con.ad] at hr1
    refine n_ rfl (f_ (c_ (a_ (L_ 1 lv_ gG_ rfl rfl rfl) rfl (a_ (L_ 0 T_ v_ rfl rfl rfl) rfl (Q_ (hT) rfl (.refl _) (fun v _ h => h) rfl fun _ => ?_)))))
    refine a_ (eH_ rfl rfl (by simp only [List.length_append, List.length_cons, List.length_nil]; omega)) rfl (a_ (eH_ rfl rfl (by simp only [List.length_append, List.length_cons, List.length_nil]; omega)) rfl (a_ (g_ rfl) rfl (d_ (b_ rfl (B_ ?_)))))
    exact as_ Tryz.results249 () (dL_ rfl (by unfold Con.operand; first | exact (if_pos (by assumption)).symm | exact (if_neg (by assumption)).symm)) (.refl _) (fun _ _ _ => trivial)
theorem fl_ (c : Con) (m n : Nat) {g i : Nat} (hf : dX_ Tryz.prog 3 (.int .i64 c.kind) prE.toList (some (i, .func (.func g) #[] #[]))) (hT : Tri Tryz.prog g #[prV m n, c.val] [] [c.memF, prF m, dB_] (fun _ : Unit => str c.text) (fun _ => []) (fun _ => [])) : Tri Tryz.prog 219 #[prV m n, c.val] [] [c.memF, prF m, dB_] (fun _ : Unit => str c.text) (fun _ => []) (fun _ => []) := by
  obtain ⟨k, nm, lo, hi, ad, cap, ps⟩ := c
  refine M_ Tryz.func219 rfl rfl Tryz.ntmps219 rfl fun v0 => ?_
  refine f_ (c_ (aF_ rfl rfl fun b1 => ?_))
  refine aF_ rfl rfl fun b2 => ?_
  refine a_ (g_ rfl) rfl (d_ (b_ rfl (f_ (c_ (a_ (j_ Tryz.runUnderlying236 rfl rfl rfl Tryz.sizeOf233) rfl (a_ (q_ 1 Tryz.isAgg233 rfl rfl rfl) rfl (a_ (j_ K_ rfl rfl rfl H_) rfl (a_ (q_ 0 J_ rfl rfl rfl) rfl (a_ (gb_ dg_ rfl rfl (fun v _ h => h.2.1.2) (cf_ Y_) hf) rfl ?_)))))))))
  refine a_ (L_ 1 lv_ gG_ rfl rfl rfl) rfl (a_ (L_ 0 T_ v_ rfl rfl rfl) rfl (aH_ (hT) rfl rfl (.refl _) (fun v _ h => by exact h) rfl fun _ => ?_))
  refine a_ (g_ rfl) rfl (d_ (b_ rfl (B_ ?_)))
  exact as_ Tryz.results219 () rfl (.refl _) (fun _ _ _ => trivial)
theorem rA_ : iY_ Tryz.prog 236 [(0, 1), (1, 1)] [.map none, .map none] := ⟨_, Tryz.zeroValue236, Tryz.runUnderlying236, fun w => by simp [Tryz.sizeOf233, Tryz.sizeOf234]⟩
theorem lp_ : Tri Tryz.prog 218 #[] [] [] (fun q : Nat × Nat => prV q.1 q.2) (fun _ => []) (fun q => [prF q.1]) := by
  refine M_ Tryz.func218 rfl rfl Tryz.ntmps218 rfl fun v0 => ?_
  refine f_ (c_ (al_ Tryz.zeroValue236 rfl fun b1 => ?_))
  refine d_ (b_ rfl (f_ (c_ (cL_ rfl fun b2 => ?_))))
  refine bO_ 0 (.inl rfl) dg_ rfl rfl rfl rfl (cf_ Y_) (bu_ Y_ rfl) (bO_ 0 (.inl rfl) dg_ rfl rfl rfl rfl (cf_ Y_) (bu_ Y_ rfl) (bO_ 0 (.inl rfl) dg_ rfl rfl rfl rfl (cf_ Y_) (bu_ Y_ rfl) (bO_ 0 (.inl rfl) dg_ rfl rfl rfl rfl (cf_ Y_) (bu_ Y_ rfl) (bO_ 0 (.inl rfl) dg_ rfl rfl rfl rfl (cf_ Y_) (bu_ Y_ rfl) (bO_ 0 (.inl rfl) dg_ rfl rfl rfl rfl (cf_ Y_) (bu_ Y_ rfl) (bO_ 0 (.inl rfl) dg_ rfl rfl rfl rfl (cf_ Y_) (bu_ Y_ rfl) (a_ (h_ rfl) rfl (cL_ rfl fun b3 => ?_))))))))
  refine bO_ 0 (.inl rfl) cE_ rfl rfl rfl rfl (cf_ Y_) (bu_ Y_ rfl) (bO_ 0 (.inl rfl) cE_ rfl rfl rfl rfl (cf_ Y_) (bu_ Y_ rfl) (bO_ 0 (.inl rfl) cE_ rfl rfl rfl rfl (cf_ Y_) (bu_ Y_ rfl) (bO_ 0 (.inl rfl) cE_ rfl rfl rfl rfl (cf_ Y_) (bu_ Y_ rfl) (bO_ 0 (.inl rfl) cE_ rfl rfl rfl rfl (cf_ Y_) (bu_ Y_ rfl) (bO_ 0 (.inl rfl) cE_ rfl rfl rfl rfl (cf_ Y_) (bu_ Y_ rfl) (bO_ 0 (.inl rfl) cE_ rfl rfl rfl rfl (cf_ Y_) (bu_ Y_ rfl) (bO_ 0 (.inl rfl) cE_ rfl rfl rfl rfl (cf_ Y_) (bu_ Y_ rfl) (bO_ 0 (.inl rfl) cE_ rfl rfl rfl rfl (cf_ Y_) (bu_ Y_ rfl) (a_ (h_ rfl) rfl ?_)))))))))
  refine a_ (ag_ rA_ rfl rfl) rfl (Z_ 2 gG_ rfl rfl rfl rfl rfl rfl (d_ (b_ rfl (B_ (hV_ 1 rfl ?_)))))
  exact dY_ (b2, b3) (fun a v h1 h2 => fJ_ (us := [_, _]) 1 Tryz.results218 lv_ gG_ rfl rfl rfl a v h1 h2) (.refl _) (fun v _ h => ⟨h.1, trivial⟩)
theorem pr_and (c : Con) (m n : Nat) (hk0 : c.kind = 5) (hps : 2 ≤ c.parts.length ∧ c.parts.length ≤ 8) (hl : (Lib.join (c.parts.map Con.operand) [32, 97, 110, 100, 32]).length ≤ 140737488355328) (hop : ∀ p ∈ c.parts, Tri Tryz.prog 249 #[prV m n, p.val] [] [p.memF, prF m, dB_] (fun _ : Unit => str p.operand) (fun _ => []) (fun _ => [])) : Tri Tryz.prog 230 #[prV m n, c.val] [] [c.memF, prF m, dB_] (fun _ : Unit => str c.text) (fun _ => []) (fun _ => []) := by
  obtain ⟨k, nm, lo, hi, ad, cap, ps⟩ := c
  simp only [Con.kind, Con.parts] at hk0 hps hl hop
  refine M_ Tryz.func230 rfl rfl Tryz.ntmps230 rfl fun v0 => ?_
  refine f_ (c_ (aF_ rfl rfl fun b1 => ?_))
  refine aF_ rfl rfl fun b2 => ?_
  refine a_ (g_ rfl) rfl (d_ (b_ rfl (f_ (c_ (a_ (g_ rfl) rfl (d_ (b_ rfl (f_ (f_ ?_)))))))))
  refine c_ (a_ (j_ K_ rfl rfl rfl bw_) rfl (a_ (q_ 0 bM_ rfl rfl rfl) rfl (a_ (ah_ av_ rfl) rfl (a_ (h_ rfl) rfl (d_ (b_ rfl (S_ (bS_ [(2, zp_ b1 0), (5, .slice none 0 0), (9, .slice ad ps.length cap), (10, .int .i64 (ps.length : Int)), (11, .int .i64 ((0 : Nat) : Int))] ⟨rfl, rfl, rfl, rfl, rfl, trivial⟩ ?_))))))))
  refine bY_ (ι := {q : Nat × Value × Hp // q.1 ≤ ps.length ∧ bk_ 9 1 q.2.1 q.1 ((ps.take q.1).flatMap fun p => bg_ p.operand) q.2.2}) (fun q => [(2, zp_ b1 0), (5, q.1.2.1), (9, .slice ad ps.length cap), (10, .int .i64 (ps.length : Int)), (11, .int .i64 (q.1.1 : Int))]) (fun q => _ :: _ :: q.1.2.2) (fun _ => _) (fun q => ps.length - q.1.1) ⟨(0, .slice none 0 0, []), by simp, bk_.nil _ _⟩ ?_
  rintro ⟨⟨i, sv, Hr⟩, hk⟩
  dsimp only at hk
  refine bS_ [(2, zp_ b1 0), (5, sv), (9, .slice ad ps.length cap), (10, .int .i64 (ps.length : Int)), (11, .int .i64 (i : Int))] ⟨rfl, rfl, rfl, rfl, rfl, trivial⟩ ?_
  refine f_ (c_ (x_ (az_ rfl rfl) rfl fun r1 hr1 => ?_))
  refine d_ (b_ rfl (f_ ?_))
  cases r1
  · skip
    replace hr1 := of_decide_eq_false hr1
    try dsimp only [Con.kind, Con.parts, Con.name, Con.lo, Con.hi, Con.cap, Con.ad] at hr1
    obtain rfl : i = ps.length := by omega
    obtain ⟨g, cp, cur, rfl, rfl, h3, h4, h5, h6⟩ := hk.2.some (by omega)
    rw [List.take_length] at h6
    refine p_ rfl (aD_ rfl (b_ rfl (f_ (c_ (a_ (h_ rfl) rfl (Q_ (qO_ (ps.map Con.operand) [32, 97, 110, 100, 32] (by simp) (kC_ (n := ps.length) (by rw [h6, List.flatMap_map])) (by simpa using h3) (by simp; omega) hl) rfl (@List.perm_append_comm _ [_, _] _) (fun v _ h => ⟨h.2.2.1, trivial⟩) rfl fun _ => ?_))))))
    refine a_ (g_ rfl) rfl (d_ (b_ rfl (B_ ?_)))
    exact as_ Tryz.results230 () (dL_ rfl (by rw [Con.text_eq]; simp [Con.kind, Con.parts, hk0])) (.refl _) (fun _ _ _ => trivial)
  · skip
    replace hr1 := of_decide_eq_true hr1
    try dsimp only [Con.kind, Con.parts, Con.name, Con.lo, Con.hi, Con.cap, Con.ad] at hr1
    have hlt : i < ps.length := by omega
    obtain ⟨p, hp⟩ : ∃ p, ps[i]? = some p := ⟨_, List.getElem?_eq_getElem hlt⟩
    have hpm : p ∈ ps := List.mem_of_getElem? hp
    refine n_ rfl (A_ (b_ rfl (f_ (S_ (f_ (c_ (a_ (ak_ av_ v_ rfl rfl (fun v _ h => aL_ (n := 5) Con.cells_len (by decide) (((Con.mem_iff (.mk k nm lo hi ad cap ps) v).1 h.1).1) hp) (by omega) (by first | omega | (simp only [Con.parts]; omega) | (simp [Con.parts]; done))) rfl (a_ (aE_ (ad := ad) (us := p.cells) T_ v_ rfl (fun v _ h => ((Con.mem_iff (.mk k nm lo hi ad cap ps) v).1 h.1).1) (Con.cells_len _) (an_ Con.cells_len hp)) rfl (al_ eb_ rfl fun b3 => ?_)))))))))
    refine eE_ 0 v_ rfl rfl rfl rfl (d_ (b_ rfl (c_ (a_ (h_ rfl) rfl (a_ (L_ 2 lv_ gG_ rfl rfl rfl) rfl (a_ (dc_ 0 T_ v_ rfl rfl) rfl (Q_ (hop p hpm) rfl (.refl _) (fun v _ h => ⟨Con.mem_part (c := (.mk k nm lo hi ad cap ps)) h.1 hpm, h.2.1, h.2.2.1, trivial⟩) rfl fun _ => ?_)))))))
    refine aK_ P_ s_ bq_ rfl rfl rfl rfl rfl rfl fun b4 => ?_
    refine bd_ elt39 hk.2 rfl rfl (@List.perm_append_comm _ [_, _, _, _] _) rfl (cQ_ 0 rfl) (hf_ rfl) (by simp only [maxLen]; omega) (by omega) rfl fun sv2 Hr2 hrow => ?_
    refine at_ (@List.perm_append_comm _ _ [_, _, _, _]) (a_ (g_ rfl) rfl (d_ (b_ rfl (c_ (a_ (V_ rfl rfl rfl (aq_ (by omega) (by omega))) rfl (a_ (h_ rfl) rfl (d_ (r_ rfl ?_))))))))
    exact ao_ ⟨(i + 1, sv2, Hr2), hlt, by rw [Con.take_snoc hp, List.flatMap_append]; exact hrow⟩ (by simp; omega) ⟨rfl, rfl, rfl, rfl, rfl, trivial⟩ (F := [_, _]) (@List.perm_append_comm _ [_, _] _) (fun _ _ h => h)
theorem rR_ (c : Con) (m n : Nat) (hk0 : c.kind = 6) (hps : c.parts.length = 1) (hl : c.text.length ≤ 140737488355328) (hop : ∀ p ∈ c.parts, Tri Tryz.prog 249 #[prV m n, p.val] [] [p.memF, prF m, dB_] (fun _ : Unit => str p.operand) (fun _ => []) (fun _ => [])) : Tri Tryz.prog 231 #[prV m n, c.val] [] [c.memF, prF m, dB_] (fun _ : Unit => str c.text) (fun _ => []) (fun _ => []) := by
  obtain ⟨k, nm, lo, hi, ad, cap, ps⟩ := c
  simp only [Con.kind, Con.parts] at hk0 hps hop
  obtain ⟨p, rfl⟩ := List.length_eq_one_iff.1 hps
  have hp : [p][0]? = some p := rfl
  have hpm : p ∈ [p] := List.mem_singleton.2 rfl
  have ht : (Con.mk k nm lo hi ad cap [p]).text = Lib.join [[115, 111, 109, 101], nm, p.operand] [32] := by rw [Con.text_eq]; simp [Con.kind, Con.parts, Con.name, hk0]
  rw [ht] at hl
  refine M_ Tryz.func231 rfl rfl Tryz.ntmps231 rfl fun v0 => ?_
  refine f_ (c_ (aF_ rfl rfl fun b1 => ?_))
  refine aF_ rfl rfl fun b2 => ?_
  refine a_ (g_ rfl) rfl (d_ (b_ rfl (f_ ?_)))
  refine aN_ (by kernel_rfl) ?_
  refine ad_ 4 [0, 1, 2, 3, 4, 5, 6] (by kernel_rfl) (fun _ a b => ⟨a, b⟩) (k_ rfl (j_ K_ rfl rfl rfl s_) rfl (k_ rfl (q_ 0 w_ rfl rfl rfl) rfl (k_ rfl (L_ 1 lv_ gG_ rfl rfl rfl) rfl (k_ rfl (j_ K_ rfl rfl rfl bw_) rfl (k_ rfl (q_ 0 bM_ rfl rfl rfl) rfl (k_ rfl (ak_ av_ v_ rfl rfl (fun v _ h => aL_ (n := 5) Con.cells_len (by decide) (((Con.mem_iff (.mk k nm lo hi ad cap [p]) v).1 h.1).1) hp) (by omega) (by first | omega | (simp only [Con.parts]; omega) | (simp [Con.parts]; done))) rfl (k_ rfl (aE_ (ad := ad) (us := p.cells) T_ v_ rfl (fun v _ h => ((Con.mem_iff (.mk k nm lo hi ad cap [p]) v).1 h.1).1) (Con.cells_len _) (an_ Con.cells_len hp)) rfl (ac_ (O_ 7 rfl (by kernel_rfl) ?_)))))))))
  refine Q_ (hop p hpm) rfl (.refl _) (fun v _ h => ⟨Con.mem_part (c := .mk k nm lo hi ad cap [p]) h.1 hpm, h.2.1, h.2.2.1, trivial⟩) rfl fun _ => ?_
  refine d_ (r_ rfl (C_ (fun _ a b => ⟨a, b⟩) (O_ 8 rfl (by kernel_rfl) (aK_ P_ s_ bq_ rfl rfl rfl rfl rfl rfl fun b3 => ?_))))
  refine d_ (r_ rfl (C_ (fun _ a b => ⟨a.tail, b⟩) (O_ 9 rfl (by kernel_rfl) (Q_ (on_ [[115, 111, 109, 101], nm, p.operand] rfl (oq_ _) (by simp) hl) rfl (.refl _) (fun v _ h => ⟨h.2.2.1, trivial⟩) rfl fun _ => ?_))))
  refine d_ (r_ rfl (C_ (fun _ a b => ⟨a.tail, b⟩) (ad_ 0 [10] (by kernel_rfl) (fun _ a b => ⟨a.tail, b⟩) (k_ rfl (g_ rfl) rfl (ac_ (ab_ (by kernel_rfl) (b_ rfl (B_ ?_))))))))
  exact as_ Tryz.results231 () (dL_ rfl ht.symm) (.refl _) (fun _ _ _ => trivial)
theorem rQ_ (c : Con) (m n : Nat) (hk0 : c.kind = 7) (hok : c.ok) (hl : c.text.length ≤ 140737488355328) : Tri Tryz.prog 232 #[prV m n, c.val] [] [c.memF, prF m, dB_] (fun _ : Unit => str c.text) (fun _ => []) (fun _ => []) := by
  obtain ⟨k, nm, lo, hi, ad, cap, ps⟩ := c
  simp only [Con.kind] at hk0
  obtain ⟨_, _, _, l1, l2, h1, h2, _⟩ := hok
  have ht : (Con.mk k nm lo hi ad cap ps).text = Lib.join [nm, [105, 110], Lib.itoa lo, [116, 111], Lib.itoa hi] [32] := by rw [Con.text_eq]; simp [Con.kind, Con.name, Con.lo, Con.hi, hk0]
  rw [ht] at hl
  refine M_ Tryz.func232 rfl rfl Tryz.ntmps232 rfl fun v0 => ?_
  refine f_ (c_ (aF_ rfl rfl fun b1 => ?_))
  refine aF_ rfl rfl fun b2 => ?_
  refine a_ (g_ rfl) rfl (d_ (b_ rfl (f_ ?_)))
  refine aN_ (by kernel_rfl) ?_
  refine ad_ 5 [0, 1, 2, 3, 5, 6] (by kernel_rfl) (fun _ a b => ⟨a, b⟩) (k_ rfl (j_ K_ rfl rfl rfl s_) rfl (k_ rfl (q_ 0 w_ rfl rfl rfl) rfl (k_ rfl (j_ K_ rfl rfl rfl H_) rfl (k_ rfl (q_ 0 J_ rfl rfl rfl) rfl (k_ rfl (j_ K_ rfl rfl rfl H_) rfl (k_ rfl (q_ 0 J_ rfl rfl rfl) rfl (ac_ (O_ 4 rfl (by kernel_rfl) (Q_ (qQ_ _ l1 l2) rfl (.refl _) (fun v _ h => ⟨h.2.2.1, trivial⟩) rfl fun _ => ?_)))))))))
  refine d_ (r_ rfl (C_ (fun _ a b => ⟨a, b⟩) (O_ 7 rfl (by kernel_rfl) (Q_ (qQ_ _ h1 h2) rfl (.refl _) (fun v _ h => ⟨h.2.2.1, trivial⟩) rfl fun _ => ?_))))
  refine d_ (r_ rfl (C_ (fun _ a b => ⟨a, b⟩) (O_ 8 rfl (by kernel_rfl) (aK_ P_ s_ bq_ rfl rfl rfl rfl rfl rfl fun b3 => ?_))))
  refine d_ (r_ rfl (C_ (fun _ a b => ⟨a.tail, b⟩) (O_ 9 rfl (by kernel_rfl) (Q_ (on_ [nm, [105, 110], Lib.itoa lo, [116, 111], Lib.itoa hi] rfl (oq_ _) (by simp) hl) rfl (.refl _) (fun v _ h => ⟨h.2.2.1, trivial⟩) rfl fun _ => ?_))))
  refine d_ (r_ rfl (C_ (fun _ a b => ⟨a.tail, b⟩) (ad_ 0 [10] (by kernel_rfl) (fun _ a b => ⟨a.tail, b⟩) (k_ rfl (g_ rfl) rfl (ac_ (ab_ (by kernel_rfl) (b_ rfl (B_ ?_))))))))
  exact as_ Tryz.results232 () (dL_ rfl ht.symm) (.refl _) (fun _ _ _ => trivial)
theorem rP_ (m n : Nat) : ∀ (d : Nat) (c : Con), c.sz ≤ d → c.sz ≤ 64 → c.ok → c.fine → Tri Tryz.prog 219 #[prV m n, c.val] [] [c.memF, prF m, dB_] (fun _ : Unit => str c.text) (fun _ => []) (fun _ => []) := by
  intro d
  induction d with
  | zero => intro c h; have := c.sz_pos; omega
  | succ d ih =>
    intro c hd h64 hok hf
    have F := Con.fields hf
    have hl := Con.text_len _ c (Nat.le_refl _) hok hf
    have hop : ∀ p ∈ c.parts, Tri Tryz.prog 249 #[prV m n, p.val] [] [p.memF, prF m, dB_] (fun _ : Unit => str p.operand) (fun _ => []) (fun _ => []) := fun p hp => by
      have hz := Con.sz_part hp
      have hl := Con.text_len _ p (Nat.le_refl _) (Con.ok_part hok hp) (Con.fine_part hf hp)
      exact nD_ p m n (by omega) (ih p (by omega) (by omega) (Con.ok_part hok hp) (Con.fine_part hf hp))
    have h1 := F.k1
    have h7 := F.k7
    have hm := F.mo
    have he := F.le
    have hk : c.kind = 1 ∨ c.kind = 2 ∨ c.kind = 3 ∨ c.kind = 4 ∨ c.kind = 5 ∨ c.kind = 6 ∨ c.kind = 7 := by omega
    rcases hk with hk | hk | hk | hk | hk | hk | hk
    · exact fl_ c m n (by rw [hk]; exact bu_ Y_ rfl) (pr_top c m n hk)
    · exact fl_ c m n (by rw [hk]; exact bu_ Y_ rfl) (pi_ c m n hk)
    · exact fl_ c m n (by rw [hk]; exact bu_ Y_ rfl) (qv_ c m n hk)
    · exact fl_ c m n (by rw [hk]; exact bu_ Y_ rfl) (nE_ c m n hk F.nm)
    · have ht : c.text = Lib.join (c.parts.map Con.operand) [32, 97, 110, 100, 32] := by rw [Con.text_eq]; simp [hk]
      rw [hk] at hm he
      simp [nd, el_] at hm he
      exact fl_ c m n (by rw [hk]; exact bu_ Y_ rfl) (pr_and c m n hk ⟨by omega, by omega⟩ (by rw [← ht]; omega) hop)
    · rw [hk] at hm he
      simp [nd, el_] at hm he
      exact fl_ c m n (by rw [hk]; exact bu_ Y_ rfl) (rR_ c m n hk (by omega) (by omega) hop)
    · exact fl_ c m n (by rw [hk]; exact bu_ Y_ rfl) (rQ_ c m n hk hok (by omega))
end Go.Proofs.YtpdbbglpbngeiaaGreatDoor
namespace Go.Proofs.YtpdbbglpbngeiaaGreatDoor
open Go Go.Sx Go.Proofs
attribute [local irreducible] Code.wp wpList wpAnyH
open Go.Vs
theorem mA_ (c : Con) (hok : c.ok) : Tri Tryz.prog 203 #[c.val] [] [c.memF, dB_] (fun _ : Unit => .tuple #[str c.textN, .int .i64 c.check]) (fun _ => []) (fun _ => []) := by
  obtain ⟨k, nm, lo, hi, ad, cap, ps⟩ := c
  refine M_ Tryz.func203 rfl rfl Tryz.ntmps203 rfl fun v0 => ?_
  refine f_ (c_ (aF_ rfl rfl fun b1 => ?_))
  refine a_ (g_ rfl) rfl (a_ (g_ rfl) rfl (d_ (b_ rfl (f_ (f_ (c_ (a_ (L_ 0 T_ v_ rfl rfl rfl) rfl (Q_ (ez_ (.mk k nm lo hi ad cap ps) hok) rfl (.refl _) (fun v _ h => ⟨h.1, h.2.1, trivial⟩) rfl fun _ => ?_))))))))
  refine a_ (g_ rfl) rfl (d_ (b_ rfl (f_ (c_ (a_ (h_ rfl) rfl (x_ (bR_ rfl rfl) rfl fun r1 hr1 => ?_))))))
  refine d_ (b_ rfl ?_)
  cases r1
  · skip
    replace hr1 := bc_ hr1
    try dsimp only [Con.kind, Con.parts, Con.name, Con.lo, Con.hi, Con.cap, Con.ad] at hr1
    obtain ⟨hfine, h64⟩ := Con.check_zero hr1
    refine p_ rfl (A_ (b_ rfl (f_ ?_)))
    refine aN_ (by kernel_rfl) ?_
    refine ad_ 4 [1] (by kernel_rfl) (fun _ a b => ⟨a, b⟩) (k_ rfl (L_ 0 T_ v_ rfl rfl rfl) rfl (ac_ (O_ 0 rfl (by kernel_rfl) (Q_ (lp_) rfl (.refl _) (fun _ _ _ => trivial) rfl fun q => ?_))))
    refine d_ (r_ rfl (C_ (fun _ a b => ⟨a, b.2⟩) (O_ 2 rfl (by kernel_rfl) (Q_ (rP_ q.1 q.2 _ (.mk k nm lo hi ad cap ps) (Nat.le_refl _) h64 hok hfine) rfl (.refl _) (fun v _ h => ⟨h.2.1, h.1, h.2.2.1, trivial⟩) rfl fun _ => ?_))))
    refine d_ (r_ rfl (C_ (fun _ a b => ⟨a, b.2⟩) (ad_ 0 [3, 4] (by kernel_rfl) (fun _ a b => ⟨a, b.2⟩) (k_ rfl (g_ rfl) rfl (k_ rfl (g_ rfl) rfl (ac_ (ab_ (by kernel_rfl) (b_ rfl (B_ ?_)))))))))
    exact pe_ Tryz.results203 () rfl rfl (by simp [Con.textN, *] <;> rfl) (.refl _) (fun _ _ _ => trivial)
  · skip
    replace hr1 := bb_ hr1
    try dsimp only [Con.kind, Con.parts, Con.name, Con.lo, Con.hi, Con.cap, Con.ad] at hr1
    refine n_ rfl (f_ (c_ (a_ (h_ rfl) rfl (a_ (g_ rfl) rfl (a_ (g_ rfl) rfl (d_ (b_ rfl (B_ ?_))))))))
    exact pe_ Tryz.results203 () rfl rfl (by simp [Con.textN, *] <;> rfl) (.refl _) (fun _ _ _ => trivial)
theorem rY_ (c : Con) (hok : c.ok) : Tri Tryz.prog 183 #[c.val] [] [c.memF, dB_] (fun _ : Unit => str c.textN) (fun _ => []) (fun _ => []) := by
  obtain ⟨k, nm, lo, hi, ad, cap, ps⟩ := c
  refine M_ Tryz.func183 rfl rfl Tryz.ntmps183 rfl fun v0 => ?_
  refine f_ (c_ (aF_ rfl rfl fun b1 => ?_))
  refine a_ (g_ rfl) rfl (d_ (b_ rfl (f_ (c_ (a_ (L_ 0 T_ v_ rfl rfl rfl) rfl (Q_ (mA_ (.mk k nm lo hi ad cap ps) hok) rfl (.refl _) (fun v _ h => h) rfl fun _ => ?_))))))
  refine a_ (h_ rfl) rfl (a_ (ae_ rfl rfl) rfl (a_ (ae_ rfl rfl) rfl (a_ (g_ rfl) rfl (a_ (g_ rfl) rfl (d_ (b_ rfl (f_ (c_ (a_ (h_ rfl) rfl ?_)))))))))
  refine a_ (g_ rfl) rfl (d_ (b_ rfl (B_ ?_)))
  exact as_ Tryz.results183 () rfl (.refl _) (fun _ _ _ => trivial)
theorem eW_ (s : Str) (hs : s.length ≤ 140737488351232) :
    Fn0 Tryz.prog 140 #[str s] (str ([123] ++ s ++ [125])) := by
  refine M_ Tryz.func140 rfl rfl Tryz.ntmps140 rfl fun v0 => ?_
  refine f_ (c_ (a_ (g_ rfl) rfl (d_ (b_ rfl (f_ (c_ (a_ (h_ rfl) rfl (a_ (eH_ rfl rfl (by simp; omega)) rfl (a_ (eH_ rfl rfl (by simp; omega)) rfl ?_)))))))))
  refine a_ (g_ rfl) rfl (d_ (b_ rfl (B_ ?_)))
  exact as_ Tryz.results140 () rfl (.refl _) (fun _ _ _ => trivial)
theorem dn_ (c : Con) (hok : c.ok) : Tri Tryz.prog 139 #[c.val] [] [c.memF, dB_] (fun _ : Unit => str c.atom) (fun _ => []) (fun _ => []) := by
 obtain ⟨k, nm, lo, hi, ad, cap, ps⟩ := c
 refine M_ Tryz.func139 rfl rfl Tryz.ntmps139 rfl fun v0 => ?_
 refine f_ (c_ (aF_ rfl rfl fun b1 => ?_))
 refine a_ (g_ rfl) rfl (d_ (b_ rfl (f_ (f_ (c_ (a_ (j_ K_ rfl rfl rfl H_) rfl (a_ (q_ 0 J_ rfl rfl rfl) rfl (d_ (b_ rfl ?_)))))))))
 refine S_ (f_ (c_ (x_ (aA_ rfl rfl) rfl fun r1 hr1 => ?_)))
 refine a_ (g_ rfl) rfl (d_ (b_ rfl ?_))
 cases r1
 ·
  replace hr1 := ne_of_beq_false hr1
  try dsimp only [Con.kind, Con.parts, Con.name, Con.lo, Con.hi, Con.cap, Con.ad] at hr1
  refine p_ rfl (f_ (c_ (x_ (aA_ rfl rfl) rfl fun r2 hr2 => ?_)))
  refine a_ (g_ rfl) rfl (d_ (b_ rfl ?_))
  cases r2
  ·
   replace hr2 := ne_of_beq_false hr2
   try dsimp only [Con.kind, Con.parts, Con.name, Con.lo, Con.hi, Con.cap, Con.ad] at hr2
   refine p_ rfl (f_ (c_ (x_ (aA_ rfl rfl) rfl fun r3 hr3 => ?_)))
   refine a_ (g_ rfl) rfl (d_ (b_ rfl ?_))
   cases r3
   ·
    replace hr3 := ne_of_beq_false hr3
    try dsimp only [Con.kind, Con.parts, Con.name, Con.lo, Con.hi, Con.cap, Con.ad] at hr3
    refine p_ rfl (f_ (c_ (x_ (aA_ rfl rfl) rfl fun r4 hr4 => ?_)))
    refine a_ (g_ rfl) rfl (d_ (b_ rfl ?_))
    cases r4
    ·
     replace hr4 := ne_of_beq_false hr4
     try dsimp only [Con.kind, Con.parts, Con.name, Con.lo, Con.hi, Con.cap, Con.ad] at hr4
     refine p_ rfl (A_ (b_ rfl (f_ (c_ (a_ (L_ 0 T_ v_ rfl rfl rfl) rfl (Q_ (rY_ (.mk k nm lo hi ad cap ps) hok) rfl (.refl _) (fun v _ h => h) rfl fun _ => ?_))))))
     refine a_ (eH_ rfl rfl (by have := Con.textN_len hok; simp only [List.length_append, List.length_cons, List.length_nil]; omega)) rfl (a_ (eH_ rfl rfl (by have := Con.textN_len hok; simp only [List.length_append, List.length_cons, List.length_nil]; omega)) rfl (a_ (g_ rfl) rfl (d_ (b_ rfl (B_ ?_)))))
     exact as_ ot_ () (dL_ rfl (by unfold Con.atom; simp only [Con.kind, Con.name] at *; simp [*])) (.refl _) (fun _ _ _ => trivial)
    ·
     replace hr4 := eq_of_beq hr4
     try dsimp only [Con.kind, Con.parts, Con.name, Con.lo, Con.hi, Con.cap, Con.ad] at hr4
     refine n_ rfl (f_ (c_ (a_ (j_ K_ rfl rfl rfl s_) rfl (a_ (q_ 0 w_ rfl rfl rfl) rfl (Q_ (eW_ nm (Con.ok_name hok)) rfl (.refl _) (fun _ _ _ => trivial) rfl fun _ => ?_)))))
     refine a_ (g_ rfl) rfl (d_ (b_ rfl (B_ ?_)))
     exact as_ ot_ () (dL_ rfl (by unfold Con.atom; simp only [Con.kind, Con.name] at *; simp [*])) (.refl _) (fun _ _ _ => trivial)
   ·
    replace hr3 := eq_of_beq hr3
    try dsimp only [Con.kind, Con.parts, Con.name, Con.lo, Con.hi, Con.cap, Con.ad] at hr3
    refine n_ rfl (f_ (c_ (a_ (j_ K_ rfl rfl rfl s_) rfl (a_ (q_ 0 w_ rfl rfl rfl) rfl (a_ (g_ rfl) rfl (d_ (b_ rfl (B_ ?_))))))))
    exact as_ ot_ () (dL_ rfl (by unfold Con.atom; simp only [Con.kind, Con.name] at *; simp [*])) (.refl _) (fun _ _ _ => trivial)
  ·
   replace hr2 := eq_of_beq hr2
   try dsimp only [Con.kind, Con.parts, Con.name, Con.lo, Con.hi, Con.cap, Con.ad] at hr2
   refine n_ rfl (f_ (c_ (a_ (g_ rfl) rfl (d_ (b_ rfl (B_ ?_))))))
   exact as_ ot_ () (dL_ rfl (by unfold Con.atom; simp only [Con.kind, Con.name] at *; simp [*])) (.refl _) (fun _ _ _ => trivial)
 ·
  replace hr1 := eq_of_beq hr1
  try dsimp only [Con.kind, Con.parts, Con.name, Con.lo, Con.hi, Con.cap, Con.ad] at hr1
  refine n_ rfl (f_ (c_ (a_ (g_ rfl) rfl (d_ (b_ rfl (B_ ?_))))))
  exact as_ ot_ () (dL_ rfl (by unfold Con.atom; simp only [Con.kind, Con.name] at *; simp [*])) (.refl _) (fun _ _ _ => trivial)
end Go.Proofs.YtpdbbglpbngeiaaGreatDoor
namespace Go.Proofs.YtpdbbglpbngeiaaGreatDoor
open Go Go.Sx Go.Proofs
attribute [local irreducible] Code.wp wpList wpAnyH
open Go.Vs
theorem eqPc (p q : Pc) (w : World) : (Op.equalIn 10000 47 p.val q.val).run Tryz.prog w = .ok (decide (p = q)) w := by
  have h := run_equalIn_struct (P := Tryz.prog) w 9999 47 p.cells.toArray q.cells.toArray (by simp only [Program.fieldsOf, eS_]) Tryz.stoodInHeld47
  refine h.trans ?_
  rw [← Pc.eqb_eq]
  simp only [Program.fieldsOf, eS_]
  exact cg_ rfl J_ rfl rfl (eqI Y_ w) (cg_ rfl w_ rfl rfl (eqS bo_ w) (cg_ rfl w_ rfl rfl (eqS bo_ w) (cg_ rfl w_ rfl rfl (eqS bo_ w) (cg_ rfl w_ rfl rfl (eqS bo_ w) (cg_ rfl w_ rfl rfl (eqS bo_ w) (cg_ rfl w_ rfl rfl (eqS bo_ w) (cg_ rfl J_ rfl rfl (eqI Y_ w) (cg_ rfl J_ rfl rfl (eqI Y_ w) (cg_ rfl J_ rfl rfl (eqI Y_ w) (jd_ w))))))))))
theorem eqFc (p q : Fc) (w : World) : (Op.equalIn 10000 41 p.val q.val).run Tryz.prog w = .ok (decide (p = q)) w := by
  have h := run_equalIn_struct (P := Tryz.prog) w 9999 41 p.cells.toArray q.cells.toArray (by simp only [Program.fieldsOf, Tryz.underlying41]) Tryz.stoodInHeld41
  refine h.trans ?_
  rw [← Fc.eqb_eq]
  simp only [Program.fieldsOf, Tryz.underlying41]
  exact cg_ rfl J_ rfl rfl (eqI Y_ w) (cg_ rfl w_ rfl rfl (eqS bo_ w) (cg_ rfl w_ rfl rfl (eqS bo_ w) (cg_ rfl w_ rfl rfl (eqS bo_ w) (cg_ rfl J_ rfl rfl (eqI Y_ w) (cg_ rfl J_ rfl rfl (eqI Y_ w) (jd_ w))))))
theorem oF_ (p : Pc) : hs_ Tryz.prog 47 p.val := fun e w => by
  have hi : ∀ (n : Int) (w : World), (Instr.checkKey e (9998 + 1) 3 (.int .i64 n)).run Tryz.prog w = .ok () w := fun n w => MapKept.run_checkKey (d := .int .i64) Y_ (by simp [MapKept.IsKey]) e 9998
  have hs : ∀ (n : Str) (w : World), (Instr.checkKey e (9998 + 1) 9 (str n)).run Tryz.prog w = .ok () w := fun n w => MapKept.run_checkKey (d := .string) bo_ (by simp [MapKept.IsKey, str]) e 9998
  refine ckF (n := 9999) eS_ fun f hf => ?_
  simp only [List.mem_cons, List.not_mem_nil, or_false] at hf
  rcases hf with rfl | rfl | rfl | rfl | rfl | rfl | rfl | rfl | rfl | rfl
  · exact ⟨rfl, J_, _, rfl, hi _⟩
  · exact ⟨rfl, w_, _, rfl, hs _⟩
  · exact ⟨rfl, w_, _, rfl, hs _⟩
  · exact ⟨rfl, w_, _, rfl, hs _⟩
  · exact ⟨rfl, w_, _, rfl, hs _⟩
  · exact ⟨rfl, w_, _, rfl, hs _⟩
  · exact ⟨rfl, w_, _, rfl, hs _⟩
  · exact ⟨rfl, J_, _, rfl, hi _⟩
  · exact ⟨rfl, J_, _, rfl, hi _⟩
  · exact ⟨rfl, J_, _, rfl, hi _⟩
theorem qZ_ : Elt Tryz.prog 22 47 10 128 := ki_ Tryz.underlying22 (z := .agg (Pc.mk 0 [] [] [] [] [] [] 0 0 0).cells.toArray) (by kernel_rfl) rfl (by decide)
theorem du_ : iY_ Tryz.prog 47 [(0, 1), (1, 1), (2, 1), (3, 1), (4, 1), (5, 1), (6, 1), (7, 1), (8, 1), (9, 1)] [.int .i64 0, str [], str [], str [], str [], str [], str [], .int .i64 0, .int .i64 0, .int .i64 0] := ⟨_, ap_, F_, fun w => by simp [H_, s_]⟩
theorem nw_ : iY_ Tryz.prog 41 [(0, 1), (1, 1), (2, 1), (3, 1), (4, 1), (5, 1)] [.int .i64 0, str [], str [], str [], .int .i64 0, .int .i64 0] := ⟨_, bt_, u_, fun w => by simp [H_, s_]⟩
end Go.Proofs.YtpdbbglpbngeiaaGreatDoor
namespace Go.Proofs.YtpdbbglpbngeiaaGreatDoor
open Go Go.Sx Go.Proofs
attribute [local irreducible] Code.wp wpList wpAnyH
open Go.Vs
structure CS where
  sv : Value
  bm : Nat
  es : Array MapEntry
  clk : Nat
  Hr : Hp
def fA_ (kb : Nat) (frm : Int) (q : CS) : Hp := (kb, .cells #[.int .i64 frm, q.sv, .map (some q.bm)] 141 (0, 0)) :: (q.bm, .map q.es q.clk) :: q.Hr
structure CInv (l : List Pc) (q : CS) : Prop where
  row : bk_ 47 10 q.sv l.length (l.flatMap Pc.cells) q.Hr
  keys : q.es.toList.map (·.key) = l.map Pc.val
  vals : ∀ x ∈ q.es.toList, x.val = .bool true
theorem CInv.push {l : List Pc} {p : Pc} {sv sv2 : Value} {bm clk : Nat} {es : Array MapEntry} {Hr Hr2 : Hp} (h : CInv l ⟨sv, bm, es, clk, Hr⟩) (hr : bk_ 47 10 sv2 (l.length + 1) (l.flatMap Pc.cells ++ p.cells) Hr2) : CInv (l ++ [p]) ⟨sv2, bm, es.push ⟨p.val, .bool true, clk⟩, clk + 1, Hr2⟩ := by
  refine ⟨?_, ?_, ?_⟩
  · simpa [List.flatMap_append] using hr
  · have := h.keys
    simp only at this
    simp [this]
  · intro x hx
    simp only [Array.toList_push, List.mem_append, List.mem_singleton] at hx
    rcases hx with hx | rfl
    · exact h.vals x hx
    · rfl
theorem dV_ (p : Pc) {kb bn : Nat} (frm : Int) (l : List Pc) (q : CS) (hq : CInv l q) (hlen : l.length ≤ 100000) :
  Tri Tryz.prog 138 #[zp_ kb 0, .slice (some ⟨bn, 0, none⟩) 1 1] ((bn, .cells p.cells.toArray 47 (0, 0)) :: fA_ kb frm q) [] (fun _ : {q' : CS // CInv (ins frm l p) q'} => .tuple #[]) (fun q' => fA_ kb frm q'.1) (fun _ => []) := by
 obtain ⟨k, a, b, c, r, s, t, lo, hi, f⟩ := p
 obtain ⟨sv, bm, es, clk, Hr⟩ := q
 refine M_ Tryz.func138 rfl rfl Tryz.ntmps138 rfl fun v0 => ?_
 refine f_ (c_ (a_ (h_ rfl) rfl (a_ (ah_ G_ rfl) rfl (a_ (h_ rfl) rfl (d_ (b_ rfl (S_ (bS_ [(0, zp_ kb 0), (6, .slice (some ⟨bn, 0, none⟩) 1 1), (7, .int .i64 1), (8, .int .i64 ((0 : Nat) : Int))] ⟨rfl, rfl, rfl, rfl, trivial⟩ ?_))))))))
 refine bY_ (ι := {x : Nat × CS // (x.1 = 0 ∧ x.2 = ⟨sv, bm, es, clk, Hr⟩) ∨ (x.1 = 1 ∧ CInv (ins frm l ⟨k, a, b, c, r, s, t, lo, hi, f⟩) x.2)}) (fun x => [(0, zp_ kb 0), (6, .slice (some ⟨bn, 0, none⟩) 1 1), (7, .int .i64 1), (8, .int .i64 (x.1.1 : Int))]) (fun x => _ :: fA_ kb frm x.1.2) (fun _ => _) (fun x => 1 - x.1.1) ⟨(0, ⟨sv, bm, es, clk, Hr⟩), .inl ⟨rfl, rfl⟩⟩ ?_
 rintro ⟨⟨i, q1⟩, hk⟩
 dsimp only at hk
 rcases hk with ⟨rfl, rfl⟩ | ⟨rfl, hc⟩
 ·
  refine bS_ [(0, zp_ kb 0), (6, .slice (some ⟨bn, 0, none⟩) 1 1), (7, .int .i64 1), (8, .int .i64 0)] ⟨rfl, rfl, rfl, rfl, trivial⟩ ?_
  refine f_ (c_ (x_ (az_ rfl rfl) rfl fun r1 hr1 => ?_))
  refine d_ (b_ rfl (f_ ?_))
  cases r1
  ·
   replace hr1 := of_decide_eq_false hr1
   try dsimp only [Con.kind, Con.parts, Con.name, Con.lo, Con.hi, Con.cap, Con.ad] at hr1
   exact absurd (by decide) hr1
  ·
   replace hr1 := of_decide_eq_true hr1
   try dsimp only [Con.kind, Con.parts, Con.name, Con.lo, Con.hi, Con.cap, Con.ad] at hr1
   refine n_ rfl (A_ (b_ rfl (f_ (S_ (f_ (c_ (a_ (fF_ G_ U_ rfl rfl (by decide) (by decide)) rfl (a_ (L_ 0 bh_ U_ rfl rfl rfl) rfl (al_ ap_ rfl fun b1 => ?_)))))))))
   refine Z_ 0 U_ rfl rfl rfl rfl rfl rfl (d_ (b_ rfl (f_ (c_ (a_ (h_ rfl) rfl (a_ (af_ rfl) rfl (a_ (j_ cF_ rfl rfl rfl H_) rfl (a_ (q_ 2 J_ rfl rfl rfl) rfl (a_ (j_ F_ rfl rfl rfl H_) rfl ?_)))))))))
   refine Z_ 0 H_ rfl rfl rfl rfl rfl rfl (d_ (b_ rfl (f_ ?_)))
   by_cases hm : (⟨k, a, b, c, r, s, t, lo, hi, frm⟩ : Pc) ∈ l
   ·
    obtain ⟨j, hf⟩ := (gs_ eS_ (fun p q w => eqPc p q w) (⟨k, a, b, c, r, s, t, lo, hi, frm⟩ : Pc) l es.toList hq.keys).2 hm hq.vals
    refine aN_ (by kernel_rfl) ?_
    refine ad_ 0 [0, 1, 2, 3, 4, 5, 6] (by kernel_rfl) (fun _ a b => ⟨a, b⟩) (k_ rfl (h_ rfl) rfl (k_ rfl (af_ rfl) rfl (k_ rfl (j_ cF_ rfl rfl rfl Tryz.sizeOf139) rfl (k_ rfl (q_ 2 Tryz.isAgg139 rfl rfl rfl) rfl (k_ rfl (L_ 0 bh_ U_ rfl rfl rfl) rfl (k_ rfl (gb_ ho_ rfl rfl (fun v h _ => (h.own _ (List.mem_of_getElem? (i := 3) rfl)).1) (oF_ (⟨k, a, b, c, r, s, t, lo, hi, frm⟩ : Pc)) hf) rfl (k_ rfl (bG_ rfl) rfl (ac_ (ab_ (by kernel_rfl) ?_)))))))))
    refine b_ rfl (p_ rfl (A_ (b_ rfl (c_ (a_ (V_ rfl rfl rfl (aq_ (by omega) (by omega))) rfl (a_ (h_ rfl) rfl (d_ (r_ rfl ?_))))))))
    exact ao_ ⟨(1, ⟨sv, bm, es, clk, Hr⟩), .inr ⟨rfl, by simp only [ins, if_pos hm]; exact hq⟩⟩ Nat.zero_lt_one ⟨rfl, rfl, rfl, rfl, trivial⟩ (F := [_]) (@List.perm_append_comm _ [_] _) (fun _ _ h => h)
   ·
    have hf := (gs_ eS_ (fun p q w => eqPc p q w) (⟨k, a, b, c, r, s, t, lo, hi, frm⟩ : Pc) l es.toList hq.keys).1 hm
    refine aN_ (by kernel_rfl) ?_
    refine ad_ 0 [0, 1, 2, 3, 4, 5, 6] (by kernel_rfl) (fun _ a b => ⟨a, b⟩) (k_ rfl (h_ rfl) rfl (k_ rfl (af_ rfl) rfl (k_ rfl (j_ cF_ rfl rfl rfl Tryz.sizeOf139) rfl (k_ rfl (q_ 2 Tryz.isAgg139 rfl rfl rfl) rfl (k_ rfl (L_ 0 bh_ U_ rfl rfl rfl) rfl (k_ rfl (ga_ ho_ db_ rfl rfl (fun v h _ => (h.own _ (List.mem_of_getElem? (i := 3) rfl)).1) (oF_ (⟨k, a, b, c, r, s, t, lo, hi, frm⟩ : Pc)) hf) rfl (k_ rfl (bG_ rfl) rfl (ac_ (ab_ (by kernel_rfl) ?_)))))))))
    refine b_ rfl (n_ rfl (f_ ?_))
    refine aC_ [(b1, .cells #[.int .i64 k, str a, str b, str c, str r, str s, str t, .int .i64 lo, .int .i64 hi, .int .i64 frm] 47 (0, 0)), (bn, .cells #[.int .i64 k, str a, str b, str c, str r, str s, str t, .int .i64 lo, .int .i64 hi, .int .i64 f] 47 (0, 0)), (kb, .cells #[.int .i64 frm, sv, .map (some bm)] 141 (0, 0))] (by kernel_rfl) ?_
    refine ad_ 1 [0, 1, 2, 3, 4] (by kernel_rfl) (fun _ a b => ⟨Vw.sat.sub a, b⟩) (k_ rfl (h_ rfl) rfl (k_ rfl (af_ rfl) rfl (k_ rfl (j_ cF_ rfl rfl rfl Tryz.sizeOf139) rfl (k_ rfl (q_ 2 Tryz.isAgg139 rfl rfl rfl) rfl (k_ rfl (L_ 0 bh_ U_ rfl rfl rfl) rfl (ac_ (O_ 5 rfl (by kernel_rfl) (bO_ 3 (.inr rfl) ho_ rfl rfl rfl rfl (oF_ (⟨k, a, b, c, r, s, t, lo, hi, frm⟩ : Pc)) hf (d_ ?_)))))))))
    refine r_ rfl (C_ (fun _ a b => ⟨Vw.sat.sub a, b⟩) (ab_ (by kernel_rfl) (b_ rfl ?_)))
    refine aC_ [(b1, .cells #[.int .i64 k, str a, str b, str c, str r, str s, str t, .int .i64 lo, .int .i64 hi, .int .i64 frm] 47 (0, 0))] (by kernel_rfl) ?_
    refine ad_ 6 [0, 1, 2, 3, 5] (by kernel_rfl) (fun _ a b => ⟨Vw.sat.sub a, b⟩) (k_ rfl (h_ rfl) rfl (k_ rfl (h_ rfl) rfl (k_ rfl (af_ rfl) rfl (k_ rfl (j_ cF_ rfl rfl rfl bU_) rfl (k_ rfl (L_ 0 bh_ U_ rfl rfl rfl) rfl (ac_ ?_))))))
    refine eZ_ 4 6 rfl rfl (by kernel_rfl) ?_ ?_
    ·
     refine a_ (q_ 2 dG_ rfl rfl rfl) rfl (d_ (r_ rfl (C_ (fun _ a b => ⟨Vw.sat.sub a, b⟩) (O_ 6 rfl (by kernel_rfl) (aK_ G_ U_ ap_ rfl rfl rfl rfl rfl rfl fun b2 => ?_)))))
     refine d_ (r_ rfl (C_ (fun _ a b => ⟨Vw.sat.sub a.tail, b⟩) (O_ 7 rfl (by kernel_rfl) (bd_ (news := Pc.cells (⟨k, a, b, c, r, s, t, lo, hi, frm⟩ : Pc)) qZ_ hq.row rfl rfl (@List.perm_append_comm _ [_, _, _, _, _] _) rfl (cQ_ 0 rfl) (hf_ rfl) (by simp only [maxLen]; omega) (by omega) rfl fun sv2 Hr2 hrow => ?_))))
     refine at_ (@List.perm_append_comm _ _ [_, _, _, _, _]) ?_
     obtain ⟨g2, cp2, cur2, rfl, rfl, hr2⟩ := hrow.some (by omega)
     refine d_ (r_ rfl (C_ (fun _ a b => ⟨Vw.sat.sub a.tail, b⟩) (ad_ 1 [8, 9] (by kernel_rfl) (fun _ a b => ⟨Vw.sat.sub a.tail, b⟩) (k_ rfl (af_ rfl) rfl (k_ rfl (j_ cF_ rfl rfl rfl bU_) rfl (ac_ (O_ 10 rfl (by kernel_rfl) (Z_ 3 bU_ rfl rfl rfl rfl rfl rfl (d_ ?_)))))))))
     refine r_ rfl (C_ (fun _ a b => ⟨Vw.sat.sub a.tail, b⟩) (ab_ (by kernel_rfl) (b_ rfl (c_ (a_ (V_ rfl rfl rfl (aq_ (by omega) (by omega))) rfl (a_ (h_ rfl) rfl (d_ (r_ rfl ?_))))))))
     exact ao_ ⟨(1, ⟨.slice (some ⟨g2, 0, none⟩) (l.length + 1) cp2, bm, es.push ⟨Pc.val (⟨k, a, b, c, r, s, t, lo, hi, frm⟩ : Pc), .bool true, clk⟩, clk + 1, [(g2, .cells cur2 47 (0, 0))]⟩), .inr ⟨rfl, by simp only [ins, if_neg hm]; exact hq.push hrow⟩⟩ Nat.zero_lt_one ⟨rfl, rfl, rfl, rfl, trivial⟩ (F := [_, _]) (@List.perm_append_comm _ [_, _] _) (fun _ _ h => h)
    ·
     refine aK_ G_ U_ ap_ rfl rfl rfl rfl rfl rfl fun b3 => ?_
     refine d_ (r_ rfl (C_ (fun _ a b => ⟨Vw.sat.sub a.tail, b⟩) (O_ 4 rfl (by kernel_rfl) (a_ (q_ 3 dG_ rfl rfl rfl) rfl (d_ (r_ rfl (C_ (fun _ a b => ⟨Vw.sat.sub a.tail, b⟩) (O_ 7 rfl (by kernel_rfl) (bd_ (news := Pc.cells (⟨k, a, b, c, r, s, t, lo, hi, frm⟩ : Pc)) qZ_ hq.row rfl rfl (@List.perm_append_comm _ [_, _, _, _, _] _) rfl (cQ_ 0 rfl) (hf_ rfl) (by simp only [maxLen]; omega) (by omega) rfl fun sv2 Hr2 hrow => ?_)))))))))
     refine at_ (@List.perm_append_comm _ _ [_, _, _, _, _]) ?_
     obtain ⟨g2, cp2, cur2, rfl, rfl, hr2⟩ := hrow.some (by omega)
     refine d_ (r_ rfl (C_ (fun _ a b => ⟨Vw.sat.sub a.tail, b⟩) (ad_ 1 [8, 9] (by kernel_rfl) (fun _ a b => ⟨Vw.sat.sub a.tail, b⟩) (k_ rfl (af_ rfl) rfl (k_ rfl (j_ cF_ rfl rfl rfl bU_) rfl (ac_ (O_ 10 rfl (by kernel_rfl) (Z_ 3 bU_ rfl rfl rfl rfl rfl rfl (d_ ?_)))))))))
     refine r_ rfl (C_ (fun _ a b => ⟨Vw.sat.sub a.tail, b⟩) (ab_ (by kernel_rfl) (b_ rfl (c_ (a_ (V_ rfl rfl rfl (aq_ (by omega) (by omega))) rfl (a_ (h_ rfl) rfl (d_ (r_ rfl ?_))))))))
     exact ao_ ⟨(1, ⟨.slice (some ⟨g2, 0, none⟩) (l.length + 1) cp2, bm, es.push ⟨Pc.val (⟨k, a, b, c, r, s, t, lo, hi, frm⟩ : Pc), .bool true, clk⟩, clk + 1, [(g2, .cells cur2 47 (0, 0))]⟩), .inr ⟨rfl, by simp only [ins, if_neg hm]; exact hq.push hrow⟩⟩ Nat.zero_lt_one ⟨rfl, rfl, rfl, rfl, trivial⟩ (F := [_, _]) (@List.perm_append_comm _ [_, _] _) (fun _ _ h => h)
 ·
  refine bS_ [(0, zp_ kb 0), (6, .slice (some ⟨bn, 0, none⟩) 1 1), (7, .int .i64 1), (8, .int .i64 1)] ⟨rfl, rfl, rfl, rfl, trivial⟩ ?_
  refine f_ (c_ (x_ (az_ rfl rfl) rfl fun r2 hr2 => ?_))
  refine d_ (b_ rfl (f_ ?_))
  cases r2
  ·
   replace hr2 := of_decide_eq_false hr2
   try dsimp only [Con.kind, Con.parts, Con.name, Con.lo, Con.hi, Con.cap, Con.ad] at hr2
   refine p_ rfl (aD_ rfl (aO_ rfl ?_))
   exact cn_ Tryz.results138 ⟨q1, hc⟩ rfl (F := [_]) (@List.perm_append_comm _ [_] _) (fun _ _ _ => trivial)
  ·
   replace hr2 := of_decide_eq_true hr2
   try dsimp only [Con.kind, Con.parts, Con.name, Con.lo, Con.hi, Con.cap, Con.ad] at hr2
   exact absurd hr2 (by decide)
end Go.Proofs.YtpdbbglpbngeiaaGreatDoor
namespace Go.Proofs.YtpdbbglpbngeiaaGreatDoor
open Go Go.Sx Go.Proofs
attribute [local irreducible] Code.wp wpList wpAnyH
open Go.Vs
theorem rB_ : iY_ Tryz.prog 141 [(0, 1), (1, 1), (2, 1)] [.int .i64 0, .slice none 0 0, .map none] := ⟨_, Tryz.zeroValue141, cF_, fun w => by simp [H_, bU_, Tryz.sizeOf139]⟩
theorem jM_ (frm : Int) : Tri Tryz.prog 93 #[.int .i64 frm] [] [] (fun x : Nat × Nat => zp_ x.1 0) (fun x => fA_ x.1 frm ⟨.slice none 0 0, x.2, #[], 0, []⟩) (fun _ => []) := by
  refine M_ Tryz.func93 rfl rfl Tryz.ntmps93 rfl fun v0 => ?_
  refine f_ (c_ (a_ (g_ rfl) rfl (d_ (b_ rfl (f_ (c_ (a_ (h_ rfl) rfl (cL_ rfl fun b1 => ?_))))))))
  refine a_ (ag_ rB_ rfl rfl) rfl (aF_ rfl rfl fun b2 => ?_)
  refine a_ (g_ rfl) rfl (d_ (b_ rfl (B_ ?_)))
  exact as_ Tryz.results93 (b2, b1) rfl (F := []) (.refl _) (fun _ _ _ => trivial)
def kF (b kb : Nat) : Fct := dZ_ b (.cells [zp_ kb 0].toArray 136 (0, 0))
def lFn (b bk : Nat) : Value := .func (.func 181) #[] #[zp_ b 0, zp_ bk 0]
def lF (b bk : Nat) : Fct := dZ_ b (.cells [lFn b bk].toArray 164 (0, 0))
def rFn (b bk : Nat) : Value := .func (.func 182) #[] #[zp_ bk 0, zp_ b 0]
def rcF (b bk : Nat) : Fct := dZ_ b (.cells [rFn b bk].toArray 164 (0, 0))
theorem rG_ (kb : Nat) : Tri Tryz.prog 137 #[zp_ kb 0] [] [] (fun x : Nat × Nat × Nat => .tuple #[lFn x.2.1 x.1, rFn x.2.2 x.1]) (fun _ => []) (fun x => [kF x.1 kb, lF x.2.1 x.1, rcF x.2.2 x.1]) := by
  refine M_ Tryz.func137 rfl rfl Tryz.ntmps137 rfl fun v0 => ?_
  refine f_ (c_ (aF_ rfl rfl fun b1 => ?_))
  refine al_ Tryz.zeroValue164 rfl fun b2 => ?_
  refine al_ Tryz.zeroValue164 rfl fun b3 => ?_
  refine d_ (b_ rfl (f_ (c_ (a_ (cp_ rfl rfl) rfl (Z_ 1 Tryz.sizeOf164 rfl rfl rfl rfl rfl rfl (d_ (b_ rfl (f_ (c_ ?_)))))))))
  refine a_ (cp_ rfl rfl) rfl (Z_ 0 Tryz.sizeOf164 rfl rfl rfl rfl rfl rfl (d_ (b_ rfl (f_ ?_))))
  refine aN_ (by kernel_rfl) ?_
  refine ad_ 2 [0, 1] (by kernel_rfl) (fun _ a b => ⟨a, b⟩) (k_ rfl (q_ 1 fP_ rfl rfl rfl) rfl (k_ rfl (q_ 0 fP_ rfl rfl rfl) rfl (ac_ (O_ 2 rfl (by kernel_rfl) (Z_ 1 Tryz.sizeOf164 rfl rfl rfl rfl rfl rfl (d_ (r_ rfl (C_ (fun _ a b => ⟨a, b⟩) (O_ 3 rfl (by kernel_rfl) ?_)))))))))
  refine Z_ 0 Tryz.sizeOf164 rfl rfl rfl rfl rfl rfl (d_ (r_ rfl (C_ (fun _ a b => ⟨a, b⟩) (ab_ (by kernel_rfl) (b_ rfl (B_ (hV_ 0 rfl ?_)))))))
  refine hV_ 0 rfl ?_
  refine hV_ 0 rfl ?_
  exact retG (b1, b2, b3) (fun a v h1 h2 h => rN_ Tryz.results137 fP_ fP_ h1 rfl rfl (jK_ (cs := [lFn b2 b1]) 0 h.2.1 rfl) (jK_ (cs := [rFn b3 b1]) 0 h.2.2.1 rfl)) (F := []) (.refl _) (fun v _ h => ⟨h.1, h.2.1, h.2.2.1, trivial⟩)
end Go.Proofs.YtpdbbglpbngeiaaGreatDoor
namespace Go.Proofs.YtpdbbglpbngeiaaGreatDoor
open Go Go.Sx Go.Proofs
attribute [local irreducible] Code.wp wpList wpAnyH
open Go.Vs
theorem Con.mem_tail {c : Con} (hok : c.ok) {v : Vw} (h : c.mem v) : ca_ v (sad c.ad c.cap 1 5) ((c.parts.drop 1).flatMap Con.cells) := by
  have := ((Con.mem_iff c v).1 h).1.slice Con.cells_len (Con.ok_len hok).1 1 c.parts.length
  rwa [List.take_of_length_le (by simp)] at this
theorem Con.drop_at {ps : List Con} {p : Con} {i : Nat} (hp : ps[i]? = some p) : ps.drop i = p :: ps.drop (i + 1) := by
  have hi := (List.getElem?_eq_some_iff.1 hp).1
  rw [List.getElem?_eq_getElem hi] at hp
  simp only [Option.some.injEq] at hp
  subst hp
  exact List.drop_eq_getElem_cons hi
theorem Con.szs_append : ∀ (xs ys : List Con), Con.sz.szs (xs ++ ys) = Con.sz.szs xs + Con.sz.szs ys
  | [], ys => by simp [Con.sz.szs]
  | x :: xs, ys => by simp only [List.cons_append, Con.sz.szs, Con.szs_append xs ys]; omega
theorem Con.sz_at {ps : List Con} {p : Con} {i : Nat} (hp : ps[i]? = some p) : Con.sz.szs (ps.take i) + p.sz ≤ Con.sz.szs ps := by
  have e : Con.sz.szs ps = Con.sz.szs (ps.take i ++ (p :: ps.drop (i + 1))) := by rw [← Con.drop_at hp, List.take_append_drop]
  rw [e, Con.szs_append]
  simp only [Con.sz.szs]; omega
theorem Con.lefts_len (frm : Int) (ps : List Con) (i : Nat) (l : List Pc) : (Con.leftP.lefts frm (ps.take i) l).length + (ps.take i).length ≤ l.length + 2 * Con.sz.szs (ps.take i) := by
  generalize ps.take i = qs
  induction qs generalizing l with
  | nil => simp [Con.leftP.lefts]
  | cons p qs ih =>
    have h1 := Con.leftP_len frm _ p (Nat.le_refl _) l
    have h2 := ih (p.leftP frm l)
    simp only [Con.leftP.lefts, Con.sz.szs, List.length_cons]
    omega
theorem Con.rights_len (frm : Int) (a : Str) (ps : List Con) (i : Nat) (l : List Pc) : (Con.rightP.rights frm a (ps.take i) l).length ≤ l.length + 2 * Con.sz.szs (ps.take i) := by
  generalize ps.take i = qs
  induction qs generalizing l with
  | nil => simp [Con.rightP.rights]
  | cons p qs ih =>
    have h0 := bP_ frm l ⟨1, a, [], p.atom, [], [], [], 0, 0, 0⟩
    have h1 := Con.rightP_len frm _ p (Nat.le_refl _) (ins frm l ⟨1, a, [], p.atom, [], [], [], 0, 0, 0⟩)
    have h2 := ih (p.rightP frm (ins frm l ⟨1, a, [], p.atom, [], [], [], 0, 0, 0⟩))
    simp only [Con.rightP.rights, Con.sz.szs]
    omega
theorem Con.headD_atom {ps : List Con} {p : Con} (hp : ps[0]? = some p) : (ps.map Con.atom).headD [] = p.atom := by cases ps <;> simp_all
theorem Con.leftP5 {c : Con} (h : c.kind = 5) (frm : Int) (l : List Pc) : c.leftP frm l = Con.andP frm c (c.parts.drop 1) 1 ((c.parts.map Con.atom).headD []) (Con.leftP.lefts frm c.parts l) := by rw [Con.leftP_eq, if_pos h]
theorem Con.leftP6 {c p : Con} (h : c.kind = 6) (hp : c.parts = [p]) (frm : Int) (l : List Pc) : c.leftP frm l = ins frm (p.leftP frm l) ⟨4, p.atom, [], c.atom, c.name, [], [], 0, 0, 0⟩ := by
  rw [Con.leftP_eq, if_neg (by omega), if_pos h, hp]; rfl
theorem Con.leftP7 {c : Con} (h : c.kind = 7) (frm : Int) (l : List Pc) : c.leftP frm l = ins frm l ⟨9, [], [], c.atom, c.name, [], [], c.lo, c.hi, 0⟩ := by rw [Con.leftP_eq, if_neg (by omega), if_neg (by omega), if_pos h]
theorem Con.leftP0 {c : Con} (h5 : c.kind ≠ 5) (h6 : c.kind ≠ 6) (h7 : c.kind ≠ 7) (frm : Int) (l : List Pc) : c.leftP frm l = l := by rw [Con.leftP_eq, if_neg h5, if_neg h6, if_neg h7]
theorem Con.rightP5 {c : Con} (h : c.kind = 5) (frm : Int) (l : List Pc) : c.rightP frm l = Con.rightP.rights frm c.atom c.parts l := by rw [Con.rightP_eq, if_pos h]
theorem Con.rightP6 {c p : Con} (h : c.kind = 6) (hp : c.parts = [p]) (frm : Int) (l : List Pc) : c.rightP frm l = p.rightP frm (ins frm l ⟨3, c.atom, [], p.atom, c.name, [], [], 0, 0, 0⟩) := by
  rw [Con.rightP_eq, if_neg (by omega), if_pos h, hp]; rfl
theorem Con.rightP7 {c : Con} (h : c.kind = 7) (frm : Int) (l : List Pc) : c.rightP frm l = ins frm l ⟨8, c.atom, [], [], c.name, [], [], c.lo, c.hi, 0⟩ := by rw [Con.rightP_eq, if_neg (by omega), if_neg (by omega), if_pos h]
theorem Con.rightP0 {c : Con} (h5 : c.kind ≠ 5) (h6 : c.kind ≠ 6) (h7 : c.kind ≠ 7) (frm : Int) (l : List Pc) : c.rightP frm l = l := by rw [Con.rightP_eq, if_neg h5, if_neg h6, if_neg h7]
end Go.Proofs.YtpdbbglpbngeiaaGreatDoor
namespace Go.Proofs.YtpdbbglpbngeiaaGreatDoor
open Go Go.Sx Go.Proofs
attribute [local irreducible] Code.wp wpList wpAnyH
open Go.Vs
theorem rC_ : iY_ Tryz.prog 132 [(0, 1), (1, 1), (2, 1), (3, 1), (4, 1)] [.int .i64 0, str [], .int .i64 0, .int .i64 0, .slice none 0 0] := ⟨_, eb_, K_, fun w => by simp [H_, s_, bw_]⟩
theorem jS_ {kb bk bs : Nat} {frm : Int} : ∀ (d : Nat) (c : Con), c.sz ≤ d → c.ok → c.fine → ∀ (l : List Pc) (q : CS), CInv l q → l.length + 2 * c.sz ≤ 100000 →
  Tri Tryz.prog 181 #[c.val, zp_ bs 0, zp_ bk 0] (fA_ kb frm q) [c.memF, dB_, kF bk kb, lF bs bk] (fun _ : {q' : CS // CInv (c.leftP frm l) q'} => .tuple #[]) (fun q' => fA_ kb frm q'.1) (fun _ => []) := by
 intro d
 induction d with
 | zero => intro c h; have := c.sz_pos; omega
 | succ d ih =>
  intro c hd hok hf l q hq hl
  have F := Con.fields hf
  have hle := F.le
  have hmo := F.mo
  obtain ⟨k, nm, lo, hi, ad, cap, ps⟩ := c
  have hlen := Con.ok_len hok
  have hsz : (Con.mk k nm lo hi ad cap ps).sz = 1 + Con.sz.szs ps := by simp only [Con.sz]
  have hsl := Con.szs_len ps
  simp only [Con.parts, Con.cap, Con.kind] at hlen hle hmo
  refine M_ Tryz.func181 rfl rfl Tryz.ntmps181 rfl fun v0 => ?_
  refine f_ (c_ (aF_ rfl rfl fun b1 => ?_))
  refine d_ (b_ rfl (f_ (c_ (a_ (j_ K_ rfl rfl rfl H_) rfl (a_ (q_ 0 J_ rfl rfl rfl) rfl (d_ (b_ rfl (S_ (f_ ?_)))))))))
  refine c_ (x_ (aA_ rfl rfl) rfl fun r1 hr1 => ?_)
  refine a_ (g_ rfl) rfl (d_ (b_ rfl ?_))
  cases r1
  ·
   replace hr1 := ne_of_beq_false hr1
   try dsimp only [Con.kind, Con.parts, Con.name, Con.lo, Con.hi, Con.cap, Con.ad] at hr1
   refine p_ rfl (f_ (c_ (x_ (aA_ rfl rfl) rfl fun r2 hr2 => ?_)))
   refine a_ (g_ rfl) rfl (d_ (b_ rfl ?_))
   cases r2
   ·
    replace hr2 := ne_of_beq_false hr2
    try dsimp only [Con.kind, Con.parts, Con.name, Con.lo, Con.hi, Con.cap, Con.ad] at hr2
    refine p_ rfl (f_ (c_ (x_ (aA_ rfl rfl) rfl fun r3 hr3 => ?_)))
    refine a_ (g_ rfl) rfl (d_ (b_ rfl ?_))
    cases r3
    ·
     replace hr3 := ne_of_beq_false hr3
     try dsimp only [Con.kind, Con.parts, Con.name, Con.lo, Con.hi, Con.cap, Con.ad] at hr3
     refine p_ rfl (A_ (aO_ rfl ?_))
     exact cn_ Tryz.results181 ⟨q, (by rw [Con.leftP0 (c := (.mk k nm lo hi ad cap ps)) (by assumption) (by assumption) (by assumption)]; exact hq)⟩ rfl (F := [_]) (@List.perm_append_comm _ [_] _) (fun _ _ _ => trivial)
    ·
     replace hr3 := eq_of_beq hr3
     try dsimp only [Con.kind, Con.parts, Con.name, Con.lo, Con.hi, Con.cap, Con.ad] at hr3
     refine n_ rfl ?_
     refine aC_ [(b1, .cells #[.int .i64 k, str nm, .int .i64 lo, .int .i64 hi, .slice ad ps.length cap] 132 (0, 0))] (by kernel_rfl) ?_
     refine ad_ 4 [0, 1, 2, 3, 4, 5, 6, 7] (by kernel_rfl) (fun _ a b => ⟨Vw.sat.sub a, b⟩) (k_ rfl (aa_ (cs := [zp_ kb 0]) lw_ rfl (fun v _ h => h.2.2.1) rfl) rfl (k_ rfl (j_ K_ rfl rfl rfl s_) rfl (k_ rfl (q_ 0 w_ rfl rfl rfl) rfl (k_ rfl (j_ K_ rfl rfl rfl H_) rfl (k_ rfl (q_ 0 J_ rfl rfl rfl) rfl (k_ rfl (j_ K_ rfl rfl rfl H_) rfl (k_ rfl (q_ 0 J_ rfl rfl rfl) rfl (k_ rfl (L_ 0 T_ v_ rfl rfl rfl) rfl (ac_ ?_)))))))))
     refine O_ 8 rfl (by kernel_rfl) (Q_ (dn_ (.mk k nm lo hi ad cap ps) hok) rfl (.refl _) (fun v _ h => ⟨h.1, h.2.1, trivial⟩) rfl fun _ => ?_)
     refine d_ (r_ rfl (C_ (fun _ a b => ⟨Vw.sat.sub a, b⟩) (ad_ 2 [9] (by kernel_rfl) (fun _ a b => ⟨Vw.sat.sub a, b⟩) (k_ rfl (ag_ du_ rfl rfl) rfl (ac_ (O_ 10 rfl (by kernel_rfl) (aK_ G_ U_ ap_ rfl rfl rfl rfl rfl rfl fun b2 => ?_)))))))
     refine d_ (r_ rfl (C_ (fun _ a b => ⟨Vw.sat.sub a.tail, b⟩) (O_ 11 rfl (by kernel_rfl) (Q_ (dV_ ⟨9, [], [], Con.atom (.mk k nm lo hi ad cap ps), nm, [], [], lo, hi, 0⟩ frm l q hq (by omega)) rfl (.cons _ (@List.perm_append_comm _ [_] _)) (fun _ _ _ => trivial) rfl fun x => ?_))))
     obtain ⟨q2, hq2⟩ := x
     refine at_ (@List.perm_append_comm _ _ [_]) (d_ (r_ rfl (C_ (fun _ a b => ⟨Vw.sat.sub a, b⟩) (ab_ (by kernel_rfl) (aO_ rfl ?_)))))
     exact cn_ Tryz.results181 ⟨q2, (by rw [Con.leftP7 (c := (.mk k nm lo hi ad cap ps)) (by assumption)]; exact hq2)⟩ rfl (F := [_]) (@List.perm_append_comm _ [_] _) (fun _ _ _ => trivial)
   ·
    replace hr2 := eq_of_beq hr2
    try dsimp only [Con.kind, Con.parts, Con.name, Con.lo, Con.hi, Con.cap, Con.ad] at hr2
    rw [hr2] at hle hmo
    simp [nd, el_] at hle hmo
    obtain ⟨p, hps⟩ := List.length_eq_one_iff.1 (show ps.length = 1 by omega)
    have hp : ps[0]? = some p := by rw [hps]; rfl
    have hpm : p ∈ ps := List.mem_of_getElem? hp
    refine n_ rfl (f_ ?_)
    refine aC_ [(b1, .cells #[.int .i64 k, str nm, .int .i64 lo, .int .i64 hi, .slice ad ps.length cap] 132 (0, 0))] (by kernel_rfl) ?_
    refine ad_ 1 [0, 1, 2, 3, 4] (by kernel_rfl) (fun _ a b => ⟨Vw.sat.sub a, b⟩) (k_ rfl (aa_ (cs := [lFn bs bk]) fP_ rfl (fun v _ h => h.2.2.2.1) rfl) rfl (k_ rfl (j_ K_ rfl rfl rfl bw_) rfl (k_ rfl (q_ 0 bM_ rfl rfl rfl) rfl (k_ rfl (ak_ av_ v_ rfl rfl (fun v _ h => aL_ (n := 5) Con.cells_len (by decide) (((Con.mem_iff (.mk k nm lo hi ad cap ps) v).1 h.1).1) hp) (by omega) (by first | omega | (simp only [Con.parts]; omega) | (simp [Con.parts]; done))) rfl (k_ rfl (aE_ (ad := ad) (us := p.cells) T_ v_ rfl (fun v _ h => ((Con.mem_iff (.mk k nm lo hi ad cap ps) v).1 h.1).1) (Con.cells_len _) (an_ Con.cells_len hp)) rfl (ac_ (O_ 5 rfl (by kernel_rfl) (aH_ (ih p (by have := Con.sz_part (c := (.mk k nm lo hi ad cap ps)) hpm; omega) (Con.ok_part (c := (.mk k nm lo hi ad cap ps)) hok hpm) (Con.fine_part (c := (.mk k nm lo hi ad cap ps)) hf hpm) l q hq (by have := Con.sz_at hp; omega)) rfl rfl (@List.perm_append_comm _ [_] _) (fun v _ h => by exact ⟨Con.mem_part (c := (.mk k nm lo hi ad cap ps)) h.1 hpm, h.2⟩) rfl fun x => ?_))))))))
    obtain ⟨q5, hq5⟩ := x
    refine at_ (@List.perm_append_comm _ _ [_]) (d_ (r_ rfl (C_ (fun _ a b => ⟨Vw.sat.sub a, b⟩) (ab_ (by kernel_rfl) (b_ rfl ?_)))))
    refine aC_ [(b1, .cells #[.int .i64 k, str nm, .int .i64 lo, .int .i64 hi, .slice ad ps.length cap] 132 (0, 0))] (by kernel_rfl) ?_
    refine ad_ 5 [0, 1, 2, 3, 4, 5, 6, 8] (by kernel_rfl) (fun _ a b => ⟨Vw.sat.sub a, b⟩) (k_ rfl (aa_ (cs := [zp_ kb 0]) lw_ rfl (fun v _ h => h.2.2.1) rfl) rfl (k_ rfl (j_ K_ rfl rfl rfl s_) rfl (k_ rfl (q_ 0 w_ rfl rfl rfl) rfl (k_ rfl (j_ K_ rfl rfl rfl bw_) rfl (k_ rfl (q_ 0 bM_ rfl rfl rfl) rfl (k_ rfl (ak_ av_ v_ rfl rfl (fun v _ h => aL_ (n := 5) Con.cells_len (by decide) (((Con.mem_iff (.mk k nm lo hi ad cap ps) v).1 h.1).1) hp) (by omega) (by first | omega | (simp only [Con.parts]; omega) | (simp [Con.parts]; done))) rfl (k_ rfl (aE_ (ad := ad) (us := p.cells) T_ v_ rfl (fun v _ h => ((Con.mem_iff (.mk k nm lo hi ad cap ps) v).1 h.1).1) (Con.cells_len _) (an_ Con.cells_len hp)) rfl (k_ rfl (L_ 0 T_ v_ rfl rfl rfl) rfl (ac_ ?_)))))))))
    refine O_ 7 rfl (by kernel_rfl) (Q_ (dn_ p (Con.ok_part (c := (.mk k nm lo hi ad cap ps)) hok hpm)) rfl (.refl _) (fun v _ h => ⟨Con.mem_part (c := (.mk k nm lo hi ad cap ps)) h.1 hpm, h.2.1, trivial⟩) rfl fun _ => ?_)
    refine d_ (r_ rfl (C_ (fun _ a b => ⟨Vw.sat.sub a, b⟩) (O_ 9 rfl (by kernel_rfl) (Q_ (dn_ (.mk k nm lo hi ad cap ps) hok) rfl (.refl _) (fun v _ h => ⟨h.1, h.2.1, trivial⟩) rfl fun _ => ?_))))
    refine d_ (r_ rfl (C_ (fun _ a b => ⟨Vw.sat.sub a, b⟩) (ad_ 2 [10] (by kernel_rfl) (fun _ a b => ⟨Vw.sat.sub a, b⟩) (k_ rfl (ag_ du_ rfl rfl) rfl (ac_ (O_ 11 rfl (by kernel_rfl) (aK_ G_ U_ ap_ rfl rfl rfl rfl rfl rfl fun b3 => ?_)))))))
    refine d_ (r_ rfl (C_ (fun _ a b => ⟨Vw.sat.sub a.tail, b⟩) (O_ 12 rfl (by kernel_rfl) (Q_ (dV_ ⟨4, p.atom, [], Con.atom (.mk k nm lo hi ad cap ps), nm, [], [], 0, 0, 0⟩ frm (p.leftP frm l) q5 hq5 (by have := Con.leftP_len frm _ p (Nat.le_refl _) l; have := Con.sz_at hp; omega)) rfl (.cons _ (@List.perm_append_comm _ [_] _)) (fun _ _ _ => trivial) rfl fun x => ?_))))
    obtain ⟨q7, hq7⟩ := x
    refine at_ (@List.perm_append_comm _ _ [_]) (d_ (r_ rfl (C_ (fun _ a b => ⟨Vw.sat.sub a, b⟩) (ab_ (by kernel_rfl) (aO_ rfl ?_)))))
    exact cn_ Tryz.results181 ⟨q7, (by rw [Con.leftP6 (c := (.mk k nm lo hi ad cap ps)) (p := p) (by assumption) hps]; exact hq7)⟩ rfl (F := [_]) (@List.perm_append_comm _ [_] _) (fun _ _ _ => trivial)
  ·
   replace hr1 := eq_of_beq hr1
   try dsimp only [Con.kind, Con.parts, Con.name, Con.lo, Con.hi, Con.cap, Con.ad] at hr1
   rw [hr1] at hle hmo
   simp [nd, el_] at hle hmo
   refine n_ rfl (f_ (f_ (c_ (a_ (j_ K_ rfl rfl rfl bw_) rfl (a_ (q_ 0 bM_ rfl rfl rfl) rfl (a_ (ah_ av_ rfl) rfl (a_ (h_ rfl) rfl (d_ (b_ rfl ?_)))))))))
   refine S_ (bS_ [(1, zp_ bs 0), (2, zp_ bk 0), (3, zp_ b1 0), (15, .slice ad ps.length cap), (16, .int .i64 (ps.length : Int)), (17, .int .i64 ((0 : Nat) : Int))] ⟨rfl, rfl, rfl, rfl, rfl, rfl, trivial⟩ ?_)
   refine bY_ (ι := {x : Nat × CS // x.1 ≤ ps.length ∧ CInv (Con.leftP.lefts frm (ps.take x.1) l) x.2}) (fun x => [(1, zp_ bs 0), (2, zp_ bk 0), (3, zp_ b1 0), (15, .slice ad ps.length cap), (16, .int .i64 (ps.length : Int)), (17, .int .i64 (x.1.1 : Int))]) (fun x => _ :: fA_ kb frm x.1.2) (fun _ => _) (fun x => ps.length - x.1.1) ⟨(0, q), by simp, by simpa [Con.leftP.lefts] using hq⟩ ?_
   rintro ⟨⟨i, q0⟩, hk⟩
   dsimp only at hk
   refine bS_ [(1, zp_ bs 0), (2, zp_ bk 0), (3, zp_ b1 0), (15, .slice ad ps.length cap), (16, .int .i64 (ps.length : Int)), (17, .int .i64 (i : Int))] ⟨rfl, rfl, rfl, rfl, rfl, rfl, trivial⟩ ?_
   refine f_ (c_ (x_ (az_ rfl rfl) rfl fun r4 hr4 => ?_))
   refine d_ (b_ rfl (f_ ?_))
   cases r4
   ·
    replace hr4 := of_decide_eq_false hr4
    try dsimp only [Con.kind, Con.parts, Con.name, Con.lo, Con.hi, Con.cap, Con.ad] at hr4
    obtain rfl : i = ps.length := by omega
    rw [List.take_length] at hk
    obtain ⟨p, hp⟩ : ∃ p, ps[0]? = some p := ⟨_, List.getElem?_eq_getElem (show 0 < ps.length by omega)⟩
    have hpm : p ∈ ps := List.mem_of_getElem? hp
    refine p_ rfl (aD_ rfl (b_ rfl (f_ (c_ (a_ (j_ K_ rfl rfl rfl bw_) rfl (a_ (q_ 0 bM_ rfl rfl rfl) rfl (a_ (ak_ av_ v_ rfl rfl (fun v _ h => aL_ (n := 5) Con.cells_len (by decide) (((Con.mem_iff (.mk k nm lo hi ad cap ps) v).1 h.1).1) hp) (by omega) (by first | omega | (simp only [Con.parts]; omega) | (simp [Con.parts]; done))) rfl (a_ (aE_ (ad := ad) (us := p.cells) T_ v_ rfl (fun v _ h => ((Con.mem_iff (.mk k nm lo hi ad cap ps) v).1 h.1).1) (Con.cells_len _) (an_ Con.cells_len hp)) rfl (Q_ (dn_ p (Con.ok_part (c := (.mk k nm lo hi ad cap ps)) hok hpm)) rfl (.refl _) (fun v _ h => ⟨Con.mem_part (c := (.mk k nm lo hi ad cap ps)) h.1 hpm, h.2.1, trivial⟩) rfl fun _ => ?_)))))))))
    refine a_ (g_ rfl) rfl (d_ (b_ rfl (f_ (c_ (a_ (j_ K_ rfl rfl rfl bw_) rfl (a_ (q_ 0 bM_ rfl rfl rfl) rfl (a_ (eB_ (i := 1) (j := ps.length) (kl := .i64) (kh := .i64) av_ v_ rfl rfl rfl (by omega) (by first | omega | (simp only [Con.cap]; omega))) rfl (a_ (ah_ av_ rfl) rfl (a_ (h_ rfl) rfl ?_)))))))))
    refine d_ (b_ rfl (S_ (bS_ [(1, zp_ bs 0), (2, zp_ bk 0), (3, zp_ b1 0), (6, str p.atom), (32, .slice (sad ad cap 1 5) (ps.length - 1) (cap - 1)), (33, .int .i64 ((ps.length - 1 : Nat) : Int)), (34, .int .i64 ((0 : Nat) : Int))] ⟨rfl, rfl, rfl, rfl, rfl, rfl, rfl, trivial⟩ ?_)))
    have hh := Con.headD_atom hp
    have hL0 := Con.lefts_len frm ps ps.length l
    rw [List.take_length] at hL0
    generalize p.atom = f0 at hh ⊢
    refine bY_ (ι := {x : Nat × Str × List Pc × CS // x.1 ≤ ps.length - 1 ∧ CInv x.2.2.1 x.2.2.2 ∧ x.2.2.1.length ≤ (Con.leftP.lefts frm ps l).length + x.1 ∧ Con.andP frm (.mk k nm lo hi ad cap ps) (ps.drop 1) 1 f0 (Con.leftP.lefts frm ps l) = Con.andP frm (.mk k nm lo hi ad cap ps) (ps.drop (1 + x.1)) (1 + x.1) x.2.1 x.2.2.1}) (fun x => [(1, zp_ bs 0), (2, zp_ bk 0), (3, zp_ b1 0), (6, str x.1.2.1), (32, .slice (sad ad cap 1 5) (ps.length - 1) (cap - 1)), (33, .int .i64 ((ps.length - 1 : Nat) : Int)), (34, .int .i64 (x.1.1 : Int))]) (fun x => _ :: fA_ kb frm x.1.2.2.2) (fun _ => _) (fun x => ps.length - 1 - x.1.1) ⟨(0, f0, (Con.leftP.lefts frm ps l), q0), by simp, hk.2, by simp, rfl⟩ ?_
    rintro ⟨⟨i, f, l1, q2⟩, hj⟩
    dsimp only at hj
    refine bS_ [(1, zp_ bs 0), (2, zp_ bk 0), (3, zp_ b1 0), (6, str f), (32, .slice (sad ad cap 1 5) (ps.length - 1) (cap - 1)), (33, .int .i64 ((ps.length - 1 : Nat) : Int)), (34, .int .i64 (i : Int))] ⟨rfl, rfl, rfl, rfl, rfl, rfl, rfl, trivial⟩ ?_
    refine f_ (c_ (x_ (az_ rfl rfl) rfl fun r5 hr5 => ?_))
    refine d_ (b_ rfl (f_ ?_))
    cases r5
    ·
     replace hr5 := of_decide_eq_false hr5
     try dsimp only [Con.kind, Con.parts, Con.name, Con.lo, Con.hi, Con.cap, Con.ad] at hr5
     refine p_ rfl (aD_ rfl (aO_ rfl ?_))
     exact cn_ Tryz.results181 ⟨q2, (by have e := hj.2.2.2; rw [List.drop_of_length_le (show ps.length ≤ 1 + i by omega)] at e; rw [Con.leftP5 (c := (.mk k nm lo hi ad cap ps)) (by assumption)]; simp only [Con.parts, hh]; rw [e]; exact hj.2.1)⟩ rfl (F := [_]) (@List.perm_append_comm _ [_] _) (fun _ _ _ => trivial)
    ·
     replace hr5 := of_decide_eq_true hr5
     try dsimp only [Con.kind, Con.parts, Con.name, Con.lo, Con.hi, Con.cap, Con.ad] at hr5
     have hlt : i < ps.length - 1 := by omega
     obtain ⟨p, hp⟩ : ∃ p, (ps.drop 1)[i]? = some p := ⟨_, List.getElem?_eq_getElem (by simp; omega)⟩
     have hp0 : ps[1 + i]? = some p := by rw [← List.getElem?_drop]; exact hp
     have hpm : p ∈ ps := List.mem_of_getElem? hp0
     refine n_ rfl (A_ (b_ rfl (f_ (S_ (f_ (c_ (a_ (h_ rfl) rfl (a_ (ak_ av_ v_ rfl rfl (fun v _ h => aL_ (n := 5) Con.cells_len (by decide) ((Con.mem_tail (c := (.mk k nm lo hi ad cap ps)) hok h.1)) hp) (by omega) (by first | omega | (simp only [Con.parts]; omega) | (simp [Con.parts]; done))) rfl (a_ (aE_ (ad := (sad ad cap 1 5)) (us := p.cells) T_ v_ rfl (fun v _ h => (Con.mem_tail (c := (.mk k nm lo hi ad cap ps)) hok h.1)) (Con.cells_len _) (an_ Con.cells_len hp)) rfl ?_)))))))))
     refine al_ eb_ rfl fun b4 => ?_
     refine a_ (g_ rfl) rfl (eE_ 0 v_ rfl rfl rfl rfl (d_ (b_ rfl (f_ (c_ (a_ (j_ K_ rfl rfl rfl bw_) rfl (a_ (q_ 1 bM_ rfl rfl rfl) rfl (a_ (h_ rfl) rfl (a_ (V_ rfl rfl rfl (aq_ (by omega) (by omega))) rfl ?_)))))))))
     refine a_ (cb_ (eB_ (i := 0) (j := i + 2) (kl := .i64) (kh := .i64) av_ v_ rfl rfl rfl (by omega) (by first | omega | (simp only [Con.cap]; omega))) (show _ = Value.slice (sad ad cap 0 5) (ps.take (i + 2)).length (cap - 0) by rw [List.length_take, Nat.min_eq_left (by omega)]; rfl)) rfl (a_ (ag_ rC_ rfl rfl) rfl (Q_ (dn_ (Con.pre (.mk k nm lo hi ad cap ps) (i + 2)) (Con.pre_ok hok _)) rfl (.refl _) (fun v _ h => ⟨Con.pre_mem hok h.1 _, h.2.1, trivial⟩) rfl fun _ => ?_))
     refine a_ (g_ rfl) rfl (d_ (b_ rfl (f_ ?_)))
     refine aC_ [(b4, .cells p.cells.toArray 132 (0, 0)), (b1, .cells #[.int .i64 k, str nm, .int .i64 lo, .int .i64 hi, .slice ad ps.length cap] 132 (0, 0))] (by kernel_rfl) ?_
     refine ad_ 4 [0, 1, 2, 4] (by kernel_rfl) (fun _ a b => ⟨Vw.sat.sub a, b⟩) (k_ rfl (aa_ (cs := [zp_ kb 0]) lw_ rfl (fun v _ h => h.2.2.1) rfl) rfl (k_ rfl (h_ rfl) rfl (k_ rfl (dc_ 0 T_ v_ rfl rfl) rfl (k_ rfl (h_ rfl) rfl (ac_ (O_ 3 rfl (by kernel_rfl) (Q_ (dn_ p (Con.ok_part (c := (.mk k nm lo hi ad cap ps)) hok hpm)) rfl (.refl _) (fun v _ h => ⟨Con.mem_part (c := (.mk k nm lo hi ad cap ps)) h.1 hpm, h.2.1, trivial⟩) rfl fun _ => ?_)))))))
     refine d_ (r_ rfl (C_ (fun _ a b => ⟨Vw.sat.sub a, b⟩) (ad_ 2 [5] (by kernel_rfl) (fun _ a b => ⟨Vw.sat.sub a, b⟩) (k_ rfl (ag_ du_ rfl rfl) rfl (ac_ (O_ 6 rfl (by kernel_rfl) (aK_ G_ U_ ap_ rfl rfl rfl rfl rfl rfl fun b5 => ?_)))))))
     refine d_ (r_ rfl (C_ (fun _ a b => ⟨Vw.sat.sub a.tail, b⟩) (O_ 7 rfl (by kernel_rfl) (Q_ (dV_ ⟨2, f, p.atom, (Con.pre (.mk k nm lo hi ad cap ps) (i + 2)).atom, [], [], [], 0, 0, 0⟩ frm l1 q2 hj.2.1 (by omega)) rfl (.cons _ (@List.perm_append_comm _ [_, _] _)) (fun _ _ _ => trivial) rfl fun x => ?_))))
     obtain ⟨q9, hq9⟩ := x
     refine at_ (@List.perm_append_comm _ _ [_, _]) (d_ (r_ rfl (C_ (fun _ a b => ⟨Vw.sat.sub a, b⟩) (ab_ (by kernel_rfl) (b_ rfl (c_ (a_ (h_ rfl) rfl (a_ (g_ rfl) rfl (d_ ?_)))))))))
     refine b_ rfl (c_ (a_ (V_ rfl rfl rfl (aq_ (by omega) (by omega))) rfl (a_ (h_ rfl) rfl (d_ (r_ rfl ?_)))))
     exact ao_ ⟨(i + 1, (Con.pre (.mk k nm lo hi ad cap ps) (i + 2)).atom, (ins frm l1 ⟨2, f, p.atom, (Con.pre (.mk k nm lo hi ad cap ps) (i + 2)).atom, [], [], [], 0, 0, 0⟩), q9), by omega, hq9, by have := bP_ frm l1 ⟨2, f, p.atom, (Con.pre (.mk k nm lo hi ad cap ps) (i + 2)).atom, [], [], [], 0, 0, 0⟩; dsimp only; omega, by rw [hj.2.2.2, Con.drop_at hp0]; simp only [Con.andP]; rw [show 1 + i + 1 = i + 2 by omega, show 1 + (i + 1) = i + 2 by omega]⟩ (by simp; omega) ⟨rfl, rfl, rfl, rfl, rfl, rfl, rfl, trivial⟩ (F := [_]) (@List.perm_append_comm _ [_] _) (fun _ _ h => h)
   ·
    replace hr4 := of_decide_eq_true hr4
    try dsimp only [Con.kind, Con.parts, Con.name, Con.lo, Con.hi, Con.cap, Con.ad] at hr4
    have hlt : i < ps.length := by omega
    obtain ⟨p, hp⟩ : ∃ p, ps[i]? = some p := ⟨_, List.getElem?_eq_getElem hlt⟩
    have hpm : p ∈ ps := List.mem_of_getElem? hp
    refine n_ rfl (A_ (b_ rfl (f_ (S_ (f_ (c_ (a_ (ak_ av_ v_ rfl rfl (fun v _ h => aL_ (n := 5) Con.cells_len (by decide) (((Con.mem_iff (.mk k nm lo hi ad cap ps) v).1 h.1).1) hp) (by omega) (by first | omega | (simp only [Con.parts]; omega) | (simp [Con.parts]; done))) rfl (a_ (aE_ (ad := ad) (us := p.cells) T_ v_ rfl (fun v _ h => ((Con.mem_iff (.mk k nm lo hi ad cap ps) v).1 h.1).1) (Con.cells_len _) (an_ Con.cells_len hp)) rfl (al_ eb_ rfl fun b6 => ?_)))))))))
    refine eE_ 0 v_ rfl rfl rfl rfl (d_ (b_ rfl (c_ (a_ (aa_ (cs := [lFn bs bk]) fP_ rfl (fun v _ h => h.2.2.2.1) rfl) rfl (a_ (dc_ 0 T_ v_ rfl rfl) rfl (aH_ (ih p (by have := Con.sz_part (c := (.mk k nm lo hi ad cap ps)) hpm; omega) (Con.ok_part (c := (.mk k nm lo hi ad cap ps)) hok hpm) (Con.fine_part (c := (.mk k nm lo hi ad cap ps)) hf hpm) (Con.leftP.lefts frm (ps.take i) l) q0 hk.2 (by have := Con.lefts_len frm ps i l; have := Con.sz_at hp; omega)) rfl rfl (@List.perm_append_comm _ [_, _] _) (fun v _ h => by exact ⟨Con.mem_part (c := (.mk k nm lo hi ad cap ps)) h.1 hpm, h.2⟩) rfl fun x => ?_))))))
    obtain ⟨q10, hq10⟩ := x
    refine at_ (@List.perm_append_comm _ _ [_, _]) (d_ (b_ rfl (c_ (a_ (V_ rfl rfl rfl (aq_ (by omega) (by omega))) rfl (a_ (h_ rfl) rfl (d_ (r_ rfl ?_)))))))
    exact ao_ ⟨(i + 1, q10), hlt, by rw [Con.lefts_step frm hp]; exact hq10⟩ (by simp; omega) ⟨rfl, rfl, rfl, rfl, rfl, rfl, trivial⟩ (F := [_]) (@List.perm_append_comm _ [_] _) (fun _ _ h => h)
theorem hS_ {kb bk bs : Nat} {frm : Int} : ∀ (d : Nat) (c : Con), c.sz ≤ d → c.ok → c.fine → ∀ (l : List Pc) (q : CS), CInv l q → l.length + 2 * c.sz ≤ 100000 →
  Tri Tryz.prog 182 #[c.val, zp_ bk 0, zp_ bs 0] (fA_ kb frm q) [c.memF, dB_, kF bk kb, rcF bs bk] (fun _ : {q' : CS // CInv (c.rightP frm l) q'} => .tuple #[]) (fun q' => fA_ kb frm q'.1) (fun _ => []) := by
 intro d
 induction d with
 | zero => intro c h; have := c.sz_pos; omega
 | succ d ih =>
  intro c hd hok hf l q hq hl
  have F := Con.fields hf
  have hle := F.le
  have hmo := F.mo
  obtain ⟨k, nm, lo, hi, ad, cap, ps⟩ := c
  have hlen := Con.ok_len hok
  have hsz : (Con.mk k nm lo hi ad cap ps).sz = 1 + Con.sz.szs ps := by simp only [Con.sz]
  have hsl := Con.szs_len ps
  simp only [Con.parts, Con.cap, Con.kind] at hlen hle hmo
  refine M_ Tryz.func182 rfl rfl Tryz.ntmps182 rfl fun v0 => ?_
  refine f_ (c_ (aF_ rfl rfl fun b1 => ?_))
  refine d_ (b_ rfl (f_ (c_ (a_ (j_ K_ rfl rfl rfl H_) rfl (a_ (q_ 0 J_ rfl rfl rfl) rfl (d_ (b_ rfl (S_ (f_ ?_)))))))))
  refine c_ (x_ (aA_ rfl rfl) rfl fun r1 hr1 => ?_)
  refine a_ (g_ rfl) rfl (d_ (b_ rfl ?_))
  cases r1
  ·
   replace hr1 := ne_of_beq_false hr1
   try dsimp only [Con.kind, Con.parts, Con.name, Con.lo, Con.hi, Con.cap, Con.ad] at hr1
   refine p_ rfl (f_ (c_ (x_ (aA_ rfl rfl) rfl fun r2 hr2 => ?_)))
   refine a_ (g_ rfl) rfl (d_ (b_ rfl ?_))
   cases r2
   ·
    replace hr2 := ne_of_beq_false hr2
    try dsimp only [Con.kind, Con.parts, Con.name, Con.lo, Con.hi, Con.cap, Con.ad] at hr2
    refine p_ rfl (f_ (c_ (x_ (aA_ rfl rfl) rfl fun r3 hr3 => ?_)))
    refine a_ (g_ rfl) rfl (d_ (b_ rfl ?_))
    cases r3
    ·
     replace hr3 := ne_of_beq_false hr3
     try dsimp only [Con.kind, Con.parts, Con.name, Con.lo, Con.hi, Con.cap, Con.ad] at hr3
     refine p_ rfl (A_ (aO_ rfl ?_))
     exact cn_ Tryz.results182 ⟨q, (by rw [Con.rightP0 (c := (.mk k nm lo hi ad cap ps)) (by assumption) (by assumption) (by assumption)]; exact hq)⟩ rfl (F := [_]) (@List.perm_append_comm _ [_] _) (fun _ _ _ => trivial)
    ·
     replace hr3 := eq_of_beq hr3
     try dsimp only [Con.kind, Con.parts, Con.name, Con.lo, Con.hi, Con.cap, Con.ad] at hr3
     refine n_ rfl ?_
     refine aC_ [(b1, .cells #[.int .i64 k, str nm, .int .i64 lo, .int .i64 hi, .slice ad ps.length cap] 132 (0, 0))] (by kernel_rfl) ?_
     refine ad_ 4 [0, 1, 3, 4, 5, 6, 7, 8] (by kernel_rfl) (fun _ a b => ⟨Vw.sat.sub a, b⟩) (k_ rfl (aa_ (cs := [zp_ kb 0]) lw_ rfl (fun v _ h => h.2.2.1) rfl) rfl (k_ rfl (L_ 0 T_ v_ rfl rfl rfl) rfl (k_ rfl (j_ K_ rfl rfl rfl s_) rfl (k_ rfl (q_ 0 w_ rfl rfl rfl) rfl (k_ rfl (j_ K_ rfl rfl rfl H_) rfl (k_ rfl (q_ 0 J_ rfl rfl rfl) rfl (k_ rfl (j_ K_ rfl rfl rfl H_) rfl (k_ rfl (q_ 0 J_ rfl rfl rfl) rfl (ac_ ?_)))))))))
     refine O_ 2 rfl (by kernel_rfl) (Q_ (dn_ (.mk k nm lo hi ad cap ps) hok) rfl (.refl _) (fun v _ h => ⟨h.1, h.2.1, trivial⟩) rfl fun _ => ?_)
     refine d_ (r_ rfl (C_ (fun _ a b => ⟨Vw.sat.sub a, b⟩) (ad_ 2 [9] (by kernel_rfl) (fun _ a b => ⟨Vw.sat.sub a, b⟩) (k_ rfl (ag_ du_ rfl rfl) rfl (ac_ (O_ 10 rfl (by kernel_rfl) (aK_ G_ U_ ap_ rfl rfl rfl rfl rfl rfl fun b2 => ?_)))))))
     refine d_ (r_ rfl (C_ (fun _ a b => ⟨Vw.sat.sub a.tail, b⟩) (O_ 11 rfl (by kernel_rfl) (Q_ (dV_ ⟨8, Con.atom (.mk k nm lo hi ad cap ps), [], [], nm, [], [], lo, hi, 0⟩ frm l q hq (by omega)) rfl (.cons _ (@List.perm_append_comm _ [_] _)) (fun _ _ _ => trivial) rfl fun x => ?_))))
     obtain ⟨q2, hq2⟩ := x
     refine at_ (@List.perm_append_comm _ _ [_]) (d_ (r_ rfl (C_ (fun _ a b => ⟨Vw.sat.sub a, b⟩) (ab_ (by kernel_rfl) (aO_ rfl ?_)))))
     exact cn_ Tryz.results182 ⟨q2, (by rw [Con.rightP7 (c := (.mk k nm lo hi ad cap ps)) (by assumption)]; exact hq2)⟩ rfl (F := [_]) (@List.perm_append_comm _ [_] _) (fun _ _ _ => trivial)
   ·
    replace hr2 := eq_of_beq hr2
    try dsimp only [Con.kind, Con.parts, Con.name, Con.lo, Con.hi, Con.cap, Con.ad] at hr2
    rw [hr2] at hle hmo
    simp [nd, el_] at hle hmo
    obtain ⟨p, hps⟩ := List.length_eq_one_iff.1 (show ps.length = 1 by omega)
    have hp : ps[0]? = some p := by rw [hps]; rfl
    have hpm : p ∈ ps := List.mem_of_getElem? hp
    refine n_ rfl (f_ ?_)
    refine aC_ [(b1, .cells #[.int .i64 k, str nm, .int .i64 lo, .int .i64 hi, .slice ad ps.length cap] 132 (0, 0))] (by kernel_rfl) ?_
    refine ad_ 5 [0, 1, 3, 4, 5, 6, 7, 8] (by kernel_rfl) (fun _ a b => ⟨Vw.sat.sub a, b⟩) (k_ rfl (aa_ (cs := [zp_ kb 0]) lw_ rfl (fun v _ h => h.2.2.1) rfl) rfl (k_ rfl (L_ 0 T_ v_ rfl rfl rfl) rfl (k_ rfl (j_ K_ rfl rfl rfl s_) rfl (k_ rfl (q_ 0 w_ rfl rfl rfl) rfl (k_ rfl (j_ K_ rfl rfl rfl bw_) rfl (k_ rfl (q_ 0 bM_ rfl rfl rfl) rfl (k_ rfl (ak_ av_ v_ rfl rfl (fun v _ h => aL_ (n := 5) Con.cells_len (by decide) (((Con.mem_iff (.mk k nm lo hi ad cap ps) v).1 h.1).1) hp) (by omega) (by first | omega | (simp only [Con.parts]; omega) | (simp [Con.parts]; done))) rfl (k_ rfl (aE_ (ad := ad) (us := p.cells) T_ v_ rfl (fun v _ h => ((Con.mem_iff (.mk k nm lo hi ad cap ps) v).1 h.1).1) (Con.cells_len _) (an_ Con.cells_len hp)) rfl (ac_ ?_)))))))))
    refine O_ 2 rfl (by kernel_rfl) (Q_ (dn_ (.mk k nm lo hi ad cap ps) hok) rfl (.refl _) (fun v _ h => ⟨h.1, h.2.1, trivial⟩) rfl fun _ => ?_)
    refine d_ (r_ rfl (C_ (fun _ a b => ⟨Vw.sat.sub a, b⟩) (O_ 9 rfl (by kernel_rfl) (Q_ (dn_ p (Con.ok_part (c := (.mk k nm lo hi ad cap ps)) hok hpm)) rfl (.refl _) (fun v _ h => ⟨Con.mem_part (c := (.mk k nm lo hi ad cap ps)) h.1 hpm, h.2.1, trivial⟩) rfl fun _ => ?_))))
    refine d_ (r_ rfl (C_ (fun _ a b => ⟨Vw.sat.sub a, b⟩) (ad_ 2 [10] (by kernel_rfl) (fun _ a b => ⟨Vw.sat.sub a, b⟩) (k_ rfl (ag_ du_ rfl rfl) rfl (ac_ (O_ 11 rfl (by kernel_rfl) (aK_ G_ U_ ap_ rfl rfl rfl rfl rfl rfl fun b3 => ?_)))))))
    refine d_ (r_ rfl (C_ (fun _ a b => ⟨Vw.sat.sub a.tail, b⟩) (O_ 12 rfl (by kernel_rfl) (Q_ (dV_ ⟨3, Con.atom (.mk k nm lo hi ad cap ps), [], p.atom, nm, [], [], 0, 0, 0⟩ frm l q hq (by omega)) rfl (.cons _ (@List.perm_append_comm _ [_] _)) (fun _ _ _ => trivial) rfl fun x => ?_))))
    obtain ⟨q4, hq4⟩ := x
    refine at_ (@List.perm_append_comm _ _ [_]) (d_ (r_ rfl (C_ (fun _ a b => ⟨Vw.sat.sub a, b⟩) (ab_ (by kernel_rfl) (b_ rfl ?_)))))
    refine aC_ [(b1, .cells #[.int .i64 k, str nm, .int .i64 lo, .int .i64 hi, .slice ad ps.length cap] 132 (0, 0))] (by kernel_rfl) ?_
    refine ad_ 1 [0, 1, 2, 3, 4] (by kernel_rfl) (fun _ a b => ⟨Vw.sat.sub a, b⟩) (k_ rfl (aa_ (cs := [rFn bs bk]) fP_ rfl (fun v _ h => h.2.2.2.1) rfl) rfl (k_ rfl (j_ K_ rfl rfl rfl bw_) rfl (k_ rfl (q_ 0 bM_ rfl rfl rfl) rfl (k_ rfl (ak_ av_ v_ rfl rfl (fun v _ h => aL_ (n := 5) Con.cells_len (by decide) (((Con.mem_iff (.mk k nm lo hi ad cap ps) v).1 h.1).1) hp) (by omega) (by first | omega | (simp only [Con.parts]; omega) | (simp [Con.parts]; done))) rfl (k_ rfl (aE_ (ad := ad) (us := p.cells) T_ v_ rfl (fun v _ h => ((Con.mem_iff (.mk k nm lo hi ad cap ps) v).1 h.1).1) (Con.cells_len _) (an_ Con.cells_len hp)) rfl (ac_ (O_ 5 rfl (by kernel_rfl) (aH_ (ih p (by have := Con.sz_part (c := (.mk k nm lo hi ad cap ps)) hpm; omega) (Con.ok_part (c := (.mk k nm lo hi ad cap ps)) hok hpm) (Con.fine_part (c := (.mk k nm lo hi ad cap ps)) hf hpm) (ins frm l ⟨3, Con.atom (.mk k nm lo hi ad cap ps), [], p.atom, nm, [], [], 0, 0, 0⟩) q4 hq4 (by have := bP_ frm l ⟨3, Con.atom (.mk k nm lo hi ad cap ps), [], p.atom, nm, [], [], 0, 0, 0⟩; have := Con.sz_at hp; omega)) rfl rfl (@List.perm_append_comm _ [_] _) (fun v _ h => by exact ⟨Con.mem_part (c := (.mk k nm lo hi ad cap ps)) h.1 hpm, h.2⟩) rfl fun x => ?_))))))))
    obtain ⟨q7, hq7⟩ := x
    refine at_ (@List.perm_append_comm _ _ [_]) (d_ (r_ rfl (C_ (fun _ a b => ⟨Vw.sat.sub a, b⟩) (ab_ (by kernel_rfl) (aO_ rfl ?_)))))
    exact cn_ Tryz.results182 ⟨q7, (by rw [Con.rightP6 (c := (.mk k nm lo hi ad cap ps)) (p := p) (by assumption) hps]; exact hq7)⟩ rfl (F := [_]) (@List.perm_append_comm _ [_] _) (fun _ _ _ => trivial)
  ·
   replace hr1 := eq_of_beq hr1
   try dsimp only [Con.kind, Con.parts, Con.name, Con.lo, Con.hi, Con.cap, Con.ad] at hr1
   rw [hr1] at hle hmo
   simp [nd, el_] at hle hmo
   refine n_ rfl (f_ (c_ (a_ (j_ K_ rfl rfl rfl bw_) rfl (a_ (q_ 0 bM_ rfl rfl rfl) rfl (a_ (ah_ av_ rfl) rfl (a_ (h_ rfl) rfl (d_ (b_ rfl (S_ ?_)))))))))
   refine bS_ [(1, zp_ bk 0), (2, zp_ bs 0), (3, zp_ b1 0), (11, .slice ad ps.length cap), (12, .int .i64 (ps.length : Int)), (13, .int .i64 ((0 : Nat) : Int))] ⟨rfl, rfl, rfl, rfl, rfl, rfl, trivial⟩ ?_
   refine bY_ (ι := {x : Nat × CS // x.1 ≤ ps.length ∧ CInv (Con.rightP.rights frm (Con.atom (.mk k nm lo hi ad cap ps)) (ps.take x.1) l) x.2}) (fun x => [(1, zp_ bk 0), (2, zp_ bs 0), (3, zp_ b1 0), (11, .slice ad ps.length cap), (12, .int .i64 (ps.length : Int)), (13, .int .i64 (x.1.1 : Int))]) (fun x => _ :: fA_ kb frm x.1.2) (fun _ => _) (fun x => ps.length - x.1.1) ⟨(0, q), by simp, by simpa [Con.rightP.rights] using hq⟩ ?_
   rintro ⟨⟨i, q0⟩, hk⟩
   dsimp only at hk
   refine bS_ [(1, zp_ bk 0), (2, zp_ bs 0), (3, zp_ b1 0), (11, .slice ad ps.length cap), (12, .int .i64 (ps.length : Int)), (13, .int .i64 (i : Int))] ⟨rfl, rfl, rfl, rfl, rfl, rfl, trivial⟩ ?_
   refine f_ (c_ (x_ (az_ rfl rfl) rfl fun r4 hr4 => ?_))
   refine d_ (b_ rfl (f_ ?_))
   cases r4
   ·
    replace hr4 := of_decide_eq_false hr4
    try dsimp only [Con.kind, Con.parts, Con.name, Con.lo, Con.hi, Con.cap, Con.ad] at hr4
    obtain rfl : i = ps.length := by omega
    rw [List.take_length] at hk
    refine p_ rfl (aD_ rfl (aO_ rfl ?_))
    exact cn_ Tryz.results182 ⟨q0, (by rw [Con.rightP5 (c := (.mk k nm lo hi ad cap ps)) (by assumption)]; exact hk.2)⟩ rfl (F := [_]) (@List.perm_append_comm _ [_] _) (fun _ _ _ => trivial)
   ·
    replace hr4 := of_decide_eq_true hr4
    try dsimp only [Con.kind, Con.parts, Con.name, Con.lo, Con.hi, Con.cap, Con.ad] at hr4
    have hlt : i < ps.length := by omega
    obtain ⟨p, hp⟩ : ∃ p, ps[i]? = some p := ⟨_, List.getElem?_eq_getElem hlt⟩
    have hpm : p ∈ ps := List.mem_of_getElem? hp
    refine n_ rfl (A_ (b_ rfl (f_ (S_ (f_ (c_ (a_ (ak_ av_ v_ rfl rfl (fun v _ h => aL_ (n := 5) Con.cells_len (by decide) (((Con.mem_iff (.mk k nm lo hi ad cap ps) v).1 h.1).1) hp) (by omega) (by first | omega | (simp only [Con.parts]; omega) | (simp [Con.parts]; done))) rfl (a_ (aE_ (ad := ad) (us := p.cells) T_ v_ rfl (fun v _ h => ((Con.mem_iff (.mk k nm lo hi ad cap ps) v).1 h.1).1) (Con.cells_len _) (an_ Con.cells_len hp)) rfl (al_ eb_ rfl fun b4 => ?_)))))))))
    refine eE_ 0 v_ rfl rfl rfl rfl (d_ (b_ rfl (f_ ?_)))
    refine aC_ [(b4, .cells p.cells.toArray 132 (0, 0)), (b1, .cells #[.int .i64 k, str nm, .int .i64 lo, .int .i64 hi, .slice ad ps.length cap] 132 (0, 0))] (by kernel_rfl) ?_
    refine ad_ 5 [0, 1, 3] (by kernel_rfl) (fun _ a b => ⟨Vw.sat.sub a, b⟩) (k_ rfl (aa_ (cs := [zp_ kb 0]) lw_ rfl (fun v _ h => h.2.2.1) rfl) rfl (k_ rfl (L_ 1 T_ v_ rfl rfl rfl) rfl (k_ rfl (dc_ 0 T_ v_ rfl rfl) rfl (ac_ (O_ 2 rfl (by kernel_rfl) (Q_ (dn_ (.mk k nm lo hi ad cap ps) hok) rfl (.refl _) (fun v _ h => ⟨h.1, h.2.1, trivial⟩) rfl fun _ => ?_))))))
    refine d_ (r_ rfl (C_ (fun _ a b => ⟨Vw.sat.sub a, b⟩) (O_ 4 rfl (by kernel_rfl) (Q_ (dn_ p (Con.ok_part (c := (.mk k nm lo hi ad cap ps)) hok hpm)) rfl (.refl _) (fun v _ h => ⟨Con.mem_part (c := (.mk k nm lo hi ad cap ps)) h.1 hpm, h.2.1, trivial⟩) rfl fun _ => ?_))))
    refine d_ (r_ rfl (C_ (fun _ a b => ⟨Vw.sat.sub a, b⟩) (ad_ 2 [5] (by kernel_rfl) (fun _ a b => ⟨Vw.sat.sub a, b⟩) (k_ rfl (ag_ du_ rfl rfl) rfl (ac_ (O_ 6 rfl (by kernel_rfl) (aK_ G_ U_ ap_ rfl rfl rfl rfl rfl rfl fun b5 => ?_)))))))
    refine d_ (r_ rfl (C_ (fun _ a b => ⟨Vw.sat.sub a.tail, b⟩) (O_ 7 rfl (by kernel_rfl) (Q_ (dV_ ⟨1, Con.atom (.mk k nm lo hi ad cap ps), [], p.atom, [], [], [], 0, 0, 0⟩ frm (Con.rightP.rights frm (Con.atom (.mk k nm lo hi ad cap ps)) (ps.take i) l) q0 hk.2 (by have := Con.rights_len frm (Con.atom (.mk k nm lo hi ad cap ps)) ps i l; have := Con.sz_at hp; have := p.sz_pos; omega)) rfl (.cons _ (@List.perm_append_comm _ [_, _] _)) (fun _ _ _ => trivial) rfl fun x => ?_))))
    obtain ⟨q9, hq9⟩ := x
    refine at_ (@List.perm_append_comm _ _ [_, _]) (d_ (r_ rfl (C_ (fun _ a b => ⟨Vw.sat.sub a, b⟩) (ab_ (by kernel_rfl) (b_ rfl (c_ (a_ (aa_ (cs := [rFn bs bk]) fP_ rfl (fun v _ h => h.2.2.2.1) rfl) rfl (a_ (dc_ 0 T_ v_ rfl rfl) rfl (aH_ (ih p (by have := Con.sz_part (c := (.mk k nm lo hi ad cap ps)) hpm; omega) (Con.ok_part (c := (.mk k nm lo hi ad cap ps)) hok hpm) (Con.fine_part (c := (.mk k nm lo hi ad cap ps)) hf hpm) (ins frm (Con.rightP.rights frm (Con.atom (.mk k nm lo hi ad cap ps)) (ps.take i) l) ⟨1, Con.atom (.mk k nm lo hi ad cap ps), [], p.atom, [], [], [], 0, 0, 0⟩) q9 hq9 (by have := Con.rights_len frm (Con.atom (.mk k nm lo hi ad cap ps)) ps i l; have := Con.sz_at hp; have := bP_ frm (Con.rightP.rights frm (Con.atom (.mk k nm lo hi ad cap ps)) (ps.take i) l) ⟨1, (Con.atom (.mk k nm lo hi ad cap ps)), [], p.atom, [], [], [], 0, 0, 0⟩; omega)) rfl rfl (@List.perm_append_comm _ [_, _] _) (fun v _ h => by exact ⟨Con.mem_part (c := (.mk k nm lo hi ad cap ps)) h.1 hpm, h.2⟩) rfl fun x => ?_)))))))))
    obtain ⟨q10, hq10⟩ := x
    refine at_ (@List.perm_append_comm _ _ [_, _]) (d_ (b_ rfl (c_ (a_ (V_ rfl rfl rfl (aq_ (by omega) (by omega))) rfl (a_ (h_ rfl) rfl (d_ (r_ rfl ?_)))))))
    exact ao_ ⟨(i + 1, q10), hlt, by rw [Con.rights_step frm _ hp]; exact hq10⟩ (by simp; omega) ⟨rfl, rfl, rfl, rfl, rfl, rfl, trivial⟩ (F := [_]) (@List.perm_append_comm _ [_] _) (fun _ _ h => h)
end Go.Proofs.YtpdbbglpbngeiaaGreatDoor
