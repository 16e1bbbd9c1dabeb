/-
  Part of the proof of the law CheckerBytes over this seat: the small logic, the data, the contracts of functions (no condition).
-/
import Derived.Test.YtaffcjgphlhppaaGreatDoorQCheckerBytes2
import Derived.Test.YtaffcjgphlhppaaGreatDoorQCheckerBytes3
import Derived.Test.YtaffcjgphlhppaaGreatDoorProg
set_option linter.unusedVariables false
set_option linter.unusedSimpArgs false
set_option linter.unusedSectionVars false
namespace Go.Proofs.YtaffcjgphlhppaaGreatDoor
open Go Go.Sx Go.Proofs
attribute [local irreducible] Code.wp wpList wpAnyH
open Go.Vs
theorem oS_ {σ τ : Type} {l : Nat} {Gj : σ → Hp} {Gx : τ → Hp} {stp : Con → σ → σ ⊕ τ} {E : List Fct} {good : Con → Prop} (hgood : ∀ c p, good c → p ∈ c.parts → good p)
  (hY : ∀ s x, x.ok → good x → no_ Tryz.prog l x.val (Gj s) (x.memF :: E) (fun _ : Unit => .bool (stp x s).isLeft) (fun _ => kY_ Gj Gx (stp x s)) (fun _ => [])) :
  ∀ (m : Nat) (c : Con), c.sz ≤ m → c.ok → good c → ∀ (s : σ) r, Con.fold stp c s = r →
  Tri Tryz.prog 180 #[c.val, .func (.yield l) #[] #[]] (Gj s) (c.memF :: E) (fun _ : Unit => .bool r.isLeft) (fun _ => kY_ Gj Gx r) (fun _ => []) := by
 intro m
 induction m with
 | zero => intro c h; have := c.sz_pos; omega
 | succ m ih =>
  intro c hm hok hg s r hr
  obtain ⟨k, nm, lo, hi, ad, cap, ps⟩ := c
  have hlen := Con.ok_len hok
  simp only [Con.parts, Con.cap] at hlen
  have hgp : ∀ p ∈ ps, good p := fun p hp => hgood _ p hg hp
  refine S_ Tryz.func180 rfl rfl Tryz.ntmps180 rfl fun v0 => ?_
  refine g_ (c_ (aM_ rfl rfl fun b1 => ?_))
  refine a_ (e_ rfl) rfl (d_ (b_ rfl (g_ (g_ ?_))))
  rcases hfc : stp (.mk k nm lo hi ad cap ps) s with s1 | t1
  ·
   refine kl_ (ι := Unit) (fun _ => [(1, .func (.yield l) #[] #[]), (2, zp_ b1 0), (10, .bool false)]) (fun _ => (b1, .cells (Con.mk k nm lo hi ad cap ps).cells.toArray 56 (0, 0)) :: Gj s1) (fun _ => [(Con.mk k nm lo hi ad cap ps).memF] ++ E) ?_ fun _ => ?_
   ·
    refine dr_ ?_
    refine du_ ex_ (f_ rfl) rfl rfl ?_
    refine du_ ex_ (dQ_ (c := .mk k nm lo hi ad cap ps) 0 aP_ X_ rfl rfl) rfl rfl ?_
    refine hY_ (hY s _ hok hg) rfl rfl (@List.perm_append_comm _ [_] _) (fun v _ h => h) rfl fun _ => ?_
    rw [hfc]
    refine du_ ex_ (bu_ rfl) rfl rfl ?_
    refine ew_ ?_
    refine gD_ rfl ?_
    exact gT_ () ⟨rfl, rfl, rfl, trivial⟩ (F := []) (by rw [List.append_nil]; exact @List.perm_append_comm _ _ [_]) (fun _ _ h => h)
   ·
    refine b_ rfl (A_ rfl (J_ (b_ rfl (g_ (g_ (c_ (a_ (h_ aB_ rfl rfl rfl jA_) rfl (a_ (n_ 0 lI_ rfl rfl rfl) rfl (a_ (aA_ cB_ rfl) rfl ?_)))))))))
    refine a_ (f_ rfl) rfl (d_ (b_ rfl (ae_ (de_ [(1, .func (.yield l) #[] #[]), (12, .slice ad ps.length cap), (13, .int .i64 (ps.length : Int)), (14, .int .i64 ((0 : Nat) : Int))] ⟨rfl, rfl, rfl, rfl, trivial⟩ ?_))))
    refine dq_ (ι := {q : Nat × σ // q.1 ≤ ps.length ∧ Con.fold.folds stp (ps.take q.1) s1 = .inl q.2}) (fun i => [(1, .func (.yield l) #[] #[]), (12, .slice ad ps.length cap), (13, .int .i64 (ps.length : Int)), (14, .int .i64 (i.1.1 : Int))]) (fun i => _ :: Gj i.1.2) (fun _ => _) (fun i => ps.length - i.1.1) ⟨(0, s1), by simp [Con.fold.folds]⟩ ?_
    rintro ⟨⟨i, m1⟩, hk⟩
    refine de_ [(1, .func (.yield l) #[] #[]), (12, .slice ad ps.length cap), (13, .int .i64 (ps.length : Int)), (14, .int .i64 (i : Int))] ⟨rfl, rfl, rfl, rfl, trivial⟩ ?_
    refine g_ (c_ (E_ (au_ rfl rfl) rfl fun r1 hr1 => ?_))
    refine d_ (b_ rfl (g_ ?_))
    cases r1
    ·
     replace hr1 := of_decide_eq_false hr1
     try dsimp only [Con.kind, Con.parts, Con.name, Con.lo, Con.hi, Con.cap, Con.ad] at hr1
     refine A_ rfl (bj_ rfl (b_ rfl (g_ (c_ (a_ (e_ rfl) rfl (d_ (b_ rfl (u_ ?_))))))))
     obtain rfl : r = .inl m1 := by rw [← hr, Con.fold_eq, hfc]; exact Con.folds_yes (show ps.length ≤ i by omega) hk.2
     exact Y_ Tryz.results180 () rfl (@List.perm_append_comm _ [_] _) (fun _ _ _ => trivial)
    ·
     replace hr1 := of_decide_eq_true hr1
     try dsimp only [Con.kind, Con.parts, Con.name, Con.lo, Con.hi, Con.cap, Con.ad] at hr1
     have hlt : i < ps.length := by omega
     obtain ⟨p, hp⟩ : ∃ p, ps[i]? = some p := ⟨_, List.getElem?_eq_getElem hlt⟩
     have hpm : p ∈ ps := List.mem_of_getElem? hp
     refine w_ rfl (J_ (b_ rfl (g_ (ae_ (g_ (c_ (a_ (an_ cB_ X_ rfl rfl (fun v _ h => Con.row_addr (c := .mk k nm lo hi ad cap ps) h.1 hp) (by omega) (by omega)) rfl (a_ (aX_ (us := p.cells) aP_ X_ rfl (fun v _ h => ((Con.mem_iff (.mk k nm lo hi ad cap ps) v).1 h.1).1) p.cells_len (Con.part_cells (c := .mk k nm lo hi ad cap ps) (i := i) hp)) rfl (Z_ Tryz.zeroValue56 rfl fun b2 => ?_)))))))))
     refine hU_ 0 X_ rfl rfl rfl rfl (d_ (b_ rfl (g_ ?_)))
     rcases hfp : Con.fold stp p m1 with m2 | t2
     ·
      refine c_ (a_ (dQ_ 0 aP_ X_ rfl rfl) rfl (a_ (f_ rfl) rfl (K_ (ih p (by have := Con.sz_part (c := .mk k nm lo hi ad cap ps) hpm; omega) (Con.ok_part (c := .mk k nm lo hi ad cap ps) hok hpm) (hgp p hpm) m1 _ hfp) rfl (@List.perm_append_comm _ [_, _] _) (fun v _ h => ⟨Con.mem_part (c := .mk k nm lo hi ad cap ps) h.1 hpm, h.2⟩) rfl fun _ => ?_)))
      refine as_ (@List.perm_append_comm _ _ [_, _]) (a_ (bu_ rfl) rfl (d_ (b_ rfl (A_ rfl (J_ (b_ rfl (c_ (a_ (ag_ rfl rfl rfl (aS_ (by omega) (by omega))) rfl (a_ (f_ rfl) rfl ?_)))))))))
      refine d_ (p_ rfl ?_)
      exact aU_ ⟨(i + 1, m2), hlt, Con.folds_step hp hk.2 hfp⟩ (by simp; omega) ⟨rfl, rfl, rfl, rfl, trivial⟩ (F := [_]) (@List.perm_append_comm _ [_] _) (fun _ _ h => h)
     ·
      refine c_ (a_ (dQ_ 0 aP_ X_ rfl rfl) rfl (a_ (f_ rfl) rfl (K_ (ih p (by have := Con.sz_part (c := .mk k nm lo hi ad cap ps) hpm; omega) (Con.ok_part (c := .mk k nm lo hi ad cap ps) hok hpm) (hgp p hpm) m1 _ hfp) rfl (@List.perm_append_comm _ [_, _] _) (fun v _ h => ⟨Con.mem_part (c := .mk k nm lo hi ad cap ps) h.1 hpm, h.2⟩) rfl fun _ => ?_)))
      refine as_ (@List.perm_append_comm _ _ [_, _]) (a_ (bu_ rfl) rfl (d_ (b_ rfl (w_ rfl (g_ (c_ (a_ (e_ rfl) rfl (d_ (b_ rfl ?_)))))))))
      refine u_ ?_
      obtain rfl : r = .inr t2 := by rw [← hr, Con.fold_eq, hfc]; exact Con.folds_no hp hk.2 hfp
      exact Y_ Tryz.results180 () rfl (@List.perm_append_comm _ [_, _] _) (fun _ _ _ => trivial)
  ·
   refine kl_ (ι := Unit) (fun _ => [(1, .func (.yield l) #[] #[]), (2, zp_ b1 0), (10, .bool true)]) (fun _ => (b1, .cells (Con.mk k nm lo hi ad cap ps).cells.toArray 56 (0, 0)) :: Gx t1) (fun _ => [(Con.mk k nm lo hi ad cap ps).memF] ++ E) ?_ fun _ => ?_
   ·
    refine dr_ ?_
    refine du_ ex_ (f_ rfl) rfl rfl ?_
    refine du_ ex_ (dQ_ (c := .mk k nm lo hi ad cap ps) 0 aP_ X_ rfl rfl) rfl rfl ?_
    refine hY_ (hY s _ hok hg) rfl rfl (@List.perm_append_comm _ [_] _) (fun v _ h => h) rfl fun _ => ?_
    rw [hfc]
    refine du_ ex_ (bu_ rfl) rfl rfl ?_
    refine ew_ ?_
    refine gD_ rfl ?_
    exact gT_ () ⟨rfl, rfl, rfl, trivial⟩ (F := []) (by rw [List.append_nil]; exact @List.perm_append_comm _ _ [_]) (fun _ _ h => h)
   ·
    refine b_ rfl (w_ rfl (g_ (c_ (a_ (e_ rfl) rfl (d_ (b_ rfl (u_ ?_)))))))
    obtain rfl : r = .inr t1 := by rw [← hr, Con.fold_eq, hfc]
    exact Y_ Tryz.results180 () rfl (@List.perm_append_comm _ [_] _) (fun _ _ _ => trivial)
theorem walk_c (c : Con) :
    Tri Tryz.prog 125 #[c.val] [] [] (fun b : Nat => .func (.func 179) #[] #[zp_ b 0]) (fun b => [(b, .cells c.cells.toArray 56 (0, 0))]) (fun _ => []) := by
  refine S_ Tryz.func125 rfl rfl Tryz.ntmps125 rfl fun v0 => ?_
  refine g_ (c_ (aM_ rfl rfl fun b1 => ?_))
  refine a_ (e_ rfl) rfl (d_ (b_ rfl (g_ (c_ (a_ (dx_ rfl rfl) rfl (a_ (e_ rfl) rfl (d_ (b_ rfl (u_ ?_)))))))))
  exact Y_ Tryz.results125 b1 rfl (F := []) (.refl _) (fun _ _ _ => trivial)
theorem oR_ {σ τ : Type} {l b : Nat} {Gj : σ → Hp} {Gx : τ → Hp} {stp : Con → σ → σ ⊕ τ} {E : List Fct} {good : Con → Prop} (hgood : ∀ c p, good c → p ∈ c.parts → good p)
    (hY : ∀ s x, x.ok → good x → no_ Tryz.prog l x.val (Gj s) (x.memF :: E) (fun _ : Unit => .bool (stp x s).isLeft) (fun _ => kY_ Gj Gx (stp x s)) (fun _ => []))
    (c : Con) (hok : c.ok) (hg : good c) (s : σ) :
    Tri Tryz.prog 179 #[.func (.yield l) #[] #[], zp_ b 0] ((b, .cells c.cells.toArray 56 (0, 0)) :: Gj s) (c.memF :: E) (fun _ : Unit => .tuple #[]) (fun _ => (b, .cells c.cells.toArray 56 (0, 0)) :: kY_ Gj Gx (Con.fold stp c s)) (fun _ => []) := by
  refine S_ Tryz.func179 rfl rfl Tryz.ntmps179 rfl fun v0 => ?_
  refine c_ (a_ (dQ_ (c := c) 0 aP_ X_ rfl rfl) rfl (a_ (f_ rfl) rfl (K_ (oS_ hgood hY _ c (Nat.le_refl _) hok hg s _ rfl) rfl (@List.perm_append_comm _ [_] _) (fun v _ h => h) rfl fun _ => ?_)))
  refine d_ (gC_ rfl ?_)
  exact pP_ Tryz.results179 () rfl (F := []) (by rw [List.append_nil]; exact @List.perm_append_comm _ _ [_]) (fun _ _ _ => trivial)
theorem eC_ (c : Con) (hok : c.ok) : Tri Tryz.prog 69 #[c.val] [] [c.memF, gL_] (fun _ : Unit => .int .i64 c.check) (fun _ => []) (fun _ => []) := by
  obtain ⟨k, nm, lo, hi, ad, cap, ps⟩ := c
  refine jv_ Tryz.func69 rfl rfl Tryz.ntmps69 rfl fun v0 => ?_
  refine g_ (c_ (aM_ rfl rfl fun b1 => ?_))
  refine Z_ Tryz.zeroValue31 rfl fun b2 => ?_
  refine d_ (b_ rfl (g_ (c_ (Z_ cO_ rfl fun b3 => ?_))))
  refine Q_ 0 q_ rfl rfl rfl rfl rfl rfl (d_ (b_ rfl (g_ (g_ (c_ (a_ (M_ 2 aP_ X_ rfl rfl rfl) rfl (hX_ 0 (fits_c _ (.mk k nm lo hi ad cap ps) (Nat.le_refl _) hok 0 0 b3 (by omega) (by omega) _ rfl) rfl rfl (fun v _ h => ⟨h.1, trivial⟩) rfl fun r1 hr1 => ?_)))))))
  refine a_ (bu_ rfl) rfl (d_ (b_ rfl ?_))
  cases r1
  · skip
    try dsimp only [Con.kind, Con.parts, Con.name, Con.lo, Con.hi, Con.cap, Con.ad] at hr1
    refine w_ rfl (g_ (c_ (Q_ 1 qa_ rfl rfl rfl rfl rfl rfl (d_ (b_ rfl (u_ ?_))))))
    exact retM () (fun a v h1 h2 _ => by rw [hP_ 1 Tryz.results69 Tryz.isAgg31 rfl rfl a v h1 h2]; simp [Con.check, *]) (.refl _) (fun _ _ _ => trivial)
  · skip
    try dsimp only [Con.kind, Con.parts, Con.name, Con.lo, Con.hi, Con.cap, Con.ad] at hr1
    refine A_ rfl (J_ (b_ rfl (g_ (g_ (c_ (a_ (M_ 2 aP_ X_ rfl rfl rfl) rfl (K_ (walk_c (.mk k nm lo hi ad cap ps)) rfl (.refl _) (fun _ _ _ => trivial) rfl fun b => ?_)))))))
    refine d_ (b_ rfl (ae_ (de_ [(2, zp_ b2 0), (10, .func (.func 179) #[] #[zp_ b 0])] ⟨rfl, rfl, trivial⟩ ?_)))
    refine eI_ (H' := [_, _]) (F := [_, _]) (.cons _ (.swap _ _ _)) (fun _ _ h => h) ?_
    refine mI_ (α := {c : Con // c.ok}) (xv := fun x => x.1.val) (good := fun _ => True) (stp := fun x => Con.chk x.1) (Γx := fun x => [x.1.memF, gL_]) (Γi := [Con.memF (.mk k nm lo hi ad cap ps), gL_]) (Hj := fun _ : Unit => [(b2, .cells #[.int .i64 0] 31 (0, 0))]) (Hx := fun t : Int => [(b2, .cells #[.int .i64 t] 31 (0, 0))]) (Hc := [(b, .cells (Con.mk k nm lo hi ad cap ps).cells.toArray 56 (0, 0))]) (caps := [zp_ b 0]) () (Con.fold Con.chk (.mk k nm lo hi ad cap ps) ()) rfl (.refl _) (fun v _ h => h) ?_ ?_ ?_ ?_
    · rintro l D rec hp hst hpe ht hasg hbody s ⟨x, hx⟩ -
      refine lo_ (ι := Nat) (Hj := fun _ : Unit => [(b2, .cells #[.int .i64 0] 31 (0, 0))]) (Hx := fun t : Int => [(b2, .cells #[.int .i64 t] 31 (0, 0))]) (s := s) (res := Con.chk x s) (Γ := [x.memF, gL_]) (fun b4 => [(2, zp_ b2 0), (4, zp_ b4 0)]) (fun b4 => [(b4, .cells x.cells.toArray 56 (0, 0)), (b2, .cells #[.int .i64 0] 31 (0, 0))]) hp hst hpe ht rfl ?_ ?_
      · intro n v0 H0 HL
        rw [hasg]
        refine dr_ ?_
        refine lA_ (dG_ _) Tryz.zeroValue56 rfl fun b4 => ?_
        refine kC_ (dG_ _) 0 X_ rfl rfl rfl rfl ?_
        refine ew_ ?_
        refine gD_ rfl ?_
        exact gT_ b4 ⟨rfl, rfl, trivial⟩ (F := []) (by rw [List.append_nil]; exact .refl _) (fun _ _ h => h)
      · intro n v0 H0 HL b4
        rw [hbody]
        refine lu_ ?_
        refine gr_ ?_
        refine dr_ ?_
        refine du_ (dG_ _) (dQ_ 0 aP_ X_ rfl rfl) rfl rfl ?_
        refine mU_ (iA_ x hx) rfl (.refl _) (fun v _ h => ⟨h.2.1, trivial⟩) rfl fun _ => ?_
        refine du_ (dG_ _) (e_ rfl) rfl rfl ?_
        refine ew_ ?_
        refine fb_ rfl ?_
        refine gr_ ?_
        refine dr_ ?_
        refine du_ (dG_ _) (f_ rfl) rfl rfl ?_
        refine mT_ (dG_ _) (bF_ rfl rfl) rfl rfl fun r2 hr2 => ?_
        refine ew_ ?_
        refine fb_ rfl ?_
        cases r2
        · skip
          replace hr2 := bw_ hr2
          try dsimp only [Con.kind, Con.parts, Con.name, Con.lo, Con.hi, Con.cap, Con.ad] at hr2
          refine kq_ rfl ?_
          refine mK_ ?_
          refine gD_ rfl ?_
          exact mM_ () (by simp [Con.chk, *]) (G := [_]) (@List.perm_append_comm _ [_] _)
        · skip
          replace hr2 := bv_ hr2
          try dsimp only [Con.kind, Con.parts, Con.name, Con.lo, Con.hi, Con.cap, Con.ad] at hr2
          refine kp_ rfl ?_
          refine gr_ ?_
          refine dr_ ?_
          refine du_ (dG_ _) (f_ rfl) rfl rfl ?_
          refine ge_ (dG_ _) 1 qa_ rfl rfl rfl rfl rfl rfl ?_
          refine ew_ ?_
          refine fb_ rfl ?_
          refine ko_ ?_
          exact mL_ x.fieldErr (by simp [Con.chk, *]) (G := [_]) (@List.perm_append_comm _ [_] _)
    · intro l Gj Gx hY
      exact oR_ (E := [gL_]) (good := fun _ => True) (fun _ _ _ _ => trivial) (fun s x hx _ => hY s ⟨x, hx⟩ trivial) _ hok trivial ()
    · intro s hs D l r
      rw [Con.fold_chk _ _ (Nat.le_refl _)] at hs
      refine fb_ rfl ?_
      refine gr_ ?_
      refine dr_ ?_
      refine ge_ ex_ 1 qa_ rfl rfl rfl rfl rfl rfl ?_
      refine ew_ ?_
      refine fb_ rfl ?_
      refine ko_ ?_
      have hz : (0 : Int) = (Con.mk k nm lo hi ad cap ps).check := by unfold Con.check; rw [if_pos (by assumption)]; split at hs; (rename_i h; exact h.symm); cases hs
      exact qc_ (G := [_, _, _]) () (fun a v h1 h2 => by rw [← hz]; exact hP_ 1 Tryz.results69 Tryz.isAgg31 rfl rfl a v h1 h2) (ek_ (i := 3) rfl) ⟨_, .refl _⟩ rfl
    · intro t hs D l r
      rw [Con.fold_chk _ _ (Nat.le_refl _)] at hs
      have hz : t = (Con.mk k nm lo hi ad cap ps).check := by unfold Con.check; rw [if_pos (by assumption)]; split at hs; cases hs; injection hs with hs; exact hs.symm
      exact qc_ (G := [_, _, _]) () (fun a v h1 h2 => by rw [← hz]; exact hP_ 1 Tryz.results69 Tryz.isAgg31 rfl rfl a v h1 h2) (ek_ (i := 3) rfl) ⟨_, .refl _⟩ rfl
end Go.Proofs.YtaffcjgphlhppaaGreatDoor
namespace Go.Proofs.YtaffcjgphlhppaaGreatDoor
open Go Go.Sx Go.Proofs
attribute [local irreducible] Code.wp wpList wpAnyH
open Go.Vs
theorem jd_ (c : Con) : Fn0 Tryz.prog 121 #[c.val] (.bool c.empty) := by
 obtain ⟨k, nm, lo, hi, ad, cap, ps⟩ := c
 refine S_ Tryz.func121 rfl rfl Tryz.ntmps121 rfl fun v0 => ?_
 refine g_ (c_ (aM_ rfl rfl fun b1 => ?_))
 refine a_ (e_ rfl) rfl (d_ (b_ rfl (g_ (c_ (a_ (h_ aB_ rfl rfl rfl q_) rfl (a_ (n_ 0 B_ rfl rfl rfl) rfl (E_ (aG_ rfl rfl) rfl fun r1 hr1 => ?_)))))))
 refine a_ (f_ rfl) rfl ?_
 refine aV_ 4 ((k == 0) && (nm == [])) (fun r => [(0, .agg #[.int .i64 k, str nm, .int .i64 lo, .int .i64 hi, .slice ad ps.length cap]), (1, zp_ b1 0), (2, .bool false), (10, .bool r)]) ?_ fun r2 hr2 => ?_
 ·
  cases r1
  ·
   have qr2 := hr1
   replace hr1 := ne_of_beq_false hr1
   try dsimp only [Con.kind, Con.parts, Con.name, Con.lo, Con.hi, Con.cap, Con.ad] at hr1
   refine k_ rfl rfl rfl rfl (k_ rfl rfl rfl rfl (k_ rfl rfl rfl rfl (a_ (t_ rfl rfl) rfl (d_ (p_ rfl ?_)))))
   exact met ⟨rfl, rfl, rfl, (s_ rfl (jaf qr2)), trivial⟩
  ·
   have qr2 := hr1
   replace hr1 := eq_of_beq hr1
   try dsimp only [Con.kind, Con.parts, Con.name, Con.lo, Con.hi, Con.cap, Con.ad] at hr1
   refine i_ rfl rfl (a_ (h_ aB_ rfl rfl rfl y_) rfl (i_ rfl rfl (a_ (n_ 0 H_ rfl rfl rfl) rfl (i_ rfl rfl (E_ (bo_ rfl rfl) rfl fun r3 hr3 => ?_)))))
   refine a_ (v_ rfl rfl) rfl (d_ (p_ rfl ?_))
   exact met ⟨rfl, rfl, rfl, (s_ rfl (jat qr2 hr3)), trivial⟩
 ·
  refine a_ (f_ rfl) rfl ?_
  refine aV_ 4 ((((k == 0) && (nm == []))) && (lo == 0)) (fun r => [(0, .agg #[.int .i64 k, str nm, .int .i64 lo, .int .i64 hi, .slice ad ps.length cap]), (1, zp_ b1 0), (2, .bool false), (15, .bool r)]) ?_ fun r4 hr4 => ?_
  ·
   cases r2
   ·
    have qr4 := hr2
    simp at hr2
    try dsimp only [Con.kind, Con.parts, Con.name, Con.lo, Con.hi, Con.cap, Con.ad] at hr2
    refine k_ rfl rfl rfl rfl (k_ rfl rfl rfl rfl (k_ rfl rfl rfl rfl (a_ (t_ rfl rfl) rfl (d_ (p_ rfl ?_)))))
    exact met ⟨rfl, rfl, rfl, (s_ rfl (jaf qr4)), trivial⟩
   ·
    have qr4 := hr2
    simp at hr2
    try dsimp only [Con.kind, Con.parts, Con.name, Con.lo, Con.hi, Con.cap, Con.ad] at hr2
    refine i_ rfl rfl (a_ (h_ aB_ rfl rfl rfl q_) rfl (i_ rfl rfl (a_ (n_ 0 B_ rfl rfl rfl) rfl (i_ rfl rfl (E_ (aG_ rfl rfl) rfl fun r5 hr5 => ?_)))))
    refine a_ (v_ rfl rfl) rfl (d_ (p_ rfl ?_))
    exact met ⟨rfl, rfl, rfl, (s_ rfl (jat qr4 hr5)), trivial⟩
  ·
   refine a_ (f_ rfl) rfl ?_
   refine aV_ 4 ((((((k == 0) && (nm == []))) && (lo == 0))) && (hi == 0)) (fun r => [(0, .agg #[.int .i64 k, str nm, .int .i64 lo, .int .i64 hi, .slice ad ps.length cap]), (1, zp_ b1 0), (2, .bool false), (20, .bool r)]) ?_ fun r6 hr6 => ?_
   ·
    cases r4
    ·
     have qr6 := hr4
     simp at hr4
     try dsimp only [Con.kind, Con.parts, Con.name, Con.lo, Con.hi, Con.cap, Con.ad] at hr4
     refine k_ rfl rfl rfl rfl (k_ rfl rfl rfl rfl (k_ rfl rfl rfl rfl (a_ (t_ rfl rfl) rfl (d_ (p_ rfl ?_)))))
     exact met ⟨rfl, rfl, rfl, (s_ rfl (jaf qr6)), trivial⟩
    ·
     have qr6 := hr4
     simp at hr4
     try dsimp only [Con.kind, Con.parts, Con.name, Con.lo, Con.hi, Con.cap, Con.ad] at hr4
     refine i_ rfl rfl (a_ (h_ aB_ rfl rfl rfl q_) rfl (i_ rfl rfl (a_ (n_ 0 B_ rfl rfl rfl) rfl (i_ rfl rfl (E_ (aG_ rfl rfl) rfl fun r7 hr7 => ?_)))))
     refine a_ (v_ rfl rfl) rfl (d_ (p_ rfl ?_))
     exact met ⟨rfl, rfl, rfl, (s_ rfl (jat qr6 hr7)), trivial⟩
   ·
    refine a_ (f_ rfl) rfl ?_
    refine aV_ 5 ((((((((k == 0) && (nm == []))) && (lo == 0))) && (hi == 0))) && ((ps.length : Int) == 0)) (fun r => [(0, .agg #[.int .i64 k, str nm, .int .i64 lo, .int .i64 hi, .slice ad ps.length cap]), (2, .bool false), (26, .bool r)]) ?_ fun r8 hr8 => ?_
    ·
     cases r6
     ·
      have qr8 := hr6
      simp at hr6
      try dsimp only [Con.kind, Con.parts, Con.name, Con.lo, Con.hi, Con.cap, Con.ad] at hr6
      refine k_ rfl rfl rfl rfl (k_ rfl rfl rfl rfl (k_ rfl rfl rfl rfl (k_ rfl rfl rfl rfl (a_ (t_ rfl rfl) rfl (d_ (p_ rfl ?_))))))
      exact met ⟨rfl, rfl, (s_ rfl (jaf qr8)), trivial⟩
     ·
      have qr8 := hr6
      simp at hr6
      try dsimp only [Con.kind, Con.parts, Con.name, Con.lo, Con.hi, Con.cap, Con.ad] at hr6
      refine i_ rfl rfl (a_ (h_ aB_ rfl rfl rfl jA_) rfl (i_ rfl rfl (a_ (n_ 0 lI_ rfl rfl rfl) rfl (i_ rfl rfl (a_ (aA_ cB_ rfl) rfl (i_ rfl rfl (E_ (aG_ rfl rfl) rfl fun r9 hr9 => ?_)))))))
      refine a_ (v_ rfl rfl) rfl (d_ (p_ rfl ?_))
      exact met ⟨rfl, rfl, (s_ rfl (jat qr8 hr9)), trivial⟩
    ·
     refine a_ (e_ rfl) rfl (d_ (b_ rfl (u_ ?_)))
     exact Y_ Tryz.results121 () (s_ rfl hr8.symm) (.refl _) (fun _ _ _ => trivial)
theorem jU_ {g : FuncId} {pred : Con → Bool} (c : Con) (hok : c.ok) (hT : ∀ p ∈ c.parts, Tri Tryz.prog g #[p.val] [] [p.memF] (fun _ : Unit => .bool (pred p)) (fun _ => []) (fun _ => [])) :
    Tri Tryz.prog 181 #[.slice c.ad c.parts.length c.cap, .func (.func g) #[] #[]] [] [c.memF] (fun r : {r : Int // decide (0 ≤ r) = c.parts.any pred} => .int .i64 r.1) (fun _ => []) (fun _ => []) := by
  obtain ⟨k, nm, lo, hi, ad, cap, ps⟩ := c
  have hlen := Con.ok_len hok
  simp only [Con.parts, Con.cap] at hlen
  refine S_ Tryz.func181 rfl rfl Tryz.ntmps181 rfl fun v0 => ?_
  refine g_ (c_ (a_ (e_ rfl) rfl (d_ (b_ rfl (g_ (g_ (c_ (a_ (f_ rfl) rfl (a_ (aA_ cB_ rfl) rfl ?_)))))))))
  refine a_ (f_ rfl) rfl (d_ (b_ rfl (ae_ (de_ [(0, .slice ad ps.length cap), (1, .func (.func g) #[] #[]), (7, .int .i64 (ps.length : Int)), (8, .int .i64 ((0 : Nat) : Int))] ⟨rfl, rfl, rfl, rfl, trivial⟩ ?_))))
  refine dq_ (ι := {q : Nat // q ≤ ps.length ∧ (ps.take q).any pred = false}) (fun i => [(0, .slice ad ps.length cap), (1, .func (.func g) #[] #[]), (7, .int .i64 (ps.length : Int)), (8, .int .i64 (i.1 : Int))]) (fun _ => _) (fun _ => _) (fun i => ps.length - i.1) ⟨0, by simp⟩ ?_
  rintro ⟨i, hk⟩
  refine de_ [(0, .slice ad ps.length cap), (1, .func (.func g) #[] #[]), (7, .int .i64 (ps.length : Int)), (8, .int .i64 (i : Int))] ⟨rfl, rfl, rfl, rfl, trivial⟩ ?_
  refine g_ (c_ (E_ (au_ rfl rfl) rfl fun r1 hr1 => ?_))
  refine d_ (b_ rfl (g_ ?_))
  cases r1
  · skip
    replace hr1 := of_decide_eq_false hr1
    try dsimp only [Con.kind, Con.parts, Con.name, Con.lo, Con.hi, Con.cap, Con.ad] at hr1
    refine A_ rfl (bj_ rfl (b_ rfl (g_ (c_ (a_ (e_ rfl) rfl (d_ (b_ rfl (u_ ?_))))))))
    exact Y_ Tryz.results181 ⟨-1, by have := hk.2; rw [List.take_of_length_le (by omega)] at this; show _ = ps.any pred; rw [this]; rfl⟩ rfl (.refl _) (fun _ _ _ => trivial)
  · skip
    replace hr1 := of_decide_eq_true hr1
    try dsimp only [Con.kind, Con.parts, Con.name, Con.lo, Con.hi, Con.cap, Con.ad] at hr1
    have hlt : i < ps.length := by omega
    obtain ⟨p, hp⟩ : ∃ p, ps[i]? = some p := ⟨_, List.getElem?_eq_getElem hlt⟩
    have hpm : p ∈ ps := List.mem_of_getElem? hp
    refine w_ rfl (J_ (b_ rfl (g_ (ae_ (g_ (c_ (a_ (f_ rfl) rfl (a_ (e_ rfl) rfl (d_ ?_)))))))))
    refine b_ rfl (g_ (c_ (a_ (f_ rfl) rfl (a_ (f_ rfl) rfl (a_ (f_ rfl) rfl (a_ (an_ cB_ X_ rfl rfl (fun v _ h => ba_ (n := 5) Con.cells_len (by decide) (((Con.mem_iff (.mk k nm lo hi ad cap ps) v).1 h.1).1) hp) (by omega) (by first | omega | (simp only [Con.parts]; omega) | (simp [Con.parts]; done))) rfl (a_ (aX_ (ad := ad) (us := p.cells) aP_ X_ rfl (fun v _ h => ((Con.mem_iff (.mk k nm lo hi ad cap ps) v).1 h.1).1) (Con.cells_len _) (ar_ Con.cells_len hp)) rfl (bW_ (hT p hpm) rfl rfl (.refl _) (fun v _ h => by exact ⟨Con.mem_part (c := (.mk k nm lo hi ad cap ps)) h.1 hpm, trivial⟩) rfl fun r2 hr2 => ?_))))))))
    refine d_ (b_ rfl ?_)
    cases r2
    · skip
      try dsimp only [Con.kind, Con.parts, Con.name, Con.lo, Con.hi, Con.cap, Con.ad] at hr2
      refine A_ rfl (J_ (b_ rfl (c_ (a_ (ag_ rfl rfl rfl (aS_ (by omega) (by omega))) rfl (a_ (f_ rfl) rfl (d_ (p_ rfl ?_)))))))
      exact aU_ ⟨i + 1, hlt, by rw [Con.take_snoc hp, List.any_append, hk.2]; simp [*]⟩ (by simp; omega) ⟨rfl, rfl, rfl, rfl, trivial⟩ (.refl _) (fun _ _ h => h)
    · skip
      try dsimp only [Con.kind, Con.parts, Con.name, Con.lo, Con.hi, Con.cap, Con.ad] at hr2
      refine w_ rfl (g_ (c_ (a_ (f_ rfl) rfl (a_ (e_ rfl) rfl (d_ (b_ rfl (u_ ?_)))))))
      exact Y_ Tryz.results181 ⟨(i : Int), by show _ = ps.any pred; rw [show ps.any pred = true from List.any_eq_true.2 ⟨p, hpm, by assumption⟩]; exact decide_eq_true (by omega)⟩ rfl (.refl _) (fun _ _ _ => trivial)
theorem hr_ {g : FuncId} {pred : Con → Bool} (c : Con) (hok : c.ok) (hT : ∀ p ∈ c.parts, Tri Tryz.prog g #[p.val] [] [p.memF] (fun _ : Unit => .bool (pred p)) (fun _ => []) (fun _ => [])) :
    Tri Tryz.prog 127 #[.slice c.ad c.parts.length c.cap, .func (.func g) #[] #[]] [] [c.memF] (fun _ : Unit => .bool (c.parts.any pred)) (fun _ => []) (fun _ => []) := by
  obtain ⟨k, nm, lo, hi, ad, cap, ps⟩ := c
  refine S_ Tryz.func127 rfl rfl Tryz.ntmps127 rfl fun v0 => ?_
  refine g_ (c_ (a_ (e_ rfl) rfl (d_ (b_ rfl (g_ (c_ (a_ (f_ rfl) rfl (a_ (f_ rfl) rfl (K_ (jU_ (.mk k nm lo hi ad cap ps) hok hT) rfl (.refl _) (fun v _ h => h) rfl fun x => ?_)))))))))
  refine E_ (cw_ rfl rfl) rfl fun r1 hr1 => ?_
  refine a_ (e_ rfl) rfl (d_ (b_ rfl (u_ ?_)))
  exact Y_ Tryz.results127 () (s_ rfl (hr1.symm.trans x.2)) (.refl _) (fun _ _ _ => trivial)
theorem cg_ : ∀ (m : Nat) (c : Con), c.sz ≤ m → c.ok → Tri Tryz.prog 70 #[c.val] [] [c.memF] (fun _ : Unit => .bool c.bare) (fun _ => []) (fun _ => []) := by
  intro m
  induction m with
  | zero => intro c h; have := c.sz_pos; omega
  | succ m ih =>
    intro c hm hok
    obtain ⟨k, nm, lo, hi, ad, cap, ps⟩ := c
    refine S_ Tryz.func70 rfl rfl Tryz.ntmps70 rfl fun v0 => ?_
    refine g_ (c_ (aM_ rfl rfl fun b1 => ?_))
    refine a_ (e_ rfl) rfl (d_ (b_ rfl (g_ (g_ (c_ (a_ (h_ aB_ rfl rfl rfl q_) rfl (a_ (n_ 0 B_ rfl rfl rfl) rfl (d_ (b_ rfl ?_)))))))))
    refine ae_ (g_ (c_ (E_ (aG_ rfl rfl) rfl fun r1 hr1 => ?_)))
    refine a_ (e_ rfl) rfl (d_ (b_ rfl ?_))
    cases r1
    · skip
      replace hr1 := ne_of_beq_false hr1
      try dsimp only [Con.kind, Con.parts, Con.name, Con.lo, Con.hi, Con.cap, Con.ad] at hr1
      refine A_ rfl (g_ (c_ (E_ (aG_ rfl rfl) rfl fun r2 hr2 => ?_)))
      refine a_ (e_ rfl) rfl (d_ (b_ rfl ?_))
      cases r2
      · skip
        replace hr2 := ne_of_beq_false hr2
        try dsimp only [Con.kind, Con.parts, Con.name, Con.lo, Con.hi, Con.cap, Con.ad] at hr2
        refine A_ rfl (J_ (b_ rfl (g_ (c_ (a_ (e_ rfl) rfl (d_ (b_ rfl (u_ ?_))))))))
        exact Y_ Tryz.results70 () (s_ rfl (by rw [Con.bare_eq]; simp only [Con.kind, Con.parts] at *; simp [*])) (.refl _) (fun _ _ _ => trivial)
      · skip
        replace hr2 := eq_of_beq hr2
        try dsimp only [Con.kind, Con.parts, Con.name, Con.lo, Con.hi, Con.cap, Con.ad] at hr2
        refine w_ rfl (g_ (c_ (a_ (h_ aB_ rfl rfl rfl jA_) rfl (a_ (n_ 0 lI_ rfl rfl rfl) rfl (ah_ (hr_ (pred := Con.bare) (.mk k nm lo hi ad cap ps) hok (fun p hp => ih p (by have := Con.sz_part (c := (.mk k nm lo hi ad cap ps)) hp; omega) (Con.ok_part (c := (.mk k nm lo hi ad cap ps)) hok hp))) rfl (.refl _) (fun v _ h => h) rfl fun r3 hr3 => ?_)))))
        refine a_ (e_ rfl) rfl (d_ (b_ rfl (u_ ?_)))
        exact Y_ Tryz.results70 () (s_ rfl (by rw [Con.bare_eq]; simp only [Con.kind, Con.parts] at *; simp [*])) (.refl _) (fun _ _ _ => trivial)
    · skip
      replace hr1 := eq_of_beq hr1
      try dsimp only [Con.kind, Con.parts, Con.name, Con.lo, Con.hi, Con.cap, Con.ad] at hr1
      refine w_ rfl (g_ (c_ (a_ (e_ rfl) rfl (d_ (b_ rfl (u_ ?_))))))
      exact Y_ Tryz.results70 () (s_ rfl (by rw [Con.bare_eq]; simp only [Con.kind, Con.parts] at *; simp [*])) (.refl _) (fun _ _ _ => trivial)
theorem lH_ (x : Ax) : Tri Tryz.prog 67 #[x.val] [] [gL_] (fun _ : Unit => .bool x.shaped) (fun _ => []) (fun _ => []) := by
 obtain ⟨k, op, ⟨kl, nl, ll, hl, al, cl, pl⟩, ⟨kr, nr, lr, hr, ar, cr, pr⟩, ad, cap, rs, ro, a, b⟩ := x
 refine S_ Tryz.func67 rfl rfl Tryz.ntmps67 rfl fun v0 => ?_
 refine g_ (c_ (aM_ rfl rfl fun b1 => ?_))
 refine a_ (e_ rfl) rfl (d_ (b_ rfl (g_ (g_ (c_ (a_ (h_ W_ rfl rfl rfl q_) rfl (a_ (n_ 0 B_ rfl rfl rfl) rfl (E_ (au_ rfl rfl) rfl fun r1 hr1 => ?_))))))))
 refine a_ (f_ rfl) rfl ?_
 refine aV_ 4 ((decide (k < 1)) || (decide (9 < k))) (fun r => [(0, .agg #[.int .i64 k, .bool op, .int .i64 kl, str nl, .int .i64 ll, .int .i64 hl, .slice al pl.length cl, .int .i64 kr, str nr, .int .i64 lr, .int .i64 hr, .slice ar pr.length cr, .slice ad rs.length cap, str ro, str a, str b]), (1, zp_ b1 0), (2, .bool false), (11, .bool r)]) ?_ fun r2 hr2 => ?_
 ·
  cases r1
  ·
   have qr2 := hr1
   replace hr1 := of_decide_eq_false hr1
   try dsimp only [Con.kind, Con.parts, Con.name, Con.lo, Con.hi, Con.cap, Con.ad] at hr1
   refine i_ rfl rfl (a_ (h_ W_ rfl rfl rfl q_) rfl (i_ rfl rfl (a_ (n_ 0 B_ rfl rfl rfl) rfl (i_ rfl rfl (E_ (bp_ rfl rfl) rfl fun r3 hr3 => ?_)))))
   refine a_ (t_ rfl rfl) rfl (d_ (p_ rfl ?_))
   exact met ⟨rfl, rfl, rfl, (s_ rfl (jof qr2 hr3)), trivial⟩
  ·
   have qr2 := hr1
   replace hr1 := of_decide_eq_true hr1
   try dsimp only [Con.kind, Con.parts, Con.name, Con.lo, Con.hi, Con.cap, Con.ad] at hr1
   refine k_ rfl rfl rfl rfl (k_ rfl rfl rfl rfl (k_ rfl rfl rfl rfl (a_ (v_ rfl rfl) rfl (d_ (p_ rfl ?_)))))
   exact met ⟨rfl, rfl, rfl, (s_ rfl (jot qr2)), trivial⟩
 ·
  refine d_ (b_ rfl ?_)
  cases r2
  ·
   simp at hr2
   try dsimp only [Con.kind, Con.parts, Con.name, Con.lo, Con.hi, Con.cap, Con.ad] at hr2
   obtain ⟨u, hx⟩ : ∃ u, oT_[k.toNat]? = some u := ⟨_, List.getElem?_eq_getElem (show k.toNat < 10 by omega)⟩
   have hus : us k = u := by simp [us, hx]
   obtain ⟨ul, ur, uo, ua, ub, um, un⟩ := u
   refine A_ rfl (J_ (b_ rfl (g_ (c_ (a_ (h_ W_ rfl rfl rfl q_) rfl (a_ (n_ 0 B_ rfl rfl rfl) rfl (a_ (ep_ Tryz.runUnderlying136 fy_ rfl rfl (by show (0 : Int) ≤ k; omega) (by show k < (10 : Int); omega)) rfl (a_ (aX_ (ad := some ⟨0, 0, none⟩) (us := Use.cells ⟨ul, ur, uo, ua, ub, um, un⟩) Tryz.isAgg135 fy_ rfl (fun v _ h => h.1.2.1) (Use.cells_len _) (ar_ Use.cells_len hx)) rfl (Z_ Tryz.zeroValue135 rfl fun b2 => ?_)))))))))
   refine Q_ 0 fy_ rfl rfl rfl rfl rfl rfl (d_ (b_ rfl (g_ (c_ (a_ (h_ bB_ rfl rfl rfl aI_) rfl (a_ (n_ 0 bg_ rfl rfl rfl) rfl (a_ (f_ rfl) rfl ?_)))))))
   refine aV_ 4 ((ul) || (Con.empty (.mk kl nl ll hl al cl pl))) (fun r => [(0, .agg #[.int .i64 k, .bool op, .int .i64 kl, str nl, .int .i64 ll, .int .i64 hl, .slice al pl.length cl, .int .i64 kr, str nr, .int .i64 lr, .int .i64 hr, .slice ar pr.length cr, .slice ad rs.length cap, str ro, str a, str b]), (1, zp_ b1 0), (2, .bool false), (11, .bool false), (12, zp_ b1 0), (13, .int .i64 k), (14, .pointer (some (rad (some ⟨0, 0, none⟩) (k.toNat * 7)))), (15, .agg #[.bool ul, .bool ur, .bool uo, .bool ua, .bool ub, .int .i64 um, .int .i64 un]), (3, zp_ b2 0), (22, .bool r)]) ?_ fun r4 hr4 => ?_
   ·
    cases ul
    ·
     try dsimp only [Con.kind, Con.parts, Con.name, Con.lo, Con.hi, Con.cap, Con.ad] at hul
     refine i_ rfl rfl (a_ (h_ W_ rfl rfl rfl X_) rfl (i_ rfl rfl (a_ (M_ 1 aP_ X_ rfl rfl rfl) rfl (i_ rfl rfl (ah_ (jd_ (.mk kl nl ll hl al cl pl)) rfl (.refl _) (fun _ _ _ => trivial) rfl fun r5 hr5 => ?_)))))
     refine a_ (t_ rfl rfl) rfl (d_ (p_ rfl ?_))
     exact met ⟨rfl, rfl, rfl, rfl, rfl, rfl, rfl, rfl, rfl, (s_ rfl (jof rfl hr5)), trivial⟩
    ·
     try dsimp only [Con.kind, Con.parts, Con.name, Con.lo, Con.hi, Con.cap, Con.ad] at hul
     refine k_ rfl rfl rfl rfl (k_ rfl rfl rfl rfl (k_ rfl rfl rfl rfl (a_ (v_ rfl rfl) rfl (d_ (p_ rfl ?_)))))
     exact met ⟨rfl, rfl, rfl, rfl, rfl, rfl, rfl, rfl, rfl, (s_ rfl (jot rfl)), trivial⟩
   ·
    refine a_ (f_ rfl) rfl ?_
    refine aV_ 8 ((((ul) || (Con.empty (.mk kl nl ll hl al cl pl)))) && (((ur) || (Con.empty (.mk kr nr lr hr ar cr pr))))) (fun r => [(0, .agg #[.int .i64 k, .bool op, .int .i64 kl, str nl, .int .i64 ll, .int .i64 hl, .slice al pl.length cl, .int .i64 kr, str nr, .int .i64 lr, .int .i64 hr, .slice ar pr.length cr, .slice ad rs.length cap, str ro, str a, str b]), (1, zp_ b1 0), (2, .bool false), (11, .bool false), (12, zp_ b1 0), (13, .int .i64 k), (14, .pointer (some (rad (some ⟨0, 0, none⟩) (k.toNat * 7)))), (15, .agg #[.bool ul, .bool ur, .bool uo, .bool ua, .bool ub, .int .i64 um, .int .i64 un]), (3, zp_ b2 0), (31, .bool r)]) ?_ fun r6 hr6 => ?_
    ·
     cases r4
     ·
      have qr6 := hr4
      simp at hr4
      try dsimp only [Con.kind, Con.parts, Con.name, Con.lo, Con.hi, Con.cap, Con.ad] at hr4
      refine k_ rfl rfl rfl rfl (k_ rfl rfl rfl rfl (k_ rfl rfl rfl rfl (k_ rfl rfl rfl rfl (k_ rfl rfl rfl rfl (k_ rfl rfl rfl rfl (k_ rfl rfl rfl rfl (a_ (t_ rfl rfl) rfl (d_ (p_ rfl ?_)))))))))
      exact met ⟨rfl, rfl, rfl, rfl, rfl, rfl, rfl, rfl, rfl, (s_ rfl (jaf qr6)), trivial⟩
     ·
      have qr6 := hr4
      simp at hr4
      try dsimp only [Con.kind, Con.parts, Con.name, Con.lo, Con.hi, Con.cap, Con.ad] at hr4
      refine i_ rfl rfl (a_ (h_ bB_ rfl rfl rfl aI_) rfl (i_ rfl rfl (a_ (n_ 0 bg_ rfl rfl rfl) rfl (i_ rfl rfl (a_ (f_ rfl) rfl ?_)))))
      refine aV_ 4 ((ur) || (Con.empty (.mk kr nr lr hr ar cr pr))) (fun r => [(0, .agg #[.int .i64 k, .bool op, .int .i64 kl, str nl, .int .i64 ll, .int .i64 hl, .slice al pl.length cl, .int .i64 kr, str nr, .int .i64 lr, .int .i64 hr, .slice ar pr.length cr, .slice ad rs.length cap, str ro, str a, str b]), (1, zp_ b1 0), (2, .bool false), (11, .bool false), (12, zp_ b1 0), (13, .int .i64 k), (14, .pointer (some (rad (some ⟨0, 0, none⟩) (k.toNat * 7)))), (15, .agg #[.bool ul, .bool ur, .bool uo, .bool ua, .bool ub, .int .i64 um, .int .i64 un]), (3, zp_ b2 0), (23, .bool true), (30, .bool r)]) ?_ fun r7 hr7 => ?_
      ·
       cases ur
       ·
        try dsimp only [Con.kind, Con.parts, Con.name, Con.lo, Con.hi, Con.cap, Con.ad] at hur
        refine i_ rfl rfl (a_ (h_ W_ rfl rfl rfl X_) rfl (i_ rfl rfl (a_ (M_ 1 aP_ X_ rfl rfl rfl) rfl (i_ rfl rfl (ah_ (jd_ (.mk kr nr lr hr ar cr pr)) rfl (.refl _) (fun _ _ _ => trivial) rfl fun r8 hr8 => ?_)))))
        refine i_ rfl rfl (a_ (t_ rfl rfl) rfl (d_ (p_ rfl ?_)))
        exact met ⟨rfl, rfl, rfl, rfl, rfl, rfl, rfl, rfl, rfl, rfl, (s_ rfl (jof rfl hr8)), trivial⟩
       ·
        try dsimp only [Con.kind, Con.parts, Con.name, Con.lo, Con.hi, Con.cap, Con.ad] at hur
        refine k_ rfl rfl rfl rfl (k_ rfl rfl rfl rfl (k_ rfl rfl rfl rfl (i_ rfl rfl (a_ (v_ rfl rfl) rfl (d_ (p_ rfl ?_))))))
        exact met ⟨rfl, rfl, rfl, rfl, rfl, rfl, rfl, rfl, rfl, rfl, (s_ rfl (jot rfl)), trivial⟩
      ·
       refine a_ (v_ rfl rfl) rfl (d_ (p_ rfl ?_))
       exact met ⟨rfl, rfl, rfl, rfl, rfl, rfl, rfl, rfl, rfl, (s_ rfl (jat qr6 hr7)), trivial⟩
    ·
     refine a_ (f_ rfl) rfl ?_
     refine aV_ 8 ((((((ul) || (Con.empty (.mk kl nl ll hl al cl pl)))) && (((ur) || (Con.empty (.mk kr nr lr hr ar cr pr)))))) && (((uo) || (ro == [])))) (fun r => [(0, .agg #[.int .i64 k, .bool op, .int .i64 kl, str nl, .int .i64 ll, .int .i64 hl, .slice al pl.length cl, .int .i64 kr, str nr, .int .i64 lr, .int .i64 hr, .slice ar pr.length cr, .slice ad rs.length cap, str ro, str a, str b]), (1, zp_ b1 0), (2, .bool false), (11, .bool false), (12, zp_ b1 0), (13, .int .i64 k), (14, .pointer (some (rad (some ⟨0, 0, none⟩) (k.toNat * 7)))), (15, .agg #[.bool ul, .bool ur, .bool uo, .bool ua, .bool ub, .int .i64 um, .int .i64 un]), (3, zp_ b2 0), (40, .bool r)]) ?_ fun r9 hr9 => ?_
     ·
      cases r6
      ·
       have qr9 := hr6
       simp at hr6
       try dsimp only [Con.kind, Con.parts, Con.name, Con.lo, Con.hi, Con.cap, Con.ad] at hr6
       refine k_ rfl rfl rfl rfl (k_ rfl rfl rfl rfl (k_ rfl rfl rfl rfl (k_ rfl rfl rfl rfl (k_ rfl rfl rfl rfl (k_ rfl rfl rfl rfl (k_ rfl rfl rfl rfl (a_ (t_ rfl rfl) rfl (d_ (p_ rfl ?_)))))))))
       exact met ⟨rfl, rfl, rfl, rfl, rfl, rfl, rfl, rfl, rfl, (s_ rfl (jaf qr9)), trivial⟩
      ·
       have qr9 := hr6
       simp at hr6
       try dsimp only [Con.kind, Con.parts, Con.name, Con.lo, Con.hi, Con.cap, Con.ad] at hr6
       refine i_ rfl rfl (a_ (h_ bB_ rfl rfl rfl aI_) rfl (i_ rfl rfl (a_ (n_ 0 bg_ rfl rfl rfl) rfl (i_ rfl rfl (a_ (f_ rfl) rfl ?_)))))
       refine aV_ 4 ((uo) || (ro == [])) (fun r => [(0, .agg #[.int .i64 k, .bool op, .int .i64 kl, str nl, .int .i64 ll, .int .i64 hl, .slice al pl.length cl, .int .i64 kr, str nr, .int .i64 lr, .int .i64 hr, .slice ar pr.length cr, .slice ad rs.length cap, str ro, str a, str b]), (1, zp_ b1 0), (2, .bool false), (11, .bool false), (12, zp_ b1 0), (13, .int .i64 k), (14, .pointer (some (rad (some ⟨0, 0, none⟩) (k.toNat * 7)))), (15, .agg #[.bool ul, .bool ur, .bool uo, .bool ua, .bool ub, .int .i64 um, .int .i64 un]), (3, zp_ b2 0), (32, .bool true), (39, .bool r)]) ?_ fun r10 hr10 => ?_
       ·
        cases uo
        ·
         try dsimp only [Con.kind, Con.parts, Con.name, Con.lo, Con.hi, Con.cap, Con.ad] at huo
         refine i_ rfl rfl (a_ (h_ W_ rfl rfl rfl y_) rfl (i_ rfl rfl (a_ (n_ 1 H_ rfl rfl rfl) rfl (i_ rfl rfl (E_ (bo_ rfl rfl) rfl fun r11 hr11 => ?_)))))
         refine i_ rfl rfl (a_ (t_ rfl rfl) rfl (d_ (p_ rfl ?_)))
         exact met ⟨rfl, rfl, rfl, rfl, rfl, rfl, rfl, rfl, rfl, rfl, (s_ rfl (jof rfl hr11)), trivial⟩
        ·
         try dsimp only [Con.kind, Con.parts, Con.name, Con.lo, Con.hi, Con.cap, Con.ad] at huo
         refine k_ rfl rfl rfl rfl (k_ rfl rfl rfl rfl (k_ rfl rfl rfl rfl (i_ rfl rfl (a_ (v_ rfl rfl) rfl (d_ (p_ rfl ?_))))))
         exact met ⟨rfl, rfl, rfl, rfl, rfl, rfl, rfl, rfl, rfl, rfl, (s_ rfl (jot rfl)), trivial⟩
       ·
        refine a_ (v_ rfl rfl) rfl (d_ (p_ rfl ?_))
        exact met ⟨rfl, rfl, rfl, rfl, rfl, rfl, rfl, rfl, rfl, (s_ rfl (jat qr9 hr10)), trivial⟩
     ·
      refine a_ (f_ rfl) rfl ?_
      refine aV_ 8 ((((((((ul) || (Con.empty (.mk kl nl ll hl al cl pl)))) && (((ur) || (Con.empty (.mk kr nr lr hr ar cr pr)))))) && (((uo) || (ro == []))))) && (((ua) || (a == [])))) (fun r => [(0, .agg #[.int .i64 k, .bool op, .int .i64 kl, str nl, .int .i64 ll, .int .i64 hl, .slice al pl.length cl, .int .i64 kr, str nr, .int .i64 lr, .int .i64 hr, .slice ar pr.length cr, .slice ad rs.length cap, str ro, str a, str b]), (1, zp_ b1 0), (2, .bool false), (11, .bool false), (12, zp_ b1 0), (13, .int .i64 k), (14, .pointer (some (rad (some ⟨0, 0, none⟩) (k.toNat * 7)))), (15, .agg #[.bool ul, .bool ur, .bool uo, .bool ua, .bool ub, .int .i64 um, .int .i64 un]), (3, zp_ b2 0), (49, .bool r)]) ?_ fun r12 hr12 => ?_
      ·
       cases r9
       ·
        have qr12 := hr9
        simp at hr9
        try dsimp only [Con.kind, Con.parts, Con.name, Con.lo, Con.hi, Con.cap, Con.ad] at hr9
        refine k_ rfl rfl rfl rfl (k_ rfl rfl rfl rfl (k_ rfl rfl rfl rfl (k_ rfl rfl rfl rfl (k_ rfl rfl rfl rfl (k_ rfl rfl rfl rfl (k_ rfl rfl rfl rfl (a_ (t_ rfl rfl) rfl (d_ (p_ rfl ?_)))))))))
        exact met ⟨rfl, rfl, rfl, rfl, rfl, rfl, rfl, rfl, rfl, (s_ rfl (jaf qr12)), trivial⟩
       ·
        have qr12 := hr9
        simp at hr9
        try dsimp only [Con.kind, Con.parts, Con.name, Con.lo, Con.hi, Con.cap, Con.ad] at hr9
        refine i_ rfl rfl (a_ (h_ bB_ rfl rfl rfl aI_) rfl (i_ rfl rfl (a_ (n_ 0 bg_ rfl rfl rfl) rfl (i_ rfl rfl (a_ (f_ rfl) rfl ?_)))))
        refine aV_ 4 ((ua) || (a == [])) (fun r => [(0, .agg #[.int .i64 k, .bool op, .int .i64 kl, str nl, .int .i64 ll, .int .i64 hl, .slice al pl.length cl, .int .i64 kr, str nr, .int .i64 lr, .int .i64 hr, .slice ar pr.length cr, .slice ad rs.length cap, str ro, str a, str b]), (1, zp_ b1 0), (2, .bool false), (11, .bool false), (12, zp_ b1 0), (13, .int .i64 k), (14, .pointer (some (rad (some ⟨0, 0, none⟩) (k.toNat * 7)))), (15, .agg #[.bool ul, .bool ur, .bool uo, .bool ua, .bool ub, .int .i64 um, .int .i64 un]), (3, zp_ b2 0), (41, .bool true), (48, .bool r)]) ?_ fun r13 hr13 => ?_
        ·
         cases ua
         ·
          try dsimp only [Con.kind, Con.parts, Con.name, Con.lo, Con.hi, Con.cap, Con.ad] at hua
          refine i_ rfl rfl (a_ (h_ W_ rfl rfl rfl y_) rfl (i_ rfl rfl (a_ (n_ 1 H_ rfl rfl rfl) rfl (i_ rfl rfl (E_ (bo_ rfl rfl) rfl fun r14 hr14 => ?_)))))
          refine i_ rfl rfl (a_ (t_ rfl rfl) rfl (d_ (p_ rfl ?_)))
          exact met ⟨rfl, rfl, rfl, rfl, rfl, rfl, rfl, rfl, rfl, rfl, (s_ rfl (jof rfl hr14)), trivial⟩
         ·
          try dsimp only [Con.kind, Con.parts, Con.name, Con.lo, Con.hi, Con.cap, Con.ad] at hua
          refine k_ rfl rfl rfl rfl (k_ rfl rfl rfl rfl (k_ rfl rfl rfl rfl (i_ rfl rfl (a_ (v_ rfl rfl) rfl (d_ (p_ rfl ?_))))))
          exact met ⟨rfl, rfl, rfl, rfl, rfl, rfl, rfl, rfl, rfl, rfl, (s_ rfl (jot rfl)), trivial⟩
        ·
         refine a_ (v_ rfl rfl) rfl (d_ (p_ rfl ?_))
         exact met ⟨rfl, rfl, rfl, rfl, rfl, rfl, rfl, rfl, rfl, (s_ rfl (jat qr12 hr13)), trivial⟩
      ·
       refine a_ (f_ rfl) rfl ?_
       refine aV_ 8 ((((((((((ul) || (Con.empty (.mk kl nl ll hl al cl pl)))) && (((ur) || (Con.empty (.mk kr nr lr hr ar cr pr)))))) && (((uo) || (ro == []))))) && (((ua) || (a == []))))) && (((ub) || (b == [])))) (fun r => [(0, .agg #[.int .i64 k, .bool op, .int .i64 kl, str nl, .int .i64 ll, .int .i64 hl, .slice al pl.length cl, .int .i64 kr, str nr, .int .i64 lr, .int .i64 hr, .slice ar pr.length cr, .slice ad rs.length cap, str ro, str a, str b]), (1, zp_ b1 0), (2, .bool false), (11, .bool false), (12, zp_ b1 0), (13, .int .i64 k), (14, .pointer (some (rad (some ⟨0, 0, none⟩) (k.toNat * 7)))), (15, .agg #[.bool ul, .bool ur, .bool uo, .bool ua, .bool ub, .int .i64 um, .int .i64 un]), (3, zp_ b2 0), (58, .bool r)]) ?_ fun r15 hr15 => ?_
       ·
        cases r12
        ·
         have qr15 := hr12
         simp at hr12
         try dsimp only [Con.kind, Con.parts, Con.name, Con.lo, Con.hi, Con.cap, Con.ad] at hr12
         refine k_ rfl rfl rfl rfl (k_ rfl rfl rfl rfl (k_ rfl rfl rfl rfl (k_ rfl rfl rfl rfl (k_ rfl rfl rfl rfl (k_ rfl rfl rfl rfl (k_ rfl rfl rfl rfl (a_ (t_ rfl rfl) rfl (d_ (p_ rfl ?_)))))))))
         exact met ⟨rfl, rfl, rfl, rfl, rfl, rfl, rfl, rfl, rfl, (s_ rfl (jaf qr15)), trivial⟩
        ·
         have qr15 := hr12
         simp at hr12
         try dsimp only [Con.kind, Con.parts, Con.name, Con.lo, Con.hi, Con.cap, Con.ad] at hr12
         refine i_ rfl rfl (a_ (h_ bB_ rfl rfl rfl aI_) rfl (i_ rfl rfl (a_ (n_ 0 bg_ rfl rfl rfl) rfl (i_ rfl rfl (a_ (f_ rfl) rfl ?_)))))
         refine aV_ 4 ((ub) || (b == [])) (fun r => [(0, .agg #[.int .i64 k, .bool op, .int .i64 kl, str nl, .int .i64 ll, .int .i64 hl, .slice al pl.length cl, .int .i64 kr, str nr, .int .i64 lr, .int .i64 hr, .slice ar pr.length cr, .slice ad rs.length cap, str ro, str a, str b]), (1, zp_ b1 0), (2, .bool false), (11, .bool false), (12, zp_ b1 0), (13, .int .i64 k), (14, .pointer (some (rad (some ⟨0, 0, none⟩) (k.toNat * 7)))), (15, .agg #[.bool ul, .bool ur, .bool uo, .bool ua, .bool ub, .int .i64 um, .int .i64 un]), (3, zp_ b2 0), (50, .bool true), (57, .bool r)]) ?_ fun r16 hr16 => ?_
         ·
          cases ub
          ·
           try dsimp only [Con.kind, Con.parts, Con.name, Con.lo, Con.hi, Con.cap, Con.ad] at hub
           refine i_ rfl rfl (a_ (h_ W_ rfl rfl rfl y_) rfl (i_ rfl rfl (a_ (n_ 1 H_ rfl rfl rfl) rfl (i_ rfl rfl (E_ (bo_ rfl rfl) rfl fun r17 hr17 => ?_)))))
           refine i_ rfl rfl (a_ (t_ rfl rfl) rfl (d_ (p_ rfl ?_)))
           exact met ⟨rfl, rfl, rfl, rfl, rfl, rfl, rfl, rfl, rfl, rfl, (s_ rfl (jof rfl hr17)), trivial⟩
          ·
           try dsimp only [Con.kind, Con.parts, Con.name, Con.lo, Con.hi, Con.cap, Con.ad] at hub
           refine k_ rfl rfl rfl rfl (k_ rfl rfl rfl rfl (k_ rfl rfl rfl rfl (i_ rfl rfl (a_ (v_ rfl rfl) rfl (d_ (p_ rfl ?_))))))
           exact met ⟨rfl, rfl, rfl, rfl, rfl, rfl, rfl, rfl, rfl, rfl, (s_ rfl (jot rfl)), trivial⟩
         ·
          refine a_ (v_ rfl rfl) rfl (d_ (p_ rfl ?_))
          exact met ⟨rfl, rfl, rfl, rfl, rfl, rfl, rfl, rfl, rfl, (s_ rfl (jat qr15 hr16)), trivial⟩
       ·
        refine a_ (f_ rfl) rfl ?_
        refine aV_ 7 ((((((((((((ul) || (Con.empty (.mk kl nl ll hl al cl pl)))) && (((ur) || (Con.empty (.mk kr nr lr hr ar cr pr)))))) && (((uo) || (ro == []))))) && (((ua) || (a == []))))) && (((ub) || (b == []))))) && (decide (um ≤ (rs.length : Int)))) (fun r => [(0, .agg #[.int .i64 k, .bool op, .int .i64 kl, str nl, .int .i64 ll, .int .i64 hl, .slice al pl.length cl, .int .i64 kr, str nr, .int .i64 lr, .int .i64 hr, .slice ar pr.length cr, .slice ad rs.length cap, str ro, str a, str b]), (1, zp_ b1 0), (2, .bool false), (11, .bool false), (12, zp_ b1 0), (13, .int .i64 k), (14, .pointer (some (rad (some ⟨0, 0, none⟩) (k.toNat * 7)))), (15, .agg #[.bool ul, .bool ur, .bool uo, .bool ua, .bool ub, .int .i64 um, .int .i64 un]), (3, zp_ b2 0), (66, .bool r)]) ?_ fun r18 hr18 => ?_
        ·
         cases r15
         ·
          have qr18 := hr15
          simp at hr15
          try dsimp only [Con.kind, Con.parts, Con.name, Con.lo, Con.hi, Con.cap, Con.ad] at hr15
          refine k_ rfl rfl rfl rfl (k_ rfl rfl rfl rfl (k_ rfl rfl rfl rfl (k_ rfl rfl rfl rfl (k_ rfl rfl rfl rfl (k_ rfl rfl rfl rfl (a_ (t_ rfl rfl) rfl (d_ (p_ rfl ?_))))))))
          exact met ⟨rfl, rfl, rfl, rfl, rfl, rfl, rfl, rfl, rfl, (s_ rfl (jaf qr18)), trivial⟩
         ·
          have qr18 := hr15
          simp at hr15
          try dsimp only [Con.kind, Con.parts, Con.name, Con.lo, Con.hi, Con.cap, Con.ad] at hr15
          refine i_ rfl rfl (a_ (h_ W_ rfl rfl rfl Tryz.sizeOf46) rfl (i_ rfl rfl (a_ (n_ 1 Tryz.isAgg46 rfl rfl rfl) rfl (i_ rfl rfl (a_ (aA_ aJ_ rfl) rfl (i_ rfl rfl (a_ (h_ bB_ rfl rfl rfl q_) rfl (i_ rfl rfl (a_ (n_ 0 B_ rfl rfl rfl) rfl ?_)))))))))
          refine i_ rfl rfl (E_ (cw_ rfl rfl) rfl fun r19 hr19 => ?_)
          refine a_ (v_ rfl rfl) rfl (d_ (p_ rfl ?_))
          exact met ⟨rfl, rfl, rfl, rfl, rfl, rfl, rfl, rfl, rfl, (s_ rfl (jat qr18 hr19)), trivial⟩
        ·
         refine a_ (f_ rfl) rfl ?_
         refine aV_ 7 ((((((((((((((ul) || (Con.empty (.mk kl nl ll hl al cl pl)))) && (((ur) || (Con.empty (.mk kr nr lr hr ar cr pr)))))) && (((uo) || (ro == []))))) && (((ua) || (a == []))))) && (((ub) || (b == []))))) && (decide (um ≤ (rs.length : Int))))) && (decide ((rs.length : Int) ≤ un))) (fun r => [(0, .agg #[.int .i64 k, .bool op, .int .i64 kl, str nl, .int .i64 ll, .int .i64 hl, .slice al pl.length cl, .int .i64 kr, str nr, .int .i64 lr, .int .i64 hr, .slice ar pr.length cr, .slice ad rs.length cap, str ro, str a, str b]), (1, zp_ b1 0), (2, .bool false), (11, .bool false), (12, zp_ b1 0), (13, .int .i64 k), (14, .pointer (some (rad (some ⟨0, 0, none⟩) (k.toNat * 7)))), (15, .agg #[.bool ul, .bool ur, .bool uo, .bool ua, .bool ub, .int .i64 um, .int .i64 un]), (3, zp_ b2 0), (74, .bool r)]) ?_ fun r20 hr20 => ?_
         ·
          cases r18
          ·
           have qr20 := hr18
           simp at hr18
           try dsimp only [Con.kind, Con.parts, Con.name, Con.lo, Con.hi, Con.cap, Con.ad] at hr18
           refine k_ rfl rfl rfl rfl (k_ rfl rfl rfl rfl (k_ rfl rfl rfl rfl (k_ rfl rfl rfl rfl (k_ rfl rfl rfl rfl (k_ rfl rfl rfl rfl (a_ (t_ rfl rfl) rfl (d_ (p_ rfl ?_))))))))
           exact met ⟨rfl, rfl, rfl, rfl, rfl, rfl, rfl, rfl, rfl, (s_ rfl (jaf qr20)), trivial⟩
          ·
           have qr20 := hr18
           simp at hr18
           try dsimp only [Con.kind, Con.parts, Con.name, Con.lo, Con.hi, Con.cap, Con.ad] at hr18
           refine i_ rfl rfl (a_ (h_ W_ rfl rfl rfl Tryz.sizeOf46) rfl (i_ rfl rfl (a_ (n_ 1 Tryz.isAgg46 rfl rfl rfl) rfl (i_ rfl rfl (a_ (aA_ aJ_ rfl) rfl (i_ rfl rfl (a_ (h_ bB_ rfl rfl rfl q_) rfl (i_ rfl rfl (a_ (n_ 0 B_ rfl rfl rfl) rfl ?_)))))))))
           refine i_ rfl rfl (E_ (cb_ rfl rfl) rfl fun r21 hr21 => ?_)
           refine a_ (v_ rfl rfl) rfl (d_ (p_ rfl ?_))
           exact met ⟨rfl, rfl, rfl, rfl, rfl, rfl, rfl, rfl, rfl, (s_ rfl (jat qr20 hr21)), trivial⟩
         ·
          refine a_ (e_ rfl) rfl (d_ (b_ rfl (u_ ?_)))
          exact Y_ Tryz.results67 () (s_ rfl (by unfold Ax.shaped; rw [if_neg (by simp only [not_or]; omega)]; simp only [hus]; exact hr20.symm)) (.refl _) (fun _ _ _ => trivial)
  ·
   simp at hr2
   try dsimp only [Con.kind, Con.parts, Con.name, Con.lo, Con.hi, Con.cap, Con.ad] at hr2
   refine w_ rfl (g_ (c_ (a_ (e_ rfl) rfl (d_ (b_ rfl (u_ ?_))))))
   exact Y_ Tryz.results67 () (s_ rfl (by unfold Ax.shaped; rw [if_pos (by simpa using hr2)])) (.refl _) (fun _ _ _ => trivial)
theorem pn (s : Str) : (((if bG_ s then 0 else 20) : Int) != 0) = !bG_ s := by cases bG_ s <;> rfl
theorem nb_ (x : Ax) (hok : x.ok) (u : Use) : Tri Tryz.prog 68 #[x.val, .agg u.cells.toArray] [] [x.memF] (fun _ : Unit => .bool (x.namedU u)) (fun _ => []) (fun _ => []) := by
 obtain ⟨k, op, ⟨kl, nl, ll, hl, al, cl, pl⟩, ⟨kr, nr, lr, hr, ar, cr, pr⟩, ad, cap, rs, ro, a, b⟩ := x
 obtain ⟨ul, ur, uo, ua, ub, um, un⟩ := u
 have hlen := hok.len
 have hcap := hok.cap
 dsimp only at hlen hcap
 refine S_ Tryz.func68 rfl rfl Tryz.ntmps68 rfl fun v0 => ?_
 refine g_ (c_ (aM_ rfl rfl fun b1 => ?_))
 refine aM_ rfl rfl fun b2 => ?_
 refine a_ (e_ rfl) rfl (d_ (b_ rfl (g_ (g_ (c_ (a_ (h_ bB_ rfl rfl rfl aI_) rfl (a_ (n_ 0 bg_ rfl rfl rfl) rfl (a_ (f_ rfl) rfl ?_))))))))
 refine aV_ 5 ((uo) && (!(cz_ ro))) (fun r => [(0, .agg #[.int .i64 k, .bool op, .int .i64 kl, str nl, .int .i64 ll, .int .i64 hl, .slice al pl.length cl, .int .i64 kr, str nr, .int .i64 lr, .int .i64 hr, .slice ar pr.length cr, .slice ad rs.length cap, str ro, str a, str b]), (1, .agg #[.bool ul, .bool ur, .bool uo, .bool ua, .bool ub, .int .i64 um, .int .i64 un]), (2, zp_ b1 0), (3, zp_ b2 0), (4, .bool false), (14, .bool r)]) ?_ fun r1 hr1 => ?_
 ·
  cases uo
  ·
   try dsimp only [Con.kind, Con.parts, Con.name, Con.lo, Con.hi, Con.cap, Con.ad] at huo
   refine k_ rfl rfl rfl rfl (k_ rfl rfl rfl rfl (k_ rfl rfl rfl rfl (k_ rfl rfl rfl rfl (a_ (t_ rfl rfl) rfl (d_ (p_ rfl ?_))))))
   exact met ⟨rfl, rfl, rfl, rfl, rfl, (s_ rfl (jaf rfl)), trivial⟩
  ·
   try dsimp only [Con.kind, Con.parts, Con.name, Con.lo, Con.hi, Con.cap, Con.ad] at huo
   refine i_ rfl rfl (a_ (h_ W_ rfl rfl rfl y_) rfl (i_ rfl rfl (a_ (n_ 1 H_ rfl rfl rfl) rfl (i_ rfl rfl (ah_ (eZ_ _) rfl (.refl _) (fun _ _ _ => trivial) rfl fun r2 hr2 => ?_)))))
   refine i_ rfl rfl (a_ (bu_ rfl) rfl (a_ (v_ rfl rfl) rfl (d_ (p_ rfl ?_))))
   exact met ⟨rfl, rfl, rfl, rfl, rfl, (s_ rfl (jat rfl (jn hr2))), trivial⟩
 ·
  refine a_ (f_ rfl) rfl ?_
  refine aV_ 9 ((((uo) && (!(cz_ ro)))) || (((ua) && (((if bG_ a then 0 else 20) : Int) != 0)))) (fun r => [(0, .agg #[.int .i64 k, .bool op, .int .i64 kl, str nl, .int .i64 ll, .int .i64 hl, .slice al pl.length cl, .int .i64 kr, str nr, .int .i64 lr, .int .i64 hr, .slice ar pr.length cr, .slice ad rs.length cap, str ro, str a, str b]), (1, .agg #[.bool ul, .bool ur, .bool uo, .bool ua, .bool ub, .int .i64 um, .int .i64 un]), (2, zp_ b1 0), (3, zp_ b2 0), (4, .bool false), (24, .bool r)]) ?_ fun r3 hr3 => ?_
  ·
   cases r1
   ·
    have qr3 := hr1
    try dsimp only [Con.kind, Con.parts, Con.name, Con.lo, Con.hi, Con.cap, Con.ad] at hr1
    refine i_ rfl rfl (a_ (h_ bB_ rfl rfl rfl aI_) rfl (i_ rfl rfl (a_ (n_ 0 bg_ rfl rfl rfl) rfl (i_ rfl rfl (a_ (f_ rfl) rfl ?_)))))
    refine aV_ 5 ((ua) && (((if bG_ a then 0 else 20) : Int) != 0)) (fun r => [(0, .agg #[.int .i64 k, .bool op, .int .i64 kl, str nl, .int .i64 ll, .int .i64 hl, .slice al pl.length cl, .int .i64 kr, str nr, .int .i64 lr, .int .i64 hr, .slice ar pr.length cr, .slice ad rs.length cap, str ro, str a, str b]), (1, .agg #[.bool ul, .bool ur, .bool uo, .bool ua, .bool ub, .int .i64 um, .int .i64 un]), (2, zp_ b1 0), (3, zp_ b2 0), (4, .bool false), (15, .bool false), (23, .bool r)]) ?_ fun r4 hr4 => ?_
    ·
     cases ua
     ·
      try dsimp only [Con.kind, Con.parts, Con.name, Con.lo, Con.hi, Con.cap, Con.ad] at hua
      refine k_ rfl rfl rfl rfl (k_ rfl rfl rfl rfl (k_ rfl rfl rfl rfl (k_ rfl rfl rfl rfl (i_ rfl rfl (a_ (t_ rfl rfl) rfl (d_ (p_ rfl ?_)))))))
      exact met ⟨rfl, rfl, rfl, rfl, rfl, rfl, (s_ rfl (jaf rfl)), trivial⟩
     ·
      try dsimp only [Con.kind, Con.parts, Con.name, Con.lo, Con.hi, Con.cap, Con.ad] at hua
      refine i_ rfl rfl (a_ (h_ W_ rfl rfl rfl y_) rfl (i_ rfl rfl (a_ (n_ 1 H_ rfl rfl rfl) rfl (i_ rfl rfl (K_ (eM_ _ hok.a) rfl (.refl _) (fun _ _ _ => trivial) rfl fun _ => ?_)))))
      refine i_ rfl rfl (E_ (bF_ rfl rfl) rfl fun r5 hr5 => ?_)
      refine i_ rfl rfl (a_ (v_ rfl rfl) rfl (d_ (p_ rfl ?_)))
      exact met ⟨rfl, rfl, rfl, rfl, rfl, rfl, (s_ rfl (jat rfl hr5)), trivial⟩
    ·
     refine a_ (t_ rfl rfl) rfl (d_ (p_ rfl ?_))
     exact met ⟨rfl, rfl, rfl, rfl, rfl, (s_ rfl (jof qr3 hr4)), trivial⟩
   ·
    have qr3 := hr1
    try dsimp only [Con.kind, Con.parts, Con.name, Con.lo, Con.hi, Con.cap, Con.ad] at hr1
    refine k_ rfl rfl rfl rfl (k_ rfl rfl rfl rfl (k_ rfl rfl rfl rfl (k_ rfl rfl rfl rfl (k_ rfl rfl rfl rfl (k_ rfl rfl rfl rfl (k_ rfl rfl rfl rfl (k_ rfl rfl rfl rfl (a_ (v_ rfl rfl) rfl (d_ ?_)))))))))
    refine p_ rfl ?_
    exact met ⟨rfl, rfl, rfl, rfl, rfl, (s_ rfl (jot qr3)), trivial⟩
  ·
   refine a_ (f_ rfl) rfl ?_
   refine aV_ 9 ((((((uo) && (!(cz_ ro)))) || (((ua) && (((if bG_ a then 0 else 20) : Int) != 0))))) || (((ub) && (((if bG_ b then 0 else 20) : Int) != 0)))) (fun r => [(0, .agg #[.int .i64 k, .bool op, .int .i64 kl, str nl, .int .i64 ll, .int .i64 hl, .slice al pl.length cl, .int .i64 kr, str nr, .int .i64 lr, .int .i64 hr, .slice ar pr.length cr, .slice ad rs.length cap, str ro, str a, str b]), (1, .agg #[.bool ul, .bool ur, .bool uo, .bool ua, .bool ub, .int .i64 um, .int .i64 un]), (2, zp_ b1 0), (4, .bool false), (34, .bool r)]) ?_ fun r6 hr6 => ?_
   ·
    cases r3
    ·
     have qr6 := hr3
     try dsimp only [Con.kind, Con.parts, Con.name, Con.lo, Con.hi, Con.cap, Con.ad] at hr3
     refine i_ rfl rfl (a_ (h_ bB_ rfl rfl rfl aI_) rfl (i_ rfl rfl (a_ (n_ 0 bg_ rfl rfl rfl) rfl (i_ rfl rfl (a_ (f_ rfl) rfl ?_)))))
     refine aV_ 5 ((ub) && (((if bG_ b then 0 else 20) : Int) != 0)) (fun r => [(0, .agg #[.int .i64 k, .bool op, .int .i64 kl, str nl, .int .i64 ll, .int .i64 hl, .slice al pl.length cl, .int .i64 kr, str nr, .int .i64 lr, .int .i64 hr, .slice ar pr.length cr, .slice ad rs.length cap, str ro, str a, str b]), (1, .agg #[.bool ul, .bool ur, .bool uo, .bool ua, .bool ub, .int .i64 um, .int .i64 un]), (2, zp_ b1 0), (4, .bool false), (25, .bool false), (33, .bool r)]) ?_ fun r7 hr7 => ?_
     ·
      cases ub
      ·
       try dsimp only [Con.kind, Con.parts, Con.name, Con.lo, Con.hi, Con.cap, Con.ad] at hub
       refine k_ rfl rfl rfl rfl (k_ rfl rfl rfl rfl (k_ rfl rfl rfl rfl (k_ rfl rfl rfl rfl (i_ rfl rfl (a_ (t_ rfl rfl) rfl (d_ (p_ rfl ?_)))))))
       exact met ⟨rfl, rfl, rfl, rfl, rfl, (s_ rfl (jaf rfl)), trivial⟩
      ·
       try dsimp only [Con.kind, Con.parts, Con.name, Con.lo, Con.hi, Con.cap, Con.ad] at hub
       refine i_ rfl rfl (a_ (h_ W_ rfl rfl rfl y_) rfl (i_ rfl rfl (a_ (n_ 1 H_ rfl rfl rfl) rfl (i_ rfl rfl (K_ (eM_ _ hok.b) rfl (.refl _) (fun _ _ _ => trivial) rfl fun _ => ?_)))))
       refine i_ rfl rfl (E_ (bF_ rfl rfl) rfl fun r8 hr8 => ?_)
       refine i_ rfl rfl (a_ (v_ rfl rfl) rfl (d_ (p_ rfl ?_)))
       exact met ⟨rfl, rfl, rfl, rfl, rfl, (s_ rfl (jat rfl hr8)), trivial⟩
     ·
      refine a_ (t_ rfl rfl) rfl (d_ (p_ rfl ?_))
      exact met ⟨rfl, rfl, rfl, rfl, (s_ rfl (jof qr6 hr7)), trivial⟩
    ·
     have qr6 := hr3
     try dsimp only [Con.kind, Con.parts, Con.name, Con.lo, Con.hi, Con.cap, Con.ad] at hr3
     refine k_ rfl rfl rfl rfl (k_ rfl rfl rfl rfl (k_ rfl rfl rfl rfl (k_ rfl rfl rfl rfl (k_ rfl rfl rfl rfl (k_ rfl rfl rfl rfl (k_ rfl rfl rfl rfl (k_ rfl rfl rfl rfl (a_ (v_ rfl rfl) rfl (d_ ?_)))))))))
     refine p_ rfl ?_
     exact met ⟨rfl, rfl, rfl, rfl, (s_ rfl (jot qr6)), trivial⟩
   ·
    refine d_ (b_ rfl ?_)
    cases r6
    ·
     try dsimp only [Con.kind, Con.parts, Con.name, Con.lo, Con.hi, Con.cap, Con.ad] at hr6
     refine A_ rfl (J_ (b_ rfl (g_ (g_ (c_ (a_ (h_ W_ rfl rfl rfl Tryz.sizeOf46) rfl (a_ (n_ 1 Tryz.isAgg46 rfl rfl rfl) rfl (a_ (aA_ aJ_ rfl) rfl (a_ (f_ rfl) rfl ?_)))))))))
     refine d_ (b_ rfl (ae_ (de_ [(36, .slice ad rs.length cap), (37, .int .i64 (rs.length : Int)), (38, .int .i64 ((0 : Nat) : Int))] ⟨rfl, rfl, rfl, trivial⟩ ?_)))
     refine dq_ (ι := {q : Nat // q ≤ rs.length ∧ (rs.take q).all cz_ = true}) (fun i => [(36, .slice ad rs.length cap), (37, .int .i64 (rs.length : Int)), (38, .int .i64 (i.1 : Int))]) (fun _ => _) (fun _ => _) (fun i => rs.length - i.1) ⟨0, by simp⟩ ?_
     rintro ⟨i, hk⟩
     refine de_ [(36, .slice ad rs.length cap), (37, .int .i64 (rs.length : Int)), (38, .int .i64 (i : Int))] ⟨rfl, rfl, rfl, trivial⟩ ?_
     refine g_ (c_ (E_ (au_ rfl rfl) rfl fun r9 hr9 => ?_))
     refine d_ (b_ rfl (g_ ?_))
     cases r9
     ·
      replace hr9 := of_decide_eq_false hr9
      try dsimp only [Con.kind, Con.parts, Con.name, Con.lo, Con.hi, Con.cap, Con.ad] at hr9
      refine A_ rfl (bj_ rfl (b_ rfl (g_ (c_ (a_ (e_ rfl) rfl (d_ (b_ rfl (u_ ?_))))))))
      exact Y_ Tryz.results68 () (s_ rfl (by have hf : rs.all cz_ = true := (by have := hk.2; rwa [List.take_of_length_le (by omega)] at this); unfold Ax.namedU; simp only [pn] at hr6; simp only [hf, hr6]; rfl)) (.refl _) (fun _ _ _ => trivial)
     ·
      replace hr9 := of_decide_eq_true hr9
      try dsimp only [Con.kind, Con.parts, Con.name, Con.lo, Con.hi, Con.cap, Con.ad] at hr9
      have hlt : i < rs.length := by omega
      obtain ⟨q, hp⟩ : ∃ q, rs[i]? = some q := ⟨_, List.getElem?_eq_getElem hlt⟩
      refine w_ rfl (J_ (b_ rfl (g_ (ae_ (g_ (c_ (a_ (an_ aJ_ y_ rfl rfl (fun v _ h => ba_ (n := 1) cs_ (by decide) (h.1.2.2) hp) (by omega) (by first | omega | (simp only [Con.parts]; omega) | (simp [Con.parts]; done))) rfl (a_ (bE_ (ad := ad) H_ rfl (fun v _ h => h.1.2.2) (ar_ cs_ hp 0 _ rfl)) rfl (a_ (e_ rfl) rfl ?_)))))))))
      refine d_ (b_ rfl (g_ (c_ (a_ (f_ rfl) rfl (ah_ (eZ_ _) rfl (.refl _) (fun _ _ _ => trivial) rfl fun r10 hr10 => ?_)))))
      refine a_ (bu_ rfl) rfl (d_ (b_ rfl ?_))
      cases r10
      ·
       try dsimp only [Con.kind, Con.parts, Con.name, Con.lo, Con.hi, Con.cap, Con.ad] at hr10
       refine w_ rfl (g_ (c_ (a_ (e_ rfl) rfl (d_ (b_ rfl (u_ ?_))))))
       exact Y_ Tryz.results68 () (s_ rfl (by have hf : rs.all cz_ = false := List.all_eq_false.2 ⟨q, List.mem_of_getElem? hp, by simp [*]⟩; unfold Ax.namedU; simp only [hf, Bool.and_false])) (.refl _) (fun _ _ _ => trivial)
      ·
       try dsimp only [Con.kind, Con.parts, Con.name, Con.lo, Con.hi, Con.cap, Con.ad] at hr10
       refine A_ rfl (J_ (b_ rfl (c_ (a_ (ag_ rfl rfl rfl (aS_ (by omega) (by omega))) rfl (a_ (f_ rfl) rfl (d_ (p_ rfl ?_)))))))
       exact aU_ ⟨i + 1, hlt, by rw [List.take_add_one, hp]; simp only [Option.toList_some, List.all_append, hk.2]; simp [*]⟩ (by simp; omega) ⟨rfl, rfl, rfl, trivial⟩ (.refl _) (fun _ _ h => h)
    ·
     try dsimp only [Con.kind, Con.parts, Con.name, Con.lo, Con.hi, Con.cap, Con.ad] at hr6
     refine w_ rfl (g_ (c_ (a_ (e_ rfl) rfl (d_ (b_ rfl (u_ ?_))))))
     exact Y_ Tryz.results68 () (s_ rfl (by unfold Ax.namedU; simp only [pn] at hr6; simp only [hr6]; rfl)) (.refl _) (fun _ _ _ => trivial)
theorem Ax.shaped_kind {x : Ax} (h : x.shaped = true) : 1 ≤ x.kind ∧ x.kind ≤ 9 := by
  unfold Ax.shaped at h
  split at h
  · cases h
  · rename_i hh; simp only [not_or] at hh; omega
theorem jZ_ (x : Ax) (hok : x.ok) : Tri Tryz.prog 27 #[x.val] [] [x.memF, gL_] (fun _ : Unit => .int .i64 x.check) (fun _ => []) (fun _ => []) := by
 obtain ⟨k, op, ⟨kl, nl, ll, hl, al, cl, pl⟩, ⟨kr, nr, lr, hr, ar, cr, pr⟩, ad, cap, rs, ro, a, b⟩ := x
 refine S_ Tryz.func27 rfl rfl Tryz.ntmps27 rfl fun v0 => ?_
 refine g_ (c_ (aM_ rfl rfl fun b1 => ?_))
 refine a_ (e_ rfl) rfl (d_ (b_ rfl (g_ (g_ (c_ (a_ (M_ 0 Tryz.isAgg58 Tryz.sizeOf58 rfl rfl rfl) rfl (ah_ (lH_ ⟨k, op, (.mk kl nl ll hl al cl pl), (.mk kr nr lr hr ar cr pr), ad, cap, rs, ro, a, b⟩) rfl (.refl _) (fun v _ h => ⟨h.2.1, trivial⟩) rfl fun r1 hr1 => ?_)))))))
 refine a_ (bu_ rfl) rfl (d_ (b_ rfl ?_))
 cases r1
 ·
  try dsimp only [Con.kind, Con.parts, Con.name, Con.lo, Con.hi, Con.cap, Con.ad] at hr1
  refine w_ rfl (g_ (c_ (a_ (e_ rfl) rfl (d_ (b_ rfl (u_ ?_))))))
  exact Y_ ap_ () (aH_ rfl (by unfold Ax.check; simp_all)) (.refl _) (fun _ _ _ => trivial)
 ·
  try dsimp only [Con.kind, Con.parts, Con.name, Con.lo, Con.hi, Con.cap, Con.ad] at hr1
  have hk0 : 1 ≤ k ∧ k ≤ 9 := Ax.shaped_kind hr1
  obtain ⟨u, hx⟩ : ∃ u, oT_[k.toNat]? = some u := ⟨_, List.getElem?_eq_getElem (show k.toNat < 10 by omega)⟩
  have hus : us k = u := by simp [us, hx]
  obtain ⟨ul, ur, uo, ua, ub, um, un⟩ := u
  refine A_ rfl (J_ (b_ rfl (g_ (c_ (a_ (h_ W_ rfl rfl rfl q_) rfl (a_ (n_ 0 B_ rfl rfl rfl) rfl (a_ (ep_ Tryz.runUnderlying136 fy_ rfl rfl (by show (0 : Int) ≤ k; omega) (by show k < (10 : Int); omega)) rfl (a_ (aX_ (ad := some ⟨0, 0, none⟩) (us := Use.cells ⟨ul, ur, uo, ua, ub, um, un⟩) Tryz.isAgg135 fy_ rfl (fun v _ h => h.2.1.2.1) (Use.cells_len _) (ar_ Use.cells_len hx)) rfl (Z_ Tryz.zeroValue135 rfl fun b2 => ?_)))))))))
  refine Q_ 0 fy_ rfl rfl rfl rfl rfl rfl (d_ (b_ rfl (g_ (g_ (c_ (a_ (M_ 1 Tryz.isAgg58 Tryz.sizeOf58 rfl rfl rfl) rfl (a_ (M_ 0 Tryz.isAgg135 fy_ rfl rfl rfl) rfl (ah_ (nb_ ⟨k, op, (.mk kl nl ll hl al cl pl), (.mk kr nr lr hr ar cr pr), ad, cap, rs, ro, a, b⟩ hok ⟨ul, ur, uo, ua, ub, um, un⟩) rfl (.refl _) (fun v _ h => ⟨h.1, trivial⟩) rfl fun r2 hr2 => ?_))))))))
  refine a_ (bu_ rfl) rfl (d_ (b_ rfl ?_))
  cases r2
  ·
   try dsimp only [Con.kind, Con.parts, Con.name, Con.lo, Con.hi, Con.cap, Con.ad] at hr2
   refine w_ rfl (g_ (c_ (a_ (e_ rfl) rfl (d_ (b_ rfl (u_ ?_))))))
   exact Y_ ap_ () (aH_ rfl (by unfold Ax.check; simp only [hus]; simp_all)) (.refl _) (fun _ _ _ => trivial)
  ·
   try dsimp only [Con.kind, Con.parts, Con.name, Con.lo, Con.hi, Con.cap, Con.ad] at hr2
   refine A_ rfl (J_ (b_ rfl (g_ (g_ (c_ (a_ (h_ bB_ rfl rfl rfl aI_) rfl (a_ (n_ 0 bg_ rfl rfl rfl) rfl (d_ (b_ rfl ?_)))))))))
   cases ul
   ·
    try dsimp only [Con.kind, Con.parts, Con.name, Con.lo, Con.hi, Con.cap, Con.ad] at hul
    refine A_ rfl (J_ (b_ rfl (g_ (g_ (c_ (a_ (h_ bB_ rfl rfl rfl aI_) rfl (a_ (n_ 0 bg_ rfl rfl rfl) rfl (d_ (b_ rfl ?_)))))))))
    cases ur
    ·
     try dsimp only [Con.kind, Con.parts, Con.name, Con.lo, Con.hi, Con.cap, Con.ad] at hur
     refine A_ rfl (J_ (b_ rfl (g_ (g_ (c_ (a_ (h_ W_ rfl rfl rfl q_) rfl (a_ (n_ 1 B_ rfl rfl rfl) rfl (d_ (b_ rfl ?_)))))))))
     refine ae_ (g_ (c_ (E_ (aG_ rfl rfl) rfl fun r3 hr3 => ?_)))
     refine a_ (e_ rfl) rfl (d_ (b_ rfl ?_))
     cases r3
     ·
      replace hr3 := ne_of_beq_false hr3
      try dsimp only [Con.kind, Con.parts, Con.name, Con.lo, Con.hi, Con.cap, Con.ad] at hr3
      refine A_ rfl (g_ (g_ (c_ (E_ (aG_ rfl rfl) rfl fun r4 hr4 => ?_))))
      refine a_ (e_ rfl) rfl (d_ (b_ rfl ?_))
      cases r4
      ·
       replace hr4 := ne_of_beq_false hr4
       try dsimp only [Con.kind, Con.parts, Con.name, Con.lo, Con.hi, Con.cap, Con.ad] at hr4
       refine A_ rfl (g_ (c_ (E_ (aG_ rfl rfl) rfl fun r5 hr5 => ?_)))
       refine a_ (e_ rfl) rfl (d_ (b_ rfl ?_))
       cases r5
       ·
        replace hr5 := ne_of_beq_false hr5
        try dsimp only [Con.kind, Con.parts, Con.name, Con.lo, Con.hi, Con.cap, Con.ad] at hr5
        refine A_ rfl (c_ (E_ (aG_ rfl rfl) rfl fun r6 hr6 => ?_))
        refine a_ (e_ rfl) rfl (d_ (b_ rfl ?_))
        cases r6
        ·
         replace hr6 := ne_of_beq_false hr6
         try dsimp only [Con.kind, Con.parts, Con.name, Con.lo, Con.hi, Con.cap, Con.ad] at hr6
         refine A_ rfl (J_ (b_ rfl (g_ (c_ (a_ (e_ rfl) rfl (d_ (b_ rfl (u_ ?_))))))))
         exact Y_ ap_ () (aH_ rfl (by unfold Ax.check; simp only [hus]; simp_all)) (.refl _) (fun _ _ _ => trivial)
        ·
         replace hr6 := eq_of_beq hr6
         try dsimp only [Con.kind, Con.parts, Con.name, Con.lo, Con.hi, Con.cap, Con.ad] at hr6
         refine w_ rfl (g_ (c_ (a_ (h_ W_ rfl rfl rfl X_) rfl (a_ (M_ 1 aP_ X_ rfl rfl rfl) rfl (ah_ (cg_ _ (.mk kr nr lr hr ar cr pr) (Nat.le_refl _) hok.right) rfl (.refl _) (fun v _ h => ⟨h.1.2.1, trivial⟩) rfl fun r7 hr7 => ?_)))))
         refine d_ (b_ rfl ?_)
         cases r7
         ·
          try dsimp only [Con.kind, Con.parts, Con.name, Con.lo, Con.hi, Con.cap, Con.ad] at hr7
          refine A_ rfl (J_ (b_ rfl (g_ (c_ (a_ (e_ rfl) rfl (d_ (b_ rfl (u_ ?_))))))))
          exact Y_ ap_ () (aH_ rfl (by unfold Ax.check; simp only [hus]; simp_all)) (.refl _) (fun _ _ _ => trivial)
         ·
          try dsimp only [Con.kind, Con.parts, Con.name, Con.lo, Con.hi, Con.cap, Con.ad] at hr7
          refine w_ rfl (g_ (c_ (a_ (e_ rfl) rfl (d_ (b_ rfl (u_ ?_))))))
          exact Y_ ap_ () (aH_ rfl (by unfold Ax.check; simp only [hus]; simp_all)) (.refl _) (fun _ _ _ => trivial)
       ·
        replace hr5 := eq_of_beq hr5
        try dsimp only [Con.kind, Con.parts, Con.name, Con.lo, Con.hi, Con.cap, Con.ad] at hr5
        refine w_ rfl (J_ (b_ rfl (w_ rfl (g_ (c_ (a_ (h_ W_ rfl rfl rfl X_) rfl (a_ (M_ 1 aP_ X_ rfl rfl rfl) rfl (ah_ (cg_ _ (.mk kr nr lr hr ar cr pr) (Nat.le_refl _) hok.right) rfl (.refl _) (fun v _ h => ⟨h.1.2.1, trivial⟩) rfl fun r8 hr8 => ?_))))))))
        refine d_ (b_ rfl ?_)
        cases r8
        ·
         try dsimp only [Con.kind, Con.parts, Con.name, Con.lo, Con.hi, Con.cap, Con.ad] at hr8
         refine A_ rfl (J_ (b_ rfl (g_ (c_ (a_ (e_ rfl) rfl (d_ (b_ rfl (u_ ?_))))))))
         exact Y_ ap_ () (aH_ rfl (by unfold Ax.check; simp only [hus]; simp_all)) (.refl _) (fun _ _ _ => trivial)
        ·
         try dsimp only [Con.kind, Con.parts, Con.name, Con.lo, Con.hi, Con.cap, Con.ad] at hr8
         refine w_ rfl (g_ (c_ (a_ (e_ rfl) rfl (d_ (b_ rfl (u_ ?_))))))
         exact Y_ ap_ () (aH_ rfl (by unfold Ax.check; simp only [hus]; simp_all)) (.refl _) (fun _ _ _ => trivial)
      ·
       replace hr4 := eq_of_beq hr4
       try dsimp only [Con.kind, Con.parts, Con.name, Con.lo, Con.hi, Con.cap, Con.ad] at hr4
       refine w_ rfl (J_ (b_ rfl (w_ rfl (g_ (c_ (a_ (h_ W_ rfl rfl rfl X_) rfl (a_ (M_ 1 aP_ X_ rfl rfl rfl) rfl (ah_ (cg_ _ (.mk kr nr lr hr ar cr pr) (Nat.le_refl _) hok.right) rfl (.refl _) (fun v _ h => ⟨h.1.2.1, trivial⟩) rfl fun r9 hr9 => ?_))))))))
       refine d_ (b_ rfl ?_)
       cases r9
       ·
        try dsimp only [Con.kind, Con.parts, Con.name, Con.lo, Con.hi, Con.cap, Con.ad] at hr9
        refine A_ rfl (J_ (b_ rfl (g_ (c_ (a_ (e_ rfl) rfl (d_ (b_ rfl (u_ ?_))))))))
        exact Y_ ap_ () (aH_ rfl (by unfold Ax.check; simp only [hus]; simp_all)) (.refl _) (fun _ _ _ => trivial)
       ·
        try dsimp only [Con.kind, Con.parts, Con.name, Con.lo, Con.hi, Con.cap, Con.ad] at hr9
        refine w_ rfl (g_ (c_ (a_ (e_ rfl) rfl (d_ (b_ rfl (u_ ?_))))))
        exact Y_ ap_ () (aH_ rfl (by unfold Ax.check; simp only [hus]; simp_all)) (.refl _) (fun _ _ _ => trivial)
     ·
      replace hr3 := eq_of_beq hr3
      try dsimp only [Con.kind, Con.parts, Con.name, Con.lo, Con.hi, Con.cap, Con.ad] at hr3
      refine w_ rfl (g_ (c_ (a_ (h_ W_ rfl rfl rfl X_) rfl (a_ (M_ 1 aP_ X_ rfl rfl rfl) rfl (ah_ (cg_ _ (.mk kl nl ll hl al cl pl) (Nat.le_refl _) hok.left) rfl (.refl _) (fun v _ h => ⟨h.1.1, trivial⟩) rfl fun r10 hr10 => ?_)))))
      refine a_ (f_ rfl) rfl ?_
      refine aV_ 4 ((Con.bare (.mk kl nl ll hl al cl pl)) || (Con.bare (.mk kr nr lr hr ar cr pr))) (fun r => [(0, .agg #[.int .i64 k, .bool op, .int .i64 kl, str nl, .int .i64 ll, .int .i64 hl, .slice al pl.length cl, .int .i64 kr, str nr, .int .i64 lr, .int .i64 hr, .slice ar pr.length cr, .slice ad rs.length cap, str ro, str a, str b]), (1, zp_ b1 0), (2, .int .i64 0), (6, .agg #[.int .i64 k, .bool op, .int .i64 kl, str nl, .int .i64 ll, .int .i64 hl, .slice al pl.length cl, .int .i64 kr, str nr, .int .i64 lr, .int .i64 hr, .slice ar pr.length cr, .slice ad rs.length cap, str ro, str a, str b]), (7, .bool true), (8, .bool false), (9, zp_ b1 0), (10, .int .i64 k), (11, .pointer (some (rad (some ⟨0, 0, none⟩) (k.toNat * 7)))), (12, .agg #[.bool false, .bool false, .bool uo, .bool ua, .bool ub, .int .i64 um, .int .i64 un]), (3, zp_ b2 0), (13, .agg #[.int .i64 k, .bool op, .int .i64 kl, str nl, .int .i64 ll, .int .i64 hl, .slice al pl.length cl, .int .i64 kr, str nr, .int .i64 lr, .int .i64 hr, .slice ar pr.length cr, .slice ad rs.length cap, str ro, str a, str b]), (14, .agg #[.bool false, .bool false, .bool uo, .bool ua, .bool ub, .int .i64 um, .int .i64 un]), (15, .bool true), (16, .bool false), (17, zp_ b2 0), (18, .bool false), (25, zp_ b2 1), (26, .bool false), (33, zp_ b1 0), (34, .int .i64 k), (36, .bool true), (35, .bool true), (44, .bool r)]) ?_ fun r11 hr11 => ?_
      ·
       cases r10
       ·
        have qr11 := hr10
        try dsimp only [Con.kind, Con.parts, Con.name, Con.lo, Con.hi, Con.cap, Con.ad] at hr10
        refine i_ rfl rfl (a_ (h_ W_ rfl rfl rfl X_) rfl (i_ rfl rfl (a_ (M_ 1 aP_ X_ rfl rfl rfl) rfl (i_ rfl rfl (ah_ (cg_ _ (.mk kr nr lr hr ar cr pr) (Nat.le_refl _) hok.right) rfl (.refl _) (fun v _ h => ⟨h.1.2.1, trivial⟩) rfl fun r12 hr12 => ?_)))))
        refine a_ (t_ rfl rfl) rfl (d_ (p_ rfl ?_))
        exact met ⟨rfl, rfl, rfl, rfl, rfl, rfl, rfl, rfl, rfl, rfl, rfl, rfl, rfl, rfl, rfl, rfl, rfl, rfl, rfl, rfl, rfl, rfl, rfl, (s_ rfl (jof qr11 hr12)), trivial⟩
       ·
        have qr11 := hr10
        try dsimp only [Con.kind, Con.parts, Con.name, Con.lo, Con.hi, Con.cap, Con.ad] at hr10
        refine k_ rfl rfl rfl rfl (k_ rfl rfl rfl rfl (k_ rfl rfl rfl rfl (a_ (v_ rfl rfl) rfl (d_ (p_ rfl ?_)))))
        exact met ⟨rfl, rfl, rfl, rfl, rfl, rfl, rfl, rfl, rfl, rfl, rfl, rfl, rfl, rfl, rfl, rfl, rfl, rfl, rfl, rfl, rfl, rfl, rfl, (s_ rfl (jot qr11)), trivial⟩
      ·
       refine d_ (b_ rfl ?_)
       cases r11
       ·
        simp at hr11
        try dsimp only [Con.kind, Con.parts, Con.name, Con.lo, Con.hi, Con.cap, Con.ad] at hr11
        refine A_ rfl (J_ (b_ rfl (g_ (c_ (a_ (e_ rfl) rfl (d_ (b_ rfl (u_ ?_))))))))
        exact Y_ ap_ () (aH_ rfl (by unfold Ax.check; simp only [hus]; simp_all)) (.refl _) (fun _ _ _ => trivial)
       ·
        simp at hr11
        try dsimp only [Con.kind, Con.parts, Con.name, Con.lo, Con.hi, Con.cap, Con.ad] at hr11
        refine w_ rfl (g_ (c_ (a_ (e_ rfl) rfl (d_ (b_ rfl (u_ ?_))))))
        exact Y_ ap_ () (aH_ rfl (by unfold Ax.check; simp only [hus]; simp_all)) (.refl _) (fun _ _ _ => trivial)
    ·
     try dsimp only [Con.kind, Con.parts, Con.name, Con.lo, Con.hi, Con.cap, Con.ad] at hur
     refine w_ rfl (g_ (c_ (a_ (h_ W_ rfl rfl rfl X_) rfl (a_ (M_ 1 aP_ X_ rfl rfl rfl) rfl (K_ (eC_ (.mk kr nr lr hr ar cr pr) hok.right) rfl (.refl _) (fun v _ h => ⟨h.1.2.1, h.2.1, trivial⟩) rfl fun _ => ?_)))))
     refine a_ (e_ rfl) rfl (d_ (b_ rfl (g_ (c_ (a_ (f_ rfl) rfl (E_ (bF_ rfl rfl) rfl fun r13 hr13 => ?_))))))
     refine d_ (b_ rfl ?_)
     cases r13
     ·
      replace hr13 := bw_ hr13
      try dsimp only [Con.kind, Con.parts, Con.name, Con.lo, Con.hi, Con.cap, Con.ad] at hr13
      refine A_ rfl (J_ (b_ rfl (g_ (g_ (c_ (a_ (h_ W_ rfl rfl rfl q_) rfl (a_ (n_ 1 B_ rfl rfl rfl) rfl (d_ (b_ rfl ?_)))))))))
      refine ae_ (g_ (c_ (E_ (aG_ rfl rfl) rfl fun r14 hr14 => ?_)))
      refine a_ (e_ rfl) rfl (d_ (b_ rfl ?_))
      cases r14
      ·
       replace hr14 := ne_of_beq_false hr14
       try dsimp only [Con.kind, Con.parts, Con.name, Con.lo, Con.hi, Con.cap, Con.ad] at hr14
       refine A_ rfl (g_ (g_ (c_ (E_ (aG_ rfl rfl) rfl fun r15 hr15 => ?_))))
       refine a_ (e_ rfl) rfl (d_ (b_ rfl ?_))
       cases r15
       ·
        replace hr15 := ne_of_beq_false hr15
        try dsimp only [Con.kind, Con.parts, Con.name, Con.lo, Con.hi, Con.cap, Con.ad] at hr15
        refine A_ rfl (g_ (c_ (E_ (aG_ rfl rfl) rfl fun r16 hr16 => ?_)))
        refine a_ (e_ rfl) rfl (d_ (b_ rfl ?_))
        cases r16
        ·
         replace hr16 := ne_of_beq_false hr16
         try dsimp only [Con.kind, Con.parts, Con.name, Con.lo, Con.hi, Con.cap, Con.ad] at hr16
         refine A_ rfl (c_ (E_ (aG_ rfl rfl) rfl fun r17 hr17 => ?_))
         refine a_ (e_ rfl) rfl (d_ (b_ rfl ?_))
         cases r17
         ·
          replace hr17 := ne_of_beq_false hr17
          try dsimp only [Con.kind, Con.parts, Con.name, Con.lo, Con.hi, Con.cap, Con.ad] at hr17
          refine A_ rfl (J_ (b_ rfl (g_ (c_ (a_ (e_ rfl) rfl (d_ (b_ rfl (u_ ?_))))))))
          exact Y_ ap_ () (aH_ rfl (by unfold Ax.check; simp only [hus]; simp_all)) (.refl _) (fun _ _ _ => trivial)
         ·
          replace hr17 := eq_of_beq hr17
          try dsimp only [Con.kind, Con.parts, Con.name, Con.lo, Con.hi, Con.cap, Con.ad] at hr17
          refine w_ rfl (g_ (c_ (a_ (h_ W_ rfl rfl rfl X_) rfl (a_ (M_ 1 aP_ X_ rfl rfl rfl) rfl (ah_ (cg_ _ (.mk kr nr lr hr ar cr pr) (Nat.le_refl _) hok.right) rfl (.refl _) (fun v _ h => ⟨h.1.2.1, trivial⟩) rfl fun r18 hr18 => ?_)))))
          refine d_ (b_ rfl ?_)
          cases r18
          ·
           try dsimp only [Con.kind, Con.parts, Con.name, Con.lo, Con.hi, Con.cap, Con.ad] at hr18
           refine A_ rfl (J_ (b_ rfl (g_ (c_ (a_ (e_ rfl) rfl (d_ (b_ rfl (u_ ?_))))))))
           exact Y_ ap_ () (aH_ rfl (by unfold Ax.check; simp only [hus]; simp_all)) (.refl _) (fun _ _ _ => trivial)
          ·
           try dsimp only [Con.kind, Con.parts, Con.name, Con.lo, Con.hi, Con.cap, Con.ad] at hr18
           refine w_ rfl (g_ (c_ (a_ (e_ rfl) rfl (d_ (b_ rfl (u_ ?_))))))
           exact Y_ ap_ () (aH_ rfl (by unfold Ax.check; simp only [hus]; simp_all)) (.refl _) (fun _ _ _ => trivial)
        ·
         replace hr16 := eq_of_beq hr16
         try dsimp only [Con.kind, Con.parts, Con.name, Con.lo, Con.hi, Con.cap, Con.ad] at hr16
         refine w_ rfl (J_ (b_ rfl (w_ rfl (g_ (c_ (a_ (h_ W_ rfl rfl rfl X_) rfl (a_ (M_ 1 aP_ X_ rfl rfl rfl) rfl (ah_ (cg_ _ (.mk kr nr lr hr ar cr pr) (Nat.le_refl _) hok.right) rfl (.refl _) (fun v _ h => ⟨h.1.2.1, trivial⟩) rfl fun r19 hr19 => ?_))))))))
         refine d_ (b_ rfl ?_)
         cases r19
         ·
          try dsimp only [Con.kind, Con.parts, Con.name, Con.lo, Con.hi, Con.cap, Con.ad] at hr19
          refine A_ rfl (J_ (b_ rfl (g_ (c_ (a_ (e_ rfl) rfl (d_ (b_ rfl (u_ ?_))))))))
          exact Y_ ap_ () (aH_ rfl (by unfold Ax.check; simp only [hus]; simp_all)) (.refl _) (fun _ _ _ => trivial)
         ·
          try dsimp only [Con.kind, Con.parts, Con.name, Con.lo, Con.hi, Con.cap, Con.ad] at hr19
          refine w_ rfl (g_ (c_ (a_ (e_ rfl) rfl (d_ (b_ rfl (u_ ?_))))))
          exact Y_ ap_ () (aH_ rfl (by unfold Ax.check; simp only [hus]; simp_all)) (.refl _) (fun _ _ _ => trivial)
       ·
        replace hr15 := eq_of_beq hr15
        try dsimp only [Con.kind, Con.parts, Con.name, Con.lo, Con.hi, Con.cap, Con.ad] at hr15
        refine w_ rfl (J_ (b_ rfl (w_ rfl (g_ (c_ (a_ (h_ W_ rfl rfl rfl X_) rfl (a_ (M_ 1 aP_ X_ rfl rfl rfl) rfl (ah_ (cg_ _ (.mk kr nr lr hr ar cr pr) (Nat.le_refl _) hok.right) rfl (.refl _) (fun v _ h => ⟨h.1.2.1, trivial⟩) rfl fun r20 hr20 => ?_))))))))
        refine d_ (b_ rfl ?_)
        cases r20
        ·
         try dsimp only [Con.kind, Con.parts, Con.name, Con.lo, Con.hi, Con.cap, Con.ad] at hr20
         refine A_ rfl (J_ (b_ rfl (g_ (c_ (a_ (e_ rfl) rfl (d_ (b_ rfl (u_ ?_))))))))
         exact Y_ ap_ () (aH_ rfl (by unfold Ax.check; simp only [hus]; simp_all)) (.refl _) (fun _ _ _ => trivial)
        ·
         try dsimp only [Con.kind, Con.parts, Con.name, Con.lo, Con.hi, Con.cap, Con.ad] at hr20
         refine w_ rfl (g_ (c_ (a_ (e_ rfl) rfl (d_ (b_ rfl (u_ ?_))))))
         exact Y_ ap_ () (aH_ rfl (by unfold Ax.check; simp only [hus]; simp_all)) (.refl _) (fun _ _ _ => trivial)
      ·
       replace hr14 := eq_of_beq hr14
       try dsimp only [Con.kind, Con.parts, Con.name, Con.lo, Con.hi, Con.cap, Con.ad] at hr14
       refine w_ rfl (g_ (c_ (a_ (h_ W_ rfl rfl rfl X_) rfl (a_ (M_ 1 aP_ X_ rfl rfl rfl) rfl (ah_ (cg_ _ (.mk kl nl ll hl al cl pl) (Nat.le_refl _) hok.left) rfl (.refl _) (fun v _ h => ⟨h.1.1, trivial⟩) rfl fun r21 hr21 => ?_)))))
       refine a_ (f_ rfl) rfl ?_
       refine aV_ 4 ((Con.bare (.mk kl nl ll hl al cl pl)) || (Con.bare (.mk kr nr lr hr ar cr pr))) (fun r => [(0, .agg #[.int .i64 k, .bool op, .int .i64 kl, str nl, .int .i64 ll, .int .i64 hl, .slice al pl.length cl, .int .i64 kr, str nr, .int .i64 lr, .int .i64 hr, .slice ar pr.length cr, .slice ad rs.length cap, str ro, str a, str b]), (1, zp_ b1 0), (2, .int .i64 0), (6, .agg #[.int .i64 k, .bool op, .int .i64 kl, str nl, .int .i64 ll, .int .i64 hl, .slice al pl.length cl, .int .i64 kr, str nr, .int .i64 lr, .int .i64 hr, .slice ar pr.length cr, .slice ad rs.length cap, str ro, str a, str b]), (7, .bool true), (8, .bool false), (9, zp_ b1 0), (10, .int .i64 k), (11, .pointer (some (rad (some ⟨0, 0, none⟩) (k.toNat * 7)))), (12, .agg #[.bool false, .bool true, .bool uo, .bool ua, .bool ub, .int .i64 um, .int .i64 un]), (3, zp_ b2 0), (13, .agg #[.int .i64 k, .bool op, .int .i64 kl, str nl, .int .i64 ll, .int .i64 hl, .slice al pl.length cl, .int .i64 kr, str nr, .int .i64 lr, .int .i64 hr, .slice ar pr.length cr, .slice ad rs.length cap, str ro, str a, str b]), (14, .agg #[.bool false, .bool true, .bool uo, .bool ua, .bool ub, .int .i64 um, .int .i64 un]), (15, .bool true), (16, .bool false), (17, zp_ b2 0), (18, .bool false), (25, zp_ b2 1), (26, .bool true), (27, zp_ b1 7), (28, .agg #[.int .i64 kr, str nr, .int .i64 lr, .int .i64 hr, .slice ar pr.length cr]), (29, .int .i64 (Con.check (.mk kr nr lr hr ar cr pr))), (5, .int .i64 (Con.check (.mk kr nr lr hr ar cr pr))), (30, .int .i64 (Con.check (.mk kr nr lr hr ar cr pr))), (31, .bool false), (33, zp_ b1 0), (34, .int .i64 k), (36, .bool true), (35, .bool true), (44, .bool r)]) ?_ fun r22 hr22 => ?_
       ·
        cases r21
        ·
         have qr22 := hr21
         try dsimp only [Con.kind, Con.parts, Con.name, Con.lo, Con.hi, Con.cap, Con.ad] at hr21
         refine i_ rfl rfl (a_ (h_ W_ rfl rfl rfl X_) rfl (i_ rfl rfl (a_ (M_ 1 aP_ X_ rfl rfl rfl) rfl (i_ rfl rfl (ah_ (cg_ _ (.mk kr nr lr hr ar cr pr) (Nat.le_refl _) hok.right) rfl (.refl _) (fun v _ h => ⟨h.1.2.1, trivial⟩) rfl fun r23 hr23 => ?_)))))
         refine a_ (t_ rfl rfl) rfl (d_ (p_ rfl ?_))
         exact met ⟨rfl, rfl, rfl, rfl, rfl, rfl, rfl, rfl, rfl, rfl, rfl, rfl, rfl, rfl, rfl, rfl, rfl, rfl, rfl, rfl, rfl, rfl, rfl, rfl, rfl, rfl, rfl, rfl, rfl, (s_ rfl (jof qr22 hr23)), trivial⟩
        ·
         have qr22 := hr21
         try dsimp only [Con.kind, Con.parts, Con.name, Con.lo, Con.hi, Con.cap, Con.ad] at hr21
         refine k_ rfl rfl rfl rfl (k_ rfl rfl rfl rfl (k_ rfl rfl rfl rfl (a_ (v_ rfl rfl) rfl (d_ (p_ rfl ?_)))))
         exact met ⟨rfl, rfl, rfl, rfl, rfl, rfl, rfl, rfl, rfl, rfl, rfl, rfl, rfl, rfl, rfl, rfl, rfl, rfl, rfl, rfl, rfl, rfl, rfl, rfl, rfl, rfl, rfl, rfl, rfl, (s_ rfl (jot qr22)), trivial⟩
       ·
        refine d_ (b_ rfl ?_)
        cases r22
        ·
         simp at hr22
         try dsimp only [Con.kind, Con.parts, Con.name, Con.lo, Con.hi, Con.cap, Con.ad] at hr22
         refine A_ rfl (J_ (b_ rfl (g_ (c_ (a_ (e_ rfl) rfl (d_ (b_ rfl (u_ ?_))))))))
         exact Y_ ap_ () (aH_ rfl (by unfold Ax.check; simp only [hus]; simp_all)) (.refl _) (fun _ _ _ => trivial)
        ·
         simp at hr22
         try dsimp only [Con.kind, Con.parts, Con.name, Con.lo, Con.hi, Con.cap, Con.ad] at hr22
         refine w_ rfl (g_ (c_ (a_ (e_ rfl) rfl (d_ (b_ rfl (u_ ?_))))))
         exact Y_ ap_ () (aH_ rfl (by unfold Ax.check; simp only [hus]; simp_all)) (.refl _) (fun _ _ _ => trivial)
     ·
      replace hr13 := bv_ hr13
      try dsimp only [Con.kind, Con.parts, Con.name, Con.lo, Con.hi, Con.cap, Con.ad] at hr13
      refine w_ rfl (g_ (c_ (a_ (f_ rfl) rfl (a_ (e_ rfl) rfl (d_ (b_ rfl (u_ ?_)))))))
      exact Y_ ap_ () (aH_ rfl (by unfold Ax.check; simp only [hus]; simp_all)) (.refl _) (fun _ _ _ => trivial)
   ·
    try dsimp only [Con.kind, Con.parts, Con.name, Con.lo, Con.hi, Con.cap, Con.ad] at hul
    refine w_ rfl (g_ (c_ (a_ (h_ W_ rfl rfl rfl X_) rfl (a_ (M_ 1 aP_ X_ rfl rfl rfl) rfl (K_ (eC_ (.mk kl nl ll hl al cl pl) hok.left) rfl (.refl _) (fun v _ h => ⟨h.1.1, h.2.1, trivial⟩) rfl fun _ => ?_)))))
    refine a_ (e_ rfl) rfl (d_ (b_ rfl (g_ (c_ (a_ (f_ rfl) rfl (E_ (bF_ rfl rfl) rfl fun r24 hr24 => ?_))))))
    refine d_ (b_ rfl ?_)
    cases r24
    ·
     replace hr24 := bw_ hr24
     try dsimp only [Con.kind, Con.parts, Con.name, Con.lo, Con.hi, Con.cap, Con.ad] at hr24
     refine A_ rfl (J_ (b_ rfl (g_ (g_ (c_ (a_ (h_ bB_ rfl rfl rfl aI_) rfl (a_ (n_ 0 bg_ rfl rfl rfl) rfl (d_ (b_ rfl ?_)))))))))
     cases ur
     ·
      try dsimp only [Con.kind, Con.parts, Con.name, Con.lo, Con.hi, Con.cap, Con.ad] at hur
      refine A_ rfl (J_ (b_ rfl (g_ (g_ (c_ (a_ (h_ W_ rfl rfl rfl q_) rfl (a_ (n_ 1 B_ rfl rfl rfl) rfl (d_ (b_ rfl ?_)))))))))
      refine ae_ (g_ (c_ (E_ (aG_ rfl rfl) rfl fun r25 hr25 => ?_)))
      refine a_ (e_ rfl) rfl (d_ (b_ rfl ?_))
      cases r25
      ·
       replace hr25 := ne_of_beq_false hr25
       try dsimp only [Con.kind, Con.parts, Con.name, Con.lo, Con.hi, Con.cap, Con.ad] at hr25
       refine A_ rfl (g_ (g_ (c_ (E_ (aG_ rfl rfl) rfl fun r26 hr26 => ?_))))
       refine a_ (e_ rfl) rfl (d_ (b_ rfl ?_))
       cases r26
       ·
        replace hr26 := ne_of_beq_false hr26
        try dsimp only [Con.kind, Con.parts, Con.name, Con.lo, Con.hi, Con.cap, Con.ad] at hr26
        refine A_ rfl (g_ (c_ (E_ (aG_ rfl rfl) rfl fun r27 hr27 => ?_)))
        refine a_ (e_ rfl) rfl (d_ (b_ rfl ?_))
        cases r27
        ·
         replace hr27 := ne_of_beq_false hr27
         try dsimp only [Con.kind, Con.parts, Con.name, Con.lo, Con.hi, Con.cap, Con.ad] at hr27
         refine A_ rfl (c_ (E_ (aG_ rfl rfl) rfl fun r28 hr28 => ?_))
         refine a_ (e_ rfl) rfl (d_ (b_ rfl ?_))
         cases r28
         ·
          replace hr28 := ne_of_beq_false hr28
          try dsimp only [Con.kind, Con.parts, Con.name, Con.lo, Con.hi, Con.cap, Con.ad] at hr28
          refine A_ rfl (J_ (b_ rfl (g_ (c_ (a_ (e_ rfl) rfl (d_ (b_ rfl (u_ ?_))))))))
          exact Y_ ap_ () (aH_ rfl (by unfold Ax.check; simp only [hus]; simp_all)) (.refl _) (fun _ _ _ => trivial)
         ·
          replace hr28 := eq_of_beq hr28
          try dsimp only [Con.kind, Con.parts, Con.name, Con.lo, Con.hi, Con.cap, Con.ad] at hr28
          refine w_ rfl (g_ (c_ (a_ (h_ W_ rfl rfl rfl X_) rfl (a_ (M_ 1 aP_ X_ rfl rfl rfl) rfl (ah_ (cg_ _ (.mk kr nr lr hr ar cr pr) (Nat.le_refl _) hok.right) rfl (.refl _) (fun v _ h => ⟨h.1.2.1, trivial⟩) rfl fun r29 hr29 => ?_)))))
          refine d_ (b_ rfl ?_)
          cases r29
          ·
           try dsimp only [Con.kind, Con.parts, Con.name, Con.lo, Con.hi, Con.cap, Con.ad] at hr29
           refine A_ rfl (J_ (b_ rfl (g_ (c_ (a_ (e_ rfl) rfl (d_ (b_ rfl (u_ ?_))))))))
           exact Y_ ap_ () (aH_ rfl (by unfold Ax.check; simp only [hus]; simp_all)) (.refl _) (fun _ _ _ => trivial)
          ·
           try dsimp only [Con.kind, Con.parts, Con.name, Con.lo, Con.hi, Con.cap, Con.ad] at hr29
           refine w_ rfl (g_ (c_ (a_ (e_ rfl) rfl (d_ (b_ rfl (u_ ?_))))))
           exact Y_ ap_ () (aH_ rfl (by unfold Ax.check; simp only [hus]; simp_all)) (.refl _) (fun _ _ _ => trivial)
        ·
         replace hr27 := eq_of_beq hr27
         try dsimp only [Con.kind, Con.parts, Con.name, Con.lo, Con.hi, Con.cap, Con.ad] at hr27
         refine w_ rfl (J_ (b_ rfl (w_ rfl (g_ (c_ (a_ (h_ W_ rfl rfl rfl X_) rfl (a_ (M_ 1 aP_ X_ rfl rfl rfl) rfl (ah_ (cg_ _ (.mk kr nr lr hr ar cr pr) (Nat.le_refl _) hok.right) rfl (.refl _) (fun v _ h => ⟨h.1.2.1, trivial⟩) rfl fun r30 hr30 => ?_))))))))
         refine d_ (b_ rfl ?_)
         cases r30
         ·
          try dsimp only [Con.kind, Con.parts, Con.name, Con.lo, Con.hi, Con.cap, Con.ad] at hr30
          refine A_ rfl (J_ (b_ rfl (g_ (c_ (a_ (e_ rfl) rfl (d_ (b_ rfl (u_ ?_))))))))
          exact Y_ ap_ () (aH_ rfl (by unfold Ax.check; simp only [hus]; simp_all)) (.refl _) (fun _ _ _ => trivial)
         ·
          try dsimp only [Con.kind, Con.parts, Con.name, Con.lo, Con.hi, Con.cap, Con.ad] at hr30
          refine w_ rfl (g_ (c_ (a_ (e_ rfl) rfl (d_ (b_ rfl (u_ ?_))))))
          exact Y_ ap_ () (aH_ rfl (by unfold Ax.check; simp only [hus]; simp_all)) (.refl _) (fun _ _ _ => trivial)
       ·
        replace hr26 := eq_of_beq hr26
        try dsimp only [Con.kind, Con.parts, Con.name, Con.lo, Con.hi, Con.cap, Con.ad] at hr26
        refine w_ rfl (J_ (b_ rfl (w_ rfl (g_ (c_ (a_ (h_ W_ rfl rfl rfl X_) rfl (a_ (M_ 1 aP_ X_ rfl rfl rfl) rfl (ah_ (cg_ _ (.mk kr nr lr hr ar cr pr) (Nat.le_refl _) hok.right) rfl (.refl _) (fun v _ h => ⟨h.1.2.1, trivial⟩) rfl fun r31 hr31 => ?_))))))))
        refine d_ (b_ rfl ?_)
        cases r31
        ·
         try dsimp only [Con.kind, Con.parts, Con.name, Con.lo, Con.hi, Con.cap, Con.ad] at hr31
         refine A_ rfl (J_ (b_ rfl (g_ (c_ (a_ (e_ rfl) rfl (d_ (b_ rfl (u_ ?_))))))))
         exact Y_ ap_ () (aH_ rfl (by unfold Ax.check; simp only [hus]; simp_all)) (.refl _) (fun _ _ _ => trivial)
        ·
         try dsimp only [Con.kind, Con.parts, Con.name, Con.lo, Con.hi, Con.cap, Con.ad] at hr31
         refine w_ rfl (g_ (c_ (a_ (e_ rfl) rfl (d_ (b_ rfl (u_ ?_))))))
         exact Y_ ap_ () (aH_ rfl (by unfold Ax.check; simp only [hus]; simp_all)) (.refl _) (fun _ _ _ => trivial)
      ·
       replace hr25 := eq_of_beq hr25
       try dsimp only [Con.kind, Con.parts, Con.name, Con.lo, Con.hi, Con.cap, Con.ad] at hr25
       refine w_ rfl (g_ (c_ (a_ (h_ W_ rfl rfl rfl X_) rfl (a_ (M_ 1 aP_ X_ rfl rfl rfl) rfl (ah_ (cg_ _ (.mk kl nl ll hl al cl pl) (Nat.le_refl _) hok.left) rfl (.refl _) (fun v _ h => ⟨h.1.1, trivial⟩) rfl fun r32 hr32 => ?_)))))
       refine a_ (f_ rfl) rfl ?_
       refine aV_ 4 ((Con.bare (.mk kl nl ll hl al cl pl)) || (Con.bare (.mk kr nr lr hr ar cr pr))) (fun r => [(0, .agg #[.int .i64 k, .bool op, .int .i64 kl, str nl, .int .i64 ll, .int .i64 hl, .slice al pl.length cl, .int .i64 kr, str nr, .int .i64 lr, .int .i64 hr, .slice ar pr.length cr, .slice ad rs.length cap, str ro, str a, str b]), (1, zp_ b1 0), (2, .int .i64 0), (6, .agg #[.int .i64 k, .bool op, .int .i64 kl, str nl, .int .i64 ll, .int .i64 hl, .slice al pl.length cl, .int .i64 kr, str nr, .int .i64 lr, .int .i64 hr, .slice ar pr.length cr, .slice ad rs.length cap, str ro, str a, str b]), (7, .bool true), (8, .bool false), (9, zp_ b1 0), (10, .int .i64 k), (11, .pointer (some (rad (some ⟨0, 0, none⟩) (k.toNat * 7)))), (12, .agg #[.bool true, .bool false, .bool uo, .bool ua, .bool ub, .int .i64 um, .int .i64 un]), (3, zp_ b2 0), (13, .agg #[.int .i64 k, .bool op, .int .i64 kl, str nl, .int .i64 ll, .int .i64 hl, .slice al pl.length cl, .int .i64 kr, str nr, .int .i64 lr, .int .i64 hr, .slice ar pr.length cr, .slice ad rs.length cap, str ro, str a, str b]), (14, .agg #[.bool true, .bool false, .bool uo, .bool ua, .bool ub, .int .i64 um, .int .i64 un]), (15, .bool true), (16, .bool false), (17, zp_ b2 0), (18, .bool true), (19, zp_ b1 2), (20, .agg #[.int .i64 kl, str nl, .int .i64 ll, .int .i64 hl, .slice al pl.length cl]), (21, .int .i64 (Con.check (.mk kl nl ll hl al cl pl))), (4, .int .i64 (Con.check (.mk kl nl ll hl al cl pl))), (22, .int .i64 (Con.check (.mk kl nl ll hl al cl pl))), (23, .bool false), (25, zp_ b2 1), (26, .bool false), (33, zp_ b1 0), (34, .int .i64 k), (36, .bool true), (35, .bool true), (44, .bool r)]) ?_ fun r33 hr33 => ?_
       ·
        cases r32
        ·
         have qr33 := hr32
         try dsimp only [Con.kind, Con.parts, Con.name, Con.lo, Con.hi, Con.cap, Con.ad] at hr32
         refine i_ rfl rfl (a_ (h_ W_ rfl rfl rfl X_) rfl (i_ rfl rfl (a_ (M_ 1 aP_ X_ rfl rfl rfl) rfl (i_ rfl rfl (ah_ (cg_ _ (.mk kr nr lr hr ar cr pr) (Nat.le_refl _) hok.right) rfl (.refl _) (fun v _ h => ⟨h.1.2.1, trivial⟩) rfl fun r34 hr34 => ?_)))))
         refine a_ (t_ rfl rfl) rfl (d_ (p_ rfl ?_))
         exact met ⟨rfl, rfl, rfl, rfl, rfl, rfl, rfl, rfl, rfl, rfl, rfl, rfl, rfl, rfl, rfl, rfl, rfl, rfl, rfl, rfl, rfl, rfl, rfl, rfl, rfl, rfl, rfl, rfl, rfl, (s_ rfl (jof qr33 hr34)), trivial⟩
        ·
         have qr33 := hr32
         try dsimp only [Con.kind, Con.parts, Con.name, Con.lo, Con.hi, Con.cap, Con.ad] at hr32
         refine k_ rfl rfl rfl rfl (k_ rfl rfl rfl rfl (k_ rfl rfl rfl rfl (a_ (v_ rfl rfl) rfl (d_ (p_ rfl ?_)))))
         exact met ⟨rfl, rfl, rfl, rfl, rfl, rfl, rfl, rfl, rfl, rfl, rfl, rfl, rfl, rfl, rfl, rfl, rfl, rfl, rfl, rfl, rfl, rfl, rfl, rfl, rfl, rfl, rfl, rfl, rfl, (s_ rfl (jot qr33)), trivial⟩
       ·
        refine d_ (b_ rfl ?_)
        cases r33
        ·
         simp at hr33
         try dsimp only [Con.kind, Con.parts, Con.name, Con.lo, Con.hi, Con.cap, Con.ad] at hr33
         refine A_ rfl (J_ (b_ rfl (g_ (c_ (a_ (e_ rfl) rfl (d_ (b_ rfl (u_ ?_))))))))
         exact Y_ ap_ () (aH_ rfl (by unfold Ax.check; simp only [hus]; simp_all)) (.refl _) (fun _ _ _ => trivial)
        ·
         simp at hr33
         try dsimp only [Con.kind, Con.parts, Con.name, Con.lo, Con.hi, Con.cap, Con.ad] at hr33
         refine w_ rfl (g_ (c_ (a_ (e_ rfl) rfl (d_ (b_ rfl (u_ ?_))))))
         exact Y_ ap_ () (aH_ rfl (by unfold Ax.check; simp only [hus]; simp_all)) (.refl _) (fun _ _ _ => trivial)
     ·
      try dsimp only [Con.kind, Con.parts, Con.name, Con.lo, Con.hi, Con.cap, Con.ad] at hur
      refine w_ rfl (g_ (c_ (a_ (h_ W_ rfl rfl rfl X_) rfl (a_ (M_ 1 aP_ X_ rfl rfl rfl) rfl (K_ (eC_ (.mk kr nr lr hr ar cr pr) hok.right) rfl (.refl _) (fun v _ h => ⟨h.1.2.1, h.2.1, trivial⟩) rfl fun _ => ?_)))))
      refine a_ (e_ rfl) rfl (d_ (b_ rfl (g_ (c_ (a_ (f_ rfl) rfl (E_ (bF_ rfl rfl) rfl fun r35 hr35 => ?_))))))
      refine d_ (b_ rfl ?_)
      cases r35
      ·
       replace hr35 := bw_ hr35
       try dsimp only [Con.kind, Con.parts, Con.name, Con.lo, Con.hi, Con.cap, Con.ad] at hr35
       refine A_ rfl (J_ (b_ rfl (g_ (g_ (c_ (a_ (h_ W_ rfl rfl rfl q_) rfl (a_ (n_ 1 B_ rfl rfl rfl) rfl (d_ (b_ rfl ?_)))))))))
       refine ae_ (g_ (c_ (E_ (aG_ rfl rfl) rfl fun r36 hr36 => ?_)))
       refine a_ (e_ rfl) rfl (d_ (b_ rfl ?_))
       cases r36
       ·
        replace hr36 := ne_of_beq_false hr36
        try dsimp only [Con.kind, Con.parts, Con.name, Con.lo, Con.hi, Con.cap, Con.ad] at hr36
        refine A_ rfl (g_ (g_ (c_ (E_ (aG_ rfl rfl) rfl fun r37 hr37 => ?_))))
        refine a_ (e_ rfl) rfl (d_ (b_ rfl ?_))
        cases r37
        ·
         replace hr37 := ne_of_beq_false hr37
         try dsimp only [Con.kind, Con.parts, Con.name, Con.lo, Con.hi, Con.cap, Con.ad] at hr37
         refine A_ rfl (g_ (c_ (E_ (aG_ rfl rfl) rfl fun r38 hr38 => ?_)))
         refine a_ (e_ rfl) rfl (d_ (b_ rfl ?_))
         cases r38
         ·
          replace hr38 := ne_of_beq_false hr38
          try dsimp only [Con.kind, Con.parts, Con.name, Con.lo, Con.hi, Con.cap, Con.ad] at hr38
          refine A_ rfl (c_ (E_ (aG_ rfl rfl) rfl fun r39 hr39 => ?_))
          refine a_ (e_ rfl) rfl (d_ (b_ rfl ?_))
          cases r39
          ·
           replace hr39 := ne_of_beq_false hr39
           try dsimp only [Con.kind, Con.parts, Con.name, Con.lo, Con.hi, Con.cap, Con.ad] at hr39
           refine A_ rfl (J_ (b_ rfl (g_ (c_ (a_ (e_ rfl) rfl (d_ (b_ rfl (u_ ?_))))))))
           exact Y_ ap_ () (aH_ rfl (by unfold Ax.check; simp only [hus]; simp_all)) (.refl _) (fun _ _ _ => trivial)
          ·
           replace hr39 := eq_of_beq hr39
           try dsimp only [Con.kind, Con.parts, Con.name, Con.lo, Con.hi, Con.cap, Con.ad] at hr39
           refine w_ rfl (g_ (c_ (a_ (h_ W_ rfl rfl rfl X_) rfl (a_ (M_ 1 aP_ X_ rfl rfl rfl) rfl (ah_ (cg_ _ (.mk kr nr lr hr ar cr pr) (Nat.le_refl _) hok.right) rfl (.refl _) (fun v _ h => ⟨h.1.2.1, trivial⟩) rfl fun r40 hr40 => ?_)))))
           refine d_ (b_ rfl ?_)
           cases r40
           ·
            try dsimp only [Con.kind, Con.parts, Con.name, Con.lo, Con.hi, Con.cap, Con.ad] at hr40
            refine A_ rfl (J_ (b_ rfl (g_ (c_ (a_ (e_ rfl) rfl (d_ (b_ rfl (u_ ?_))))))))
            exact Y_ ap_ () (aH_ rfl (by unfold Ax.check; simp only [hus]; simp_all)) (.refl _) (fun _ _ _ => trivial)
           ·
            try dsimp only [Con.kind, Con.parts, Con.name, Con.lo, Con.hi, Con.cap, Con.ad] at hr40
            refine w_ rfl (g_ (c_ (a_ (e_ rfl) rfl (d_ (b_ rfl (u_ ?_))))))
            exact Y_ ap_ () (aH_ rfl (by unfold Ax.check; simp only [hus]; simp_all)) (.refl _) (fun _ _ _ => trivial)
         ·
          replace hr38 := eq_of_beq hr38
          try dsimp only [Con.kind, Con.parts, Con.name, Con.lo, Con.hi, Con.cap, Con.ad] at hr38
          refine w_ rfl (J_ (b_ rfl (w_ rfl (g_ (c_ (a_ (h_ W_ rfl rfl rfl X_) rfl (a_ (M_ 1 aP_ X_ rfl rfl rfl) rfl (ah_ (cg_ _ (.mk kr nr lr hr ar cr pr) (Nat.le_refl _) hok.right) rfl (.refl _) (fun v _ h => ⟨h.1.2.1, trivial⟩) rfl fun r41 hr41 => ?_))))))))
          refine d_ (b_ rfl ?_)
          cases r41
          ·
           try dsimp only [Con.kind, Con.parts, Con.name, Con.lo, Con.hi, Con.cap, Con.ad] at hr41
           refine A_ rfl (J_ (b_ rfl (g_ (c_ (a_ (e_ rfl) rfl (d_ (b_ rfl (u_ ?_))))))))
           exact Y_ ap_ () (aH_ rfl (by unfold Ax.check; simp only [hus]; simp_all)) (.refl _) (fun _ _ _ => trivial)
          ·
           try dsimp only [Con.kind, Con.parts, Con.name, Con.lo, Con.hi, Con.cap, Con.ad] at hr41
           refine w_ rfl (g_ (c_ (a_ (e_ rfl) rfl (d_ (b_ rfl (u_ ?_))))))
           exact Y_ ap_ () (aH_ rfl (by unfold Ax.check; simp only [hus]; simp_all)) (.refl _) (fun _ _ _ => trivial)
        ·
         replace hr37 := eq_of_beq hr37
         try dsimp only [Con.kind, Con.parts, Con.name, Con.lo, Con.hi, Con.cap, Con.ad] at hr37
         refine w_ rfl (J_ (b_ rfl (w_ rfl (g_ (c_ (a_ (h_ W_ rfl rfl rfl X_) rfl (a_ (M_ 1 aP_ X_ rfl rfl rfl) rfl (ah_ (cg_ _ (.mk kr nr lr hr ar cr pr) (Nat.le_refl _) hok.right) rfl (.refl _) (fun v _ h => ⟨h.1.2.1, trivial⟩) rfl fun r42 hr42 => ?_))))))))
         refine d_ (b_ rfl ?_)
         cases r42
         ·
          try dsimp only [Con.kind, Con.parts, Con.name, Con.lo, Con.hi, Con.cap, Con.ad] at hr42
          refine A_ rfl (J_ (b_ rfl (g_ (c_ (a_ (e_ rfl) rfl (d_ (b_ rfl (u_ ?_))))))))
          exact Y_ ap_ () (aH_ rfl (by unfold Ax.check; simp only [hus]; simp_all)) (.refl _) (fun _ _ _ => trivial)
         ·
          try dsimp only [Con.kind, Con.parts, Con.name, Con.lo, Con.hi, Con.cap, Con.ad] at hr42
          refine w_ rfl (g_ (c_ (a_ (e_ rfl) rfl (d_ (b_ rfl (u_ ?_))))))
          exact Y_ ap_ () (aH_ rfl (by unfold Ax.check; simp only [hus]; simp_all)) (.refl _) (fun _ _ _ => trivial)
       ·
        replace hr36 := eq_of_beq hr36
        try dsimp only [Con.kind, Con.parts, Con.name, Con.lo, Con.hi, Con.cap, Con.ad] at hr36
        refine w_ rfl (g_ (c_ (a_ (h_ W_ rfl rfl rfl X_) rfl (a_ (M_ 1 aP_ X_ rfl rfl rfl) rfl (ah_ (cg_ _ (.mk kl nl ll hl al cl pl) (Nat.le_refl _) hok.left) rfl (.refl _) (fun v _ h => ⟨h.1.1, trivial⟩) rfl fun r43 hr43 => ?_)))))
        refine a_ (f_ rfl) rfl ?_
        refine aV_ 4 ((Con.bare (.mk kl nl ll hl al cl pl)) || (Con.bare (.mk kr nr lr hr ar cr pr))) (fun r => [(0, .agg #[.int .i64 k, .bool op, .int .i64 kl, str nl, .int .i64 ll, .int .i64 hl, .slice al pl.length cl, .int .i64 kr, str nr, .int .i64 lr, .int .i64 hr, .slice ar pr.length cr, .slice ad rs.length cap, str ro, str a, str b]), (1, zp_ b1 0), (2, .int .i64 0), (6, .agg #[.int .i64 k, .bool op, .int .i64 kl, str nl, .int .i64 ll, .int .i64 hl, .slice al pl.length cl, .int .i64 kr, str nr, .int .i64 lr, .int .i64 hr, .slice ar pr.length cr, .slice ad rs.length cap, str ro, str a, str b]), (7, .bool true), (8, .bool false), (9, zp_ b1 0), (10, .int .i64 k), (11, .pointer (some (rad (some ⟨0, 0, none⟩) (k.toNat * 7)))), (12, .agg #[.bool true, .bool true, .bool uo, .bool ua, .bool ub, .int .i64 um, .int .i64 un]), (3, zp_ b2 0), (13, .agg #[.int .i64 k, .bool op, .int .i64 kl, str nl, .int .i64 ll, .int .i64 hl, .slice al pl.length cl, .int .i64 kr, str nr, .int .i64 lr, .int .i64 hr, .slice ar pr.length cr, .slice ad rs.length cap, str ro, str a, str b]), (14, .agg #[.bool true, .bool true, .bool uo, .bool ua, .bool ub, .int .i64 um, .int .i64 un]), (15, .bool true), (16, .bool false), (17, zp_ b2 0), (18, .bool true), (19, zp_ b1 2), (20, .agg #[.int .i64 kl, str nl, .int .i64 ll, .int .i64 hl, .slice al pl.length cl]), (21, .int .i64 (Con.check (.mk kl nl ll hl al cl pl))), (4, .int .i64 (Con.check (.mk kl nl ll hl al cl pl))), (22, .int .i64 (Con.check (.mk kl nl ll hl al cl pl))), (23, .bool false), (25, zp_ b2 1), (26, .bool true), (27, zp_ b1 7), (28, .agg #[.int .i64 kr, str nr, .int .i64 lr, .int .i64 hr, .slice ar pr.length cr]), (29, .int .i64 (Con.check (.mk kr nr lr hr ar cr pr))), (5, .int .i64 (Con.check (.mk kr nr lr hr ar cr pr))), (30, .int .i64 (Con.check (.mk kr nr lr hr ar cr pr))), (31, .bool false), (33, zp_ b1 0), (34, .int .i64 k), (36, .bool true), (35, .bool true), (44, .bool r)]) ?_ fun r44 hr44 => ?_
        ·
         cases r43
         ·
          have qr44 := hr43
          try dsimp only [Con.kind, Con.parts, Con.name, Con.lo, Con.hi, Con.cap, Con.ad] at hr43
          refine i_ rfl rfl (a_ (h_ W_ rfl rfl rfl X_) rfl (i_ rfl rfl (a_ (M_ 1 aP_ X_ rfl rfl rfl) rfl (i_ rfl rfl (ah_ (cg_ _ (.mk kr nr lr hr ar cr pr) (Nat.le_refl _) hok.right) rfl (.refl _) (fun v _ h => ⟨h.1.2.1, trivial⟩) rfl fun r45 hr45 => ?_)))))
          refine a_ (t_ rfl rfl) rfl (d_ (p_ rfl ?_))
          exact met ⟨rfl, rfl, rfl, rfl, rfl, rfl, rfl, rfl, rfl, rfl, rfl, rfl, rfl, rfl, rfl, rfl, rfl, rfl, rfl, rfl, rfl, rfl, rfl, rfl, rfl, rfl, rfl, rfl, rfl, rfl, rfl, rfl, rfl, rfl, rfl, (s_ rfl (jof qr44 hr45)), trivial⟩
         ·
          have qr44 := hr43
          try dsimp only [Con.kind, Con.parts, Con.name, Con.lo, Con.hi, Con.cap, Con.ad] at hr43
          refine k_ rfl rfl rfl rfl (k_ rfl rfl rfl rfl (k_ rfl rfl rfl rfl (a_ (v_ rfl rfl) rfl (d_ (p_ rfl ?_)))))
          exact met ⟨rfl, rfl, rfl, rfl, rfl, rfl, rfl, rfl, rfl, rfl, rfl, rfl, rfl, rfl, rfl, rfl, rfl, rfl, rfl, rfl, rfl, rfl, rfl, rfl, rfl, rfl, rfl, rfl, rfl, rfl, rfl, rfl, rfl, rfl, rfl, (s_ rfl (jot qr44)), trivial⟩
        ·
         refine d_ (b_ rfl ?_)
         cases r44
         ·
          simp at hr44
          try dsimp only [Con.kind, Con.parts, Con.name, Con.lo, Con.hi, Con.cap, Con.ad] at hr44
          refine A_ rfl (J_ (b_ rfl (g_ (c_ (a_ (e_ rfl) rfl (d_ (b_ rfl (u_ ?_))))))))
          exact Y_ ap_ () (aH_ rfl (by unfold Ax.check; simp only [hus]; simp_all)) (.refl _) (fun _ _ _ => trivial)
         ·
          simp at hr44
          try dsimp only [Con.kind, Con.parts, Con.name, Con.lo, Con.hi, Con.cap, Con.ad] at hr44
          refine w_ rfl (g_ (c_ (a_ (e_ rfl) rfl (d_ (b_ rfl (u_ ?_))))))
          exact Y_ ap_ () (aH_ rfl (by unfold Ax.check; simp only [hus]; simp_all)) (.refl _) (fun _ _ _ => trivial)
      ·
       replace hr35 := bv_ hr35
       try dsimp only [Con.kind, Con.parts, Con.name, Con.lo, Con.hi, Con.cap, Con.ad] at hr35
       refine w_ rfl (g_ (c_ (a_ (f_ rfl) rfl (a_ (e_ rfl) rfl (d_ (b_ rfl (u_ ?_)))))))
       exact Y_ ap_ () (aH_ rfl (by unfold Ax.check; simp only [hus]; simp_all)) (.refl _) (fun _ _ _ => trivial)
    ·
     replace hr24 := bv_ hr24
     try dsimp only [Con.kind, Con.parts, Con.name, Con.lo, Con.hi, Con.cap, Con.ad] at hr24
     refine w_ rfl (g_ (c_ (a_ (f_ rfl) rfl (a_ (e_ rfl) rfl (d_ (b_ rfl (u_ ?_)))))))
     exact Y_ ap_ () (aH_ rfl (by unfold Ax.check; simp only [hus]; simp_all)) (.refl _) (fun _ _ _ => trivial)
end Go.Proofs.YtaffcjgphlhppaaGreatDoor
namespace Go.Proofs.YtaffcjgphlhppaaGreatDoor
open Go Go.Sx Go.Proofs
attribute [local irreducible] Code.wp wpList wpAnyH
open Go.Vs
theorem eqFc (p q : Fc) (w : World) : (Op.equalIn 10000 24 p.val q.val).run Tryz.prog w = .ok (decide (p = q)) w := by
  have h := run_equalIn_struct (P := Tryz.prog) w 9999 24 p.cells.toArray q.cells.toArray (by simp only [Program.fieldsOf, Tryz.underlying24]) Tryz.stoodInHeld24
  refine h.trans ?_
  rw [← Fc.eqb_eq]
  simp only [Program.fieldsOf, Tryz.underlying24]
  exact fc_ rfl B_ rfl rfl (eqI aT_ w) (fc_ rfl H_ rfl rfl (eqS bR_ w) (fc_ rfl H_ rfl rfl (eqS bR_ w) (fc_ rfl H_ rfl rfl (eqS bR_ w) (fc_ rfl B_ rfl rfl (eqI aT_ w) (fc_ rfl B_ rfl rfl (eqI aT_ w) (pO_ w))))))
theorem gc_ : gH_ Tryz.prog 24 [(0, 1), (1, 1), (2, 1), (3, 1), (4, 1), (5, 1)] [.int .i64 0, str [], str [], str [], .int .i64 0, .int .i64 0] := ⟨_, bl_, o_, fun w => by simp [q_, y_]⟩
end Go.Proofs.YtaffcjgphlhppaaGreatDoor
