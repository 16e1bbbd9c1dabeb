/-
  Part of the proof of the law SaturateAllSpec over this seat: the small logic, the data, the contracts of functions (no condition).
-/
import Derived.Test.YtpdbbglpbngeiaaGreatDoorQSaturateAllSpec6
import Derived.Test.YtpdbbglpbngeiaaGreatDoorQSaturateAllSpec2
set_option linter.unusedVariables false
set_option linter.unusedSimpArgs false
set_option linter.unusedSectionVars false
namespace Go.Proofs.YtpdbbglpbngeiaaGreatDoor
open Go Go.Sx Go.Proofs
attribute [local irreducible] Code.wp wpList wpAnyH
open Go.Vs
theorem iY_ {K : Type} [DecidableEq K] {l : List K} {i : Nat} {a : K} (hn : l.Nodup) (h : l[i]? = some a) : (if a ∈ l.take i then l.take i else l.take i ++ [a]) = l.take (i + 1) := by
  have ha : a ∉ l.take i := fun hm => by
    obtain ⟨h1, h2⟩ := List.getElem?_eq_some_iff.1 h
    obtain ⟨j, h3, h4⟩ := List.mem_take_iff_getElem.1 hm
    exact List.pairwise_iff_getElem.1 hn j i (by omega) h1 (by omega) (h4.trans h2.symm)
  rw [if_neg ha, List.take_add_one, h, Option.toList_some]
theorem mp_.nodup {l : List Str} (h : mp_ l) : l.Nodup := by
  unfold List.Nodup
  refine List.Pairwise.imp ?_ h
  intro a b hab e
  exact ec_ b (e ▸ hab)
theorem jL_ {at' : List Str} {fs : List Fc} (h : ¬ ChkC at' fs) : 1 = dO_ at' fs := by unfold dO_; rw [if_neg (fun q => h (iQ_.1 q))]
theorem nF_ {at' : List Str} {fs : List Fc} (h : ChkC at' fs) (hl : ¬ 65536 < fs.length) : 0 = dO_ at' fs := by unfold dO_; rw [if_pos (iQ_.2 h), if_neg hl]
theorem qV_ {at' : List Str} {fs : List Fc} (h : ChkC at' fs) (hl : 65536 < fs.length) : 2 = dO_ at' fs := by unfold dO_; rw [if_pos (iQ_.2 h), if_pos hl]
theorem chk_c (c : Cl) (ha : c.atoms.length ≤ 1000000000000) (hf : c.facts.length ≤ 1000000000000) : Tri Tryz.prog 25 #[Cl.val c] [] [aD_ (Cl.aad c) (List.flatMap aJ_ (Cl.atoms c)), aD_ (Cl.fad c) (List.flatMap Fc.cells (Cl.facts c))] (fun _ : Unit => .int .i64 (dO_ c.atoms c.facts)) (fun _ => []) (fun _ => []) := by
 refine S_ Tryz.func25 rfl rfl Tryz.ntmps25 rfl fun v0 => ?_
 refine h_ (d_ (bl_ rfl rfl fun b1 => ?_))
 refine a_ (g_ rfl) rfl (e_ (b_ rfl (h_ (h_ (d_ (a_ (n_ aB_ rfl rfl rfl cx_) rfl (a_ (s_ 0 eC_ rfl rfl rfl) rfl (ax_ (incS_c (Cl.atoms c) (Cl.aad c) (Cl.acap c) (by omega)) rfl J_ (fun v _ h => by exact ⟨h.1, trivial⟩) rfl fun r1 hr1 => ?_))))))))
 refine a_ (bV_ rfl) rfl (a_ (f_ rfl) rfl ?_)
 cases r1
 ·
  replace hr1 := of_decide_eq_false hr1
  refine t_ rfl rfl rfl rfl (t_ rfl rfl rfl rfl (t_ rfl rfl rfl rfl (t_ rfl rfl rfl rfl (a_ (F_ rfl rfl) rfl (e_ (b_ rfl (u_ rfl (h_ (d_ ?_)))))))))
  refine a_ (g_ rfl) rfl (e_ (b_ rfl (H_ ?_)))
  exact at_ gv_ () (bN_ rfl (jL_ (fun h => by first | exact absurd h.sa (by assumption) | exact absurd h.sf (by assumption) | exact absurd h.top (by assumption) | exact absurd h.bot (by assumption) | (have := h.ok x2 hmx2; simp_all)))) J_ (fun _ _ _ => trivial)
 ·
  replace hr1 := of_decide_eq_true hr1
  have hsa : mp_ (Cl.atoms c) := hr1
  refine r_ rfl rfl (a_ (n_ aB_ rfl rfl rfl bp_) rfl (r_ rfl rfl (a_ (s_ 0 bC_ rfl rfl rfl) rfl (r_ rfl rfl (ax_ (incF_c (Cl.facts c) (Cl.fad c) (Cl.fcap c) (by omega)) rfl J_ (fun v _ h => by exact ⟨h.2.1, trivial⟩) rfl fun r2 hr2 => ?_)))))
  refine r_ rfl rfl (a_ (bV_ rfl) rfl (a_ (C_ rfl rfl) rfl (e_ (b_ rfl ?_))))
  cases r2
  ·
   replace hr2 := of_decide_eq_false hr2
   refine u_ rfl (h_ (d_ (a_ (g_ rfl) rfl (e_ (b_ rfl (H_ ?_))))))
   exact at_ gv_ () (bN_ rfl (jL_ (fun h => by first | exact absurd h.sa (by assumption) | exact absurd h.sf (by assumption) | exact absurd h.top (by assumption) | exact absurd h.bot (by assumption) | (have := h.ok x2 hmx2; simp_all)))) J_ (fun _ _ _ => trivial)
  ·
   replace hr2 := of_decide_eq_true hr2
   refine v_ rfl (E_ (b_ rfl (h_ (d_ (di_ rfl fun b2 => ?_)))))
   refine a_ (g_ rfl) rfl (e_ (b_ rfl (h_ (h_ (d_ (a_ (n_ aB_ rfl rfl rfl cx_) rfl (a_ (s_ 1 eC_ rfl rfl rfl) rfl (a_ (as_ D_ rfl) rfl (a_ (f_ rfl) rfl ?_)))))))))
   refine e_ (b_ rfl (P_ ?_))
   refine aE_ (ι := {y : Nat × Array MapEntry × Nat // y.1 ≤ List.length (Cl.atoms c) ∧ SetE str y.2.1 (List.take y.1 (Cl.atoms c))}) (fun y => [(1, zp_ b1 0), (3, .map (some b2)), (20, .slice (Cl.aad c) (List.length (Cl.atoms c)) (Cl.acap c)), (21, .int .i64 (List.length (Cl.atoms c) : Int)), (22, .int .i64 (y.1.1 : Int))]) (fun y => ((b2, .map y.1.2.1 y.1.2.2) :: ((b1, .cells (Cl.cells c).toArray 28 (0, 0)) :: []))) (fun y => [aD_ (Cl.aad c) (List.flatMap aJ_ (Cl.atoms c)), aD_ (Cl.fad c) (List.flatMap Fc.cells (Cl.facts c))]) (fun y => List.length (Cl.atoms c) - y.1.1) ⟨((0 : Nat), #[], 0), by simp, by exact SetE.nil⟩ ⟨rfl, rfl, rfl, rfl, rfl, trivial⟩ (m_ i_ i_) (fun _ _ h => h) ?_
   rintro ⟨⟨i, es, ce⟩, hi, hE⟩
   dsimp only at hi hE ⊢
   refine h_ (d_ (y_ (ay_ rfl rfl) rfl fun r3 hr3 => ?_))
   refine e_ (b_ rfl (h_ ?_))
   cases r3
   ·
    replace hr3 := of_decide_eq_false hr3
    have e9 : (List.take i (Cl.atoms c)) = Cl.atoms c := List.take_of_length_le (by omega)
    rw [e9] at hE
    refine v_ rfl (aw_ rfl (b_ rfl (h_ (h_ (d_ (a_ (f_ rfl) rfl (y_ (cV_ (k := [42]) fH_ eO_ ci_ rfl rfl hE (fun v h _ => (h.own _ (List.mem_of_getElem? (i := 0) rfl)).1)) rfl fun r4 hr4 => ?_)))))))
    refine a_ (bV_ rfl) rfl (a_ (f_ rfl) rfl ?_)
    cases r4
    ·
     replace hr4 := dF hr4
     refine t_ rfl rfl rfl rfl (t_ rfl rfl rfl rfl (t_ rfl rfl rfl rfl (a_ (F_ rfl rfl) rfl (e_ (b_ rfl (u_ rfl (h_ (d_ (a_ (g_ rfl) rfl ?_)))))))))
     refine e_ (b_ rfl (H_ ?_))
     exact at_ gv_ () (bN_ rfl (jL_ (fun h => by first | exact absurd h.sa (by assumption) | exact absurd h.sf (by assumption) | exact absurd h.top (by assumption) | exact absurd h.bot (by assumption) | (have := h.ok x2 hmx2; simp_all)))) J_ (fun _ _ _ => trivial)
    ·
     replace hr4 := dT hr4
     refine r_ rfl rfl (a_ (f_ rfl) rfl (r_ rfl rfl (y_ (cV_ (k := [33]) fH_ eO_ ci_ rfl rfl hE (fun v h _ => (h.own _ (List.mem_of_getElem? (i := 0) rfl)).1)) rfl fun r5 hr5 => ?_)))
     refine r_ rfl rfl (a_ (bV_ rfl) rfl (a_ (C_ rfl rfl) rfl (e_ (b_ rfl ?_))))
     cases r5
     ·
      replace hr5 := dF hr5
      refine u_ rfl (h_ (d_ (a_ (g_ rfl) rfl (e_ (b_ rfl (H_ ?_))))))
      exact at_ gv_ () (bN_ rfl (jL_ (fun h => by first | exact absurd h.sa (by assumption) | exact absurd h.sf (by assumption) | exact absurd h.top (by assumption) | exact absurd h.bot (by assumption) | (have := h.ok x2 hmx2; simp_all)))) J_ (fun _ _ _ => trivial)
     ·
      replace hr5 := dT hr5
      refine v_ rfl (E_ (b_ rfl (h_ (h_ (d_ (a_ (n_ aB_ rfl rfl rfl bp_) rfl (a_ (s_ 1 bC_ rfl rfl rfl) rfl (a_ (as_ G_ rfl) rfl (a_ (f_ rfl) rfl ?_)))))))))
      refine e_ (b_ rfl (P_ ?_))
      refine aE_ (ι := {y : Nat // y ≤ List.length (Cl.facts c) ∧ ∀ f ∈ List.take y (Cl.facts c), cD_ (Cl.atoms c) f = true}) (fun y => [(1, zp_ b1 0), (3, .map (some b2)), (38, .slice (Cl.fad c) (List.length (Cl.facts c)) (Cl.fcap c)), (39, .int .i64 (List.length (Cl.facts c) : Int)), (40, .int .i64 (y.1 : Int))]) (fun y => ((b2, .map es ce) :: ((b1, .cells (Cl.cells c).toArray 28 (0, 0)) :: []))) (fun y => [aD_ (Cl.aad c) (List.flatMap aJ_ (Cl.atoms c)), aD_ (Cl.fad c) (List.flatMap Fc.cells (Cl.facts c))]) (fun y => List.length (Cl.facts c) - y.1) ⟨(0 : Nat), by simp, by simp⟩ ⟨rfl, rfl, rfl, rfl, rfl, trivial⟩ (m_ i_ i_) (fun _ _ h => h) ?_
      rintro ⟨j, hj, hall⟩
      dsimp only at hj hall ⊢
      refine h_ (d_ (y_ (ay_ rfl rfl) rfl fun r6 hr6 => ?_))
      refine e_ (b_ rfl (h_ ?_))
      cases r6
      ·
       replace hr6 := of_decide_eq_false hr6
       refine v_ rfl (aw_ rfl (b_ rfl (h_ (h_ (d_ (a_ (n_ aB_ rfl rfl rfl bp_) rfl (a_ (s_ 1 bC_ rfl rfl rfl) rfl (a_ (as_ G_ rfl) rfl (y_ (cg_ rfl rfl) rfl fun r7 hr7 => ?_)))))))))
       refine e_ (b_ rfl ?_)
       cases r7
       ·
        replace hr7 := of_decide_eq_false hr7
        refine v_ rfl (E_ (b_ rfl (h_ (d_ (a_ (g_ rfl) rfl (e_ (b_ rfl (H_ ?_))))))))
        exact at_ gv_ () (bN_ rfl (nF_ ⟨by assumption, by assumption, by assumption, by assumption, by rwa [List.take_of_length_le (by omega)] at hall⟩ (by omega))) J_ (fun _ _ _ => trivial)
       ·
        replace hr7 := of_decide_eq_true hr7
        refine u_ rfl (h_ (d_ (a_ (g_ rfl) rfl (e_ (b_ rfl (H_ ?_))))))
        exact at_ gv_ () (bN_ rfl (qV_ ⟨by assumption, by assumption, by assumption, by assumption, by rwa [List.take_of_length_le (by omega)] at hall⟩ (by omega))) J_ (fun _ _ _ => trivial)
      ·
       replace hr6 := of_decide_eq_true hr6
       have hlx2 : j < List.length (Cl.facts c) := by omega
       obtain ⟨x2, hx2⟩ : ∃ e0, (Cl.facts c)[j]? = some e0 := ⟨_, List.getElem?_eq_getElem hlx2⟩
       have hmx2 : x2 ∈ (Cl.facts c) := List.mem_of_getElem? hx2
       refine u_ rfl (E_ (b_ rfl (h_ (P_ (h_ (d_ (a_ (ae_ G_ A_ rfl rfl (fun v _ h => az_ (n := 6) Fc.cells_len (by decide) (by exact h.2.1) hx2) (by omega) (by first | omega | (simp; done))) rfl (a_ (aV_ (ad := (Cl.fad c)) (us := Fc.cells x2) U_ A_ rfl (fun v _ h => by exact h.2.1) (Fc.cells_len _) (ai_ Fc.cells_len hx2)) rfl (ar_ ag_ rfl fun b3 => ?_)))))))))
       refine V_ 0 A_ rfl rfl rfl rfl rfl rfl (e_ (b_ rfl (h_ (d_ (a_ (Y_ 0 U_ A_ rfl rfl rfl) rfl (a_ (f_ rfl) rfl (ax_ (pN_ x2 (Cl.atoms c) b2 es ce hE) rfl (c_ i_) (fun _ _ _ => by exact trivial) rfl fun r8 hr8 => ?_)))))))
       refine a_ (bV_ rfl) rfl (e_ (b_ rfl ?_))
       cases r8
       ·
        refine u_ rfl (h_ (d_ (a_ (g_ rfl) rfl (e_ (b_ rfl (H_ ?_))))))
        exact at_ gv_ () (bN_ rfl (jL_ (fun h => by first | exact absurd h.sa (by assumption) | exact absurd h.sf (by assumption) | exact absurd h.top (by assumption) | exact absurd h.bot (by assumption) | (have := h.ok x2 hmx2; simp_all)))) J_ (fun _ _ _ => trivial)
       ·
        refine v_ rfl (E_ (b_ rfl (d_ (a_ (M_ rfl rfl rfl (al_ (by omega) (by omega))) rfl (a_ (f_ rfl) rfl (e_ (x_ rfl ?_)))))))
        exact Z_ ⟨j + 1, hlx2, fun y hy => by rw [List.take_add_one, hx2] at hy; simp only [Option.toList_some, List.mem_append, List.mem_singleton] at hy; rcases hy with hy | rfl; exact hall y hy; simp_all⟩ (by dsimp only; omega) ⟨rfl, rfl, rfl, rfl, rfl, trivial⟩ (m_ i_ (c_ i_)) (fun _ _ h => h)
   ·
    replace hr3 := of_decide_eq_true hr3
    have hlx1 : i < List.length (Cl.atoms c) := by omega
    obtain ⟨x1, hx1⟩ : ∃ e0, (Cl.atoms c)[i]? = some e0 := ⟨_, List.getElem?_eq_getElem hlx1⟩
    have hmx1 : x1 ∈ (Cl.atoms c) := List.mem_of_getElem? hx1
    refine u_ rfl (E_ (b_ rfl (h_ (P_ (h_ (d_ (a_ (ae_ D_ j_ rfl rfl (fun v _ h => az_ (n := 1) aq_ (by decide) (by exact h.1) hx1) (by omega) (by first | omega | (simp; done))) rfl (a_ (aH_ (ad := (Cl.aad c)) p_ rfl (fun v _ h => by exact h.1) (ai_ aq_ hx1 0 _ rfl)) rfl (a_ (g_ rfl) rfl ?_)))))))))
    refine e_ (b_ rfl (d_ (a_ (f_ rfl) rfl (a_ (f_ rfl) rfl (fC_ (k := x1) 0 fH_ (.inr rfl) eO_ rfl rfl rfl rfl hE fun ej1 cj1 hj1 => ?_)))))
    refine e_ (b_ rfl (d_ (a_ (M_ rfl rfl rfl (al_ (by omega) (by omega))) rfl (a_ (f_ rfl) rfl (e_ (x_ rfl ?_))))))
    exact Z_ ⟨(i + 1, ej1, cj1), hlx1, (iY_ hsa.nodup hx1) ▸ hj1⟩ (by dsimp only; omega) ⟨rfl, rfl, rfl, rfl, rfl, trivial⟩ (m_ i_ i_) (fun _ _ h => h)
def qS_ (fs : List Fc) (f : Fc) : Bool := fs.any fun x => (decide (x = f) || decide (x = aj_ f.a [33])) || ((decide (f = aF_ f.a f.r f.lo f.hi) && decide (x = aF_ f.a f.r x.lo x.hi)) && (decide (f.lo ≤ x.lo) && decide (x.hi ≤ f.hi)))
def jF_ (f x : Fc) : Bool := (decide (x = f) || decide (x = aj_ f.a [33])) || ((decide (f = aF_ f.a f.r f.lo f.hi) && decide (x = aF_ f.a f.r x.lo x.hi)) && (decide (f.lo ≤ x.lo) && decide (x.hi ≤ f.hi)))
theorem any_no {α : Type} {p : α → Bool} {l : List α} {j : Nat} {x : α} (h : ∀ y ∈ l.take j, p y = false) (hx : l[j]? = some x) (hp : p x = false) : ∀ y ∈ l.take (j + 1), p y = false := fun y hy => by
  rw [List.take_add_one, hx] at hy
  simp only [Option.toList_some, List.mem_append, List.mem_singleton] at hy
  rcases hy with hy | rfl
  · exact h y hy
  · exact hp
theorem nK_ {α : Type} {p : α → Bool} {l : List α} {j : Nat} (h : ∀ y ∈ l.take j, p y = false) (hj : l.length ≤ j) : false = l.any p := by
  rw [List.take_of_length_le hj] at h
  symm; rw [List.any_eq_false]; exact fun y hy => by simp [h y hy]
theorem gM_ {α : Type} {p : α → Bool} {l : List α} {x : α} (hx : x ∈ l) (hp : p x = true) : true = l.any p := (List.any_eq_true.2 ⟨x, hx, hp⟩).symm
theorem pU_ (c : Cl) (f : Fc) (hf : c.facts.length ≤ 1000000000000) : Tri Tryz.prog 46 #[Cl.val c, Fc.val f] [] [aD_ (Cl.fad c) (List.flatMap Fc.cells (Cl.facts c))] (fun _ : Unit => .bool (qS_ c.facts f)) (fun _ => []) (fun _ => []) := by
 refine S_ Tryz.func46 rfl rfl Tryz.ntmps46 rfl fun v0 => ?_
 refine h_ (d_ (bl_ rfl rfl fun b1 => ?_))
 refine bl_ rfl rfl fun b2 => ?_
 refine a_ (g_ rfl) rfl (e_ (b_ rfl (h_ (d_ (a_ (n_ k_ rfl rfl rfl j_) rfl (a_ (s_ 0 p_ rfl rfl rfl) rfl (W_ (eS_ (Fc.a f) [33]) rfl J_ (fun _ _ _ => by exact trivial) rfl fun _ => ?_)))))))
 refine ar_ ag_ rfl fun b3 => ?_
 refine V_ 0 A_ rfl rfl rfl rfl rfl rfl (e_ (b_ rfl (h_ ?_)))
 refine aC_ (by kernel_rfl) ?_
 refine ad_ 3 [0, 1, 2, 3, 4, 5, 6, 7, 8] (by kernel_rfl) (fun _ a b => ⟨a, b⟩) (o_ rfl (Y_ 1 U_ A_ rfl rfl rfl) rfl (o_ rfl (n_ k_ rfl rfl rfl j_) rfl (o_ rfl (s_ 1 p_ rfl rfl rfl) rfl (o_ rfl (n_ k_ rfl rfl rfl j_) rfl (o_ rfl (s_ 1 p_ rfl rfl rfl) rfl (o_ rfl (n_ k_ rfl rfl rfl K_) rfl (o_ rfl (s_ 1 L_ rfl rfl rfl) rfl (o_ rfl (n_ k_ rfl rfl rfl K_) rfl (o_ rfl (s_ 1 L_ rfl rfl rfl) rfl ?_)))))))))
 refine ac_ (X_ 9 rfl (by kernel_rfl) (W_ (ib_ (Fc.a f) (Fc.r f) (Fc.lo f) (Fc.hi f)) rfl J_ (fun _ _ _ => by exact trivial) rfl fun _ => ?_))
 refine e_ (x_ rfl (O_ (fun _ a b => ⟨a, b⟩) (ad_ 0 [10, 11] (by kernel_rfl) (fun _ a b => ⟨a, b⟩) ?_)))
 refine bT_ rfl (dv_ (p := f) (q := (aF_ (Fc.a f) (Fc.r f) (Fc.lo f) (Fc.hi f))) rfl rfl) rfl fun r1 hr1 => ?_
 refine o_ rfl (g_ rfl) rfl (ac_ (aa_ (by kernel_rfl) (b_ rfl (h_ (h_ (d_ (a_ (n_ aB_ rfl rfl rfl bp_) rfl (a_ (s_ 2 bC_ rfl rfl rfl) rfl (a_ (as_ G_ rfl) rfl ?_)))))))))
 refine a_ (f_ rfl) rfl (e_ (b_ rfl (P_ ?_)))
 cases r1
 ·
  replace hr1 := of_decide_eq_false hr1
  refine aE_ (ι := {y : Nat // y ≤ List.length (Cl.facts c) ∧ ∀ z ∈ List.take y (Cl.facts c), jF_ f z = false}) (fun y => [(2, zp_ b1 0), (3, zp_ b2 0), (5, zp_ b3 0), (6, .bool false), (24, .slice (Cl.fad c) (List.length (Cl.facts c)) (Cl.fcap c)), (25, .int .i64 (List.length (Cl.facts c) : Int)), (26, .int .i64 (y.1 : Int))]) (fun y => ((b3, .cells #[.int .i64 (Fc.kind (aj_ (Fc.a f) [33])), str (Fc.a (aj_ (Fc.a f) [33])), str (Fc.b (aj_ (Fc.a f) [33])), str (Fc.r (aj_ (Fc.a f) [33])), .int .i64 (Fc.lo (aj_ (Fc.a f) [33])), .int .i64 (Fc.hi (aj_ (Fc.a f) [33]))] 41 (0, 0)) :: ((b2, .cells (Fc.cells f).toArray 41 (0, 0)) :: ((b1, .cells (Cl.cells c).toArray 28 (0, 0)) :: [])))) (fun y => [aD_ (Cl.fad c) (List.flatMap Fc.cells (Cl.facts c))]) (fun y => List.length (Cl.facts c) - y.1) ⟨(0 : Nat), by simp, by simp⟩ ⟨rfl, rfl, rfl, rfl, rfl, rfl, rfl, trivial⟩ (m_ i_ (m_ i_ i_)) (fun _ _ h => h) ?_
  rintro ⟨j, hj, hall⟩
  dsimp only at hj hall ⊢
  refine h_ (d_ (y_ (ay_ rfl rfl) rfl fun r2 hr2 => ?_))
  refine e_ (b_ rfl (h_ ?_))
  cases r2
  ·
   replace hr2 := of_decide_eq_false hr2
   refine v_ rfl (aw_ rfl (b_ rfl (h_ (d_ (a_ (g_ rfl) rfl (e_ (b_ rfl (H_ ?_))))))))
   exact at_ gu_ () (z_ rfl (nK_ hall (by omega))) J_ (fun _ _ _ => trivial)
  ·
   replace hr2 := of_decide_eq_true hr2
   have hlx2 : j < List.length (Cl.facts c) := by omega
   obtain ⟨x2, hx2⟩ : ∃ e0, (Cl.facts c)[j]? = some e0 := ⟨_, List.getElem?_eq_getElem hlx2⟩
   have hmx2 : x2 ∈ (Cl.facts c) := List.mem_of_getElem? hx2
   refine u_ rfl (E_ (b_ rfl (h_ (P_ (h_ (d_ (a_ (ae_ G_ A_ rfl rfl (fun v _ h => az_ (n := 6) Fc.cells_len (by decide) (by exact h.1) hx2) (by omega) (by first | omega | (simp; done))) rfl (a_ (aV_ (ad := (Cl.fad c)) (us := Fc.cells x2) U_ A_ rfl (fun v _ h => by exact h.1) (Fc.cells_len _) (ai_ Fc.cells_len hx2)) rfl (ar_ ag_ rfl fun b4 => ?_)))))))))
   refine V_ 0 A_ rfl rfl rfl rfl rfl rfl (e_ (b_ rfl (h_ (h_ (d_ (a_ (Y_ 0 U_ A_ rfl rfl rfl) rfl (a_ (Y_ 2 U_ A_ rfl rfl rfl) rfl (y_ (dv_ (p := x2) (q := f) rfl rfl) rfl fun r3 hr3 => ?_))))))))
   refine a_ (f_ rfl) rfl ?_
   cases r3
   ·
    replace hr3 := of_decide_eq_false hr3
    refine r_ rfl rfl (a_ (Y_ 0 U_ A_ rfl rfl rfl) rfl (r_ rfl rfl (a_ (Y_ 1 U_ A_ rfl rfl rfl) rfl (r_ rfl rfl (y_ (dv_ (p := x2) (q := (aj_ (Fc.a f) [33])) rfl rfl) rfl fun r4 hr4 => ?_)))))
    refine a_ (C_ rfl rfl) rfl (e_ (b_ rfl ?_))
    cases r4
    ·
     replace hr4 := of_decide_eq_false hr4
     refine v_ rfl (E_ (b_ rfl (h_ ?_)))
     refine aC_ (by kernel_rfl) ?_
     refine ad_ 0 [0, 1, 2, 3, 4, 5, 6, 7, 8, 9, 10, 11, 12, 13, 14, 15, 16, 17, 18, 19, 20, 21, 22, 23, 24, 25, 26, 27] (by kernel_rfl) (fun _ a b => ⟨a, b⟩) (o_ rfl (f_ rfl) rfl (o_ rfl (f_ rfl) rfl (af_ rfl rfl rfl rfl rfl (af_ rfl rfl rfl rfl rfl (af_ rfl rfl rfl rfl rfl (af_ rfl rfl rfl rfl rfl (af_ rfl rfl rfl rfl rfl (af_ rfl rfl rfl rfl rfl (af_ rfl rfl rfl rfl rfl ?_)))))))))
     refine af_ rfl rfl rfl rfl rfl (af_ rfl rfl rfl rfl rfl (af_ rfl rfl rfl rfl rfl (af_ rfl rfl rfl rfl rfl (o_ rfl (C_ rfl rfl) rfl (o_ rfl (f_ rfl) rfl (af_ rfl rfl rfl rfl rfl (af_ rfl rfl rfl rfl rfl (af_ rfl rfl rfl rfl rfl (af_ rfl rfl rfl rfl rfl ?_)))))))))
     refine af_ rfl rfl rfl rfl rfl (o_ rfl (C_ rfl rfl) rfl (o_ rfl (f_ rfl) rfl (af_ rfl rfl rfl rfl rfl (af_ rfl rfl rfl rfl rfl (af_ rfl rfl rfl rfl rfl (af_ rfl rfl rfl rfl rfl (af_ rfl rfl rfl rfl rfl (o_ rfl (C_ rfl rfl) rfl (ac_ ?_)))))))))
     refine aa_ (by kernel_rfl) (b_ rfl (v_ rfl (E_ (b_ rfl (d_ (a_ (M_ rfl rfl rfl (al_ (by omega) (by omega))) rfl (a_ (f_ rfl) rfl (e_ (x_ rfl ?_)))))))))
     exact Z_ ⟨j + 1, hlx2, any_no hall hx2 (by have p1 := eq_false hr1; have p2 := eq_true hr2; have p3 := eq_false hr3; have p4 := eq_false hr4; simp only [jF_, p1, p2, p3, p4, if_true, if_false, decide_true, decide_false, Bool.and_true, Bool.and_false, Bool.true_and, Bool.false_and, Bool.or_true, Bool.or_false, Bool.true_or, Bool.false_or, Bool.not_true, Bool.not_false, ne_eq, not_true_eq_false, not_false_eq_true, true_and, and_true, false_and, and_false, true_or, or_true, false_or, or_false, ite_true, ite_false, Bool.false_eq_true])⟩ (by dsimp only; omega) ⟨rfl, rfl, rfl, rfl, rfl, rfl, rfl, trivial⟩ (m_ (c_ i_) (m_ (c_ i_) (c_ i_))) (fun _ _ h => h)
    ·
     replace hr4 := of_decide_eq_true hr4
     refine u_ rfl (h_ (d_ (a_ (g_ rfl) rfl (e_ (b_ rfl (H_ ?_))))))
     exact at_ gu_ () (z_ rfl (gM_ hmx2 (by have p1 := eq_false hr1; have p2 := eq_true hr2; have p3 := eq_false hr3; have p4 := eq_true hr4; simp only [jF_, p1, p2, p3, p4, if_true, if_false, decide_true, decide_false, Bool.and_true, Bool.and_false, Bool.true_and, Bool.false_and, Bool.or_true, Bool.or_false, Bool.true_or, Bool.false_or, Bool.not_true, Bool.not_false, ne_eq, not_true_eq_false, not_false_eq_true, true_and, and_true, false_and, and_false, true_or, or_true, false_or, or_false, ite_true, ite_false, Bool.false_eq_true]))) J_ (fun _ _ _ => trivial)
   ·
    replace hr3 := of_decide_eq_true hr3
    refine t_ rfl rfl rfl rfl (t_ rfl rfl rfl rfl (t_ rfl rfl rfl rfl (a_ (F_ rfl rfl) rfl (e_ (b_ rfl (u_ rfl (h_ (d_ (a_ (g_ rfl) rfl ?_)))))))))
    refine e_ (b_ rfl (H_ ?_))
    exact at_ gu_ () (z_ rfl (gM_ hmx2 (by have p1 := eq_false hr1; have p2 := eq_true hr2; have p3 := eq_true hr3; simp only [jF_, p1, p2, p3, if_true, if_false, decide_true, decide_false, Bool.and_true, Bool.and_false, Bool.true_and, Bool.false_and, Bool.or_true, Bool.or_false, Bool.true_or, Bool.false_or, Bool.not_true, Bool.not_false, ne_eq, not_true_eq_false, not_false_eq_true, true_and, and_true, false_and, and_false, true_or, or_true, false_or, or_false, ite_true, ite_false, Bool.false_eq_true]))) J_ (fun _ _ _ => trivial)
 ·
  replace hr1 := of_decide_eq_true hr1
  refine aE_ (ι := {y : Nat // y ≤ List.length (Cl.facts c) ∧ ∀ z ∈ List.take y (Cl.facts c), jF_ f z = false}) (fun y => [(2, zp_ b1 0), (3, zp_ b2 0), (5, zp_ b3 0), (6, .bool true), (24, .slice (Cl.fad c) (List.length (Cl.facts c)) (Cl.fcap c)), (25, .int .i64 (List.length (Cl.facts c) : Int)), (26, .int .i64 (y.1 : Int))]) (fun y => ((b3, .cells #[.int .i64 (Fc.kind (aj_ (Fc.a f) [33])), str (Fc.a (aj_ (Fc.a f) [33])), str (Fc.b (aj_ (Fc.a f) [33])), str (Fc.r (aj_ (Fc.a f) [33])), .int .i64 (Fc.lo (aj_ (Fc.a f) [33])), .int .i64 (Fc.hi (aj_ (Fc.a f) [33]))] 41 (0, 0)) :: ((b2, .cells (Fc.cells f).toArray 41 (0, 0)) :: ((b1, .cells (Cl.cells c).toArray 28 (0, 0)) :: [])))) (fun y => [aD_ (Cl.fad c) (List.flatMap Fc.cells (Cl.facts c))]) (fun y => List.length (Cl.facts c) - y.1) ⟨(0 : Nat), by simp, by simp⟩ ⟨rfl, rfl, rfl, rfl, rfl, rfl, rfl, trivial⟩ (m_ i_ (m_ i_ i_)) (fun _ _ h => h) ?_
  rintro ⟨j, hj, hall⟩
  dsimp only at hj hall ⊢
  refine h_ (d_ (y_ (ay_ rfl rfl) rfl fun r5 hr5 => ?_))
  refine e_ (b_ rfl (h_ ?_))
  cases r5
  ·
   replace hr5 := of_decide_eq_false hr5
   refine v_ rfl (aw_ rfl (b_ rfl (h_ (d_ (a_ (g_ rfl) rfl (e_ (b_ rfl (H_ ?_))))))))
   exact at_ gu_ () (z_ rfl (nK_ hall (by omega))) J_ (fun _ _ _ => trivial)
  ·
   replace hr5 := of_decide_eq_true hr5
   have hlx2 : j < List.length (Cl.facts c) := by omega
   obtain ⟨x2, hx2⟩ : ∃ e0, (Cl.facts c)[j]? = some e0 := ⟨_, List.getElem?_eq_getElem hlx2⟩
   have hmx2 : x2 ∈ (Cl.facts c) := List.mem_of_getElem? hx2
   refine u_ rfl (E_ (b_ rfl (h_ (P_ (h_ (d_ (a_ (ae_ G_ A_ rfl rfl (fun v _ h => az_ (n := 6) Fc.cells_len (by decide) (by exact h.1) hx2) (by omega) (by first | omega | (simp; done))) rfl (a_ (aV_ (ad := (Cl.fad c)) (us := Fc.cells x2) U_ A_ rfl (fun v _ h => by exact h.1) (Fc.cells_len _) (ai_ Fc.cells_len hx2)) rfl (ar_ ag_ rfl fun b5 => ?_)))))))))
   refine V_ 0 A_ rfl rfl rfl rfl rfl rfl (e_ (b_ rfl (h_ (h_ (d_ (a_ (Y_ 0 U_ A_ rfl rfl rfl) rfl (a_ (Y_ 2 U_ A_ rfl rfl rfl) rfl (y_ (dv_ (p := x2) (q := f) rfl rfl) rfl fun r6 hr6 => ?_))))))))
   refine a_ (f_ rfl) rfl ?_
   cases r6
   ·
    replace hr6 := of_decide_eq_false hr6
    refine r_ rfl rfl (a_ (Y_ 0 U_ A_ rfl rfl rfl) rfl (r_ rfl rfl (a_ (Y_ 1 U_ A_ rfl rfl rfl) rfl (r_ rfl rfl (y_ (dv_ (p := x2) (q := (aj_ (Fc.a f) [33])) rfl rfl) rfl fun r7 hr7 => ?_)))))
    refine a_ (C_ rfl rfl) rfl (e_ (b_ rfl ?_))
    cases r7
    ·
     replace hr7 := of_decide_eq_false hr7
     refine v_ rfl (E_ (b_ rfl (h_ ?_)))
     refine aC_ (by kernel_rfl) ?_
     refine ad_ 17 [0, 1, 2, 3, 4, 5, 6, 7, 8, 9, 10] (by kernel_rfl) (fun _ a b => ⟨a, b⟩) (o_ rfl (f_ rfl) rfl (o_ rfl (f_ rfl) rfl (ab_ rfl rfl rfl (Y_ 0 U_ A_ rfl rfl rfl) rfl (ab_ rfl rfl rfl (n_ k_ rfl rfl rfl j_) rfl (ab_ rfl rfl rfl (s_ 2 p_ rfl rfl rfl) rfl (ab_ rfl rfl rfl (n_ k_ rfl rfl rfl j_) rfl (ab_ rfl rfl rfl (s_ 2 p_ rfl rfl rfl) rfl (ab_ rfl rfl rfl (n_ k_ rfl rfl rfl K_) rfl (ab_ rfl rfl rfl (s_ 0 L_ rfl rfl rfl) rfl ?_)))))))))
     refine ab_ rfl rfl rfl (n_ k_ rfl rfl rfl K_) rfl (ab_ rfl rfl rfl (s_ 0 L_ rfl rfl rfl) rfl (ac_ (X_ 11 rfl (by kernel_rfl) (r_ rfl rfl (W_ (ib_ (Fc.a f) (Fc.r f) (Fc.lo x2) (Fc.hi x2)) rfl J_ (fun _ _ _ => by exact trivial) rfl fun _ => ?_)))))
     refine e_ (x_ rfl (O_ (fun _ a b => ⟨a, b⟩) (ad_ 13 [12, 13, 14] (by kernel_rfl) (fun _ a b => ⟨a, b⟩) ?_)))
     refine bR_ rfl rfl rfl (dv_ (p := x2) (q := (aF_ (Fc.a f) (Fc.r f) (Fc.lo x2) (Fc.hi x2))) rfl rfl) rfl fun r8 hr8 => ?_
     refine o_ rfl (F_ rfl rfl) rfl (o_ rfl (f_ rfl) rfl (ac_ ?_))
     cases r8
     ·
      replace hr8 := of_decide_eq_false hr8
      refine ad_ 0 [15, 16, 17, 18, 19, 20, 21, 22, 23, 24, 25, 26, 27] (by kernel_rfl) (fun _ a b => ⟨a, b⟩) (af_ rfl rfl rfl rfl rfl (af_ rfl rfl rfl rfl rfl (af_ rfl rfl rfl rfl rfl (af_ rfl rfl rfl rfl rfl (af_ rfl rfl rfl rfl rfl (o_ rfl (C_ rfl rfl) rfl (o_ rfl (f_ rfl) rfl (af_ rfl rfl rfl rfl rfl (af_ rfl rfl rfl rfl rfl ?_)))))))))
      refine af_ rfl rfl rfl rfl rfl (af_ rfl rfl rfl rfl rfl (af_ rfl rfl rfl rfl rfl (o_ rfl (C_ rfl rfl) rfl (ac_ (aa_ (by kernel_rfl) (b_ rfl (v_ rfl (E_ (b_ rfl ?_)))))))))
      refine d_ (a_ (M_ rfl rfl rfl (al_ (by omega) (by omega))) rfl (a_ (f_ rfl) rfl (e_ (x_ rfl ?_))))
      exact Z_ ⟨j + 1, hlx2, any_no hall hx2 (by have p1 := eq_true hr1; have p2 := eq_true hr5; have p3 := eq_false hr6; have p4 := eq_false hr7; have p5 := eq_false hr8; simp only [jF_, p1, p2, p3, p4, p5, if_true, if_false, decide_true, decide_false, Bool.and_true, Bool.and_false, Bool.true_and, Bool.false_and, Bool.or_true, Bool.or_false, Bool.true_or, Bool.false_or, Bool.not_true, Bool.not_false, ne_eq, not_true_eq_false, not_false_eq_true, true_and, and_true, false_and, and_false, true_or, or_true, false_or, or_false, ite_true, ite_false, Bool.false_eq_true])⟩ (by dsimp only; omega) ⟨rfl, rfl, rfl, rfl, rfl, rfl, rfl, trivial⟩ (m_ (c_ i_) (m_ (c_ i_) (c_ i_))) (fun _ _ h => h)
     ·
      replace hr8 := of_decide_eq_true hr8
      refine ad_ 6 [15, 16, 17, 18, 19, 20, 21] (by kernel_rfl) (fun _ a b => ⟨a, b⟩) (ab_ rfl rfl rfl (n_ k_ rfl rfl rfl K_) rfl (ab_ rfl rfl rfl (s_ 0 L_ rfl rfl rfl) rfl (ab_ rfl rfl rfl (n_ k_ rfl rfl rfl K_) rfl (ab_ rfl rfl rfl (s_ 2 L_ rfl rfl rfl) rfl ?_))))
      refine bR_ rfl rfl rfl (cA_ rfl rfl) rfl fun r9 hr9 => ?_
      refine o_ rfl (F_ rfl rfl) rfl (o_ rfl (f_ rfl) rfl (ac_ ?_))
      cases r9
      ·
       replace hr9 := of_decide_eq_false hr9
       refine ad_ 0 [22, 23, 24, 25, 26, 27] (by kernel_rfl) (fun _ a b => ⟨a, b⟩) (af_ rfl rfl rfl rfl rfl (af_ rfl rfl rfl rfl rfl (af_ rfl rfl rfl rfl rfl (af_ rfl rfl rfl rfl rfl (af_ rfl rfl rfl rfl rfl (o_ rfl (C_ rfl rfl) rfl (ac_ (aa_ (by kernel_rfl) (b_ rfl ?_)))))))))
       refine v_ rfl (E_ (b_ rfl (d_ (a_ (M_ rfl rfl rfl (al_ (by omega) (by omega))) rfl (a_ (f_ rfl) rfl (e_ (x_ rfl ?_)))))))
       exact Z_ ⟨j + 1, hlx2, any_no hall hx2 (by have p1 := eq_true hr1; have p2 := eq_true hr5; have p3 := eq_false hr6; have p4 := eq_false hr7; have p5 := eq_true hr8; have p6 := eq_false hr9; simp only [jF_, p1, p2, p3, p4, p5, p6, if_true, if_false, decide_true, decide_false, Bool.and_true, Bool.and_false, Bool.true_and, Bool.false_and, Bool.or_true, Bool.or_false, Bool.true_or, Bool.false_or, Bool.not_true, Bool.not_false, ne_eq, not_true_eq_false, not_false_eq_true, true_and, and_true, false_and, and_false, true_or, or_true, false_or, or_false, ite_true, ite_false, Bool.false_eq_true])⟩ (by dsimp only; omega) ⟨rfl, rfl, rfl, rfl, rfl, rfl, rfl, trivial⟩ (m_ (c_ i_) (m_ (c_ i_) (c_ i_))) (fun _ _ h => h)
      ·
       replace hr9 := of_decide_eq_true hr9
       refine ad_ 0 [22, 23, 24, 25, 26, 27] (by kernel_rfl) (fun _ a b => ⟨a, b⟩) (ab_ rfl rfl rfl (n_ k_ rfl rfl rfl K_) rfl (ab_ rfl rfl rfl (s_ 0 L_ rfl rfl rfl) rfl (ab_ rfl rfl rfl (n_ k_ rfl rfl rfl K_) rfl (ab_ rfl rfl rfl (s_ 2 L_ rfl rfl rfl) rfl ?_))))
       refine bR_ rfl rfl rfl (bS_ rfl rfl) rfl fun r10 hr10 => ?_
       refine o_ rfl (F_ rfl rfl) rfl (ac_ (aa_ (by kernel_rfl) (b_ rfl ?_)))
       cases r10
       ·
        replace hr10 := of_decide_eq_false hr10
        refine v_ rfl (E_ (b_ rfl (d_ (a_ (M_ rfl rfl rfl (al_ (by omega) (by omega))) rfl (a_ (f_ rfl) rfl (e_ (x_ rfl ?_)))))))
        exact Z_ ⟨j + 1, hlx2, any_no hall hx2 (by have p1 := eq_true hr1; have p2 := eq_true hr5; have p3 := eq_false hr6; have p4 := eq_false hr7; have p5 := eq_true hr8; have p6 := eq_true hr9; have p7 := eq_false hr10; simp only [jF_, p1, p2, p3, p4, p5, p6, p7, if_true, if_false, decide_true, decide_false, Bool.and_true, Bool.and_false, Bool.true_and, Bool.false_and, Bool.or_true, Bool.or_false, Bool.true_or, Bool.false_or, Bool.not_true, Bool.not_false, ne_eq, not_true_eq_false, not_false_eq_true, true_and, and_true, false_and, and_false, true_or, or_true, false_or, or_false, ite_true, ite_false, Bool.false_eq_true])⟩ (by dsimp only; omega) ⟨rfl, rfl, rfl, rfl, rfl, rfl, rfl, trivial⟩ (m_ (c_ i_) (m_ (c_ i_) (c_ i_))) (fun _ _ h => h)
       ·
        replace hr10 := of_decide_eq_true hr10
        refine u_ rfl (h_ (d_ (a_ (g_ rfl) rfl (e_ (b_ rfl (H_ ?_))))))
        exact at_ gu_ () (z_ rfl (gM_ hmx2 (by have p1 := eq_true hr1; have p2 := eq_true hr5; have p3 := eq_false hr6; have p4 := eq_false hr7; have p5 := eq_true hr8; have p6 := eq_true hr9; have p7 := eq_true hr10; simp only [jF_, p1, p2, p3, p4, p5, p6, p7, if_true, if_false, decide_true, decide_false, Bool.and_true, Bool.and_false, Bool.true_and, Bool.false_and, Bool.or_true, Bool.or_false, Bool.true_or, Bool.false_or, Bool.not_true, Bool.not_false, ne_eq, not_true_eq_false, not_false_eq_true, true_and, and_true, false_and, and_false, true_or, or_true, false_or, or_false, ite_true, ite_false, Bool.false_eq_true]))) J_ (fun _ _ _ => trivial)
    ·
     replace hr7 := of_decide_eq_true hr7
     refine u_ rfl (h_ (d_ (a_ (g_ rfl) rfl (e_ (b_ rfl (H_ ?_))))))
     exact at_ gu_ () (z_ rfl (gM_ hmx2 (by have p1 := eq_true hr1; have p2 := eq_true hr5; have p3 := eq_false hr6; have p4 := eq_true hr7; simp only [jF_, p1, p2, p3, p4, if_true, if_false, decide_true, decide_false, Bool.and_true, Bool.and_false, Bool.true_and, Bool.false_and, Bool.or_true, Bool.or_false, Bool.true_or, Bool.false_or, Bool.not_true, Bool.not_false, ne_eq, not_true_eq_false, not_false_eq_true, true_and, and_true, false_and, and_false, true_or, or_true, false_or, or_false, ite_true, ite_false, Bool.false_eq_true]))) J_ (fun _ _ _ => trivial)
   ·
    replace hr6 := of_decide_eq_true hr6
    refine t_ rfl rfl rfl rfl (t_ rfl rfl rfl rfl (t_ rfl rfl rfl rfl (a_ (F_ rfl rfl) rfl (e_ (b_ rfl (u_ rfl (h_ (d_ (a_ (g_ rfl) rfl ?_)))))))))
    refine e_ (b_ rfl (H_ ?_))
    exact at_ gu_ () (z_ rfl (gM_ hmx2 (by have p1 := eq_true hr1; have p2 := eq_true hr5; have p3 := eq_true hr6; simp only [jF_, p1, p2, p3, if_true, if_false, decide_true, decide_false, Bool.and_true, Bool.and_false, Bool.true_and, Bool.false_and, Bool.or_true, Bool.or_false, Bool.true_or, Bool.false_or, Bool.not_true, Bool.not_false, ne_eq, not_true_eq_false, not_false_eq_true, true_and, and_true, false_and, and_false, true_or, or_true, false_or, or_false, ite_true, ite_false, Bool.false_eq_true]))) J_ (fun _ _ _ => trivial)
end Go.Proofs.YtpdbbglpbngeiaaGreatDoor
namespace Go.Proofs.YtpdbbglpbngeiaaGreatDoor
open Go Go.Sx Go.Proofs
attribute [local irreducible] Code.wp wpList wpAnyH
open Go.Vs
theorem jk_ : ∀ {l : List Fc} {f : Fc} {m : Nat} {x : Fc}, Srt l → l[m]? = some x → (x.lt f ↔ m < aZ_ l f)
  | [], _, _, _, _, h => by simp at h
  | y :: l, f, 0, x, hs, h => by
    simp only [List.getElem?_cons_zero, Option.some.injEq] at h
    subst h
    unfold aZ_
    rw [List.countP_cons]
    constructor
    · intro q; rw [if_pos (decide_eq_true q)]; omega
    · intro q
      apply Decidable.byContradiction
      intro hn
      rw [if_neg (by simpa using hn)] at q
      obtain ⟨z, hz, hz2⟩ := List.countP_pos_iff.1 (Nat.lt_of_lt_of_eq q (Nat.add_zero _))
      exact hn (Fc.lt_trans ((List.pairwise_cons.1 hs).1 z hz) (of_decide_eq_true hz2))
  | y :: l, f, m + 1, x, hs, h => by
    simp only [List.getElem?_cons_succ] at h
    have hs' := List.pairwise_cons.1 hs
    have ih := jk_ hs'.2 h (f := f)
    unfold aZ_ at *
    rw [List.countP_cons, ih]
    constructor
    · intro q
      have hx : x.lt f := ih.2 q
      rw [if_pos (decide_eq_true (Fc.lt_trans (hs'.1 x (List.mem_of_getElem? h)) hx))]; omega
    · intro q
      split at q <;> omega
theorem mid2 (lo hi : Nat) : Int.tdiv ((lo : Int) + (hi : Int)) 2 = (((lo + hi) / 2 : Nat) : Int) := by
  rw [Int.tdiv_eq_ediv_of_nonneg (by omega)]; omega
theorem less_c (x y : Fc) : Fn0 Tryz.prog 75 #[Fc.val x, Fc.val y] (.bool (decide (x.lt y))) := by
 refine S_ Tryz.func75 rfl rfl Tryz.ntmps75 rfl fun v0 => ?_
 refine h_ (d_ (bl_ rfl rfl fun b1 => ?_))
 refine bl_ rfl rfl fun b2 => ?_
 refine a_ (g_ rfl) rfl (e_ (b_ rfl (h_ (P_ (h_ (d_ (a_ (n_ k_ rfl rfl rfl K_) rfl (a_ (s_ 1 L_ rfl rfl rfl) rfl (a_ (n_ k_ rfl rfl rfl K_) rfl ?_)))))))))
 refine a_ (s_ 0 L_ rfl rfl rfl) rfl (y_ (cz_ rfl rfl) rfl fun r1 hr1 => ?_)
 refine a_ (g_ rfl) rfl (e_ (b_ rfl ?_))
 cases r1
 ·
  replace hr1 := br_ hr1
  refine v_ rfl (h_ (d_ (a_ (n_ k_ rfl rfl rfl j_) rfl (a_ (s_ 1 p_ rfl rfl rfl) rfl (a_ (n_ k_ rfl rfl rfl j_) rfl (a_ (s_ 0 p_ rfl rfl rfl) rfl (y_ (du_ rfl rfl) rfl fun r2 hr2 => ?_)))))))
  refine a_ (g_ rfl) rfl (e_ (b_ rfl ?_))
  cases r2
  ·
   replace hr2 := br_ hr2
   refine v_ rfl (h_ (d_ (a_ (n_ k_ rfl rfl rfl j_) rfl (a_ (s_ 1 p_ rfl rfl rfl) rfl (a_ (n_ k_ rfl rfl rfl j_) rfl (a_ (s_ 0 p_ rfl rfl rfl) rfl (y_ (du_ rfl rfl) rfl fun r3 hr3 => ?_)))))))
   refine a_ (g_ rfl) rfl (e_ (b_ rfl ?_))
   cases r3
   ·
    replace hr3 := br_ hr3
    refine v_ rfl (h_ (d_ (a_ (n_ k_ rfl rfl rfl j_) rfl (a_ (s_ 1 p_ rfl rfl rfl) rfl (a_ (n_ k_ rfl rfl rfl j_) rfl (a_ (s_ 0 p_ rfl rfl rfl) rfl (y_ (du_ rfl rfl) rfl fun r4 hr4 => ?_)))))))
    refine a_ (g_ rfl) rfl (e_ (b_ rfl ?_))
    cases r4
    ·
     replace hr4 := br_ hr4
     refine v_ rfl (h_ (d_ (a_ (n_ k_ rfl rfl rfl K_) rfl (a_ (s_ 1 L_ rfl rfl rfl) rfl (a_ (n_ k_ rfl rfl rfl K_) rfl (a_ (s_ 0 L_ rfl rfl rfl) rfl (y_ (cz_ rfl rfl) rfl fun r5 hr5 => ?_)))))))
     refine a_ (g_ rfl) rfl (e_ (b_ rfl ?_))
     cases r5
     ·
      replace hr5 := br_ hr5
      refine v_ rfl (E_ (b_ rfl (h_ (d_ (a_ (n_ k_ rfl rfl rfl K_) rfl (a_ (s_ 1 L_ rfl rfl rfl) rfl (a_ (n_ k_ rfl rfl rfl K_) rfl (a_ (s_ 0 L_ rfl rfl rfl) rfl (y_ (ay_ rfl rfl) rfl fun r6 hr6 => ?_)))))))))
      refine a_ (g_ rfl) rfl (e_ (b_ rfl (H_ ?_)))
      exact at_ jg_ () (z_ rfl (by rw [← hr6, decide_eq_decide]; unfold Fc.lt; simp_all [ec_])) J_ (fun _ _ _ => trivial)
     ·
      replace hr5 := bq_ hr5
      refine u_ rfl (h_ (d_ (a_ (n_ k_ rfl rfl rfl K_) rfl (a_ (s_ 1 L_ rfl rfl rfl) rfl (a_ (n_ k_ rfl rfl rfl K_) rfl (a_ (s_ 0 L_ rfl rfl rfl) rfl (y_ (ay_ rfl rfl) rfl fun r7 hr7 => ?_)))))))
      refine a_ (g_ rfl) rfl (e_ (b_ rfl (H_ ?_)))
      exact at_ jg_ () (z_ rfl (by rw [← hr7, decide_eq_decide]; unfold Fc.lt; simp_all [ec_])) J_ (fun _ _ _ => trivial)
    ·
     replace hr4 := bq_ hr4
     refine u_ rfl (h_ (d_ (a_ (n_ k_ rfl rfl rfl j_) rfl (a_ (s_ 1 p_ rfl rfl rfl) rfl (a_ (n_ k_ rfl rfl rfl j_) rfl (a_ (s_ 0 p_ rfl rfl rfl) rfl (y_ (gr_ rfl rfl) rfl fun r8 hr8 => ?_)))))))
     refine a_ (g_ rfl) rfl (e_ (b_ rfl (H_ ?_)))
     exact at_ jg_ () (z_ rfl (by rw [← hr8, decide_eq_decide]; unfold Fc.lt; simp_all [ec_])) J_ (fun _ _ _ => trivial)
   ·
    replace hr3 := bq_ hr3
    refine u_ rfl (h_ (d_ (a_ (n_ k_ rfl rfl rfl j_) rfl (a_ (s_ 1 p_ rfl rfl rfl) rfl (a_ (n_ k_ rfl rfl rfl j_) rfl (a_ (s_ 0 p_ rfl rfl rfl) rfl (y_ (gr_ rfl rfl) rfl fun r9 hr9 => ?_)))))))
    refine a_ (g_ rfl) rfl (e_ (b_ rfl (H_ ?_)))
    exact at_ jg_ () (z_ rfl (by rw [← hr9, decide_eq_decide]; unfold Fc.lt; simp_all [ec_])) J_ (fun _ _ _ => trivial)
  ·
   replace hr2 := bq_ hr2
   refine u_ rfl (h_ (d_ (a_ (n_ k_ rfl rfl rfl j_) rfl (a_ (s_ 1 p_ rfl rfl rfl) rfl (a_ (n_ k_ rfl rfl rfl j_) rfl (a_ (s_ 0 p_ rfl rfl rfl) rfl (y_ (gr_ rfl rfl) rfl fun r10 hr10 => ?_)))))))
   refine a_ (g_ rfl) rfl (e_ (b_ rfl (H_ ?_)))
   exact at_ jg_ () (z_ rfl (by rw [← hr10, decide_eq_decide]; unfold Fc.lt; simp_all [ec_])) J_ (fun _ _ _ => trivial)
 ·
  replace hr1 := bq_ hr1
  refine u_ rfl (h_ (d_ (a_ (n_ k_ rfl rfl rfl K_) rfl (a_ (s_ 1 L_ rfl rfl rfl) rfl (a_ (n_ k_ rfl rfl rfl K_) rfl (a_ (s_ 0 L_ rfl rfl rfl) rfl (y_ (ay_ rfl rfl) rfl fun r11 hr11 => ?_)))))))
  refine a_ (g_ rfl) rfl (e_ (b_ rfl (H_ ?_)))
  exact at_ jg_ () (z_ rfl (by rw [← hr11, decide_eq_decide]; unfold Fc.lt; simp_all [ec_])) J_ (fun _ _ _ => trivial)
theorem nt_ (l : List Fc) (ad : Option Addr) (cap : Nat) (f : Fc) (hl : l.length ≤ 1000000000000) (hs : Srt l) : Tri Tryz.prog 76 #[.slice ad (List.length l) cap, Fc.val f] [] [aD_ ad (List.flatMap Fc.cells l)] (fun _ : Unit => .int .i64 (aZ_ l f : Int)) (fun _ => []) (fun _ => []) := by
  refine S_ Tryz.func76 rfl rfl Tryz.ntmps76 rfl fun v0 => ?_
  refine h_ (d_ (bl_ rfl rfl fun b1 => ?_))
  refine a_ (g_ rfl) rfl (e_ (b_ rfl (h_ (d_ (a_ (g_ rfl) rfl (e_ (b_ rfl (h_ (d_ ?_)))))))))
  refine a_ (f_ rfl) rfl (a_ (as_ G_ rfl) rfl (a_ (g_ rfl) rfl (e_ (b_ rfl (h_ (P_ ?_))))))
  refine aE_ (ι := {y : Nat × Nat // y.1 ≤ y.2 ∧ y.1 ≤ aZ_ l f ∧ aZ_ l f ≤ y.2 ∧ y.2 ≤ List.length l}) (fun y => [(0, .slice ad (List.length l) cap), (3, zp_ b1 0), (5, .int .i64 (y.1.1 : Int)), (6, .int .i64 (y.1.2 : Int))]) (fun y => ((b1, .cells (Fc.cells f).toArray 41 (0, 0)) :: [])) (fun y => [aD_ ad (List.flatMap Fc.cells l)]) (fun y => y.1.2 - y.1.1) ⟨((0 : Nat), (List.length l)), Nat.zero_le _, Nat.zero_le _, cB_ l f, Nat.le_refl _⟩ ⟨rfl, rfl, rfl, rfl, trivial⟩ i_ (fun _ _ h => h) ?_
  rintro ⟨⟨lo, hi⟩, hlh, hp1, hp2, hp3⟩
  dsimp only at hlh hp1 hp2 hp3 ⊢
  refine h_ (h_ (d_ (a_ (f_ rfl) rfl (a_ (f_ rfl) rfl (y_ (ay_ rfl rfl) rfl fun r1 hr1 => ?_)))))
  refine e_ (b_ rfl ?_)
  cases r1
  · skip
    replace hr1 := of_decide_eq_false hr1
    refine v_ rfl (aw_ rfl (b_ rfl (h_ (d_ (a_ (f_ rfl) rfl (a_ (g_ rfl) rfl (e_ (b_ rfl (H_ ?_)))))))))
    exact at_ Tryz.results76 () (bN_ rfl (by omega)) J_ (fun _ _ _ => trivial)
  · skip
    replace hr1 := of_decide_eq_true hr1
    have hlx1 : ((lo + hi) / 2 : Nat) < List.length l := by omega
    obtain ⟨x1, hx1⟩ : ∃ e0, l[((lo + hi) / 2 : Nat)]? = some e0 := ⟨_, List.getElem?_eq_getElem hlx1⟩
    have hmx1 : x1 ∈ l := List.mem_of_getElem? hx1
    refine u_ rfl (E_ (b_ rfl (P_ (h_ (d_ (a_ (f_ rfl) rfl (a_ (f_ rfl) rfl (a_ (M_ rfl rfl rfl (al_ (by omega) (by omega))) rfl (a_ (bx_ (qh_ rfl rfl (by decide) (by rw [mid2]; exact al_ (by omega) (by omega))) (show Value.int .i64 (Int.tdiv ((lo : Int) + (hi : Int)) 2) = Value.int .i64 (((lo + hi) / 2 : Nat) : Int) from congrArg _ (mid2 lo hi))) rfl ?_)))))))))
    refine a_ (g_ rfl) rfl (e_ (b_ rfl (h_ ?_)))
    refine aC_ (by kernel_rfl) ?_
    refine ad_ 1 [0, 1, 2, 3, 4] (by kernel_rfl) (fun _ a b => ⟨a, b⟩) (o_ rfl (f_ rfl) rfl (o_ rfl (f_ rfl) rfl (o_ rfl (ae_ G_ A_ rfl rfl (fun v _ h => az_ (n := 6) Fc.cells_len (by decide) (by exact h.1) hx1) (by omega) (by first | omega | (simp; done))) rfl (o_ rfl (aV_ (ad := ad) (us := Fc.cells x1) U_ A_ rfl (fun v _ h => by exact h.1) (Fc.cells_len _) (ai_ Fc.cells_len hx1)) rfl (o_ rfl (Y_ 0 U_ A_ rfl rfl rfl) rfl (ac_ (X_ 5 rfl (by kernel_rfl) (ax_ (less_c x1 f) rfl J_ (fun _ _ _ => by exact trivial) rfl fun r2 hr2 => ?_))))))))
    refine e_ (x_ rfl (O_ (fun _ a b => ⟨a, b⟩) (aa_ (by kernel_rfl) (b_ rfl ?_))))
    cases r2
    · skip
      replace hr2 := of_decide_eq_false hr2
      refine v_ rfl (d_ (a_ (f_ rfl) rfl (a_ (g_ rfl) rfl (e_ (x_ rfl ?_)))))
      exact Z_ ⟨(lo, ((lo + hi) / 2 : Nat)), by omega, hp1, by have := (not_congr (jk_ hs hx1 (f := f))).1 hr2; omega, by omega⟩ (by dsimp only; omega) ⟨rfl, rfl, rfl, rfl, trivial⟩ i_ (fun _ _ h => h)
    · skip
      replace hr2 := of_decide_eq_true hr2
      refine u_ rfl (d_ (a_ (f_ rfl) rfl (a_ (M_ rfl rfl rfl (al_ (by omega) (by omega))) rfl (a_ (g_ rfl) rfl (e_ (x_ rfl ?_))))))
      exact Z_ ⟨(((lo + hi) / 2 : Nat) + 1, hi), by omega, by have := (jk_ hs hx1 (f := f)).1 hr2; omega, hp2, hp3⟩ (by dsimp only; omega) ⟨rfl, rfl, rfl, rfl, trivial⟩ i_ (fun _ _ h => h)
theorem kt_ (l : List Fc) (ad : Option Addr) (cap : Nat) (f : Fc) (hl : l.length ≤ 1000000000000) (hs : Srt l) : Tri Tryz.prog 28 #[.slice ad (List.length l) cap, Fc.val f] [] [aD_ ad (List.flatMap Fc.cells l)] (fun _ : Unit => .bool (decide (f ∈ l))) (fun _ => []) (fun _ => []) := by
  refine S_ Tryz.func28 rfl rfl Tryz.ntmps28 rfl fun v0 => ?_
  refine h_ (d_ (bl_ rfl rfl fun b1 => ?_))
  refine a_ (g_ rfl) rfl (e_ (b_ rfl (h_ (d_ (a_ (f_ rfl) rfl (a_ (Y_ 0 U_ A_ rfl rfl rfl) rfl (W_ (nt_ l ad cap f (by omega) hs) rfl J_ (fun v _ h => by exact ⟨h.1, trivial⟩) rfl fun _ => ?_)))))))
  refine a_ (g_ rfl) rfl (e_ (b_ rfl (h_ ?_)))
  refine aC_ (by kernel_rfl) ?_
  refine ad_ 8 [0, 1, 2, 3, 4] (by kernel_rfl) (fun _ a b => ⟨a, b⟩) (o_ rfl (f_ rfl) rfl (o_ rfl (f_ rfl) rfl (o_ rfl (as_ G_ rfl) rfl ?_)))
  refine bT_ rfl (ay_ rfl rfl) rfl fun r1 hr1 => ?_
  refine o_ rfl (f_ rfl) rfl (ac_ ?_)
  cases r1
  · skip
    replace hr1 := of_decide_eq_false hr1
    refine ad_ 0 [5, 6, 7, 8, 9, 10, 11, 12] (by kernel_rfl) (fun _ a b => ⟨a, b⟩) (af_ rfl rfl rfl rfl rfl (af_ rfl rfl rfl rfl rfl (af_ rfl rfl rfl rfl rfl (af_ rfl rfl rfl rfl rfl (af_ rfl rfl rfl rfl rfl (af_ rfl rfl rfl rfl rfl (o_ rfl (C_ rfl rfl) rfl (o_ rfl (g_ rfl) rfl (ac_ ?_)))))))))
    refine aa_ (by kernel_rfl) (b_ rfl (H_ ?_))
    exact at_ Tryz.results28 () (z_ rfl (by symm; apply decide_eq_false; intro q; have := (List.getElem?_eq_some_iff.1 ((fM_ hs f).1 q)).1; omega)) J_ (fun _ _ _ => trivial)
  · skip
    replace hr1 := of_decide_eq_true hr1
    have hlx1 : aZ_ l f < List.length l := by omega
    obtain ⟨x1, hx1⟩ : ∃ e0, l[aZ_ l f]? = some e0 := ⟨_, List.getElem?_eq_getElem hlx1⟩
    have hmx1 : x1 ∈ l := List.mem_of_getElem? hx1
    refine ad_ 0 [5, 6, 7, 8, 9, 10, 11, 12] (by kernel_rfl) (fun _ a b => ⟨a, b⟩) (ab_ rfl rfl rfl (f_ rfl) rfl (ab_ rfl rfl rfl (f_ rfl) rfl (ab_ rfl rfl rfl (ae_ G_ A_ rfl rfl (fun v _ h => az_ (n := 6) Fc.cells_len (by decide) (by exact h.1) hx1) (by omega) (by first | omega | (simp; done))) rfl (ab_ rfl rfl rfl (aV_ (ad := ad) (us := Fc.cells x1) U_ A_ rfl (fun v _ h => by exact h.1) (Fc.cells_len _) (ai_ Fc.cells_len hx1)) rfl (ab_ rfl rfl rfl (Y_ 0 U_ A_ rfl rfl rfl) rfl ?_)))))
    refine bR_ rfl rfl rfl (dv_ (p := x1) (q := f) rfl rfl) rfl fun r2 hr2 => ?_
    refine o_ rfl (F_ rfl rfl) rfl (o_ rfl (g_ rfl) rfl (ac_ (aa_ (by kernel_rfl) (b_ rfl (H_ ?_)))))
    exact at_ Tryz.results28 () (z_ rfl (by rw [← hr2, decide_eq_decide, fM_ hs f, hx1, Option.some.injEq])) J_ (fun _ _ _ => trivial)
theorem rp_ (l : List Fc) (ad : Option Addr) (cap : Nat) (f : Fc) (hl : l.length ≤ 1000000000000) (hs : Srt l) (hc : (l.length ≤ cap ∧ cap ≤ maxLen ∧ (ad = none → cap = 0))) : Tri Tryz.prog 27 #[.slice ad (List.length l) cap, Fc.val f] [] [aD_ ad (List.flatMap Fc.cells l)] (fun y : {y : Option Addr × Nat // (cQ_ l f).length ≤ y.2 ∧ y.2 ≤ maxLen ∧ (y.1 = none → y.2 = 0)} => .slice y.1.1 (cQ_ l f).length y.1.2) (fun _ => []) (fun y => [aD_ y.1.1 ((cQ_ l f).flatMap Fc.cells)]) := by
 refine S_ Tryz.func27 rfl rfl Tryz.ntmps27 rfl fun v0 => ?_
 obtain ⟨hc1, hc2, hc3⟩ := hc
 have hc := And.intro hc1 (And.intro hc2 hc3)
 have hpf := cB_ l f
 refine h_ (d_ (bl_ rfl rfl fun b1 => ?_))
 refine a_ (g_ rfl) rfl (e_ (b_ rfl (h_ (d_ (a_ (f_ rfl) rfl (a_ (Y_ 0 U_ A_ rfl rfl rfl) rfl (W_ (nt_ l ad cap f (by omega) hs) rfl J_ (fun v _ h => by exact ⟨h.1, trivial⟩) rfl fun _ => ?_)))))))
 refine a_ (g_ rfl) rfl (e_ (b_ rfl (h_ (h_ ?_))))
 refine aC_ (by kernel_rfl) ?_
 refine ad_ 7 [0, 1, 2, 3, 4] (by kernel_rfl) (fun _ a b => ⟨a, b⟩) (o_ rfl (f_ rfl) rfl (o_ rfl (f_ rfl) rfl (o_ rfl (as_ G_ rfl) rfl ?_)))
 refine bT_ rfl (ay_ rfl rfl) rfl fun r1 hr1 => ?_
 refine o_ rfl (f_ rfl) rfl (ac_ ?_)
 cases r1
 ·
  replace hr1 := of_decide_eq_false hr1
  refine ad_ 0 [5, 6, 7, 8, 9, 10, 11] (by kernel_rfl) (fun _ a b => ⟨a, b⟩) (af_ rfl rfl rfl rfl rfl (af_ rfl rfl rfl rfl rfl (af_ rfl rfl rfl rfl rfl (af_ rfl rfl rfl rfl rfl (af_ rfl rfl rfl rfl rfl (af_ rfl rfl rfl rfl rfl (o_ rfl (C_ rfl rfl) rfl (ac_ (aa_ (by kernel_rfl) ?_)))))))))
  refine b_ rfl (v_ rfl (E_ (b_ rfl (h_ (d_ (dy_ G_ A_ rfl fun b2 => ?_))))))
  refine am_ i_ (a_ (f_ rfl) rfl (a_ (f_ rfl) rfl (a_ (bx_ (ct_ (i := 0) (j := (aZ_ l f)) (kl := .i64) (kh := .i64) G_ A_ rfl rfl rfl (by omega) (by have := hc1; omega)) (show _ = Value.slice (sad ad cap 0 6) (List.length (List.take (aZ_ l f) l)) (cap - 0) by rw [List.length_take, Nat.min_eq_left (by omega)]; rfl)) rfl (aL_ (news := List.flatMap Fc.cells (List.take (aZ_ l f) l)) cb_ (eq_ b2 41 6) rfl rfl (fun q => by have := hc3 (dj_ q); omega) (by rw [List.length_take]; have := hc1; omega) w_ (by rw [bo_ Fc.cells 6 Fc.cells_len]) (fun v _ h => by exact (bv_.slice Fc.cells_len h.1 hc1 0 (aZ_ l f))) (fun u hu => aO_ Fc.cells_one hu) (by simp only [maxLen]; (have := cB_ l f; (try simp only [List.length_append, List.length_take, List.length_drop, List.length_cons, List.length_nil]); omega)) (by (have := cB_ l f; (try simp only [List.length_append, List.length_take, List.length_drop, List.length_cons, List.length_nil]); omega)) rfl fun sv1 Hr1 hr1 => ?_))))
  refine am_ List.perm_append_comm ?_
  have hq1 : aR_ 41 6 sv1 (List.length (([] : List Fc) ++ (List.take (aZ_ l f) l))) (List.flatMap Fc.cells (([] : List Fc) ++ (List.take (aZ_ l f) l))) Hr1 := by rw [List.length_append, List.flatMap_append]; exact hr1
  refine a_ (g_ rfl) rfl (e_ (b_ rfl (h_ ?_)))
  refine aP_ ((b1, .cells (Fc.cells f).toArray 41 (0, 0)) :: []) (by kernel_rfl) ?_
  refine ad_ 4 [0, 1, 4, 5, 6] (by kernel_rfl) (fun _ a b => ⟨Vw.sat.sub (a.perm i_), b⟩) (o_ rfl (f_ rfl) rfl (o_ rfl (Y_ 0 U_ A_ rfl rfl rfl) rfl (o_ rfl (f_ rfl) rfl (o_ rfl (f_ rfl) rfl (o_ rfl (bx_ (ct_ (i := (aZ_ l f)) (j := List.length l) (kl := .i64) (kh := .i64) G_ A_ rfl rfl rfl (by omega) (by have := hc1; omega)) (show _ = Value.slice (sad ad cap (aZ_ l f) 6) (List.length (List.drop (aZ_ l f) l)) (cap - (aZ_ l f)) by rw [List.length_drop])) rfl (ac_ (X_ 2 rfl (by kernel_rfl) (aN_ G_ A_ ag_ rfl rfl rfl rfl rfl rfl fun b3 => ?_))))))))
  refine e_ (x_ rfl (O_ (fun _ a b => ⟨Vw.sat.sub (a.perm (c_ i_)), b⟩) (X_ 3 rfl (by kernel_rfl) (bt_ (news := List.flatMap Fc.cells [f]) cb_ hq1 rfl rfl (c_ Q_) rfl (cP_ 0 rfl) (fun u hu => aO_ Fc.cells_one hu) (by simp only [maxLen]; (have := cB_ l f; (try simp only [List.length_append, List.length_take, List.length_drop, List.length_cons, List.length_nil]); omega)) (by (have := cB_ l f; (try simp only [List.length_append, List.length_take, List.length_drop, List.length_cons, List.length_nil]); omega)) rfl fun sv2 Hr2 hr2 => ?_))))
  refine am_ List.perm_append_comm ?_
  have hq2 : aR_ 41 6 sv2 (List.length ((([] : List Fc) ++ (List.take (aZ_ l f) l)) ++ [f])) (List.flatMap Fc.cells ((([] : List Fc) ++ (List.take (aZ_ l f) l)) ++ [f])) Hr2 := by rw [List.length_append, List.flatMap_append]; exact hr2
  refine e_ (x_ rfl (O_ (fun _ a b => ⟨Vw.sat.sub (a.perm (c_ i_)), b⟩) (X_ 7 rfl (by kernel_rfl) (aL_ (news := List.flatMap Fc.cells (List.drop (aZ_ l f) l)) cb_ hq2 rfl rfl (fun q => by have := hc3 (dj_ q); omega) (by rw [List.length_drop]; have := hc1; omega) (c_ Q_) (by rw [bo_ Fc.cells 6 Fc.cells_len]) (fun v _ h => by exact (bv_.rest Fc.cells_len h.1 hc1 (aZ_ l f))) (fun u hu => aO_ Fc.cells_one hu) (by simp only [maxLen]; (have := cB_ l f; (try simp only [List.length_append, List.length_take, List.length_drop, List.length_cons, List.length_nil]); omega)) (by (have := cB_ l f; (try simp only [List.length_append, List.length_take, List.length_drop, List.length_cons, List.length_nil]); omega)) rfl fun sv3 Hr3 hr3 => ?_))))
  refine am_ List.perm_append_comm ?_
  have hq3 : aR_ 41 6 sv3 (List.length (((([] : List Fc) ++ (List.take (aZ_ l f) l)) ++ [f]) ++ (List.drop (aZ_ l f) l))) (List.flatMap Fc.cells (((([] : List Fc) ++ (List.take (aZ_ l f) l)) ++ [f]) ++ (List.drop (aZ_ l f) l))) Hr3 := by rw [List.length_append, List.flatMap_append]; exact hr3
  refine e_ (x_ rfl (O_ (fun _ a b => ⟨Vw.sat.sub (a.perm (c_ i_)), b⟩) (ad_ 0 [8] (by kernel_rfl) (fun _ a b => ⟨Vw.sat.sub (a.perm (c_ i_)), b⟩) (o_ rfl (g_ rfl) rfl (ac_ (aa_ (by kernel_rfl) (b_ rfl (H_ ?_))))))))
  have ei : cQ_ l f = (([] : List Fc) ++ List.take (aZ_ l f) l ++ [f]) ++ List.drop (aZ_ l f) l := by unfold cQ_; rw [if_neg (fun q => by have q2 := (fM_ hs f).1 q; have := (List.getElem?_eq_some_iff.1 q2).1; omega)]; simp
  have h9 := hq3
  rw [show ((((([] : List Fc) ++ (List.take (aZ_ l f) l)) ++ [f]) ++ (List.drop (aZ_ l f) l)) : List Fc) = cQ_ l f from by rw [ei]] at h9
  refine bF_ h9 (c_ Q_) fun ad2 cp2 had2 hcad2 hmad2 hzad2 => ?_
  exact at_ Tryz.results27 ⟨(ad2, cp2), hcad2, hmad2, hzad2⟩ (cd_ rfl had2) J_ (fun v _ h => ⟨h.1, trivial⟩)
 ·
  replace hr1 := of_decide_eq_true hr1
  have hlx1 : aZ_ l f < List.length l := by omega
  obtain ⟨x1, hx1⟩ : ∃ e0, l[aZ_ l f]? = some e0 := ⟨_, List.getElem?_eq_getElem hlx1⟩
  have hmx1 : x1 ∈ l := List.mem_of_getElem? hx1
  refine ad_ 0 [5, 6, 7, 8, 9, 10, 11] (by kernel_rfl) (fun _ a b => ⟨a, b⟩) (ab_ rfl rfl rfl (f_ rfl) rfl (ab_ rfl rfl rfl (f_ rfl) rfl (ab_ rfl rfl rfl (ae_ G_ A_ rfl rfl (fun v _ h => az_ (n := 6) Fc.cells_len (by decide) (by exact h.1) hx1) (by omega) (by first | omega | (simp; done))) rfl (ab_ rfl rfl rfl (aV_ (ad := ad) (us := Fc.cells x1) U_ A_ rfl (fun v _ h => by exact h.1) (Fc.cells_len _) (ai_ Fc.cells_len hx1)) rfl (ab_ rfl rfl rfl (Y_ 0 U_ A_ rfl rfl rfl) rfl ?_)))))
  refine bR_ rfl rfl rfl (dv_ (p := x1) (q := f) rfl rfl) rfl fun r2 hr2 => ?_
  refine o_ rfl (F_ rfl rfl) rfl (ac_ (aa_ (by kernel_rfl) (b_ rfl ?_)))
  cases r2
  ·
   replace hr2 := of_decide_eq_false hr2
   refine v_ rfl (E_ (b_ rfl (h_ (d_ (dy_ G_ A_ rfl fun b4 => ?_)))))
   refine am_ i_ (a_ (f_ rfl) rfl (a_ (f_ rfl) rfl (a_ (bx_ (ct_ (i := 0) (j := (aZ_ l f)) (kl := .i64) (kh := .i64) G_ A_ rfl rfl rfl (by omega) (by have := hc1; omega)) (show _ = Value.slice (sad ad cap 0 6) (List.length (List.take (aZ_ l f) l)) (cap - 0) by rw [List.length_take, Nat.min_eq_left (by omega)]; rfl)) rfl (aL_ (news := List.flatMap Fc.cells (List.take (aZ_ l f) l)) cb_ (eq_ b4 41 6) rfl rfl (fun q => by have := hc3 (dj_ q); omega) (by rw [List.length_take]; have := hc1; omega) w_ (by rw [bo_ Fc.cells 6 Fc.cells_len]) (fun v _ h => by exact (bv_.slice Fc.cells_len h.1 hc1 0 (aZ_ l f))) (fun u hu => aO_ Fc.cells_one hu) (by simp only [maxLen]; (have := cB_ l f; (try simp only [List.length_append, List.length_take, List.length_drop, List.length_cons, List.length_nil]); omega)) (by (have := cB_ l f; (try simp only [List.length_append, List.length_take, List.length_drop, List.length_cons, List.length_nil]); omega)) rfl fun sv4 Hr4 hr4 => ?_))))
   refine am_ List.perm_append_comm ?_
   have hq4 : aR_ 41 6 sv4 (List.length (([] : List Fc) ++ (List.take (aZ_ l f) l))) (List.flatMap Fc.cells (([] : List Fc) ++ (List.take (aZ_ l f) l))) Hr4 := by rw [List.length_append, List.flatMap_append]; exact hr4
   refine a_ (g_ rfl) rfl (e_ (b_ rfl (h_ ?_)))
   refine aP_ ((b1, .cells (Fc.cells f).toArray 41 (0, 0)) :: []) (by kernel_rfl) ?_
   refine ad_ 4 [0, 1, 4, 5, 6] (by kernel_rfl) (fun _ a b => ⟨Vw.sat.sub (a.perm i_), b⟩) (o_ rfl (f_ rfl) rfl (o_ rfl (Y_ 0 U_ A_ rfl rfl rfl) rfl (o_ rfl (f_ rfl) rfl (o_ rfl (f_ rfl) rfl (o_ rfl (bx_ (ct_ (i := (aZ_ l f)) (j := List.length l) (kl := .i64) (kh := .i64) G_ A_ rfl rfl rfl (by omega) (by have := hc1; omega)) (show _ = Value.slice (sad ad cap (aZ_ l f) 6) (List.length (List.drop (aZ_ l f) l)) (cap - (aZ_ l f)) by rw [List.length_drop])) rfl (ac_ (X_ 2 rfl (by kernel_rfl) (aN_ G_ A_ ag_ rfl rfl rfl rfl rfl rfl fun b5 => ?_))))))))
   refine e_ (x_ rfl (O_ (fun _ a b => ⟨Vw.sat.sub (a.perm (c_ i_)), b⟩) (X_ 3 rfl (by kernel_rfl) (bt_ (news := List.flatMap Fc.cells [f]) cb_ hq4 rfl rfl (c_ Q_) rfl (cP_ 0 rfl) (fun u hu => aO_ Fc.cells_one hu) (by simp only [maxLen]; (have := cB_ l f; (try simp only [List.length_append, List.length_take, List.length_drop, List.length_cons, List.length_nil]); omega)) (by (have := cB_ l f; (try simp only [List.length_append, List.length_take, List.length_drop, List.length_cons, List.length_nil]); omega)) rfl fun sv5 Hr5 hr5 => ?_))))
   refine am_ List.perm_append_comm ?_
   have hq5 : aR_ 41 6 sv5 (List.length ((([] : List Fc) ++ (List.take (aZ_ l f) l)) ++ [f])) (List.flatMap Fc.cells ((([] : List Fc) ++ (List.take (aZ_ l f) l)) ++ [f])) Hr5 := by rw [List.length_append, List.flatMap_append]; exact hr5
   refine e_ (x_ rfl (O_ (fun _ a b => ⟨Vw.sat.sub (a.perm (c_ i_)), b⟩) (X_ 7 rfl (by kernel_rfl) (aL_ (news := List.flatMap Fc.cells (List.drop (aZ_ l f) l)) cb_ hq5 rfl rfl (fun q => by have := hc3 (dj_ q); omega) (by rw [List.length_drop]; have := hc1; omega) (c_ Q_) (by rw [bo_ Fc.cells 6 Fc.cells_len]) (fun v _ h => by exact (bv_.rest Fc.cells_len h.1 hc1 (aZ_ l f))) (fun u hu => aO_ Fc.cells_one hu) (by simp only [maxLen]; (have := cB_ l f; (try simp only [List.length_append, List.length_take, List.length_drop, List.length_cons, List.length_nil]); omega)) (by (have := cB_ l f; (try simp only [List.length_append, List.length_take, List.length_drop, List.length_cons, List.length_nil]); omega)) rfl fun sv6 Hr6 hr6 => ?_))))
   refine am_ List.perm_append_comm ?_
   have hq6 : aR_ 41 6 sv6 (List.length (((([] : List Fc) ++ (List.take (aZ_ l f) l)) ++ [f]) ++ (List.drop (aZ_ l f) l))) (List.flatMap Fc.cells (((([] : List Fc) ++ (List.take (aZ_ l f) l)) ++ [f]) ++ (List.drop (aZ_ l f) l))) Hr6 := by rw [List.length_append, List.flatMap_append]; exact hr6
   refine e_ (x_ rfl (O_ (fun _ a b => ⟨Vw.sat.sub (a.perm (c_ i_)), b⟩) (ad_ 0 [8] (by kernel_rfl) (fun _ a b => ⟨Vw.sat.sub (a.perm (c_ i_)), b⟩) (o_ rfl (g_ rfl) rfl (ac_ (aa_ (by kernel_rfl) (b_ rfl (H_ ?_))))))))
   have ei : cQ_ l f = (([] : List Fc) ++ List.take (aZ_ l f) l ++ [f]) ++ List.drop (aZ_ l f) l := by unfold cQ_; rw [if_neg (fun q => by have q2 := (fM_ hs f).1 q; rw [hx1] at q2; simp_all)]; simp
   have h9 := hq6
   rw [show ((((([] : List Fc) ++ (List.take (aZ_ l f) l)) ++ [f]) ++ (List.drop (aZ_ l f) l)) : List Fc) = cQ_ l f from by rw [ei]] at h9
   refine bF_ h9 (c_ Q_) fun ad2 cp2 had2 hcad2 hmad2 hzad2 => ?_
   exact at_ Tryz.results27 ⟨(ad2, cp2), hcad2, hmad2, hzad2⟩ (cd_ rfl had2) J_ (fun v _ h => ⟨h.1, trivial⟩)
  ·
   replace hr2 := of_decide_eq_true hr2
   refine u_ rfl (h_ (d_ (a_ (f_ rfl) rfl (a_ (g_ rfl) rfl (e_ (b_ rfl (H_ ?_)))))))
   have hxe : x1 = f := by assumption
   have ei : cQ_ l f = l := by unfold cQ_; rw [if_pos ((fM_ hs f).2 (hxe ▸ hx1))]
   exact at_ Tryz.results27 ⟨(ad, cap), by rw [ei]; exact hc⟩ (cd_ rfl (by dsimp only; rw [ei])) J_ (fun v _ h => ⟨by show bv_ v ad ((cQ_ l f).flatMap Fc.cells); rw [ei]; exact h.1, trivial⟩)
end Go.Proofs.YtpdbbglpbngeiaaGreatDoor
namespace Go.Proofs.YtpdbbglpbngeiaaGreatDoor
open Go Go.Sx Go.Proofs
attribute [local irreducible] Code.wp wpList wpAnyH
open Go.Vs
theorem dD_ (a b : Str) : Fn0 Tryz.prog 47 #[str a, str b] (Fc.val (aj_ a b)) := by
  refine S_ Tryz.func47 rfl rfl Tryz.ntmps47 rfl fun v0 => ?_
  refine h_ (d_ (ar_ ag_ rfl fun b1 => ?_))
  refine e_ (b_ rfl (h_ (d_ (a_ (f_ rfl) rfl (a_ (f_ rfl) rfl (a_ (aI_ hZ_ rfl rfl) rfl (V_ 0 A_ rfl rfl rfl rfl rfl rfl (e_ (b_ rfl ?_)))))))))
  refine H_ ?_
  exact eI_ () (fun aa v h1 h2 => ey_ (us := Fc.cells (aj_ a b)) 0 Tryz.results47 U_ A_ rfl rfl rfl aa v h1 h2) J_ (fun _ _ _ => trivial)
theorem er_ (a r b : Str) : Fn0 Tryz.prog 51 #[str a, str r, str b] (Fc.val (au_ a r b)) := by
  refine S_ Tryz.func51 rfl rfl Tryz.ntmps51 rfl fun v0 => ?_
  refine h_ (d_ (ar_ ag_ rfl fun b1 => ?_))
  refine e_ (b_ rfl (h_ (d_ (a_ (f_ rfl) rfl (a_ (f_ rfl) rfl (a_ (f_ rfl) rfl (a_ (aI_ hZ_ rfl rfl) rfl (V_ 0 A_ rfl rfl rfl rfl rfl rfl (e_ ?_)))))))))
  refine b_ rfl (H_ ?_)
  exact eI_ () (fun aa v h1 h2 => ey_ (us := Fc.cells (au_ a r b)) 0 Tryz.results51 U_ A_ rfl rfl rfl aa v h1 h2) J_ (fun _ _ _ => trivial)
theorem nk_ (a r : Str) (lo hi : Int) : Fn0 Tryz.prog 52 #[str a, str r, .int .i64 lo, .int .i64 hi] (Fc.val (aF_ a r lo hi)) := by
  refine S_ Tryz.func52 rfl rfl Tryz.ntmps52 rfl fun v0 => ?_
  refine h_ (d_ (ar_ ag_ rfl fun b1 => ?_))
  refine e_ (b_ rfl (h_ (d_ (a_ (f_ rfl) rfl (a_ (f_ rfl) rfl (a_ (f_ rfl) rfl (a_ (f_ rfl) rfl (a_ (aI_ hZ_ rfl rfl) rfl (V_ 0 A_ rfl rfl rfl rfl rfl rfl ?_)))))))))
  refine e_ (b_ rfl (H_ ?_))
  exact eI_ () (fun aa v h1 h2 => ey_ (us := Fc.cells (aF_ a r lo hi)) 0 Tryz.results52 U_ A_ rfl rfl rfl aa v h1 h2) J_ (fun _ _ _ => trivial)
theorem qp_ (l m : List Str) (ad ae : Option Addr) (cap cpe : Nat) (hl : l.length ≤ 1000000000000) (hm : m.length ≤ 1000000000000) : Tri Tryz.prog 66 #[.slice ad (List.length l) cap, .slice ae (List.length m) cpe] [] [aD_ ad (List.flatMap aJ_ l), aD_ ae (List.flatMap aJ_ m)] (fun _ : Unit => .bool (decide (l = m))) (fun _ => []) (fun _ => []) := by
 refine S_ Tryz.func66 rfl rfl Tryz.ntmps66 rfl fun v0 => ?_
 refine h_ (d_ (a_ (g_ rfl) rfl (e_ (b_ rfl (h_ (h_ (d_ (a_ (f_ rfl) rfl (a_ (as_ D_ rfl) rfl ?_)))))))))
 refine a_ (f_ rfl) rfl (a_ (as_ D_ rfl) rfl (y_ (cz_ rfl rfl) rfl fun r1 hr1 => ?_))
 refine e_ (b_ rfl ?_)
 cases r1
 ·
  replace hr1 := br_ hr1
  refine v_ rfl (E_ (b_ rfl (h_ (h_ (d_ (a_ (g_ rfl) rfl (e_ (b_ rfl (P_ ?_)))))))))
  refine aE_ (ι := {y : Nat // y ≤ l.length ∧ l.take y = m.take y}) (fun y => [(0, .slice ad (List.length l) cap), (1, .slice ae (List.length m) cpe), (5, .int .i64 (y.1 : Int))]) (fun y => ([])) (fun y => [aD_ ad (List.flatMap aJ_ l), aD_ ae (List.flatMap aJ_ m)]) (fun y => l.length - y.1) ⟨(0 : Nat), by simp, by simp⟩ ⟨rfl, rfl, rfl, trivial⟩ J_ (fun _ _ h => h) ?_
  rintro ⟨i, hi, he⟩
  dsimp only at hi he ⊢
  have hlm : l.length = m.length := by omega
  refine h_ (h_ (d_ (a_ (f_ rfl) rfl (a_ (f_ rfl) rfl (a_ (as_ D_ rfl) rfl (y_ (ay_ rfl rfl) rfl fun r2 hr2 => ?_))))))
  refine e_ (b_ rfl ?_)
  cases r2
  ·
   replace hr2 := of_decide_eq_false hr2
   refine v_ rfl (aw_ rfl (b_ rfl (h_ (d_ (a_ (g_ rfl) rfl (e_ (b_ rfl (H_ ?_))))))))
   exact at_ Tryz.results66 () (z_ rfl (by symm; apply decide_eq_true; rwa [List.take_of_length_le (by omega), List.take_of_length_le (by omega)] at he)) J_ (fun _ _ _ => trivial)
  ·
   replace hr2 := of_decide_eq_true hr2
   have hlx1 : i < List.length l := by omega
   obtain ⟨x1, hx1⟩ : ∃ e0, l[i]? = some e0 := ⟨_, List.getElem?_eq_getElem hlx1⟩
   have hmx1 : x1 ∈ l := List.mem_of_getElem? hx1
   have hlx2 : i < List.length m := by omega
   obtain ⟨x2, hx2⟩ : ∃ e0, m[i]? = some e0 := ⟨_, List.getElem?_eq_getElem hlx2⟩
   have hmx2 : x2 ∈ m := List.mem_of_getElem? hx2
   refine u_ rfl (E_ (b_ rfl (h_ (P_ (h_ ?_)))))
   refine aC_ (by kernel_rfl) ?_
   refine ad_ 0 [0, 1, 2, 3, 4, 5, 6, 7, 8] (by kernel_rfl) (fun _ a b => ⟨bz_ a, b⟩) (o_ rfl (f_ rfl) rfl (o_ rfl (f_ rfl) rfl (o_ rfl (ae_ D_ j_ rfl rfl (fun v _ h => az_ (n := 1) aq_ (by decide) (by exact h.1) hx1) (by omega) (by first | omega | (simp; done))) rfl (o_ rfl (aH_ (ad := ad) p_ rfl (fun v _ h => by exact h.1) (ai_ aq_ hx1 0 _ rfl)) rfl (o_ rfl (f_ rfl) rfl (o_ rfl (f_ rfl) rfl (o_ rfl (ae_ D_ j_ rfl rfl (fun v _ h => az_ (n := 1) aq_ (by decide) (by exact h.2.1) hx2) (by omega) (by first | omega | (simp; done))) rfl (o_ rfl (aH_ (ad := ae) p_ rfl (fun v _ h => by exact h.2.1) (ai_ aq_ hx2 0 _ rfl)) rfl ?_))))))))
   refine bT_ rfl (du_ rfl rfl) rfl fun r3 hr3 => ?_
   refine ac_ (aa_ (by kernel_rfl) (b_ rfl ?_))
   cases r3
   ·
    replace hr3 := br_ hr3
    refine v_ rfl (E_ (b_ rfl (d_ (a_ (f_ rfl) rfl (a_ (M_ rfl rfl rfl (al_ (by omega) (by omega))) rfl (a_ (g_ rfl) rfl (e_ (x_ rfl ?_))))))))
    exact Z_ ⟨i + 1, hlx1, by rw [List.take_add_one, hx1, List.take_add_one, hx2, he]; simp_all⟩ (by dsimp only; omega) ⟨rfl, rfl, rfl, trivial⟩ J_ (fun _ _ h => h)
   ·
    replace hr3 := bq_ hr3
    refine u_ rfl (h_ (d_ (a_ (g_ rfl) rfl (e_ (b_ rfl (H_ ?_))))))
    exact at_ Tryz.results66 () (z_ rfl (by symm; apply decide_eq_false; intro e; subst e; rw [hx1] at hx2; simp_all)) J_ (fun _ _ _ => trivial)
 ·
  replace hr1 := bq_ hr1
  refine u_ rfl (h_ (d_ (a_ (g_ rfl) rfl (e_ (b_ rfl (H_ ?_))))))
  exact at_ Tryz.results66 () (z_ rfl (by symm; apply decide_eq_false; intro e; subst e; omega)) J_ (fun _ _ _ => trivial)
theorem qq_ (l m : List Fc) (ad ae : Option Addr) (cap cpe : Nat) (hl : l.length ≤ 1000000000000) (hm : m.length ≤ 1000000000000) : Tri Tryz.prog 24 #[.slice ad (List.length l) cap, .slice ae (List.length m) cpe] [] [aD_ ad (List.flatMap Fc.cells l), aD_ ae (List.flatMap Fc.cells m)] (fun _ : Unit => .bool (decide (l = m))) (fun _ => []) (fun _ => []) := by
 refine S_ Tryz.func24 rfl rfl Tryz.ntmps24 rfl fun v0 => ?_
 refine h_ (d_ (a_ (g_ rfl) rfl (e_ (b_ rfl (h_ (h_ (d_ (a_ (f_ rfl) rfl (a_ (as_ G_ rfl) rfl ?_)))))))))
 refine a_ (f_ rfl) rfl (a_ (as_ G_ rfl) rfl (y_ (cz_ rfl rfl) rfl fun r1 hr1 => ?_))
 refine e_ (b_ rfl ?_)
 cases r1
 ·
  replace hr1 := br_ hr1
  refine v_ rfl (E_ (b_ rfl (h_ (h_ (d_ (a_ (g_ rfl) rfl (e_ (b_ rfl (P_ ?_)))))))))
  refine aE_ (ι := {y : Nat // y ≤ l.length ∧ l.take y = m.take y}) (fun y => [(0, .slice ad (List.length l) cap), (1, .slice ae (List.length m) cpe), (5, .int .i64 (y.1 : Int))]) (fun y => ([])) (fun y => [aD_ ad (List.flatMap Fc.cells l), aD_ ae (List.flatMap Fc.cells m)]) (fun y => l.length - y.1) ⟨(0 : Nat), by simp, by simp⟩ ⟨rfl, rfl, rfl, trivial⟩ J_ (fun _ _ h => h) ?_
  rintro ⟨i, hi, he⟩
  dsimp only at hi he ⊢
  have hlm : l.length = m.length := by omega
  refine h_ (h_ (d_ (a_ (f_ rfl) rfl (a_ (f_ rfl) rfl (a_ (as_ G_ rfl) rfl (y_ (ay_ rfl rfl) rfl fun r2 hr2 => ?_))))))
  refine e_ (b_ rfl ?_)
  cases r2
  ·
   replace hr2 := of_decide_eq_false hr2
   refine v_ rfl (aw_ rfl (b_ rfl (h_ (d_ (a_ (g_ rfl) rfl (e_ (b_ rfl (H_ ?_))))))))
   exact at_ Tryz.results24 () (z_ rfl (by symm; apply decide_eq_true; rwa [List.take_of_length_le (by omega), List.take_of_length_le (by omega)] at he)) J_ (fun _ _ _ => trivial)
  ·
   replace hr2 := of_decide_eq_true hr2
   have hlx1 : i < List.length l := by omega
   obtain ⟨x1, hx1⟩ : ∃ e0, l[i]? = some e0 := ⟨_, List.getElem?_eq_getElem hlx1⟩
   have hmx1 : x1 ∈ l := List.mem_of_getElem? hx1
   have hlx2 : i < List.length m := by omega
   obtain ⟨x2, hx2⟩ : ∃ e0, m[i]? = some e0 := ⟨_, List.getElem?_eq_getElem hlx2⟩
   have hmx2 : x2 ∈ m := List.mem_of_getElem? hx2
   refine u_ rfl (E_ (b_ rfl (h_ (P_ (h_ ?_)))))
   refine aC_ (by kernel_rfl) ?_
   refine ad_ 0 [0, 1, 2, 3, 4, 5, 6, 7, 8] (by kernel_rfl) (fun _ a b => ⟨bz_ a, b⟩) (o_ rfl (f_ rfl) rfl (o_ rfl (f_ rfl) rfl (o_ rfl (ae_ G_ A_ rfl rfl (fun v _ h => az_ (n := 6) Fc.cells_len (by decide) (by exact h.1) hx1) (by omega) (by first | omega | (simp; done))) rfl (o_ rfl (aV_ (ad := ad) (us := Fc.cells x1) U_ A_ rfl (fun v _ h => by exact h.1) (Fc.cells_len _) (ai_ Fc.cells_len hx1)) rfl (o_ rfl (f_ rfl) rfl (o_ rfl (f_ rfl) rfl (o_ rfl (ae_ G_ A_ rfl rfl (fun v _ h => az_ (n := 6) Fc.cells_len (by decide) (by exact h.2.1) hx2) (by omega) (by first | omega | (simp; done))) rfl (o_ rfl (aV_ (ad := ae) (us := Fc.cells x2) U_ A_ rfl (fun v _ h => by exact h.2.1) (Fc.cells_len _) (ai_ Fc.cells_len hx2)) rfl ?_))))))))
   refine bT_ rfl (fx_ (p := x1) (q := x2) rfl rfl) rfl fun r3 hr3 => ?_
   refine ac_ (aa_ (by kernel_rfl) (b_ rfl ?_))
   cases r3
   ·
    replace hr3 := of_decide_eq_false hr3
    refine v_ rfl (E_ (b_ rfl (d_ (a_ (f_ rfl) rfl (a_ (M_ rfl rfl rfl (al_ (by omega) (by omega))) rfl (a_ (g_ rfl) rfl (e_ (x_ rfl ?_))))))))
    exact Z_ ⟨i + 1, hlx1, by rw [List.take_add_one, hx1, List.take_add_one, hx2, he]; simp_all⟩ (by dsimp only; omega) ⟨rfl, rfl, rfl, trivial⟩ J_ (fun _ _ h => h)
   ·
    replace hr3 := of_decide_eq_true hr3
    refine u_ rfl (h_ (d_ (a_ (g_ rfl) rfl (e_ (b_ rfl (H_ ?_))))))
    exact at_ Tryz.results24 () (z_ rfl (by symm; apply decide_eq_false; intro e; subst e; rw [hx1] at hx2; simp_all)) J_ (fun _ _ _ => trivial)
 ·
  replace hr1 := bq_ hr1
  refine u_ rfl (h_ (d_ (a_ (g_ rfl) rfl (e_ (b_ rfl (H_ ?_))))))
  exact at_ Tryz.results24 () (z_ rfl (by symm; apply decide_eq_false; intro e; subst e; omega)) J_ (fun _ _ _ => trivial)
theorem nf_ (c d : Cl) (h1 : c.atoms.length ≤ 1000000000000) (h2 : c.facts.length ≤ 1000000000000) (h3 : d.atoms.length ≤ 1000000000000) (h4 : d.facts.length ≤ 1000000000000) : Tri Tryz.prog 20 #[Cl.val c, Cl.val d] [] [aD_ (Cl.aad c) (List.flatMap aJ_ (Cl.atoms c)), aD_ (Cl.fad c) (List.flatMap Fc.cells (Cl.facts c)), aD_ (Cl.aad d) (List.flatMap aJ_ (Cl.atoms d)), aD_ (Cl.fad d) (List.flatMap Fc.cells (Cl.facts d))] (fun _ : Unit => .bool (decide (c.atoms = d.atoms) && decide (c.facts = d.facts))) (fun _ => []) (fun _ => []) := by
  refine S_ Tryz.func20 rfl rfl Tryz.ntmps20 rfl fun v0 => ?_
  refine h_ (d_ (bl_ rfl rfl fun b1 => ?_))
  refine bl_ rfl rfl fun b2 => ?_
  refine a_ (g_ rfl) rfl (e_ (b_ rfl (h_ (d_ (a_ (n_ aB_ rfl rfl rfl cx_) rfl (a_ (s_ 1 eC_ rfl rfl rfl) rfl (a_ (n_ aB_ rfl rfl rfl cx_) rfl (a_ (s_ 0 eC_ rfl rfl rfl) rfl (ax_ (qp_ (Cl.atoms c) (Cl.atoms d) (Cl.aad c) (Cl.aad d) (Cl.acap c) (Cl.acap d) (by omega) (by omega)) rfl J_ (fun v _ h => by exact ⟨h.1, h.2.2.1, trivial⟩) rfl fun r1 hr1 => ?_)))))))))
  refine a_ (f_ rfl) rfl ?_
  cases r1
  · skip
    replace hr1 := of_decide_eq_false hr1
    refine t_ rfl rfl rfl rfl (t_ rfl rfl rfl rfl (t_ rfl rfl rfl rfl (t_ rfl rfl rfl rfl (t_ rfl rfl rfl rfl (a_ (C_ rfl rfl) rfl (a_ (g_ rfl) rfl (e_ (b_ rfl (H_ ?_)))))))))
    exact at_ Tryz.results20 () (z_ rfl (by have p1 := eq_false hr1; simp only [p1, if_true, if_false, decide_true, decide_false, Bool.and_true, Bool.and_false, Bool.true_and, Bool.false_and, Bool.or_true, Bool.or_false, Bool.true_or, Bool.false_or, Bool.not_true, Bool.not_false, ne_eq, not_true_eq_false, not_false_eq_true, true_and, and_true, false_and, and_false, true_or, or_true, false_or, or_false, ite_true, ite_false, Bool.false_eq_true])) J_ (fun _ _ _ => trivial)
  · skip
    replace hr1 := of_decide_eq_true hr1
    refine r_ rfl rfl (a_ (n_ aB_ rfl rfl rfl bp_) rfl (r_ rfl rfl (a_ (s_ 1 bC_ rfl rfl rfl) rfl (r_ rfl rfl (a_ (n_ aB_ rfl rfl rfl bp_) rfl (r_ rfl rfl (a_ (s_ 0 bC_ rfl rfl rfl) rfl (r_ rfl rfl (ax_ (qq_ (Cl.facts c) (Cl.facts d) (Cl.fad c) (Cl.fad d) (Cl.fcap c) (Cl.fcap d) (by omega) (by omega)) rfl J_ (fun v _ h => by exact ⟨h.2.1, h.2.2.2.1, trivial⟩) rfl fun r2 hr2 => ?_)))))))))
    refine a_ (F_ rfl rfl) rfl (a_ (g_ rfl) rfl (e_ (b_ rfl (H_ ?_))))
    exact at_ Tryz.results20 () (z_ rfl (by have p1 := eq_true hr1; rw [← hr2]; simp only [p1, if_true, if_false, decide_true, decide_false, Bool.and_true, Bool.and_false, Bool.true_and, Bool.false_and, Bool.or_true, Bool.or_false, Bool.true_or, Bool.false_or, Bool.not_true, Bool.not_false, ne_eq, not_true_eq_false, not_false_eq_true, true_and, and_true, false_and, and_false, true_or, or_true, false_or, or_false, ite_true, ite_false, Bool.false_eq_true])) J_ (fun _ _ _ => trivial)
end Go.Proofs.YtpdbbglpbngeiaaGreatDoor
namespace Go.Proofs.YtpdbbglpbngeiaaGreatDoor
open Go Go.Sx Go.Proofs
attribute [local irreducible] Code.wp wpList wpAnyH
open Go.Vs
theorem kE_ {a b : Str} (h : str a = str b) : a = b := by
  have h1 := Value.string.inj h
  have h2 := congrArg (fun z : ByteArray => z.data.toList) h1
  simpa using h2
theorem Fc.val_inj (x y : Fc) (h : x.val = y.val) : x = y := by
  obtain ⟨k, a, b, r, lo, hi⟩ := x
  obtain ⟨k', a', b', r', lo', hi'⟩ := y
  have h1 : [Value.int .i64 k, str a, str b, str r, .int .i64 lo, .int .i64 hi] = [Value.int .i64 k', str a', str b', str r', .int .i64 lo', .int .i64 hi'] := by
    exact congrArg Array.toList (Value.agg.inj h)
  simp only [List.cons.injEq, Value.int.injEq, true_and, and_true] at h1
  obtain ⟨rfl, ha, hb, hr, rfl, rfl⟩ := h1
  rw [kE_ ha, kE_ hb, kE_ hr]
theorem qH_ {σ : Type} {l : Nat} {Gj : σ → Hp} {lst : σ → List Fc} (hY : ∀ s x, (lst s).length < 1000000000000 → qe_ Tryz.prog l (Fc.val x) (Gj s) [] (fun _ : {s' : σ // lst s' = lst s ++ [x]} => .bool true) (fun s' => Gj s'.1) (fun _ => [])) (s0 : σ) (hs0 : lst s0 = []) (mb bx c : Nat) (es : Array MapEntry) (q : List Fc) (hE : SetE Fc.val es q) (hB : Born es c) (hql : q.length ≤ 1000000000000) : Tri Tryz.prog 122 #[.func (.yield l) #[] #[], zp_ bx 0] ((bx, .cells #[.map (some mb)] 88 (0, 0)) :: (mb, .map es c) :: Gj s0) [] (fun _ : {s' : σ // (lst s').Perm q} => .tuple #[]) (fun s' => (bx, .cells #[.map (some mb)] 88 (0, 0)) :: (mb, .map es c) :: Gj s'.1) (fun _ => []) := by
  refine S_ Tryz.func122 rfl rfl Tryz.ntmps122 rfl fun v0 => ?_
  refine h_ (d_ (a_ (s_ 0 bI_ rfl rfl rfl) rfl (og_ 1 Tryz.underlying88 rfl rfl rfl fun rr => ?_)))
  refine e_ (b_ rfl (P_ ?_))
  refine aE_ (ι := {y : List Fc × Array Nat × Nat × σ // ItS Fc.val es y.2.1 y.1 ∧ c ≤ y.2.2.1 ∧ lst y.2.2.2 = y.1 ∧ (∀ z ∈ y.1, z ∈ q)}) (fun y => [(0, .func (.yield l) #[] #[]), (1, zp_ bx 0), (5, zp_ rr 0)]) (fun y => ((rr, .mapIter (some mb) c y.1.2.1 y.1.2.2.1) :: ((bx, .cells #[.map (some mb)] 88 (0, 0)) :: ((mb, .map es c) :: (Gj y.1.2.2.2))))) (fun y => []) (fun y => List.length q - List.length y.1.1) ⟨([], #[], c, s0), ItS.nil, Nat.le_refl _, hs0, by simp⟩ ⟨rfl, rfl, rfl, trivial⟩ (m_ i_ (m_ i_ (m_ i_ aA_))) (fun _ _ _ => trivial) ?_
  rintro ⟨⟨done, seen, c0, s⟩, hI, hsc, hls, hsub⟩
  dsimp only at hI hsc hls hsub ⊢
  refine h_ (d_ ?_)
  refine pv_ 0 2 rfl rfl rfl hB.lt hsc rfl (fun h0 => ?_) (fun e he => ?_)
  · skip
    refine a_ (av_ rfl rfl) rfl (e_ (b_ rfl (h_ (v_ rfl (aw_ rfl (bk_ rfl ?_))))))
    exact dd_ Tryz.results122 ⟨s, by rw [hls]; exact hI.end Fc.val_inj hE h0⟩ rfl (m_ (c_ i_) (m_ (c_ i_) Q_)) (fun _ _ _ => trivial)
  · skip
    obtain ⟨k, hkq, hkd, hkv, hem, hI2⟩ := hI.step Fc.val_inj hE hB he
    refine a_ (av_ rfl rfl) rfl (e_ (b_ rfl (h_ (u_ rfl (E_ (b_ rfl (P_ (h_ (d_ ?_)))))))))
    refine a_ (bx_ (nL_ 0 2 rfl rfl rfl hem hB) (show _ = Value.tuple #[Fc.val k, e.val] by rw [hkv])) rfl (a_ (av_ rfl rfl) rfl (ar_ ag_ rfl fun b1 => ?_))
    refine V_ 0 A_ rfl rfl rfl rfl rfl rfl (e_ (b_ rfl (h_ ?_)))
    refine pb_ (ι := {s' : σ // lst s' = lst s ++ [k]}) (fun _ => [(0, .func (.yield l) #[] #[]), (1, zp_ bx 0), (5, zp_ rr 0), (13, .bool false)]) (fun z => ((b1, .cells (Fc.cells k).toArray 41 (0, 0)) :: ((rr, .mapIter (some mb) c (seen.push e.born) c) :: ((bx, .cells #[.map (some mb)] 88 (0, 0)) :: ((mb, .map es c) :: (Gj z.1)))))) (fun _ => []) ?_ ?_
    · skip
      refine fn_ ?_
      refine ff_ gA_ (f_ rfl) rfl rfl ?_
      refine ff_ gA_ (Y_ 0 U_ A_ rfl rfl rfl) rfl rfl ?_
      refine mD_ (hY s k (by rw [hls]; have := fE_ hI2.nd (m := q) (fun z hz => by rcases List.mem_append.1 hz with hz | hz; exact hsub z hz; rw [List.mem_singleton] at hz; exact hz ▸ hkq); rw [List.length_append, List.length_singleton] at this; omega)) rfl rfl (c_ (c_ (c_ Q_))) (fun _ _ _ => trivial) rfl fun z => ?_
      refine ff_ gA_ (bV_ rfl) rfl rfl ?_
      refine hF_ ?_
      refine jE_ rfl ?_
      exact kl_ z ⟨rfl, rfl, rfl, rfl, trivial⟩ (m_ (q_ i_) (m_ (q_ i_) (m_ (q_ i_) (m_ ba_ aA_)))) (fun _ _ h => h)
    · skip
      rintro ⟨s', hs'⟩
      dsimp only
      refine b_ rfl (v_ rfl (E_ (x_ rfl ?_)))
      exact Z_ ⟨(done ++ [k], seen.push e.born, c, s'), hI2, Nat.le_refl _, by rw [hs', hls], fun z hz => by rcases List.mem_append.1 hz with hz | hz; exact hsub z hz; rw [List.mem_singleton] at hz; exact hz ▸ hkq⟩ (by have := fE_ hI2.nd (m := q) (fun z hz => by rcases List.mem_append.1 hz with hz | hz; exact hsub z hz; rw [List.mem_singleton] at hz; exact hz ▸ hkq); rw [List.length_append, List.length_singleton] at this; dsimp only; rw [List.length_append, List.length_singleton]; omega) ⟨rfl, rfl, rfl, trivial⟩ (m_ (c_ i_) (m_ (c_ i_) (m_ (c_ i_) Q_))) (fun _ _ _ => trivial)
theorem pf_as2 {H A B C G : Hp} {b : Nat × Obj} (h : H.Perm ((b :: (A ++ (B ++ C))) ++ G)) : H.Perm ((b :: A) ++ B ++ (C ++ G)) := by simpa [List.append_assoc] using h
theorem qy_ {a b c d e : Nat × Obj} {Q : Hp} : (a :: b :: c :: (Q ++ [d, e])).Perm (e :: a :: b :: c :: (Q ++ [d])) := by
  have h1 : (a :: b :: c :: (Q ++ [d, e])) = (a :: b :: c :: (Q ++ [d])) ++ [e] := by simp
  rw [h1]; exact List.perm_append_comm
theorem pf_D6 {a b c d : Nat × Obj} {Q : Hp} : (a :: b :: c :: (Q ++ [d])).Perm ((a :: b :: Q) ++ [c, d]) := by
  simp only [List.cons_append]
  refine List.Perm.cons a (List.Perm.cons b ?_)
  have h2 : Q ++ [c, d] = (Q ++ [c]) ++ [d] := by simp
  rw [h2]
  show (([c] ++ Q) ++ [d]).Perm _
  exact List.Perm.append_right _ List.perm_append_comm
theorem qa_ (mb bx c : Nat) (es : Array MapEntry) (q : List Fc) (hE : SetE Fc.val es q) (hB : Born es c) (hql : q.length ≤ 1000000000000) : Tri Tryz.prog 159 #[.slice none 0 0, .func (.func 122) #[] #[zp_ bx 0]] [(bx, .cells #[.map (some mb)] 88 (0, 0)), (mb, .map es c)] [] (fun y : {y : Value × Hp × List Fc // aR_ 41 6 y.1 y.2.2.length (y.2.2.flatMap Fc.cells) y.2.1 ∧ y.2.2.Perm q} => y.1.1) (fun y => (bx, .cells #[.map (some mb)] 88 (0, 0)) :: (mb, .map es c) :: y.1.2.1) (fun _ => []) := by
  refine kB_ Tryz.func159 rfl rfl Tryz.ntmps159 rfl fun v0 => ?_
  refine h_ (d_ (bl_ rfl rfl fun b1 => ?_))
  refine a_ (g_ rfl) rfl (e_ (b_ rfl (h_ (h_ (d_ (a_ (f_ rfl) rfl (e_ (b_ rfl (P_ ?_)))))))))
  refine da_ [(2, zp_ b1 0), (6, .func (.func 122) #[] #[zp_ bx 0])] ⟨rfl, rfl, trivial⟩ ?_
  refine mv_ (σ := {y : Value × Hp × List Fc // aR_ 41 6 y.1 y.2.2.length (y.2.2.flatMap Fc.cells) y.2.1}) (α := Fc) (xv := Fc.val) (good := fun s _ => s.1.2.2.length < 1000000000000) (nx := fun x s s' => s'.1.2.2 = s.1.2.2 ++ [x]) (Rc := fun s => (s.1.2.2).Perm q) (Γi := []) (Hj := fun y => (b1, .cells #[y.1.1] 26 (0, 0)) :: y.1.2.1) (Hc := [(bx, .cells #[.map (some mb)] 88 (0, 0)), (mb, .map es c)]) (caps := [zp_ bx 0]) ⟨(.slice none 0 0, [], []), aR_.nil _ _⟩ rfl (@List.perm_append_comm _ [_] _) (fun _ _ _ => trivial) ?_ ?_ ?_
  · rintro l D rec hp hst hpe ht hasg hbody ⟨⟨sv, Hq, L⟩, hr⟩ x hx
    dsimp only at hr hx ⊢
    refine lg_ (ι := Nat) (Hj := fun y : {y : Value × Hp × List Fc // aR_ 41 6 y.1 y.2.2.length (y.2.2.flatMap Fc.cells) y.2.1} => (b1, .cells #[y.1.1] 26 (0, 0)) :: y.1.2.1) (s := ⟨(sv, Hq, L), hr⟩) (ok := fun s' => s'.1.2.2 = L ++ [x]) (Γ := []) (fun b2 => [(2, zp_ b1 0), (5, zp_ b2 0)]) (fun b2 => (b2, .cells (Fc.cells x).toArray 41 (0, 0)) :: (b1, .cells #[sv] 26 (0, 0)) :: Hq) hp hst hpe ht rfl ?_ ?_
    · intro n v0 H0 HL
      rw [hasg]
      dsimp only
      refine gC_.2 (am_ (H' := (b1, .cells #[sv] 26 (0, 0)) :: (Hq ++ HL)) (by simp) (gC_.1 ?_))
      refine fn_ ?_
      refine mE_ (eB_ _) ag_ rfl fun b2 => ?_
      refine jo_ (eB_ _) 0 A_ rfl rfl rfl rfl rfl rfl ?_
      refine hF_ ?_
      refine jE_ rfl ?_
      exact kl_ b2 ⟨rfl, rfl, trivial⟩ (F := []) (by rw [List.append_nil]; exact .refl _) (fun _ _ h => h)
    · intro n v0 H0 HL b2
      rw [hbody]
      refine gC_.2 (am_ (H' := (b2, .cells (Fc.cells x).toArray 41 (0, 0)) :: (b1, .cells #[sv] 26 (0, 0)) :: (Hq ++ HL)) (by simp) (gC_.1 ?_))
      refine mw_ ?_
      refine fn_ ?_
      refine ff_ (eB_ _) (s_ 1 bC_ rfl rfl rfl) rfl rfl ?_
      refine ff_ (eB_ _) (Y_ 0 U_ A_ rfl rfl rfl) rfl rfl ?_
      refine oj_ (eB_ _) G_ A_ ag_ rfl rfl rfl rfl rfl rfl fun b3 => ?_
      refine lJ_ (eB_ _) (news := List.flatMap Fc.cells [x]) cb_ hr rfl rfl (c_ (c_ (c_ w_))) rfl (cP_ 0 rfl) (fun u hu => aO_ Fc.cells_one hu) (by simp only [maxLen]; omega) (by omega) rfl fun sv1 Hr1 hr1 => ?_
      have hq1 : aR_ 41 6 sv1 (List.length (L ++ [x])) (List.flatMap Fc.cells (L ++ [x])) Hr1 := by rw [List.length_append, List.flatMap_append]; exact hr1
      refine py_ (bc_ (q_ i_) (bc_ (q_ i_) (cl_ (q_ i_)))) ?_
      refine jP_ (eB_ _) 2 hq1 bp_ rfl rfl rfl rfl ?_
      refine hF_ ?_
      refine jE_ rfl ?_
      exact mx_ ⟨(sv1, Hr1, (L ++ [x])), hq1⟩ rfl (pf_as2 (m_ (c_ (c_ i_)) (B_ (c_ (c_ w_)) (B_ (c_ Q_) (m_ i_ i_)))))
  · intro l Gj hY
    exact qH_ (lst := fun y => y.1.2.2) (fun s x h => hY s x h) ⟨(.slice none 0 0, [], []), aR_.nil _ _⟩ rfl mb bx c es q hE hB hql
  · rintro ⟨⟨sv, Hq, L⟩, hr⟩ hL D l r
    dsimp only at hL hr ⊢
    refine kx_ rfl ?_
    refine pd_ ?_
    refine fn_ ?_
    refine ff_ gA_ (s_ 2 bC_ rfl rfl rfl) rfl rfl ?_
    refine ff_ gA_ (g_ rfl) rfl rfl ?_
    refine hF_ ?_
    refine kx_ rfl ?_
    refine pe_ ?_
    exact retMD (G := (bx, .cells #[.map (some mb)] 88 (0, 0)) :: (mb, .map es c) :: (b1, .cells #[sv] 26 (0, 0)) :: (Hq ++ [(l, .loop r)])) ⟨(sv, Hq, L), hr, hL⟩ (fun a v h1 h2 => by have e := h1.val 4 sv rfl; simp [results, Tryz.results159, e]) (by unfold HLp; simp only [List.cons_append, List.append_assoc, List.nil_append]; exact qy_) ⟨_, pf_D6⟩ rfl
end Go.Proofs.YtpdbbglpbngeiaaGreatDoor
namespace Go.Proofs.YtpdbbglpbngeiaaGreatDoor
open Go Go.Sx Go.Proofs
attribute [local irreducible] Code.wp wpList wpAnyH
open Go.Vs
theorem nP_ {L q : List Fc} (h : L.Perm q) (hn : q.Nodup) : fj_ L = fj_ q :=
  Srt.ext (hy_ (h.nodup_iff.2 hn)) (hy_ hn) fun x => by rw [hz_, hz_]; exact h.mem_iff
theorem oA_ (mb bx c : Nat) (es : Array MapEntry) (q : List Fc) (hE : SetE Fc.val es q) (hB : Born es c) (hql : q.length ≤ 1000000000000) : Tri Tryz.prog 121 #[.func (.func 122) #[] #[zp_ bx 0]] [(bx, .cells #[.map (some mb)] 88 (0, 0)), (mb, .map es c)] [] (fun y : {y : Value × Hp × List Fc // aR_ 41 6 y.1 y.2.2.length (y.2.2.flatMap Fc.cells) y.2.1 ∧ y.2.2.Perm q} => y.1.1) (fun y => (bx, .cells #[.map (some mb)] 88 (0, 0)) :: (mb, .map es c) :: y.1.2.1) (fun _ => []) := by
  refine S_ Tryz.func121 rfl rfl Tryz.ntmps121 rfl fun v0 => ?_
  refine h_ (d_ (a_ (g_ rfl) rfl (e_ (b_ rfl (h_ (d_ (a_ (f_ rfl) rfl (W_ (qa_ mb bx c es q hE hB hql) rfl (m_ i_ i_) (fun _ _ _ => by exact trivial) rfl fun ⟨⟨sv1, Hq1, L1⟩, hr1, hL1⟩ => ?_))))))))
  dsimp only
  simp only [List.cons_append, List.append_nil]
  refine a_ (g_ rfl) rfl (e_ (b_ rfl (H_ ?_)))
  exact at_ Tryz.results121 ⟨(sv1, Hq1, L1), hr1, hL1⟩ rfl (m_ i_ (m_ i_ aA_)) (fun _ _ _ => trivial)
theorem nR_ (mb bx c : Nat) (es : Array MapEntry) (q : List Fc) (hE : SetE Fc.val es q) (hB : Born es c) (hql : q.length ≤ 1000000000000) : Tri Tryz.prog 68 #[.func (.func 122) #[] #[zp_ bx 0], .func (.func 61) #[] #[]] [(bx, .cells #[.map (some mb)] 88 (0, 0)), (mb, .map es c)] [] (fun y : {y : Option Addr × Nat // (fj_ q).length ≤ y.2 ∧ y.2 ≤ maxLen ∧ (y.1 = none → y.2 = 0)} => .slice y.1.1 (fj_ q).length y.1.2) (fun _ => []) (fun y => [aD_ y.1.1 ((fj_ q).flatMap Fc.cells)]) := by
  refine S_ Tryz.func68 rfl rfl Tryz.ntmps68 rfl fun v0 => ?_
  refine h_ (d_ (a_ (g_ rfl) rfl (e_ (b_ rfl (h_ (d_ (a_ (f_ rfl) rfl (W_ (oA_ mb bx c es q hE hB hql) rfl (m_ i_ i_) (fun _ _ _ => by exact trivial) rfl fun ⟨⟨sv1, Hq1, L1⟩, hr1, hL1⟩ => ?_))))))))
  dsimp only
  simp only [List.cons_append, List.append_nil]
  refine a_ (g_ rfl) rfl (e_ (b_ rfl (h_ (d_ (a_ (f_ rfl) rfl (a_ (f_ rfl) rfl (W_ (ne_ hr1 (by have := hL1.length_eq; omega)) rfl (c_ Q_) (fun _ _ _ => by exact trivial) rfl fun ⟨Hq9, hq9⟩ => ?_)))))))
  dsimp only
  refine e_ (b_ rfl (am_ (bc_ (q_ i_) (cl_ ba_)) (h_ (d_ (a_ (f_ rfl) rfl (a_ (g_ rfl) rfl (e_ (b_ rfl (H_ ?_)))))))))
  rw [nP_ hL1 hE.nd] at hq9
  refine bF_ hq9 (c_ Q_) fun ad2 cp2 had2 hcad2 hmad2 hzad2 => ?_
  exact at_ Tryz.results68 ⟨(ad2, cp2), hcad2, hmad2, hzad2⟩ (cd_ rfl had2) J_ (fun v _ h => ⟨h.1, trivial⟩)
theorem qG_ (mb : Nat) : Tri Tryz.prog 69 #[.map (some mb)] [] [] (fun bx : Nat => .func (.func 122) #[] #[zp_ bx 0]) (fun bx => [(bx, .cells #[.map (some mb)] 88 (0, 0))]) (fun _ => []) := by
  refine S_ Tryz.func69 rfl rfl Tryz.ntmps69 rfl fun v0 => ?_
  refine h_ (d_ (bl_ rfl rfl fun b1 => ?_))
  refine a_ (g_ rfl) rfl (e_ (b_ rfl (h_ (d_ (a_ (cO_ rfl rfl) rfl (a_ (g_ rfl) rfl (e_ (b_ rfl (H_ ?_)))))))))
  exact at_ Tryz.results69 b1 rfl (F := []) (.refl _) (fun _ _ _ => trivial)
end Go.Proofs.YtpdbbglpbngeiaaGreatDoor
namespace Go.Proofs.YtpdbbglpbngeiaaGreatDoor
open Go Go.Sx Go.Proofs
attribute [local irreducible] Code.wp wpList wpAnyH
open Go.Vs
theorem mb_ {A : List Str} {f : Fc} (h : cD_ A f = true) : f.form := by
  unfold cD_ at h
  simp only [Bool.and_eq_true, decide_eq_true_eq] at h
  obtain ⟨_, h⟩ := h
  split at h
  · simp only [Bool.and_eq_true, decide_eq_true_eq, dT_] at h
    exact .inl ⟨_, _, h.2⟩
  · split at h
    · simp only [Bool.and_eq_true, decide_eq_true_eq] at h
      exact .inr (.inl ⟨_, _, _, h.2.2, h.2.1⟩)
    · split at h
      · simp only [Bool.and_eq_true, decide_eq_true_eq] at h
        exact .inr (.inr ⟨_, _, _, _, h.2.1, h.1, h.2.2.1, h.2.2.2.1, h.2.2.2.2⟩)
      · simp at h
theorem oD_ {at' : List Str} {fs : List Fc} (h : dO_ at' fs = 0) : ChkC at' fs ∧ fs.length ≤ 65536 := by
  unfold dO_ at h
  split at h
  · rename_i h1
    split at h
    · simp at h
    · exact ⟨iQ_.1 h1, by omega⟩
  · simp at h
def gp_ (p : List Pc) (at' : List Str) (fs l : List Fc) (e : Int) : Prop :=
  if bM_ p ≠ 0 then l = [] ∧ e = bM_ p
  else if dO_ at' fs ≠ 0 then l = [] ∧ e = dO_ at' fs
  else e = 0 ∧ Srt l ∧ ∀ y, y ∈ l ↔ dU_ p (atS p) (· ∈ fs) y ∧ y ∉ fs
theorem qD_ {p : List Pc} {at' : List Str} {fs : List Fc} (h : bM_ p ≠ 0) : gp_ p at' fs [] (bM_ p) := by unfold gp_; rw [if_pos h]; exact ⟨rfl, rfl⟩
theorem qE_ {p : List Pc} {at' : List Str} {fs : List Fc} (h : bM_ p = 0) (h2 : dO_ at' fs ≠ 0) : gp_ p at' fs [] (dO_ at' fs) := by unfold gp_; rw [if_neg (by simp [h]), if_pos h2]; exact ⟨rfl, rfl⟩
theorem pC_ {p : List Pc} {at' : List Str} {fs q fm : List Fc} {k : Nat} (h : bM_ p = 0) (h2 : dO_ at' fs = 0) (hI : InvN (uniq [] p) (atS p) fs k (q, fm)) (hk : fs.length ≤ k) (hk2 : k ≤ fs.length) (hn : q.Nodup) : gp_ p at' fs (fj_ q) 0 := by
  unfold gp_; rw [if_neg (by simp [h]), if_neg (by simp [h2])]
  obtain rfl : k = fs.length := by omega
  refine ⟨rfl, hy_ hn, fun y => ?_⟩
  rw [hz_, kr_ hI, lk_]
theorem om_ {p : List Pc} {fs q : List Fc} {A : List Str} (hF : ∀ y ∈ fs, y.form) (hp : p.length ≤ 100) (hA : A.length ≤ 1000) (hl : fs.length ≤ 65536) (hn : q.Nodup) (hq : ∀ y ∈ q, dU_ p A (· ∈ fs) y) : q.length ≤ 1000000000000 := by
  have h1 := fE_ hn (m := eh_ p A ++ fs.flatMap (fun f => cq_ p fs f)) fun y hy => (jq_ hF y).2 (hq y hy)
  have h2 : (fs.flatMap (fun f => cq_ p fs f)).length ≤ fs.length * 14000000 := do_ fs fun x _ => ia_ hp hl
  have h3 : (eh_ p A).length ≤ A.length * 102 := do_ A fun x _ => by
    simp only [List.length_cons, List.length_map]
    have := List.length_filter_le (fun x : Pc => decide (x.kind = 7)) p
    omega
  rw [List.length_append] at h1
  omega
theorem pL_ (fs : List Fc) : Ix.nil.of (fun y => y ∈ List.take 0 fs) (fun _ => True) := by
  have e : (fun y => y ∈ fs.take 0) = (fun _ => False) := funext fun y => by simp
  rw [e]; exact Ix.of_nil _
theorem qI_ {x : Ix} {fs : List Fc} {i : Nat} {f : Fc} (h : x.of (fun y => y ∈ List.take i fs) (fun _ => True)) (hf : fs[i]? = some f) : (x.add (decide (f ∈ List.take (i + 1) fs)) f).of (fun y => y ∈ List.take (i + 1) fs) (fun _ => True) := by
  have hm : f ∈ List.take (i + 1) fs := by rw [List.take_add_one, hf]; simp
  have := Ix.of_add h f (b := decide (f ∈ List.take (i + 1) fs)) (by simp [hm])
  have e : (fun y => y ∈ List.take (i + 1) fs) = (fun y => y ∈ List.take i fs ∨ y = f) := funext fun y => by rw [List.take_add_one, hf]; simp
  rw [e]; exact this
theorem qw_ {F Ha Hu Ho Hi Hr Hm : Hp} {a b c : Nat × Obj} : ((Ha ++ (Hu ++ (Ho ++ (Hi ++ (Hr ++ (Hm ++ [a, b, c])))))) ++ F).Perm (Ha ++ (Hu ++ (Ho ++ (Hi ++ (Hr ++ (Hm ++ (a :: b :: c :: F))))))) := by simp [List.append_assoc]
set_option maxHeartbeats 4000000 in
theorem next_c (p : List Pc) (pad : Option Addr) (pcap : Nat) (c : Cl) (hsm : ∀ x ∈ p, x.sm) (hp : p.length ≤ 100) (hca : c.atoms.length ≤ 1000000000000) (hcf : c.facts.length ≤ 1000000000000) : Tri Tryz.prog 22 #[.slice pad (List.length p) pcap, Cl.val c] [] [aD_ pad (List.flatMap Pc.cells p), hc_, aD_ (Cl.aad c) (List.flatMap aJ_ (Cl.atoms c)), aD_ (Cl.fad c) (List.flatMap Fc.cells (Cl.facts c))] (fun y : {y : Option Addr × Nat × List Fc × Int // (y.2.2.1.length ≤ y.2.1 ∧ y.2.1 ≤ maxLen ∧ (y.1 = none → y.2.1 = 0)) ∧ gp_ p c.atoms c.facts y.2.2.1 y.2.2.2} => .tuple #[.slice y.1.1 y.1.2.2.1.length y.1.2.1, .int .i64 y.1.2.2.2]) (fun _ => []) (fun y => [aD_ y.1.1 (y.1.2.2.1.flatMap Fc.cells)]) := by
 refine S_ Tryz.func22 rfl rfl Tryz.ntmps22 rfl fun v0 => ?_
 refine h_ (d_ (bl_ rfl rfl fun b1 => ?_))
 refine a_ (g_ rfl) rfl (a_ (g_ rfl) rfl (e_ (b_ rfl (h_ (h_ (d_ (a_ (f_ rfl) rfl (W_ (nG_ p pad pcap (by omega) hsm) rfl J_ (fun v _ h => by exact ⟨h.1, h.2.1, trivial⟩) rfl fun _ => ?_))))))))
 refine a_ (g_ rfl) rfl (e_ (b_ rfl (h_ (d_ (a_ (f_ rfl) rfl (y_ (cz_ rfl rfl) rfl fun r1 hr1 => ?_))))))
 refine e_ (b_ rfl ?_)
 cases r1
 ·
  replace hr1 := br_ hr1
  have hchk := hr1
  refine v_ rfl (E_ (b_ rfl (h_ (h_ (d_ (a_ (Y_ 0 aX_ ak_ rfl rfl rfl) rfl (W_ (chk_c c hca hcf) rfl J_ (fun v _ h => by exact ⟨h.2.2.1, h.2.2.2.1, trivial⟩) rfl fun _ => ?_)))))))
  refine a_ (g_ rfl) rfl (e_ (b_ rfl (h_ (d_ (a_ (f_ rfl) rfl (y_ (cz_ rfl rfl) rfl fun r2 hr2 => ?_))))))
  refine e_ (b_ rfl ?_)
  cases r2
  ·
   replace hr2 := br_ hr2
   have hchc := hr2
   refine v_ rfl (E_ (b_ rfl (h_ ?_)))
   have hvk := lj_ (fP_ hchk)
   obtain ⟨hcc, hfl⟩ := oD_ hchc
   have hform : ∀ y ∈ (Cl.facts c), y.form := fun y hy => mb_ (hcc.ok y hy)
   have hnd : ((Cl.facts c)).Nodup := hcc.sf.nodup
   have hpl : ∀ k, (lat (aS_ (uniq [] p)) k).length ≤ 1000000000 := fun k => by have h1 := eW_ (aS_ (uniq [] p)) k; have h2 := hD_ (uniq [] p); have h3 := fA_ p []; simp only [List.length_nil] at h3; omega
   refine d_ (a_ (f_ rfl) rfl (W_ (iA_ p pad pcap (by omega)) rfl J_ (fun v _ h => by exact ⟨h.1, trivial⟩) rfl fun ⟨⟨g, pb, kb, ab, ub, ob, ib, rb, sb, fb, lv, hm0, hl0⟩, hy⟩ => ?_))
   dsimp only
   dsimp only [NewE.own, NewE.ok] at hy ⊢
   obtain ⟨hym, hyl⟩ := hy
   simp only [List.cons_append, List.append_assoc]
   refine bF_ hyl (c_ (c_ (c_ (c_ (c_ (c_ (c_ (c_ (c_ (q_ w_)))))))))) fun lad lcap hlad hclad hmlad hzlad => ?_
   subst hlad
   refine ar_ Tryz.zeroValue85 rfl fun b2 => ?_
   refine am_ (bc_ i_ (bc_ i_ (bc_ i_ (bc_ i_ (bc_ i_ (bc_ i_ (bc_ i_ (bc_ i_ (bc_ i_ (bc_ i_ (cl_ ba_))))))))))) (V_ 0 Tryz.sizeOf85 rfl rfl rfl rfl rfl rfl (e_ (b_ rfl (h_ (d_ (di_ rfl fun nb => ?_))))))
   refine ar_ Tryz.zeroValue88 rfl fun b3 => ?_
   refine V_ 0 bA_ rfl rfl rfl rfl rfl rfl (e_ (b_ rfl (h_ (d_ (a_ (s_ 2 bB_ rfl rfl rfl) rfl (a_ (cO_ rfl rfl) rfl (a_ (ao_ rfl) rfl (a_ (n_ I_ rfl rfl rfl aT_) rfl (V_ 3 aT_ rfl rfl rfl rfl rfl rfl ?_)))))))))
   refine e_ (b_ rfl (h_ (h_ (eV_ (cL_ b2 (.cells #[zp_ g 0] 85 (0, 0))) (cl_ (c_ (c_ i_))) (fun _ h1 h2 _ => ⟨h1, h2⟩) ?_))))
   refine eV_ (cL_ b3 (.cells #[.map (some nb)] 88 (0, 0))) (cl_ i_) (fun _ h1 h2 _ => ⟨h1, h2⟩) ?_
   refine eV_ (cL_ g (.cells #[.map (some pb), .slice lad (List.length (an_ (uniq [] p))) lcap, .map (some kb), .func (.func 67) #[] #[zp_ b2 0, zp_ b3 0], .map (some ab), .map (some ub), .map (some ob), .map (some ib), .map (some rb), .map (some sb), .map (some fb)] 94 (0, 0))) (cl_ (c_ i_)) (fun _ h1 h2 _ => ⟨h1, h2⟩) ?_
   refine lK_ fI_ hym (c_ (c_ (c_ (c_ (c_ (c_ (c_ (c_ (c_ Q_))))))))) fun adr => ?_
   refine d_ (a_ (n_ aB_ rfl rfl rfl bp_) rfl (a_ (s_ 9 bC_ rfl rfl rfl) rfl (a_ (as_ G_ rfl) rfl (a_ (f_ rfl) rfl (e_ (b_ rfl (P_ ?_)))))))
   refine aE_ (ι := {y : Nat × Ix × Array MapEntry × Nat × Array MapEntry × Nat × Hp × Hp × Hp × Hp × Hp × Hp // y.1 ≤ List.length (Cl.facts c) ∧ SetE Fc.val y.2.2.1 (List.take y.1 (Cl.facts c)) ∧ SetE Fc.val y.2.2.2.2.1 (List.take y.1 (Cl.facts c)) ∧ IxO 9 41 (EngB.mk g pb ab ub ob ib rb sb lad lcap (an_ (uniq [] p))) y.2.1 ⟨y.2.2.2.2.2.2.1, y.2.2.2.2.2.2.2.1, y.2.2.2.2.2.2.2.2.1, y.2.2.2.2.2.2.2.2.2.1, y.2.2.2.2.2.2.2.2.2.2.1, y.2.2.2.2.2.2.2.2.2.2.2⟩ ∧ lU_ y.2.1 y.1 ∧ y.2.1.of (fun z => z ∈ (List.take y.1 (Cl.facts c))) (fun _ => True)}) (fun y => [(0, .slice pad (List.length p) pcap), (3, zp_ b1 0), (8, zp_ b2 0), (9, zp_ b3 0), (35, .slice (Cl.fad c) (List.length (Cl.facts c)) (Cl.fcap c)), (36, .int .i64 (List.length (Cl.facts c) : Int)), (37, .int .i64 (y.1.1 : Int))]) (fun y => ((b1, .cells (Cl.cells c).toArray 28 (0, 0)) :: ((nb, .map #[] 0) :: ((kb, .map y.1.2.2.1 y.1.2.2.2.1) :: ((fb, .map y.1.2.2.2.2.1 y.1.2.2.2.2.2.1) :: (y.1.2.2.2.2.2.2.1 ++ (y.1.2.2.2.2.2.2.2.1 ++ (y.1.2.2.2.2.2.2.2.2.1 ++ (y.1.2.2.2.2.2.2.2.2.2.1 ++ (y.1.2.2.2.2.2.2.2.2.2.2.1 ++ y.1.2.2.2.2.2.2.2.2.2.2.2)))))))))) (fun y => [mlF Tryz.prog 171 Ky.val Pc.cells pb (aS_ (uniq [] p)) adr, cL_ g (.cells #[.map (some pb), .slice lad (List.length (an_ (uniq [] p))) lcap, .map (some kb), .func (.func 67) #[] #[zp_ b2 0, zp_ b3 0], .map (some ab), .map (some ub), .map (some ob), .map (some ib), .map (some rb), .map (some sb), .map (some fb)] 94 (0, 0)), cL_ b3 (.cells #[.map (some nb)] 88 (0, 0)), cL_ b2 (.cells #[zp_ g 0] 85 (0, 0)), aD_ lad (List.flatMap aJ_ (an_ (uniq [] p))), aD_ pad (List.flatMap Pc.cells p), hc_, aD_ (Cl.aad c) (List.flatMap aJ_ (Cl.atoms c)), aD_ (Cl.fad c) (List.flatMap Fc.cells (Cl.facts c))]) (fun y => List.length (Cl.facts c) - y.1.1) ⟨((0 : Nat), Ix.nil, #[], 0, #[], 0, [(ab, .map #[] 0)], [(ub, .map #[] 0)], [(ob, .map #[] 0)], [(ib, .map #[] 0)], [(rb, .map #[] 0)], [(sb, .map #[] 0)]), by simp, by exact SetE.nil, by exact SetE.nil, ⟨dn_.nil _ _, dn_.nil _ _, dn_.nil _ _, dn_.nil _ _, dn_.nil _ _, dn_.nil _ _⟩, lT_, pL_ _⟩ ⟨rfl, rfl, rfl, rfl, rfl, rfl, rfl, trivial⟩ (m_ (c_ (c_ (c_ (c_ (c_ (c_ (c_ (c_ (c_ i_))))))))) (m_ i_ (m_ i_ (m_ (c_ (c_ (c_ (c_ (c_ (c_ i_)))))) (m_ i_ (m_ i_ (m_ i_ (m_ i_ (m_ i_ i_))))))))) (fun _ _ h => h) ?_
   rintro ⟨⟨i, x, es, c1, es2, c2, Ha, Hu, Ho, Hi, Hr, Hm⟩, hi, hK, hF, hI, hz, hxo⟩
   dsimp only at hi hK hF hI hz hxo ⊢
   obtain ⟨hxl, hyl⟩ := hG_ hz (by omega)
   refine h_ (d_ (y_ (ay_ rfl rfl) rfl fun r3 hr3 => ?_))
   refine e_ (b_ rfl (h_ ?_))
   cases r3
   ·
    replace hr3 := of_decide_eq_false hr3
    have e9 : (List.take i (Cl.facts c)) = (Cl.facts c) := List.take_of_length_le (by omega)
    rw [e9] at hK hF hxo
    refine v_ rfl (aw_ rfl (b_ rfl (h_ ?_)))
    refine aP_ ((b1, .cells (Cl.cells c).toArray 28 (0, 0)) :: (Ha ++ (Hu ++ (Ho ++ (Hi ++ (Hr ++ Hm)))))) (by kernel_rfl) ?_
    refine ad_ 2 [0, 1] (by kernel_rfl) (fun _ a b => ⟨Vw.sat.sub (a.perm (m_ i_ (B_ (c_ (c_ (c_ w_))) (B_ (c_ (c_ (c_ w_))) (B_ (c_ (c_ (c_ w_))) (B_ (c_ (c_ (c_ w_))) (B_ (c_ (c_ (c_ w_))) (c_ (c_ Q_))))))))), b⟩) (o_ rfl (ah_ bB_ rfl (fun v _ h => by exact h.2.2.2.1) rfl) rfl (o_ rfl (f_ rfl) rfl (ac_ (X_ 2 rfl (by kernel_rfl) (W_ (rr_ p pad pcap (by omega)) rfl J_ (fun v _ h => by exact ⟨h.2.2.2.2.2.1, trivial⟩) rfl fun ⟨⟨aad, acap⟩, hac, ham, haz⟩ => ?_)))))
    dsimp only
    refine e_ (x_ rfl (O_ (fun _ a b => ⟨Vw.sat.sub (a.perm (m_ i_ (B_ (c_ (c_ (c_ w_))) (B_ (c_ (c_ (c_ w_))) (B_ (c_ (c_ (c_ w_))) (B_ (c_ (c_ (c_ w_))) (B_ (c_ (c_ (c_ w_))) (c_ (c_ Q_))))))))), b.2⟩) (X_ 3 rfl (by kernel_rfl) (W_ (nI_ (EngB.mk g pb ab ub ob ib rb sb lad lcap (an_ (uniq [] p))) (EN (Cl.facts c) (EngB.mk g pb ab ub ob ib rb sb lad lcap (an_ (uniq [] p))) b2 b3 kb fb nb) [] (Cl.facts c) [(nb, .map #[] 0), (kb, .map es c1), (fb, .map es2 c2)] ⟨es, c1, es2, c2, (Cl.facts c), #[], 0, rfl, SetE.nil, hK, hF, fun _ => Iff.rfl, Born.nil 0⟩ (atS p) aad acap (by have := hR_ p; omega) (by have := gD_ (uniq [] p); have h3 := fA_ p []; simp only [List.length_nil] at h3; show (an_ (uniq [] p)).length ≤ _; omega)) rfl (m_ (c_ i_) (m_ (c_ i_) (c_ i_))) (fun v _ h => by exact ⟨h.2.2.1, h.2.2.2.2.2.1, h.1, ⟨h.2.2.2.2.1, h.2.2.2.1, h.2.2.1⟩, trivial⟩) rfl fun ⟨Hs1, hS1⟩ => ?_))))
    dsimp only
    refine e_ (x_ rfl (O_ (fun _ a b => ⟨Vw.sat.sub (a.perm (m_ (q_ i_) (B_ (q_ w_) (B_ (q_ w_) (B_ (q_ w_) (B_ (q_ w_) (B_ (q_ w_) ba_))))))), b.2⟩) (aa_ (by kernel_rfl) (b_ rfl (am_ (cl_ (q_ i_)) (h_ (d_ (a_ (ah_ bB_ rfl (fun v _ h => by exact h.2.2.2.2.1) rfl) rfl (W_ (ng_ g) rfl J_ (fun _ _ _ => by exact trivial) rfl fun ⟨r1, r2, r3⟩ => ?_)))))))))
    dsimp only
    refine ar_ Tryz.zeroValue98 rfl fun b4 => ?_
    refine V_ 0 Tryz.sizeOf98 rfl rfl rfl rfl rfl rfl (e_ (b_ rfl (h_ (h_ (d_ (a_ (n_ aB_ rfl rfl rfl bp_) rfl (a_ (s_ 1 bC_ rfl rfl rfl) rfl (a_ (as_ G_ rfl) rfl (a_ (f_ rfl) rfl ?_)))))))))
    refine e_ (b_ rfl (P_ ?_))
    refine aE_ (ι := {y : Nat × List Fc × List Fc × Hp // y.1 ≤ List.length (Cl.facts c) ∧ InvN (uniq [] p) (atS p) (Cl.facts c) y.1 (y.2.1, y.2.2.1) ∧ ((EN (Cl.facts c) (EngB.mk g pb ab ub ob ib rb sb lad lcap (an_ (uniq [] p))) b2 b3 kb fb nb)).St y.2.1 y.2.2.1 y.2.2.2}) (fun y => [(0, .slice pad (List.length p) pcap), (3, zp_ b1 0), (8, zp_ b2 0), (9, zp_ b3 0), (12, zp_ b4 0), (62, .slice (Cl.fad c) (List.length (Cl.facts c)) (Cl.fcap c)), (63, .int .i64 (List.length (Cl.facts c) : Int)), (64, .int .i64 (y.1.1 : Int))]) (fun y => ((b1, .cells (Cl.cells c).toArray 28 (0, 0)) :: ((b4, .cells #[.slice none 0 0, .slice (some ⟨r1, 0, none⟩) 6 6, .slice (some ⟨r2, 0, none⟩) 4 4, .slice (some ⟨r3, 0, none⟩) 2 2] 98 (0, 0)) :: (Ha ++ (Hu ++ (Ho ++ (Hi ++ (Hr ++ (Hm ++ y.1.2.2.2))))))))) (fun y => [aD_ (some ⟨r1, 0, none⟩) (List.flatMap fvC (rlV g 1)), aD_ (some ⟨r2, 0, none⟩) (List.flatMap fvC (rlV g 2)), aD_ (some ⟨r3, 0, none⟩) (List.flatMap fvC (rlV g 3)), aD_ aad (List.flatMap aJ_ (atS p)), mlF Tryz.prog 171 Ky.val Pc.cells pb (aS_ (uniq [] p)) adr, cL_ g (.cells #[.map (some pb), .slice lad (List.length (an_ (uniq [] p))) lcap, .map (some kb), .func (.func 67) #[] #[zp_ b2 0, zp_ b3 0], .map (some ab), .map (some ub), .map (some ob), .map (some ib), .map (some rb), .map (some sb), .map (some fb)] 94 (0, 0)), cL_ b3 (.cells #[.map (some nb)] 88 (0, 0)), cL_ b2 (.cells #[zp_ g 0] 85 (0, 0)), aD_ lad (List.flatMap aJ_ (an_ (uniq [] p))), aD_ pad (List.flatMap Pc.cells p), hc_, aD_ (Cl.aad c) (List.flatMap aJ_ (Cl.atoms c)), aD_ (Cl.fad c) (List.flatMap Fc.cells (Cl.facts c))]) (fun y => List.length (Cl.facts c) - y.1.1) ⟨((0 : Nat), (emits (dB_ (Cl.facts c)) (dP_ (an_ (uniq [] p)) (atS p)) []), (Cl.facts c), Hs1), by simp, mO_ (fun _ h => h), by exact hS1⟩ ⟨rfl, rfl, rfl, rfl, rfl, rfl, rfl, rfl, trivial⟩ (m_ (c_ i_) (m_ i_ (B_ (q_ w_) (B_ (q_ w_) (B_ (q_ w_) (B_ (q_ w_) (B_ (q_ w_) (B_ ba_ aA_)))))))) (fun _ _ h => h) ?_
    rintro ⟨⟨k, q, fm, Hs⟩, hkl, hN, hS⟩
    dsimp only at hkl hN hS ⊢
    refine h_ (d_ (y_ (ay_ rfl rfl) rfl fun r4 hr4 => ?_))
    refine e_ (b_ rfl (h_ ?_))
    cases r4
    ·
     replace hr4 := of_decide_eq_false hr4
     refine v_ rfl (aw_ rfl (b_ rfl (h_ ?_)))
     obtain ⟨es5, c5, es6, c6, q6, es7, c7, hHs, hE7, hE5, hE6, hq6, hB7⟩ := hS
     subst hHs
     have hone : ∀ y ∈ q, dU_ p (atS p) (· ∈ (Cl.facts c)) y := fun y hy => by have e : k = ((Cl.facts c)).length := (by omega); subst e; exact lk_.1 ((kr_ hN y).1 hy).1
     have hql := om_ hform hp (by have := hR_ p; omega) hfl hE7.nd hone
     refine d_ (a_ (ah_ bI_ rfl (fun v _ h => by exact h.2.2.2.2.2.2.1) rfl) rfl (W_ (qG_ nb) rfl J_ (fun _ _ _ => by exact trivial) rfl fun bx => ?_))
     refine W_ (nR_ nb bx c7 es7 q hE7 hB7 hql) rfl (m_ i_ (c_ (c_ (q_ (q_ (q_ (q_ (q_ (q_ i_))))))))) (fun _ _ _ => by exact trivial) rfl fun ⟨⟨oad, ocap⟩, hoc, hom, hoz⟩ => ?_
     dsimp only
     refine a_ (g_ rfl) rfl (a_ (g_ rfl) rfl (e_ (b_ rfl (H_ ?_))))
     exact ret2 Tryz.results22 ⟨(oad, ocap, fj_ q, 0), ⟨hoc, hom, hoz⟩, pC_ hchk hchc hN (by omega) (by omega) hE7.nd⟩ rfl rfl rfl J_ (fun v _ h => by exact ⟨h.1, trivial⟩)
    ·
     replace hr4 := of_decide_eq_true hr4
     have hlf2 : k < List.length (Cl.facts c) := by omega
     obtain ⟨f2, hf2⟩ : ∃ e0, (Cl.facts c)[k]? = some e0 := ⟨_, List.getElem?_eq_getElem hlf2⟩
     have hmf2 : f2 ∈ (Cl.facts c) := List.mem_of_getElem? hf2
     have hform2 := hform f2 hmf2
     obtain ⟨hxl, hyl⟩ := hG_ hz (by omega)
     refine u_ rfl (E_ (b_ rfl (h_ (P_ (h_ (d_ (a_ (ae_ G_ A_ rfl rfl (fun v _ h => az_ (n := 6) Fc.cells_len (by decide) (by exact h.2.2.2.2.2.2.2.2.2.2.2.2.1) hf2) (by omega) (by first | omega | (simp; done))) rfl (a_ (aV_ (ad := (Cl.fad c)) (us := Fc.cells f2) U_ A_ rfl (fun v _ h => by exact h.2.2.2.2.2.2.2.2.2.2.2.2.1) (Fc.cells_len _) (ai_ Fc.cells_len hf2)) rfl (ar_ ag_ rfl fun b5 => ?_)))))))))
     refine V_ 0 A_ rfl rfl rfl rfl rfl rfl (e_ (b_ rfl (h_ (d_ (a_ (n_ k_ rfl rfl rfl K_) rfl (a_ (s_ 0 L_ rfl rfl rfl) rfl ?_))))))
     rcases eZ_ hform2 with hk | hk | hk
     ·
      refine a_ (bx_ (ef_ dW_ hs_ rfl rfl (by omega) (by omega)) (show _ = zp_ b4 1 from by rw [hk]; rfl)) rfl (a_ (s_ 2 mL_ rfl rfl rfl) rfl (a_ (as_ by_ rfl) rfl (a_ (f_ rfl) rfl (e_ (b_ rfl (P_ ?_))))))
      refine aE_ (ι := {y : Nat × Hp // y.1 ≤ 6 ∧ ((EN (Cl.facts c) (EngB.mk g pb ab ub ob ib rb sb lad lcap (an_ (uniq [] p))) b2 b3 kb fb nb)).St (rls (dB_ (Cl.facts c)) (eK_ (Cl.facts c)) (aS_ (uniq [] p)) x f2 y.1 (q, fm)).1 (rls (dB_ (Cl.facts c)) (eK_ (Cl.facts c)) (aS_ (uniq [] p)) x f2 y.1 (q, fm)).2 y.2}) (fun y => [(0, .slice pad (List.length p) pcap), (3, zp_ b1 0), (8, zp_ b2 0), (9, zp_ b3 0), (12, zp_ b4 0), (14, zp_ b5 0), (62, .slice (Cl.fad c) (List.length (Cl.facts c)) (Cl.fcap c)), (63, .int .i64 (List.length (Cl.facts c) : Int)), (64, .int .i64 (k : Int)), (71, .slice (some ⟨r1, 0, none⟩) 6 6), (72, .int .i64 6), (73, .int .i64 (y.1.1 : Int))]) (fun y => ((b1, .cells (Cl.cells c).toArray 28 (0, 0)) :: ((b4, .cells #[.slice none 0 0, .slice (some ⟨r1, 0, none⟩) 6 6, .slice (some ⟨r2, 0, none⟩) 4 4, .slice (some ⟨r3, 0, none⟩) 2 2] 98 (0, 0)) :: ((b5, .cells (Fc.cells f2).toArray 41 (0, 0)) :: (Ha ++ (Hu ++ (Ho ++ (Hi ++ (Hr ++ (Hm ++ y.1.2)))))))))) (fun y => [aD_ (some ⟨r1, 0, none⟩) (List.flatMap fvC (rlV g 1)), aD_ (some ⟨r2, 0, none⟩) (List.flatMap fvC (rlV g 2)), aD_ (some ⟨r3, 0, none⟩) (List.flatMap fvC (rlV g 3)), aD_ aad (List.flatMap aJ_ (atS p)), mlF Tryz.prog 171 Ky.val Pc.cells pb (aS_ (uniq [] p)) adr, cL_ g (.cells #[.map (some pb), .slice lad (List.length (an_ (uniq [] p))) lcap, .map (some kb), .func (.func 67) #[] #[zp_ b2 0, zp_ b3 0], .map (some ab), .map (some ub), .map (some ob), .map (some ib), .map (some rb), .map (some sb), .map (some fb)] 94 (0, 0)), cL_ b3 (.cells #[.map (some nb)] 88 (0, 0)), cL_ b2 (.cells #[zp_ g 0] 85 (0, 0)), aD_ lad (List.flatMap aJ_ (an_ (uniq [] p))), aD_ pad (List.flatMap Pc.cells p), hc_, aD_ (Cl.aad c) (List.flatMap aJ_ (Cl.atoms c)), aD_ (Cl.fad c) (List.flatMap Fc.cells (Cl.facts c))]) (fun y => 6 - y.1.1) ⟨((0 : Nat), Hs), by omega, by exact hS⟩ ⟨rfl, rfl, rfl, rfl, rfl, rfl, rfl, rfl, rfl, rfl, rfl, rfl, trivial⟩ (m_ (c_ i_) (m_ (c_ i_) (m_ i_ (B_ w_ (B_ w_ (B_ w_ (B_ w_ (B_ w_ (B_ w_ aA_))))))))) (fun _ _ h => h) ?_
      rintro ⟨⟨j, Hs⟩, hj, hS2⟩
      dsimp only at hj hS2 ⊢
      refine h_ (d_ (y_ (ay_ rfl rfl) rfl fun r5 hr5 => ?_))
      refine e_ (b_ rfl (h_ ?_))
      cases r5
      ·
       replace hr5 := of_decide_eq_false hr5
       have ej : j = 6 := by omega
       rw [ej] at hS2
       refine v_ rfl (aw_ rfl (b_ rfl (d_ (a_ (M_ rfl rfl rfl (al_ (by omega) (by omega))) rfl (a_ (f_ rfl) rfl (e_ (x_ rfl ?_)))))))
       exact Z_ ⟨(k + 1, (rls (dB_ (Cl.facts c)) (eK_ (Cl.facts c)) (aS_ (uniq [] p)) x f2 6 (q, fm)).1, (rls (dB_ (Cl.facts c)) (eK_ (Cl.facts c)) (aS_ (uniq [] p)) x f2 6 (q, fm)).2, Hs), hlf2, (il_ hvk hxo hform hN hf2 (by have e : nrl f2 = 6 := (by unfold nrl; simp [hk]); rw [e])), by exact (by exact hS2)⟩ (by dsimp only; omega) ⟨rfl, rfl, rfl, rfl, rfl, rfl, rfl, rfl, trivial⟩ (m_ i_ (m_ i_ (B_ (c_ w_) (B_ (c_ w_) (B_ (c_ w_) (B_ (c_ w_) (B_ (c_ w_) (B_ (c_ w_) Q_)))))))) (fun _ _ h => h)
      ·
       replace hr5 := of_decide_eq_true hr5
       have hlfv : j < List.length (rlV g 1) := by show j < 6; omega
       obtain ⟨fv, hfv⟩ : ∃ e0, (rlV g 1)[j]? = some e0 := ⟨_, List.getElem?_eq_getElem hlfv⟩
       have hmfv : fv ∈ (rlV g 1) := List.mem_of_getElem? hfv
       refine u_ rfl (E_ (b_ rfl (h_ (P_ (h_ (d_ (a_ (ae_ by_ aT_ rfl rfl (fun v _ h => az_ (n := 1) ed_ (by decide) (by exact h.1) hfv) (by omega) (by omega)) rfl (a_ (aH_ (ad := (some ⟨r1, 0, none⟩)) bu_ rfl (fun v _ h => by exact h.1) (ai_ ed_ hfv 0 _ rfl)) rfl (a_ (g_ rfl) rfl ?_)))))))))
       refine e_ (b_ rfl (d_ (a_ (f_ rfl) rfl (a_ (Y_ 2 U_ A_ rfl rfl rfl) rfl ?_))))
       obtain ⟨nr, rfl, hT⟩ := nj_ (EngB.mk g pb ab ub ob ib rb sb lad lcap (an_ (uniq [] p))) (EN (Cl.facts c) (EngB.mk g pb ab ub ob ib rb sb lad lcap (an_ (uniq [] p))) b2 b3 kb fb nb) (EngA.mk adr (fun _ => (none, 0)) (fun _ => (none, 0)) (fun _ => (none, 0)) (fun _ => (none, 0)) (fun _ => (none, 0)) (fun _ => (none, 0))) (aS_ (uniq [] p)) x f2 (rls (dB_ (Cl.facts c)) (eK_ (Cl.facts c)) (aS_ (uniq [] p)) x f2 j (q, fm)).1 (rls (dB_ (Cl.facts c)) (eK_ (Cl.facts c)) (aS_ (uniq [] p)) x f2 j (q, fm)).2 Hs hS2 Ha Hu Ho Hi Hr Hm hI hpl hxl hyl (fun hk => (fi_ hform2 hk).2.2) (fun _ y hy => (hvk y (pm9.1 hy).1).num (.inr (pm9.1 hy).2.1)) hk j hfv
       refine bb_ (first := [zp_ g 0]) (vs := [Fc.val f2]) (cap := []) hT rfl rfl (ie_ (B_ (c_ (c_ (c_ w_))) (B_ (c_ (c_ (c_ w_))) (B_ (c_ (c_ (c_ w_))) (B_ (c_ (c_ (c_ w_))) (B_ (c_ (c_ (c_ w_))) (B_ (c_ (c_ (c_ w_))) (c_ (c_ Q_))))))))) (fun v _ h => by exact ⟨h.2.2.2.2.2.1, h.2.2.2.2.1, ⟨h.2.2.2.2.2.2.2.1, h.2.2.2.2.2.2.1, h.2.2.2.2.2.1⟩, trivial⟩) rfl fun ⟨Hs3, hS3⟩ => ?_
       refine am_ gV_ (e_ (b_ rfl (am_ (bc_ (q_ (q_ (q_ (q_ (q_ (q_ (q_ i_))))))) (bc_ (q_ (q_ (q_ (q_ (q_ (q_ (q_ i_))))))) (cl_ (q_ (q_ (q_ (q_ (q_ (q_ ba_))))))))) (d_ (a_ (M_ rfl rfl rfl (al_ (by omega) (by omega))) rfl (a_ (f_ rfl) rfl (e_ (x_ rfl ?_))))))))
       exact Z_ ⟨(j + 1, Hs3), hlfv, by exact hS3⟩ (by dsimp only; omega) ⟨rfl, rfl, rfl, rfl, rfl, rfl, rfl, rfl, rfl, rfl, rfl, rfl, trivial⟩ (m_ i_ (m_ i_ (m_ i_ (B_ w_ (B_ w_ (B_ w_ (B_ w_ (B_ w_ (B_ w_ aA_))))))))) (fun _ _ h => h)
     ·
      refine a_ (bx_ (ef_ dW_ hs_ rfl rfl (by omega) (by omega)) (show _ = zp_ b4 2 from by rw [hk]; rfl)) rfl (a_ (s_ 2 mL_ rfl rfl rfl) rfl (a_ (as_ by_ rfl) rfl (a_ (f_ rfl) rfl (e_ (b_ rfl (P_ ?_))))))
      refine aE_ (ι := {y : Nat × Hp // y.1 ≤ 4 ∧ ((EN (Cl.facts c) (EngB.mk g pb ab ub ob ib rb sb lad lcap (an_ (uniq [] p))) b2 b3 kb fb nb)).St (rls (dB_ (Cl.facts c)) (eK_ (Cl.facts c)) (aS_ (uniq [] p)) x f2 y.1 (q, fm)).1 (rls (dB_ (Cl.facts c)) (eK_ (Cl.facts c)) (aS_ (uniq [] p)) x f2 y.1 (q, fm)).2 y.2}) (fun y => [(0, .slice pad (List.length p) pcap), (3, zp_ b1 0), (8, zp_ b2 0), (9, zp_ b3 0), (12, zp_ b4 0), (14, zp_ b5 0), (62, .slice (Cl.fad c) (List.length (Cl.facts c)) (Cl.fcap c)), (63, .int .i64 (List.length (Cl.facts c) : Int)), (64, .int .i64 (k : Int)), (71, .slice (some ⟨r2, 0, none⟩) 4 4), (72, .int .i64 4), (73, .int .i64 (y.1.1 : Int))]) (fun y => ((b1, .cells (Cl.cells c).toArray 28 (0, 0)) :: ((b4, .cells #[.slice none 0 0, .slice (some ⟨r1, 0, none⟩) 6 6, .slice (some ⟨r2, 0, none⟩) 4 4, .slice (some ⟨r3, 0, none⟩) 2 2] 98 (0, 0)) :: ((b5, .cells (Fc.cells f2).toArray 41 (0, 0)) :: (Ha ++ (Hu ++ (Ho ++ (Hi ++ (Hr ++ (Hm ++ y.1.2)))))))))) (fun y => [aD_ (some ⟨r1, 0, none⟩) (List.flatMap fvC (rlV g 1)), aD_ (some ⟨r2, 0, none⟩) (List.flatMap fvC (rlV g 2)), aD_ (some ⟨r3, 0, none⟩) (List.flatMap fvC (rlV g 3)), aD_ aad (List.flatMap aJ_ (atS p)), mlF Tryz.prog 171 Ky.val Pc.cells pb (aS_ (uniq [] p)) adr, cL_ g (.cells #[.map (some pb), .slice lad (List.length (an_ (uniq [] p))) lcap, .map (some kb), .func (.func 67) #[] #[zp_ b2 0, zp_ b3 0], .map (some ab), .map (some ub), .map (some ob), .map (some ib), .map (some rb), .map (some sb), .map (some fb)] 94 (0, 0)), cL_ b3 (.cells #[.map (some nb)] 88 (0, 0)), cL_ b2 (.cells #[zp_ g 0] 85 (0, 0)), aD_ lad (List.flatMap aJ_ (an_ (uniq [] p))), aD_ pad (List.flatMap Pc.cells p), hc_, aD_ (Cl.aad c) (List.flatMap aJ_ (Cl.atoms c)), aD_ (Cl.fad c) (List.flatMap Fc.cells (Cl.facts c))]) (fun y => 4 - y.1.1) ⟨((0 : Nat), Hs), by omega, by exact hS⟩ ⟨rfl, rfl, rfl, rfl, rfl, rfl, rfl, rfl, rfl, rfl, rfl, rfl, trivial⟩ (m_ (c_ i_) (m_ (c_ i_) (m_ i_ (B_ w_ (B_ w_ (B_ w_ (B_ w_ (B_ w_ (B_ w_ aA_))))))))) (fun _ _ h => h) ?_
      rintro ⟨⟨j, Hs⟩, hj, hS2⟩
      dsimp only at hj hS2 ⊢
      refine h_ (d_ (y_ (ay_ rfl rfl) rfl fun r6 hr6 => ?_))
      refine e_ (b_ rfl (h_ ?_))
      cases r6
      ·
       replace hr6 := of_decide_eq_false hr6
       have ej : j = 4 := by omega
       rw [ej] at hS2
       refine v_ rfl (aw_ rfl (b_ rfl (d_ (a_ (M_ rfl rfl rfl (al_ (by omega) (by omega))) rfl (a_ (f_ rfl) rfl (e_ (x_ rfl ?_)))))))
       exact Z_ ⟨(k + 1, (rls (dB_ (Cl.facts c)) (eK_ (Cl.facts c)) (aS_ (uniq [] p)) x f2 4 (q, fm)).1, (rls (dB_ (Cl.facts c)) (eK_ (Cl.facts c)) (aS_ (uniq [] p)) x f2 4 (q, fm)).2, Hs), hlf2, (il_ hvk hxo hform hN hf2 (by have e : nrl f2 = 4 := (by unfold nrl; simp [hk]); rw [e])), by exact (by exact hS2)⟩ (by dsimp only; omega) ⟨rfl, rfl, rfl, rfl, rfl, rfl, rfl, rfl, trivial⟩ (m_ i_ (m_ i_ (B_ (c_ w_) (B_ (c_ w_) (B_ (c_ w_) (B_ (c_ w_) (B_ (c_ w_) (B_ (c_ w_) Q_)))))))) (fun _ _ h => h)
      ·
       replace hr6 := of_decide_eq_true hr6
       have hlfv : j < List.length (rlV g 2) := by show j < 4; omega
       obtain ⟨fv, hfv⟩ : ∃ e0, (rlV g 2)[j]? = some e0 := ⟨_, List.getElem?_eq_getElem hlfv⟩
       have hmfv : fv ∈ (rlV g 2) := List.mem_of_getElem? hfv
       refine u_ rfl (E_ (b_ rfl (h_ (P_ (h_ (d_ (a_ (ae_ by_ aT_ rfl rfl (fun v _ h => az_ (n := 1) ed_ (by decide) (by exact h.2.1) hfv) (by omega) (by omega)) rfl (a_ (aH_ (ad := (some ⟨r2, 0, none⟩)) bu_ rfl (fun v _ h => by exact h.2.1) (ai_ ed_ hfv 0 _ rfl)) rfl (a_ (g_ rfl) rfl ?_)))))))))
       refine e_ (b_ rfl (d_ (a_ (f_ rfl) rfl (a_ (Y_ 2 U_ A_ rfl rfl rfl) rfl ?_))))
       obtain ⟨nr, rfl, hT⟩ := ni_ (EngB.mk g pb ab ub ob ib rb sb lad lcap (an_ (uniq [] p))) (EN (Cl.facts c) (EngB.mk g pb ab ub ob ib rb sb lad lcap (an_ (uniq [] p))) b2 b3 kb fb nb) (EngA.mk adr (fun _ => (none, 0)) (fun _ => (none, 0)) (fun _ => (none, 0)) (fun _ => (none, 0)) (fun _ => (none, 0)) (fun _ => (none, 0))) (aS_ (uniq [] p)) x f2 (rls (dB_ (Cl.facts c)) (eK_ (Cl.facts c)) (aS_ (uniq [] p)) x f2 j (q, fm)).1 (rls (dB_ (Cl.facts c)) (eK_ (Cl.facts c)) (aS_ (uniq [] p)) x f2 j (q, fm)).2 Hs hS2 Ha Hu Ho Hi Hr Hm hI hpl hxl hyl (fun hk => (fi_ hform2 hk).2.2) (fun _ y hy => (hvk y (pm9.1 hy).1).num (.inr (pm9.1 hy).2.1)) hk j hfv
       refine bb_ (first := [zp_ g 0]) (vs := [Fc.val f2]) (cap := []) hT rfl rfl (ie_ (B_ (c_ (c_ (c_ w_))) (B_ (c_ (c_ (c_ w_))) (B_ (c_ (c_ (c_ w_))) (B_ (c_ (c_ (c_ w_))) (B_ (c_ (c_ (c_ w_))) (B_ (c_ (c_ (c_ w_))) (c_ (c_ Q_))))))))) (fun v _ h => by exact ⟨h.2.2.2.2.2.1, h.2.2.2.2.1, ⟨h.2.2.2.2.2.2.2.1, h.2.2.2.2.2.2.1, h.2.2.2.2.2.1⟩, trivial⟩) rfl fun ⟨Hs3, hS3⟩ => ?_
       refine am_ gV_ (e_ (b_ rfl (am_ (bc_ (q_ (q_ (q_ (q_ (q_ (q_ (q_ i_))))))) (bc_ (q_ (q_ (q_ (q_ (q_ (q_ (q_ i_))))))) (cl_ (q_ (q_ (q_ (q_ (q_ (q_ ba_))))))))) (d_ (a_ (M_ rfl rfl rfl (al_ (by omega) (by omega))) rfl (a_ (f_ rfl) rfl (e_ (x_ rfl ?_))))))))
       exact Z_ ⟨(j + 1, Hs3), hlfv, by exact hS3⟩ (by dsimp only; omega) ⟨rfl, rfl, rfl, rfl, rfl, rfl, rfl, rfl, rfl, rfl, rfl, rfl, trivial⟩ (m_ i_ (m_ i_ (m_ i_ (B_ w_ (B_ w_ (B_ w_ (B_ w_ (B_ w_ (B_ w_ aA_))))))))) (fun _ _ h => h)
     ·
      refine a_ (bx_ (ef_ dW_ hs_ rfl rfl (by omega) (by omega)) (show _ = zp_ b4 3 from by rw [hk]; rfl)) rfl (a_ (s_ 2 mL_ rfl rfl rfl) rfl (a_ (as_ by_ rfl) rfl (a_ (f_ rfl) rfl (e_ (b_ rfl (P_ ?_))))))
      refine aE_ (ι := {y : Nat × Hp // y.1 ≤ 2 ∧ ((EN (Cl.facts c) (EngB.mk g pb ab ub ob ib rb sb lad lcap (an_ (uniq [] p))) b2 b3 kb fb nb)).St (rls (dB_ (Cl.facts c)) (eK_ (Cl.facts c)) (aS_ (uniq [] p)) x f2 y.1 (q, fm)).1 (rls (dB_ (Cl.facts c)) (eK_ (Cl.facts c)) (aS_ (uniq [] p)) x f2 y.1 (q, fm)).2 y.2}) (fun y => [(0, .slice pad (List.length p) pcap), (3, zp_ b1 0), (8, zp_ b2 0), (9, zp_ b3 0), (12, zp_ b4 0), (14, zp_ b5 0), (62, .slice (Cl.fad c) (List.length (Cl.facts c)) (Cl.fcap c)), (63, .int .i64 (List.length (Cl.facts c) : Int)), (64, .int .i64 (k : Int)), (71, .slice (some ⟨r3, 0, none⟩) 2 2), (72, .int .i64 2), (73, .int .i64 (y.1.1 : Int))]) (fun y => ((b1, .cells (Cl.cells c).toArray 28 (0, 0)) :: ((b4, .cells #[.slice none 0 0, .slice (some ⟨r1, 0, none⟩) 6 6, .slice (some ⟨r2, 0, none⟩) 4 4, .slice (some ⟨r3, 0, none⟩) 2 2] 98 (0, 0)) :: ((b5, .cells (Fc.cells f2).toArray 41 (0, 0)) :: (Ha ++ (Hu ++ (Ho ++ (Hi ++ (Hr ++ (Hm ++ y.1.2)))))))))) (fun y => [aD_ (some ⟨r1, 0, none⟩) (List.flatMap fvC (rlV g 1)), aD_ (some ⟨r2, 0, none⟩) (List.flatMap fvC (rlV g 2)), aD_ (some ⟨r3, 0, none⟩) (List.flatMap fvC (rlV g 3)), aD_ aad (List.flatMap aJ_ (atS p)), mlF Tryz.prog 171 Ky.val Pc.cells pb (aS_ (uniq [] p)) adr, cL_ g (.cells #[.map (some pb), .slice lad (List.length (an_ (uniq [] p))) lcap, .map (some kb), .func (.func 67) #[] #[zp_ b2 0, zp_ b3 0], .map (some ab), .map (some ub), .map (some ob), .map (some ib), .map (some rb), .map (some sb), .map (some fb)] 94 (0, 0)), cL_ b3 (.cells #[.map (some nb)] 88 (0, 0)), cL_ b2 (.cells #[zp_ g 0] 85 (0, 0)), aD_ lad (List.flatMap aJ_ (an_ (uniq [] p))), aD_ pad (List.flatMap Pc.cells p), hc_, aD_ (Cl.aad c) (List.flatMap aJ_ (Cl.atoms c)), aD_ (Cl.fad c) (List.flatMap Fc.cells (Cl.facts c))]) (fun y => 2 - y.1.1) ⟨((0 : Nat), Hs), by omega, by exact hS⟩ ⟨rfl, rfl, rfl, rfl, rfl, rfl, rfl, rfl, rfl, rfl, rfl, rfl, trivial⟩ (m_ (c_ i_) (m_ (c_ i_) (m_ i_ (B_ w_ (B_ w_ (B_ w_ (B_ w_ (B_ w_ (B_ w_ aA_))))))))) (fun _ _ h => h) ?_
      rintro ⟨⟨j, Hs⟩, hj, hS2⟩
      dsimp only at hj hS2 ⊢
      refine h_ (d_ (y_ (ay_ rfl rfl) rfl fun r7 hr7 => ?_))
      refine e_ (b_ rfl (h_ ?_))
      cases r7
      ·
       replace hr7 := of_decide_eq_false hr7
       have ej : j = 2 := by omega
       rw [ej] at hS2
       refine v_ rfl (aw_ rfl (b_ rfl (d_ (a_ (M_ rfl rfl rfl (al_ (by omega) (by omega))) rfl (a_ (f_ rfl) rfl (e_ (x_ rfl ?_)))))))
       exact Z_ ⟨(k + 1, (rls (dB_ (Cl.facts c)) (eK_ (Cl.facts c)) (aS_ (uniq [] p)) x f2 2 (q, fm)).1, (rls (dB_ (Cl.facts c)) (eK_ (Cl.facts c)) (aS_ (uniq [] p)) x f2 2 (q, fm)).2, Hs), hlf2, (il_ hvk hxo hform hN hf2 (by have e : nrl f2 = 2 := (by unfold nrl; simp [hk]); rw [e])), by exact (by exact hS2)⟩ (by dsimp only; omega) ⟨rfl, rfl, rfl, rfl, rfl, rfl, rfl, rfl, trivial⟩ (m_ i_ (m_ i_ (B_ (c_ w_) (B_ (c_ w_) (B_ (c_ w_) (B_ (c_ w_) (B_ (c_ w_) (B_ (c_ w_) Q_)))))))) (fun _ _ h => h)
      ·
       replace hr7 := of_decide_eq_true hr7
       have hlfv : j < List.length (rlV g 3) := by show j < 2; omega
       obtain ⟨fv, hfv⟩ : ∃ e0, (rlV g 3)[j]? = some e0 := ⟨_, List.getElem?_eq_getElem hlfv⟩
       have hmfv : fv ∈ (rlV g 3) := List.mem_of_getElem? hfv
       refine u_ rfl (E_ (b_ rfl (h_ (P_ (h_ (d_ (a_ (ae_ by_ aT_ rfl rfl (fun v _ h => az_ (n := 1) ed_ (by decide) (by exact h.2.2.1) hfv) (by omega) (by omega)) rfl (a_ (aH_ (ad := (some ⟨r3, 0, none⟩)) bu_ rfl (fun v _ h => by exact h.2.2.1) (ai_ ed_ hfv 0 _ rfl)) rfl (a_ (g_ rfl) rfl ?_)))))))))
       refine e_ (b_ rfl (d_ (a_ (f_ rfl) rfl (a_ (Y_ 2 U_ A_ rfl rfl rfl) rfl ?_))))
       obtain ⟨nr, rfl, hT⟩ := nh_ (EngB.mk g pb ab ub ob ib rb sb lad lcap (an_ (uniq [] p))) (EN (Cl.facts c) (EngB.mk g pb ab ub ob ib rb sb lad lcap (an_ (uniq [] p))) b2 b3 kb fb nb) (EngA.mk adr (fun _ => (none, 0)) (fun _ => (none, 0)) (fun _ => (none, 0)) (fun _ => (none, 0)) (fun _ => (none, 0)) (fun _ => (none, 0))) (aS_ (uniq [] p)) x f2 (rls (dB_ (Cl.facts c)) (eK_ (Cl.facts c)) (aS_ (uniq [] p)) x f2 j (q, fm)).1 (rls (dB_ (Cl.facts c)) (eK_ (Cl.facts c)) (aS_ (uniq [] p)) x f2 j (q, fm)).2 Hs hS2 Ha Hu Ho Hi Hr Hm hI hpl hxl hyl (fun hk => (fi_ hform2 hk).2.2) (fun _ y hy => (hvk y (pm9.1 hy).1).num (.inr (pm9.1 hy).2.1)) hk j hfv
       refine bb_ (first := [zp_ g 0]) (vs := [Fc.val f2]) (cap := []) hT rfl rfl (ie_ (B_ (c_ (c_ (c_ w_))) (B_ (c_ (c_ (c_ w_))) (B_ (c_ (c_ (c_ w_))) (B_ (c_ (c_ (c_ w_))) (B_ (c_ (c_ (c_ w_))) (B_ (c_ (c_ (c_ w_))) (c_ (c_ Q_))))))))) (fun v _ h => by exact ⟨h.2.2.2.2.2.1, h.2.2.2.2.1, ⟨h.2.2.2.2.2.2.2.1, h.2.2.2.2.2.2.1, h.2.2.2.2.2.1⟩, trivial⟩) rfl fun ⟨Hs3, hS3⟩ => ?_
       refine am_ gV_ (e_ (b_ rfl (am_ (bc_ (q_ (q_ (q_ (q_ (q_ (q_ (q_ i_))))))) (bc_ (q_ (q_ (q_ (q_ (q_ (q_ (q_ i_))))))) (cl_ (q_ (q_ (q_ (q_ (q_ (q_ ba_))))))))) (d_ (a_ (M_ rfl rfl rfl (al_ (by omega) (by omega))) rfl (a_ (f_ rfl) rfl (e_ (x_ rfl ?_))))))))
       exact Z_ ⟨(j + 1, Hs3), hlfv, by exact hS3⟩ (by dsimp only; omega) ⟨rfl, rfl, rfl, rfl, rfl, rfl, rfl, rfl, rfl, rfl, rfl, rfl, trivial⟩ (m_ i_ (m_ i_ (m_ i_ (B_ w_ (B_ w_ (B_ w_ (B_ w_ (B_ w_ (B_ w_ aA_))))))))) (fun _ _ h => h)
   ·
    replace hr3 := of_decide_eq_true hr3
    have hlf : i < List.length (Cl.facts c) := by omega
    obtain ⟨f, hf⟩ : ∃ e0, (Cl.facts c)[i]? = some e0 := ⟨_, List.getElem?_eq_getElem hlf⟩
    have hmf : f ∈ (Cl.facts c) := List.mem_of_getElem? hf
    refine u_ rfl (E_ (b_ rfl (h_ (P_ (h_ (d_ (a_ (ae_ G_ A_ rfl rfl (fun v _ h => az_ (n := 6) Fc.cells_len (by decide) (by exact h.2.2.2.2.2.2.2.2.1) hf) (by omega) (by first | omega | (simp; done))) rfl (a_ (aV_ (ad := (Cl.fad c)) (us := Fc.cells f) U_ A_ rfl (fun v _ h => by exact h.2.2.2.2.2.2.2.2.1) (Fc.cells_len _) (ai_ Fc.cells_len hf)) rfl (ar_ ag_ rfl fun b6 => ?_)))))))))
    refine V_ 0 A_ rfl rfl rfl rfl rfl rfl (e_ (b_ rfl (h_ ?_)))
    refine aP_ ((b6, .cells (Fc.cells f).toArray 41 (0, 0)) :: ((b1, .cells (Cl.cells c).toArray 28 (0, 0)) :: ((nb, .map #[] 0) :: (Ha ++ (Hu ++ (Ho ++ (Hi ++ (Hr ++ Hm)))))))) (by kernel_rfl) ?_
    refine ad_ 1 [0, 1, 2, 3, 4] (by kernel_rfl) (fun _ a b => ⟨Vw.sat.sub (a.perm (m_ i_ (m_ i_ (m_ i_ (B_ (c_ (c_ w_)) (B_ (c_ (c_ w_)) (B_ (c_ (c_ w_)) (B_ (c_ (c_ w_)) (B_ (c_ (c_ w_)) (c_ Q_)))))))))), b⟩) (o_ rfl (ah_ bB_ rfl (fun v _ h => by exact h.2.2.2.1) rfl) rfl (o_ rfl (ao_ rfl) rfl (o_ rfl (n_ I_ rfl rfl rfl bA_) rfl (o_ rfl (ah_ bI_ rfl (fun v _ h => by exact h.2.1) rfl) rfl (o_ rfl (Y_ 0 U_ A_ rfl rfl rfl) rfl (ac_ (X_ 5 rfl (by kernel_rfl) (fC_ (k := f) 3 fJ_ (.inr rfl) aU_ rfl rfl rfl rfl hK fun ej1 cj1 hj1 => ?_))))))))
    refine e_ (x_ rfl (O_ (fun _ a b => ⟨Vw.sat.sub (a.perm (m_ i_ (m_ i_ (m_ i_ (B_ (c_ (c_ w_)) (B_ (c_ (c_ w_)) (B_ (c_ (c_ w_)) (B_ (c_ (c_ w_)) (B_ (c_ (c_ w_)) (c_ Q_)))))))))), b⟩) (aa_ (by kernel_rfl) (b_ rfl (h_ ?_)))))
    refine aP_ ((b6, .cells (Fc.cells f).toArray 41 (0, 0)) :: ((b1, .cells (Cl.cells c).toArray 28 (0, 0)) :: ((nb, .map #[] 0) :: (Ha ++ (Hu ++ (Ho ++ (Hi ++ (Hr ++ Hm)))))))) (by kernel_rfl) ?_
    refine ad_ 1 [0, 1, 2, 3, 4] (by kernel_rfl) (fun _ a b => ⟨Vw.sat.sub (a.perm (m_ i_ (m_ i_ (m_ i_ (B_ (c_ (c_ w_)) (B_ (c_ (c_ w_)) (B_ (c_ (c_ w_)) (B_ (c_ (c_ w_)) (B_ (c_ (c_ w_)) (c_ Q_)))))))))), b⟩) (o_ rfl (ah_ bB_ rfl (fun v _ h => by exact h.2.2.2.1) rfl) rfl (o_ rfl (ao_ rfl) rfl (o_ rfl (n_ I_ rfl rfl rfl bA_) rfl (o_ rfl (ah_ bI_ rfl (fun v _ h => by exact h.2.1) rfl) rfl (o_ rfl (Y_ 0 U_ A_ rfl rfl rfl) rfl (ac_ (X_ 5 rfl (by kernel_rfl) (fC_ (k := f) 4 fJ_ (.inr rfl) aU_ rfl rfl rfl rfl hF fun ej2 cj2 hj2 => ?_))))))))
    refine e_ (x_ rfl (O_ (fun _ a b => ⟨Vw.sat.sub (a.perm (m_ i_ (m_ i_ (m_ i_ (B_ (c_ (c_ w_)) (B_ (c_ (c_ w_)) (B_ (c_ (c_ w_)) (B_ (c_ (c_ w_)) (B_ (c_ (c_ w_)) (c_ Q_)))))))))), b⟩) (aa_ (by kernel_rfl) (b_ rfl ?_))))
    have hK1 := (iY_ hnd hf) ▸ hj1
    have hF1 := (iY_ hnd hf) ▸ hj2
    refine d_ (a_ (ah_ bB_ rfl (fun v _ h => by exact h.2.2.2.1) rfl) rfl (a_ (Y_ 0 U_ A_ rfl rfl rfl) rfl (W_ (ny_ (EngB.mk g pb ab ub ob ib rb sb lad lcap (an_ (uniq [] p))) (EN (List.take (i + 1) (Cl.facts c)) (EngB.mk g pb ab ub ob ib rb sb lad lcap (an_ (uniq [] p))) b2 b3 kb fb nb) x f [] (List.take (i + 1) (Cl.facts c)) [(nb, .map #[] 0), (kb, .map ej1 cj1), (fb, .map ej2 cj2)] ⟨ej1, cj1, ej2, cj2, (List.take (i + 1) (Cl.facts c)), #[], 0, rfl, SetE.nil, hK1, hF1, fun _ => Iff.rfl, Born.nil 0⟩ Ha Hu Ho Hi Hr Hm hI hxl hyl) rfl (B_ (c_ (c_ (c_ (c_ (c_ w_))))) (B_ (c_ (c_ (c_ (c_ (c_ w_))))) (B_ (c_ (c_ (c_ (c_ (c_ w_))))) (B_ (c_ (c_ (c_ (c_ (c_ w_))))) (B_ (c_ (c_ (c_ (c_ (c_ w_))))) (B_ (c_ (c_ (c_ (c_ Q_)))) (m_ (c_ (c_ i_)) (m_ (c_ (c_ i_)) (c_ (c_ i_)))))))))) (fun v _ h => by exact ⟨h.2.1, trivial⟩) rfl fun ⟨⟨Ha1, Hu1, Ho1, Hi1, Hr1, Hm1⟩, hI1⟩ => ?_)))
    dsimp only
    refine am_ qw_ (e_ (b_ rfl (am_ (bc_ (q_ (q_ (q_ (q_ (q_ (q_ i_)))))) (bc_ (q_ (q_ (q_ (q_ (q_ (q_ i_)))))) (bc_ (q_ (q_ (q_ (q_ (q_ (q_ i_)))))) (bc_ (q_ (q_ (q_ (q_ (q_ (q_ i_)))))) (cl_ (q_ (q_ (q_ (q_ (q_ ba_)))))))))) (d_ (a_ (M_ rfl rfl rfl (al_ (by omega) (by omega))) rfl (a_ (f_ rfl) rfl (e_ (x_ rfl ?_))))))))
    exact Z_ ⟨(i + 1, (Ix.add x (decide (f ∈ (List.take (i + 1) (Cl.facts c)))) f), ej1, cj1, ej2, cj2, Ha1, Hu1, Ho1, Hi1, Hr1, Hm1), hlf, hK1, hF1, hI1, (gE_ hz _ f), qI_ hxo hf⟩ (by dsimp only; omega) ⟨rfl, rfl, rfl, rfl, rfl, rfl, rfl, trivial⟩ (m_ (c_ (c_ (c_ (c_ i_)))) (m_ i_ (m_ i_ (m_ i_ (B_ (c_ w_) (B_ (c_ w_) (B_ (c_ w_) (B_ (c_ w_) (B_ (c_ w_) Q_))))))))) (fun _ _ h => h)
  ·
   replace hr2 := bq_ hr2
   refine u_ rfl (h_ (d_ (a_ (f_ rfl) rfl (a_ (g_ rfl) rfl (a_ (g_ rfl) rfl (e_ (b_ rfl (H_ ?_))))))))
   exact ret2 Tryz.results22 ⟨(none, 0, [], (dO_ (Cl.atoms c) (Cl.facts c))), ⟨Nat.le_refl _, by simp, fun _ => rfl⟩, qE_ (by assumption) (by assumption)⟩ rfl rfl rfl J_ (fun v _ h => by exact ⟨.inl rfl, trivial⟩)
 ·
  replace hr1 := bq_ hr1
  refine u_ rfl (h_ (d_ (a_ (f_ rfl) rfl (a_ (g_ rfl) rfl (a_ (g_ rfl) rfl (e_ (b_ rfl (H_ ?_))))))))
  exact ret2 Tryz.results22 ⟨(none, 0, [], (bM_ p)), ⟨Nat.le_refl _, by simp, fun _ => rfl⟩, qD_ (by assumption)⟩ rfl rfl rfl J_ (fun v _ h => by exact ⟨.inl rfl, trivial⟩)
end Go.Proofs.YtpdbbglpbngeiaaGreatDoor
namespace Go.Proofs.YtpdbbglpbngeiaaGreatDoor
open Go Go.Sx Go.Proofs
attribute [local irreducible] Code.wp wpList wpAnyH
open Go.Vs
theorem dE {p : Prop} {i : Decidable p} : (@decide p i = true) ↔ p := ⟨fun h => of_decide_eq_true h, fun h => decide_eq_true h⟩
theorem nJ_ (p : List Pc) : [42] ∈ atS p := (gk_ p _).2 (.inr (.inl rfl))
theorem kW_ (p : List Pc) : [33] ∈ atS p := (gk_ p _).2 (.inr (.inr rfl))
theorem at_of {p : List Pc} {x : Pc} (hx : x ∈ p) {s : Str} (hs : s = x.a ∨ s = x.b ∨ s = x.c) (hn : s ≠ []) : s ∈ atS p := by
  refine (gk_ p s).2 (.inl ((ei_ p s).2 ?_))
  refine List.mem_flatMap.2 ⟨x, hx, List.mem_filter.2 ⟨?_, by simpa using hn⟩⟩
  rcases hs with rfl | rfl | rfl <;> simp
theorem qZ_ {s : Str} (h : be_ s = true) : s ≠ [] := fun e => by subst e; revert h; decide
theorem qm_ {p : Pc} (h : p.valid = true) (hk : p.kind = 1 ∨ p.kind = 2 ∨ p.kind = 3 ∨ p.kind = 4 ∨ p.kind = 9) : p.c ≠ [] := by
  unfold Pc.valid at h
  split at h
  · simp at h
  split at h
  · simp at h
  split at h
  · simp at h
  simp only [Bool.and_eq_true] at h
  obtain ⟨⟨⟨⟨_, hc⟩, _⟩, _⟩, _⟩ := h
  have key : ∀ {b : Bool}, ch_ b p.c be_ = true → b = true → p.c ≠ [] := fun h1 h2 => by
    subst h2; simp [ch_] at h1; exact qZ_ h1
  rcases hk with q | q | q | q | q <;> rw [q] at hc <;> exact key hc (by decide)
theorem fo1 {A : List Str} {a b : Str} : cD_ A (aj_ a b) = true ↔ a ∈ A ∧ b ∈ A := by
  unfold cD_ aj_ dT_
  dsimp only
  rw [if_pos rfl, Bool.and_eq_true, Bool.and_eq_true, dE, dE, dE]
  simp [aj_]
theorem fo2 {A : List Str} {a r b : Str} : cD_ A (au_ a r b) = true ↔ a ∈ A ∧ b ∈ A ∧ r ≠ [] := by
  unfold cD_ au_
  dsimp only
  rw [if_neg (by decide), if_pos rfl, Bool.and_eq_true, Bool.and_eq_true, Bool.and_eq_true, dE, dE, dE, dE]
  simp [au_]
theorem fo3 {A : List Str} {a r : Str} {lo hi : Int} : cD_ A (aF_ a r lo hi) = true ↔ a ∈ A ∧ r ≠ [] ∧ -1099511627776 ≤ lo ∧ lo ≤ hi ∧ hi ≤ 1099511627776 := by
  unfold cD_ aF_
  dsimp only
  rw [if_neg (by decide), if_neg (by decide), if_pos rfl, Bool.and_eq_true, Bool.and_eq_true, Bool.and_eq_true, Bool.and_eq_true, Bool.and_eq_true, dE, dE, dE, dE, dE, dE]
  simp [aF_]
theorem one_ok {p : List Pc} {S : Fc → Prop} (hp : ∀ x ∈ p, x.valid = true) (hS : ∀ y, S y → cD_ (atS p) y = true) {y : Fc} (h : dU_ p (atS p) S y) : cD_ (atS p) y = true := by
  have hc : ∀ {x : Pc}, x ∈ p → (x.kind = 1 ∨ x.kind = 2 ∨ x.kind = 3 ∨ x.kind = 4 ∨ x.kind = 9) → x.c ∈ atS p := fun hx hk => at_of hx (.inr (.inr rfl)) (qm_ (hp _ hx) hk)
  have hv : ∀ {x : Pc}, x ∈ p → x.vok := fun hx => jW_ (hp _ hx)
  cases h with
  | r1 h => exact fo1.2 ⟨h, h⟩
  | r2 h => exact fo1.2 ⟨h, nJ_ p⟩
  | r10 hx hk h => exact fo2.2 ⟨h, h, (hv hx).rok.1 (by simp [hk])⟩
  | r3 hx hk h => exact fo1.2 ⟨(fo1.1 (hS _ h)).1, hc hx (by simp [hk])⟩
  | r4 hx hk h h' => exact fo1.2 ⟨(fo1.1 (hS _ h)).1, hc hx (by simp [hk])⟩
  | r5 hx hk h => exact fo2.2 ⟨(fo1.1 (hS _ h)).1, hc hx (by simp [hk]), (hv hx).rok.1 (by simp [hk])⟩
  | r6 hx hk h => exact fo2.2 ⟨(fo2.1 (hS _ h)).1, (fo2.1 (hS _ h)).2.1, (hv hx).rok.2.2 hk⟩
  | r7 hx hk h h' => exact fo2.2 ⟨(fo2.1 (hS _ h)).1, (fo2.1 (hS _ h')).2.1, ((hv hx).rok.2.1 hk).2⟩
  | r8 hx hk h h' => exact fo1.2 ⟨(fo2.1 (hS _ h)).1, hc hx (by simp [hk])⟩
  | r9 h h' => exact fo1.2 ⟨(fo2.1 (hS _ h)).1, kW_ p⟩
  | r11 hx hk h => exact fo3.2 ⟨(fo1.1 (hS _ h)).1, (hv hx).rok.1 (by simp [hk]), (hv hx).num (.inl hk)⟩
  | r12 h h' hm hl =>
    have h1 := fo3.1 (hS _ h)
    have h2 := fo3.1 (hS _ h')
    exact fo3.2 ⟨h1.1, h1.2.1, by omega, hl, by omega⟩
  | r13 h h' hm hl => exact fo1.2 ⟨(fo3.1 (hS _ h)).1, kW_ p⟩
  | r14 hx hk h h1 h2 => exact fo1.2 ⟨(fo3.1 (hS _ h)).1, hc hx (by simp [hk])⟩
theorem der_ok {p : List Pc} (hp : ∀ x ∈ p, x.valid = true) {y : Fc} (h : Der p (atS p) y) : cD_ (atS p) y = true := h _ fun _ hy => one_ok hp (fun _ h => h) hy
theorem mh_ {p : List Pc} (h : bM_ p = 0) : ∀ x ∈ p, x.valid = true := fun x hx => List.all_eq_true.1 (mi_ h).2 x hx
theorem oJ_ {p : List Pc} {m : Nat} {L : List Fc} (hp : bM_ p = 0) (h : dp_ p (atS p) m (some L)) (hm : m ≤ 65536) : dO_ (atS p) L = 0 :=
  (nF_ ⟨it_ p, h.1, nJ_ p, kW_ p, fun f hf => der_ok (mh_ hp) ((h.2.1 f).1 hf)⟩ (by have := h.2.2; omega)).symm
theorem lb_ {p : List Pc} {A : List Str} {m : Nat} {L : List Fc} (h : dp_ p A m (some L)) {y : Fc} (hy : dU_ p A (· ∈ L) y) : y ∈ L :=
  (h.2.1 y).2 (Der.step (hy.mono (fun x hx => ⟨x, hx, x.frm, rfl⟩) (fun _ h => h) (fun z hz => (h.2.1 z).1 hz) (fun _ _ h => h)))
theorem dF_.good {p : List Pc} {bu : Int} {c : Cl} (h : dF_ p bu c 0) : bM_ p = 0 ∧ 0 ≤ bu ∧ bu ≤ 1073741824 ∧ c.ok ∧ c.atoms = atS p ∧ dp_ p (atS p) (min bu 65536).toNat (some c.facts) := by
  unfold dF_ at h
  split at h
  · rename_i h1; exact absurd h.2.symm h1
  · rename_i h1
    split at h
    · exact absurd h.2 (by decide)
    · rename_i h2
      rcases h with h | h
      · exact ⟨by simpa using h1, by omega, by omega, h.2⟩
      · have := h.2.1; split at this <;> exact absurd this (by decide)
theorem dF_.bad {p : List Pc} {bu : Int} {c : Cl} {e : Int} (h : dF_ p bu c e) (he : e ≠ 0) : c = Cl.no := by
  unfold dF_ at h
  split at h
  · exact h.1
  · split at h
    · exact h.1
    · rcases h with h | h
      · exact absurd h.1 he
      · exact h.1
theorem dF_.ok {p : List Pc} {bu : Int} {c : Cl} {e : Int} (h : dF_ p bu c e) : c.ok := by
  by_cases he : e = 0
  · subst he; exact h.good.2.2.2.1
  · rw [h.bad he]; exact Cl.no_ok
theorem dF_.len {p : List Pc} {bu : Int} {c : Cl} {e : Int} (h : dF_ p bu c e) : c.atoms.length ≤ 3 * p.length + 2 ∧ c.facts.length ≤ 65536 := by
  by_cases he : e = 0
  · subst he
    obtain ⟨_, _, _, _, h1, h2⟩ := h.good
    refine ⟨by rw [h1]; exact hR_ p, ?_⟩
    have := h2.2.2
    omega
  · rw [h.bad he]; simp [Cl.no]
theorem hU_ {p : List Pc} {bu : Int} {c : Cl} {e : Int} {r : Option (List Fc)} (h : dF_ p bu c e) (hc : bM_ p = 0) (hb : 0 ≤ bu) (hb2 : bu ≤ 1073741824) (hr : dp_ p (atS p) (min bu 65536).toNat r) : (∀ L, r = some L → e = 0 ∧ c.facts = L ∧ c.atoms = atS p) ∧ (r = none → c = Cl.no ∧ e = if bu < 65536 then 3 else 2) := by
  unfold dF_ at h
  rw [if_neg (by simp [hc]), if_neg (by omega)] at h
  rcases h with ⟨h1, h2, h3, h4⟩ | ⟨h1, h2, h3⟩
  · have e := dp_.uniq h4 hr
    subst e
    exact ⟨fun L hL => ⟨h1, Option.some.inj hL, h3⟩, fun h => (by cases h)⟩
  · have e := dp_.uniq h3 hr
    subst e
    exact ⟨fun L hL => (by cases hL), fun _ => ⟨h1, h2⟩⟩
theorem gp_.good {p : List Pc} {at' : List Str} {fs l : List Fc} {e : Int} (h : gp_ p at' fs l e) (hp : bM_ p = 0) (hc : dO_ at' fs = 0) : e = 0 ∧ Srt l ∧ ∀ y, y ∈ l ↔ dU_ p (atS p) (· ∈ fs) y ∧ y ∉ fs := by
  unfold gp_ at h
  rw [if_neg (by simp [hp]), if_neg (by simp [hc])] at h
  exact h
theorem ol_ {p : List Pc} {m : Nat} {L l : List Fc} {e : Int} (hp : bM_ p = 0) (hm : m ≤ 65536) (hA : dp_ p (atS p) m (some L)) (h : gp_ p (atS p) L l e) : l = [] ∧ e = 0 := by
  obtain ⟨h1, _, h3⟩ := h.good hp (oJ_ hp hA hm)
  refine ⟨List.eq_nil_iff_forall_not_mem.2 fun y hy => ?_, h1⟩
  have := (h3 y).1 hy
  exact this.2 (lb_ hA this.1)
end Go.Proofs.YtpdbbglpbngeiaaGreatDoor
namespace Go.Proofs.YtpdbbglpbngeiaaGreatDoor
open Go Go.Sx Go.Proofs
attribute [local irreducible] Code.wp wpList wpAnyH
open Go.Vs
theorem oN_ {N : Nat} {fr : Fr} {H : Hp} {Γ : List Fct} {P : Program} {ty t t' : TypeId} {x y : Operand} {m n : Int} (hx : Fr.ev fr x = some (.int .i64 m)) (hy : Fr.ev fr y = some (.int .i64 n)) : Yld P N fr H Γ (.binOp .add t x y t') ty (.int .i64 (IntKind.wrap .i64 (m + n))) :=
  fun a v h1 _ _ _ _ _ => by simp [execOp, h1.ev hx, h1.ev hy, eqGuard, binOp, Op.intArith]
def jm_ (x : Pc) : Int := (x.a.length : Int) + (x.b.length : Int) + (x.c.length : Int) + (x.r.length : Int) + (x.s.length : Int) + (x.t.length : Int)
def gq_ : List Pc → Int
  | [] => 0
  | x :: l => jm_ x + gq_ l
theorem ki_ : ∀ (l : List Pc) (x : Pc), gq_ (l ++ [x]) = gq_ l + jm_ x
  | [], x => by simp [gq_]
  | y :: l, x => by simp only [List.cons_append, gq_, ki_ l x]; omega
theorem ob_ {p : List Pc} {i : Nat} {x : Pc} (h : p[i]? = some x) : gq_ (p.take (i + 1)) = gq_ (p.take i) + jm_ x := by
  rw [List.take_add_one, h, Option.toList_some, ki_]
theorem lF_ : ∀ {l : List Pc}, (∀ x ∈ l, x.big) → 0 ≤ gq_ l ∧ gq_ l ≤ l.length * 844424930107392
  | [], _ => by simp [gq_]
  | x :: l, h => by
    have h1 := lF_ (l := l) fun y hy => h y (by simp [hy])
    obtain ⟨a, b, c, d, e, f⟩ := h x (by simp)
    simp only [gq_, jm_, List.length_cons]
    omega
theorem ns_ : ∀ {l : List Pc} {n : Int}, gq_ l ≤ n → n ≤ 17592186044414 → ∀ x ∈ l, x.sm
  | [], _, _, _, x, hx => by simp at hx
  | y :: l, n, h, hn, x, hx => by
    have h0 : 0 ≤ gq_ l := plen_pos l
    simp only [gq_, jm_] at h
    rcases List.mem_cons.1 hx with rfl | hx
    · exact ⟨by omega, by omega, by omega, by omega, by omega, by omega⟩
    · exact ns_ (l := l) (n := n) (by omega) hn x hx
where plen_pos : ∀ l : List Pc, 0 ≤ gq_ l
  | [] => by simp [gq_]
  | x :: l => by have := plen_pos l; simp only [gq_, jm_]; omega
theorem qO_ (p : List Pc) (pad : Option Addr) (pcap : Nat) (hp : p.length ≤ 1099511627744) (hbig : ∀ x ∈ p, x.big) : Tri Tryz.prog 16 #[.slice pad (List.length p) pcap] [] [aD_ pad (List.flatMap Pc.cells p)] (fun b : {b : Bool // b = true → p.length ≤ 40 ∧ ∀ x ∈ p, x.sm} => .bool b.1) (fun _ => []) (fun _ => []) := by
  refine S_ Tryz.func16 rfl rfl Tryz.ntmps16 rfl fun v0 => ?_
  refine h_ (d_ (a_ (g_ rfl) rfl (e_ (b_ rfl (h_ (d_ (a_ (g_ rfl) rfl (e_ (b_ rfl ?_)))))))))
  refine h_ (h_ (d_ (a_ (f_ rfl) rfl (a_ (as_ N_ rfl) rfl (a_ (f_ rfl) rfl (e_ (b_ rfl (P_ ?_))))))))
  refine aE_ (ι := {y : Nat × Int // y.1 ≤ List.length p ∧ (List.length p ≤ 40 → y.2 = gq_ (List.take y.1 p))}) (fun y => [(0, .slice pad (List.length p) pcap), (3, .int .i64 y.1.2), (6, .slice pad (List.length p) pcap), (7, .int .i64 (List.length p : Int)), (8, .int .i64 (y.1.1 : Int))]) (fun y => ([])) (fun y => [aD_ pad (List.flatMap Pc.cells p)]) (fun y => List.length p - y.1.1) ⟨((0 : Nat), 0), by simp, fun _ => rfl⟩ ⟨rfl, rfl, rfl, rfl, rfl, trivial⟩ J_ (fun _ _ h => h) ?_
  rintro ⟨⟨i, w⟩, hi, hw⟩
  dsimp only at hi hw ⊢
  refine h_ (d_ (y_ (ay_ rfl rfl) rfl fun r1 hr1 => ?_))
  refine e_ (b_ rfl (h_ ?_))
  cases r1
  · skip
    replace hr1 := of_decide_eq_false hr1
    refine v_ rfl (aw_ rfl (b_ rfl (h_ (d_ (a_ (f_ rfl) rfl (a_ (as_ N_ rfl) rfl (y_ (bS_ rfl rfl) rfl fun r2 hr2 => ?_)))))))
    refine a_ (f_ rfl) rfl ?_
    cases r2
    · skip
      replace hr2 := of_decide_eq_false hr2
      refine t_ rfl rfl rfl rfl (t_ rfl rfl rfl rfl (a_ (C_ rfl rfl) rfl (a_ (g_ rfl) rfl (e_ (b_ rfl (H_ ?_))))))
      exact at_ Tryz.results16 ⟨false, fun h => by cases h⟩ rfl J_ (fun _ _ _ => trivial)
    · skip
      replace hr2 := of_decide_eq_true hr2
      refine r_ rfl rfl (a_ (f_ rfl) rfl (r_ rfl rfl (y_ (bS_ rfl rfl) rfl fun r3 hr3 => ?_)))
      refine a_ (F_ rfl rfl) rfl (a_ (g_ rfl) rfl (e_ (b_ rfl (H_ ?_))))
      exact at_ Tryz.results16 ⟨r3, fun h => ⟨by omega, by rw [h] at hr3; have hle := of_decide_eq_true hr3; rw [hw (by omega), List.take_of_length_le (by omega)] at hle; exact ns_ hle (by decide)⟩⟩ rfl J_ (fun _ _ _ => trivial)
  · skip
    replace hr1 := of_decide_eq_true hr1
    have hlx1 : i < List.length p := by omega
    obtain ⟨x1, hx1⟩ : ∃ e0, p[i]? = some e0 := ⟨_, List.getElem?_eq_getElem hlx1⟩
    have hmx1 : x1 ∈ p := List.mem_of_getElem? hx1
    obtain ⟨q1, q2, q3, q4, q5, q6⟩ := hbig x1 hmx1
    refine u_ rfl (E_ (b_ rfl (h_ (P_ (h_ (d_ (a_ (ae_ N_ R_ rfl rfl (fun v _ h => az_ (n := 10) Pc.cells_len (by decide) (by exact h.1) hx1) (by omega) (by first | omega | (simp; done))) rfl (a_ (aV_ (ad := pad) (us := Pc.cells x1) aK_ R_ rfl (fun v _ h => by exact h.1) (Pc.cells_len _) (ai_ Pc.cells_len hx1)) rfl (ar_ bi_ rfl fun b1 => ?_)))))))))
    refine V_ 0 R_ rfl rfl rfl rfl rfl rfl (e_ (b_ rfl (d_ (a_ (f_ rfl) rfl (a_ (n_ l_ rfl rfl rfl j_) rfl (a_ (s_ 0 p_ rfl rfl rfl) rfl (a_ (bW_ T_ rfl) rfl (a_ (n_ l_ rfl rfl rfl j_) rfl (a_ (s_ 0 p_ rfl rfl rfl) rfl ?_)))))))))
    refine a_ (bW_ T_ rfl) rfl (a_ (M_ rfl rfl rfl (al_ (by omega) (by omega))) rfl (a_ (n_ l_ rfl rfl rfl j_) rfl (a_ (s_ 0 p_ rfl rfl rfl) rfl (a_ (bW_ T_ rfl) rfl (a_ (M_ rfl rfl rfl (al_ (by omega) (by omega))) rfl (a_ (n_ l_ rfl rfl rfl j_) rfl (a_ (s_ 0 p_ rfl rfl rfl) rfl (a_ (bW_ T_ rfl) rfl (a_ (M_ rfl rfl rfl (al_ (by omega) (by omega))) rfl ?_)))))))))
    refine a_ (n_ l_ rfl rfl rfl j_) rfl (a_ (s_ 0 p_ rfl rfl rfl) rfl (a_ (bW_ T_ rfl) rfl (a_ (M_ rfl rfl rfl (al_ (by omega) (by omega))) rfl (a_ (n_ l_ rfl rfl rfl j_) rfl (a_ (s_ 0 p_ rfl rfl rfl) rfl (a_ (bW_ T_ rfl) rfl (a_ (M_ rfl rfl rfl (al_ (by omega) (by omega))) rfl (a_ (oN_ rfl rfl) rfl (a_ (g_ rfl) rfl ?_)))))))))
    refine e_ (b_ rfl (d_ (a_ (M_ rfl rfl rfl (al_ (by omega) (by omega))) rfl (a_ (f_ rfl) rfl (e_ (x_ rfl ?_))))))
    exact Z_ ⟨(i + 1, (IntKind.wrap .i64 (w + (((((((Pc.a x1).length : Int) + ((Pc.b x1).length : Int)) + ((Pc.c x1).length : Int)) + ((Pc.r x1).length : Int)) + ((Pc.s x1).length : Int)) + ((Pc.t x1).length : Int))))), hlx1, fun h40 => by rw [ob_ hx1, hw h40]; have hq := lF_ (l := List.take i p) (fun x hx => hbig x (List.mem_of_mem_take hx)); rw [List.length_take] at hq; unfold jm_; exact al_ (by omega) (by omega)⟩ (by dsimp only; omega) ⟨rfl, rfl, rfl, rfl, rfl, trivial⟩ J_ (fun _ _ h => h)
theorem kX_ : atS [] = [[33], [42]] := ex_ ec_ List.lt_trans (it_ []) (by decide) fun x => by
  rw [gk_, ei_]
  simp [cy_, or_comm]
def P3 : List Pc := [⟨3, [65], [], [66], [114], [], [], 0, 0, 0⟩, ⟨4, [42], [], [67], [114], [], [], 0, 0, 0⟩]
def A3 : List Str := [[33], [42], [65], [66], [67]]
theorem mW_ : atS P3 = A3 := ex_ ec_ List.lt_trans (it_ P3) (by decide) fun x => by
  rw [gk_, ei_]
  simp only [cy_, gL_, P3, A3, List.flatMap_cons, List.flatMap_nil, List.mem_append, List.mem_cons, List.not_mem_nil, or_false]
  simp
  constructor
  · intro h
    simp only [or_assoc] at h
    rcases h with rfl | rfl | rfl | rfl | rfl | rfl <;> simp
  · rintro (rfl | rfl | rfl | rfl | rfl) <;> simp
theorem mX_ : bM_ P3 = 0 := by decide +kernel
theorem nv_ : bM_ [] = 0 := by decide +kernel
def F0 : List Fc := ir_ [] [[33], [42]] 3
def F3 : List Fc := ir_ P3 A3 4
theorem F0_is (m : Nat) (hm : 3 ≤ m) : dp_ [] [[33], [42]] m (some F0) := mg_ (fun x hx => by simp at hx) 3 m (by decide +kernel) (Nat.le_trans (by decide +kernel) hm)
theorem F0_no : dp_ [] [[33], [42]] 2 none := oC_ (fun x hx => by simp at hx) 3 2 (by decide +kernel)
theorem rs_ : dp_ P3 A3 65536 (some F3) := mg_ (fP_ mX_) 4 65536 (by decide +kernel) (by decide +kernel)
theorem sane1 {c : Cl} {e : Int} (h : dF_ [] 3 c e) : e = 0 ∧ c.atoms = [[33], [42]] ∧ c.facts = F0 := by
  have := (hU_ h nv_ (by decide) (by decide) (r := some F0) (by rw [kX_]; exact F0_is 3 (by decide))).1 _ rfl
  rw [kX_] at this
  exact ⟨this.1, this.2.2, this.2.1⟩
theorem sane2 {c : Cl} {e : Int} (h : dF_ [] 2 c e) : e = 3 ∧ c = Cl.no := by
  have := (hU_ h nv_ (by decide) (by decide) (r := none) (by rw [kX_]; exact F0_no)).2 rfl
  exact ⟨this.2, this.1⟩
theorem sane3 {c : Cl} {e : Int} (h : dF_ P3 1073741824 c e) : e = 0 ∧ c.atoms = atS P3 ∧ c.facts = F3 := by
  have := (hU_ h mX_ (by decide) (by decide) (r := some F3) (by rw [mW_]; exact rs_)).1 _ rfl
  exact ⟨this.1, this.2.2, this.2.1⟩
theorem sane4 {at' : List Str} {fs l : List Fc} {e : Int} (ha : at' = atS P3) (hf : fs = F3) (h : gp_ P3 at' fs l e) : l = [] ∧ e = 0 := by
  subst ha; subst hf
  exact ol_ mX_ (Nat.le_refl _) (by rw [mW_]; exact rs_) h
theorem F0_len : F0.length = 3 := by decide +kernel
theorem F3_a : qS_ F3 (au_ [65] [114] [66]) = true := by decide +kernel
theorem F3_b : qS_ F3 (aj_ [65] [67]) = true := by decide +kernel
theorem F3_c : qS_ F3 (aj_ [66] [67]) = false := by decide +kernel
theorem lc_ : F3.length ≤ 1000 := by decide +kernel
end Go.Proofs.YtpdbbglpbngeiaaGreatDoor
namespace Go.Proofs.YtpdbbglpbngeiaaGreatDoor
open Go Go.Sx Go.Proofs
attribute [local irreducible] Code.wp wpList wpAnyH
open Go.Vs
set_option maxHeartbeats 1000000 in
theorem oY_ : Tri Tryz.prog 15 #[] [] [hc_] (fun _ : Unit => .bool true) (fun _ => []) (fun _ => []) := by
 refine S_ Tryz.func15 rfl rfl Tryz.ntmps15 rfl fun v0 => ?_
 refine h_ (d_ (a_ (g_ rfl) rfl (e_ (b_ rfl (h_ (d_ (W_ (mm_ ([] : List Pc) none 0 3 (Pc.sm_all (by decide +kernel)) (by decide)) rfl J_ (fun v _ h => by exact ⟨.inl rfl, h.1, trivial⟩) rfl fun ⟨⟨c1, e1⟩, hA1⟩ => ?_)))))))
 dsimp only
 dsimp only at hA1
 obtain ⟨rfl, ha1, hf1⟩ := sane1 hA1
 refine a_ (f_ rfl) rfl (a_ (av_ rfl rfl) rfl (a_ (av_ rfl rfl) rfl (ar_ cn_ rfl fun b1 => ?_)))
 refine V_ 0 ak_ rfl rfl rfl rfl rfl rfl (a_ (g_ rfl) rfl (e_ (b_ rfl (h_ (d_ (W_ (mm_ ([] : List Pc) none 0 2 (Pc.sm_all (by decide +kernel)) (by decide)) rfl J_ (fun v _ h => by exact ⟨.inl rfl, h.2.2.1, trivial⟩) rfl fun ⟨⟨c2, e2⟩, hA2⟩ => ?_))))))
 dsimp only
 dsimp only at hA2
 obtain ⟨rfl, hc2⟩ := sane2 hA2
 refine a_ (f_ rfl) rfl (a_ (av_ rfl rfl) rfl (a_ (av_ rfl rfl) rfl (ar_ cn_ rfl fun b2 => ?_)))
 refine V_ 0 ak_ rfl rfl rfl rfl rfl rfl (a_ (g_ rfl) rfl (e_ (b_ rfl (h_ (d_ (a_ (aI_ mu_ rfl rfl) rfl (a_ (aI_ mu_ rfl rfl) rfl (aN_ N_ R_ bi_ rfl rfl rfl rfl rfl rfl fun b3 => ?_))))))))
 refine bE_ (List.flatMap Pc.cells [(Pc.mk 3 [65] [] [66] [114] [] [] 0 0 0), (Pc.mk 4 [42] [] [67] [114] [] [] 0 0 0)]) i_ rfl ?_
 refine a_ (g_ rfl) rfl (e_ (b_ rfl (h_ (d_ (a_ (f_ rfl) rfl (W_ (mm_ [(Pc.mk 3 [65] [] [66] [114] [] [] 0 0 0), (Pc.mk 4 [42] [] [67] [114] [] [] 0 0 0)] (some ⟨b3, 0, none⟩) 2 1073741824 (Pc.sm_all (by decide +kernel)) (by decide)) rfl J_ (fun v _ h => by exact ⟨h.1, h.2.2.2.2.2.1, trivial⟩) rfl fun ⟨⟨c3, e3⟩, hA3⟩ => ?_))))))
 dsimp only
 dsimp only at hA3
 obtain ⟨rfl, ha3, hf3⟩ := sane3 hA3
 refine a_ (f_ rfl) rfl (a_ (av_ rfl rfl) rfl (a_ (av_ rfl rfl) rfl (ar_ cn_ rfl fun b4 => ?_)))
 refine V_ 0 ak_ rfl rfl rfl rfl rfl rfl (a_ (g_ rfl) rfl (e_ (b_ rfl (h_ (d_ (a_ (f_ rfl) rfl (a_ (Y_ 0 aX_ ak_ rfl rfl rfl) rfl (W_ (next_c [(Pc.mk 3 [65] [] [66] [114] [] [] 0 0 0), (Pc.mk 4 [42] [] [67] [114] [] [] 0 0 0)] (some ⟨b3, 0, none⟩) 2 c3 (Pc.sm_all (by decide +kernel)) (by decide) (by rw [ha3, mW_]; decide) (by rw [hf3]; have := lc_; omega)) rfl J_ (fun v _ h => by exact ⟨h.2.2.1, h.2.2.2.2.2.2.2.1, h.1, h.2.1, trivial⟩) rfl fun ⟨⟨oad, ocap, nl, ne⟩, hrk, hNx⟩ => ?_))))))))
 dsimp only
 dsimp only at hrk hNx
 obtain ⟨rfl, rfl⟩ := sane4 ha3 hf3 hNx
 refine a_ (f_ rfl) rfl (a_ (av_ rfl rfl) rfl (a_ (av_ rfl rfl) rfl (a_ (g_ rfl) rfl (a_ (g_ rfl) rfl (e_ (b_ rfl (h_ ?_)))))))
 have hlx1 : 0 < List.length (Cl.atoms c1) := by rw [ha1]; decide
 obtain ⟨x1, hx1⟩ : ∃ e0, (Cl.atoms c1)[0]? = some e0 := ⟨_, List.getElem?_eq_getElem hlx1⟩
 have hmx1 : x1 ∈ (Cl.atoms c1) := List.mem_of_getElem? hx1
 have hx1e : x1 = [33] := by rw [ha1] at hx1; simpa using hx1.symm
 refine aC_ (by kernel_rfl) ?_
 refine ad_ 46 [0, 1, 2, 3, 4, 5, 6, 7, 8] (by kernel_rfl) (fun _ a b => ⟨a, b⟩) (o_ rfl (f_ rfl) rfl (o_ rfl (bx_ (aG_ rfl rfl) (show _ = Value.bool true from congrArg Value.bool (by decide))) rfl (o_ rfl (f_ rfl) rfl (ab_ rfl rfl rfl (n_ aB_ rfl rfl rfl cx_) rfl (ab_ rfl rfl rfl (s_ 2 eC_ rfl rfl rfl) rfl (ab_ rfl rfl rfl (as_ D_ rfl) rfl ?_))))))
 refine bR_ rfl rfl rfl (aG_ rfl rfl) rfl fun r1 hr1 => ?_
 refine o_ rfl (F_ rfl rfl) rfl (o_ rfl (f_ rfl) rfl (ac_ ?_))
 cases r1
 ·
  replace hr1 := ne_of_beq_false hr1
  exact absurd (by rw [ha1]; rfl) hr1
 ·
  replace hr1 := eq_of_beq hr1
  refine ad_ 39 [9, 10, 11, 12, 13, 14, 15] (by kernel_rfl) (fun _ a b => ⟨a, b⟩) (ab_ rfl rfl rfl (n_ aB_ rfl rfl rfl cx_) rfl (ab_ rfl rfl rfl (s_ 2 eC_ rfl rfl rfl) rfl (ab_ rfl rfl rfl (ae_ D_ j_ rfl rfl (fun v _ h => az_ (n := 1) aq_ (by decide) (by exact h.2.2.2.2.2.2.1) hx1) (by omega) (by first | omega | (simp; done))) rfl (ab_ rfl rfl rfl (aH_ (ad := (Cl.aad c1)) p_ rfl (fun v _ h => by exact h.2.2.2.2.2.2.1) (ai_ aq_ hx1 0 _ rfl)) rfl ?_))))
  refine bR_ rfl rfl rfl (ap_ rfl rfl) rfl fun r2 hr2 => ?_
  refine o_ rfl (F_ rfl rfl) rfl (o_ rfl (f_ rfl) rfl (ac_ ?_))
  cases r2
  ·
   replace hr2 := ne_of_beq_false hr2
   exact absurd hx1e hr2
  ·
   replace hr2 := eq_of_beq hr2
   refine ad_ 33 [16, 17, 18, 19, 20, 21] (by kernel_rfl) (fun _ a b => ⟨a, b⟩) (ab_ rfl rfl rfl (n_ aB_ rfl rfl rfl bp_) rfl (ab_ rfl rfl rfl (s_ 2 bC_ rfl rfl rfl) rfl (ab_ rfl rfl rfl (as_ G_ rfl) rfl ?_)))
   refine bR_ rfl rfl rfl (aG_ rfl rfl) rfl fun r3 hr3 => ?_
   refine o_ rfl (F_ rfl rfl) rfl (o_ rfl (f_ rfl) rfl (ac_ ?_))
   cases r3
   ·
    replace hr3 := ne_of_beq_false hr3
    exact absurd (by rw [hf1, F0_len]; rfl) hr3
   ·
    replace hr3 := eq_of_beq hr3
    refine ad_ 24 [22, 23, 24, 25, 26, 27, 28, 29, 30] (by kernel_rfl) (fun _ a b => ⟨a, b⟩) (ab_ rfl rfl rfl (f_ rfl) rfl (ab_ rfl rfl rfl (bx_ (aG_ rfl rfl) (show _ = Value.bool true from congrArg Value.bool (by decide))) rfl (o_ rfl (F_ rfl rfl) rfl (o_ rfl (f_ rfl) rfl (ab_ rfl rfl rfl (f_ rfl) rfl (ab_ rfl rfl rfl (bx_ (aG_ rfl rfl) (show _ = Value.bool true from congrArg Value.bool (by decide))) rfl (o_ rfl (F_ rfl rfl) rfl (o_ rfl (f_ rfl) rfl (ab_ rfl rfl rfl (Y_ 0 aX_ ak_ rfl rfl rfl) rfl ?_)))))))))
    refine ac_ (X_ 31 rfl (by kernel_rfl) (r_ rfl rfl (W_ (er_ [65] [114] [66]) rfl J_ (fun _ _ _ => by exact trivial) rfl fun _ => ?_)))
    refine e_ (x_ rfl (O_ (fun _ a b => ⟨a, b⟩) (X_ 32 rfl (by kernel_rfl) (r_ rfl rfl (ax_ (pU_ c3 (au_ [65] [114] [66]) (by rw [hf3]; have := lc_; omega)) rfl J_ (fun v _ h => by exact ⟨h.2.2.1, trivial⟩) rfl fun r4 hr4 => ?_)))))
    refine e_ (x_ rfl (O_ (fun _ a b => ⟨a, b⟩) (ad_ 20 [33, 34] (by kernel_rfl) (fun _ a b => ⟨a, b⟩) (o_ rfl (F_ rfl rfl) rfl (o_ rfl (f_ rfl) rfl (ac_ ?_))))))
    cases r4
    ·
     rw [hf3, F3_a] at hr4; cases hr4
    ·
     refine ad_ 19 [35] (by kernel_rfl) (fun _ a b => ⟨a, b⟩) (ab_ rfl rfl rfl (Y_ 0 aX_ ak_ rfl rfl rfl) rfl (ac_ (X_ 36 rfl (by kernel_rfl) (r_ rfl rfl (W_ (dD_ [65] [67]) rfl J_ (fun _ _ _ => by exact trivial) rfl fun _ => ?_)))))
     refine e_ (x_ rfl (O_ (fun _ a b => ⟨a, b⟩) (X_ 37 rfl (by kernel_rfl) (r_ rfl rfl (ax_ (pU_ c3 (aj_ [65] [67]) (by rw [hf3]; have := lc_; omega)) rfl J_ (fun v _ h => by exact ⟨h.2.2.1, trivial⟩) rfl fun r5 hr5 => ?_)))))
     refine e_ (x_ rfl (O_ (fun _ a b => ⟨a, b⟩) (ad_ 15 [38, 39] (by kernel_rfl) (fun _ a b => ⟨a, b⟩) (o_ rfl (F_ rfl rfl) rfl (o_ rfl (f_ rfl) rfl (ac_ ?_))))))
     cases r5
     ·
      rw [hf3, F3_b] at hr5; cases hr5
     ·
      refine ad_ 14 [40] (by kernel_rfl) (fun _ a b => ⟨a, b⟩) (ab_ rfl rfl rfl (Y_ 0 aX_ ak_ rfl rfl rfl) rfl (ac_ (X_ 41 rfl (by kernel_rfl) (r_ rfl rfl (W_ (dD_ [66] [67]) rfl J_ (fun _ _ _ => by exact trivial) rfl fun _ => ?_)))))
      refine e_ (x_ rfl (O_ (fun _ a b => ⟨a, b⟩) (X_ 42 rfl (by kernel_rfl) (r_ rfl rfl (ax_ (pU_ c3 (aj_ [66] [67]) (by rw [hf3]; have := lc_; omega)) rfl J_ (fun v _ h => by exact ⟨h.2.2.1, trivial⟩) rfl fun r6 hr6 => ?_)))))
      refine e_ (x_ rfl (O_ (fun _ a b => ⟨a, b⟩) (ad_ 9 [43, 44, 45] (by kernel_rfl) (fun _ a b => ⟨a, b⟩) (ab_ rfl rfl rfl (bV_ rfl) rfl (o_ rfl (F_ rfl rfl) rfl (o_ rfl (f_ rfl) rfl (ac_ ?_)))))))
      cases r6
      ·
       refine ad_ 0 [46, 47, 48, 49, 50, 51, 52, 53, 54] (by kernel_rfl) (fun _ a b => ⟨a, b⟩) (ab_ rfl rfl rfl (f_ rfl) rfl (ab_ rfl rfl rfl (bx_ (aG_ rfl rfl) (show _ = Value.bool true from congrArg Value.bool (by decide))) rfl (o_ rfl (F_ rfl rfl) rfl (o_ rfl (f_ rfl) rfl (ab_ rfl rfl rfl (f_ rfl) rfl (ab_ rfl rfl rfl (as_ G_ rfl) rfl (ab_ rfl rfl rfl (bx_ (aG_ rfl rfl) (show _ = Value.bool true from congrArg Value.bool (by decide))) rfl (o_ rfl (F_ rfl rfl) rfl (o_ rfl (g_ rfl) rfl ?_)))))))))
       refine ac_ (aa_ (by kernel_rfl) (b_ rfl (H_ ?_)))
       exact at_ Tryz.results15 () rfl J_ (fun _ _ _ => trivial)
      ·
       rw [hf3, F3_c] at hr6; cases hr6
end Go.Proofs.YtpdbbglpbngeiaaGreatDoor
namespace Go.Proofs.YtpdbbglpbngeiaaGreatDoor
open Go Go.Sx Go.Proofs
attribute [local irreducible] Code.wp wpList wpAnyH
open Go.Vs
def fw_ (p q : List Pc) : Prop := ∀ x ∈ p, ∃ y ∈ q, ∃ n, { y with frm := n } = x
theorem fw_.rfl' (p : List Pc) : fw_ p p := fun x hx => ⟨x, hx, x.frm, rfl⟩
theorem fw_.of {p q : List Pc} (h : ∀ x ∈ p, x ∈ q) : fw_ p q := fun x hx => ⟨x, h x hx, x.frm, rfl⟩
theorem fw_.at' {p q : List Pc} (h : fw_ p q) : ∀ s ∈ atS p, s ∈ atS q := fun s hs => by
  rw [gk_, ei_] at hs ⊢
  rcases hs with h1 | h1
  · obtain ⟨x, hx, h2⟩ := List.mem_flatMap.1 h1
    obtain ⟨y, hy, n, e⟩ := h x hx
    subst e
    exact .inl (List.mem_flatMap.2 ⟨y, hy, h2⟩)
  · exact .inr h1
theorem fw_.der {p q : List Pc} (h : fw_ p q) {y : Fc} (hy : Der p (atS p) y) : Der q (atS q) y := hy.mono h h.at'
theorem fw_.atS_eq {p q : List Pc} (h : fw_ p q) (h' : fw_ q p) : atS p = atS q :=
  ex_ ec_ List.lt_trans (it_ p) (it_ q) fun x => ⟨h.at' x, h'.at' x⟩
theorem dp_.congrP {p q : List Pc} {m : Nat} {r : Option (List Fc)} (h : fw_ p q) (h' : fw_ q p) (hr : dp_ p (atS p) m r) : dp_ q (atS q) m r := by
  cases r with
  | none => obtain ⟨M, h1, h2, h3⟩ := hr; exact ⟨M, h1, fun y hy => h.der (h2 y hy), h3⟩
  | some L => exact ⟨hr.1, fun y => (hr.2.1 y).trans ⟨h.der, h'.der⟩, hr.2.2⟩
theorem rf_ {p : List Pc} {bu : Int} {c : Cl} {e : Int} (h : dF_ p bu c e) (hc : bM_ p = 0) (hb : 0 ≤ bu) (hb2 : bu ≤ 1073741824) : (e = 0 ∧ c.atoms = atS p ∧ dp_ p (atS p) (min bu 65536).toNat (some c.facts)) ∨ (c = Cl.no ∧ e = (if bu < 65536 then 3 else 2) ∧ dp_ p (atS p) (min bu 65536).toNat none) := by
  unfold dF_ at h
  rw [if_neg (by simp [hc]), if_neg (by omega)] at h
  rcases h with ⟨h1, _, h2, h3⟩ | h
  · exact .inl ⟨h1, h2, h3⟩
  · exact .inr h
theorem oI_ {p q : List Pc} {bu : Int} {c d : Cl} {e f : Int} (h : fw_ p q) (h' : fw_ q p) (hp : dF_ p bu c e) (hq : dF_ q bu d f) (hc : bM_ p = 0) (hd : bM_ q = 0) (hb : 0 ≤ bu) (hb2 : bu ≤ 1073741824) : c.atoms = d.atoms ∧ c.facts = d.facts ∧ e = f := by
  rcases rf_ hp hc hb hb2 with ⟨h1, h2, h3⟩ | ⟨h1, h2, h3⟩
  · obtain ⟨g1, g2, g3⟩ := (hU_ hq hd hb hb2 (dp_.congrP h h' h3)).1 _ rfl
    exact ⟨by rw [h2, g3, h.atS_eq h'], g2.symm, by rw [h1, g1]⟩
  · obtain ⟨g1, g2⟩ := (hU_ hq hd hb hb2 (dp_.congrP h h' h3)).2 rfl
    subst h1 g1
    exact ⟨rfl, rfl, by rw [h2, g2]⟩
theorem dF_.srt {p : List Pc} {bu : Int} {c : Cl} {e : Int} (h : dF_ p bu c e) : Srt c.facts := by
  by_cases he : e = 0
  · subst he; exact h.good.2.2.2.2.2.1
  · rw [h.bad he]; exact List.Pairwise.nil
def Pc.nf (x : Pc) : Pc := ⟨x.kind, x.a, x.b, x.c, x.r, x.s, x.t, x.lo, x.hi, -1⟩
theorem fw_.trans {p q r : List Pc} (h : fw_ p q) (k : fw_ q r) : fw_ p r := fun x hx => by
  obtain ⟨y, hy, n, rfl⟩ := h x hx
  obtain ⟨z, hz, m, rfl⟩ := k y hy
  exact ⟨z, hz, n, rfl⟩
end Go.Proofs.YtpdbbglpbngeiaaGreatDoor
namespace Go.Proofs.YtpdbbglpbngeiaaGreatDoor
open Go Go.Sx Go.Proofs
attribute [local irreducible] Code.wp wpList wpAnyH
open Go.Vs
theorem bj_ {α β : Type} {g : α → List β} {l : List α} {i : Nat} {x : α} (h : l[i]? = some x) : List.flatMap g (List.take (i + 1) l) = List.flatMap g (List.take i l) ++ g x := by
  rw [List.take_add_one, h, Option.toList_some, List.flatMap_append]; simp
def eJ_ (a : Str) (x : Pc) : List Fc := if x.kind = 7 then [au_ a x.r a] else []
def dN_ (p : List Pc) (a : Str) : List Fc := [aj_ a a, aj_ a [42]] ++ List.flatMap (eJ_ a) p
theorem kv_ (p : List Pc) (A : List Str) : eh_ p A = List.flatMap (dN_ p) A := by
  unfold eh_
  congr 1
  funext a
  unfold dN_
  simp only [List.cons_append, List.nil_append, List.cons.injEq, true_and]
  induction p with
  | nil => rfl
  | cons x p ih =>
    rw [List.filter_cons, List.flatMap_cons, ← ih, eJ_]
    by_cases h : x.kind = 7
    · rw [if_pos (by simpa using h), if_pos h]; rfl
    · rw [if_neg (by simpa using h), if_neg h]; rfl
theorem ko_ (a : Str) (x : Pc) : (eJ_ a x).length ≤ 1 := by unfold eJ_; split <;> simp
theorem jD_ {p : List Pc} (hp : p.length ≤ 100) (a : Str) : (dN_ p a).length ≤ 102 := by
  have := do_ (g := eJ_ a) (n := 1) p fun x _ => ko_ a x
  unfold dN_
  rw [List.length_append]; simp only [List.length_cons, List.length_nil]; omega
def cp_ (l : List Fc) (f : Fc) (x : Pc) : List Fc :=
  if x.kind = 1 ∧ x.a = f.b then [aj_ f.a x.c]
  else if x.kind = 2 ∧ (x.a = f.b ∧ aj_ f.a x.b ∈ l ∨ x.b = f.b ∧ aj_ f.a x.a ∈ l) then [aj_ f.a x.c]
  else if x.kind = 3 ∧ x.a = f.b then [au_ f.a x.r x.c]
  else if x.kind = 8 ∧ x.a = f.b then [aF_ f.a x.r x.lo x.hi]
  else []
def cF_ (f y : Fc) (x : Pc) : List Fc := if x.kind = 4 ∧ x.r = y.r ∧ x.a = f.b then [aj_ y.a x.c] else []
theorem iJ_ (p : List Pc) (f y : Fc) : subB p f y = if y.kind ≠ 2 ∨ y.b ≠ f.a then [] else (if f.b = [33] then [aj_ y.a [33]] else []) ++ List.flatMap (cF_ f y) p := rfl
theorem ka_ (l : List Fc) (f : Fc) (x : Pc) : (cp_ l f x).length ≤ 1 := by unfold cp_; (repeat' split) <;> simp
theorem hY_ (f y : Fc) (x : Pc) : (cF_ f y x).length ≤ 1 := by unfold cF_; split <;> simp
theorem oT_ {p : List Pc} (hp : p.length ≤ 100) (f y : Fc) : (subB p f y).length ≤ 101 := by
  have := do_ (g := cF_ f y) (n := 1) p fun x _ => hY_ f y x
  rw [iJ_]
  split
  · simp
  · rw [List.length_append]; split <;> simp only [List.length_cons, List.length_nil] <;> omega
theorem ii_ (x : Pc) (f y : Fc) : (bP_ x f y).length ≤ 2 := by unfold bP_; (repeat' split) <;> simp
theorem kp_ {l : List Fc} (hl : l.length ≤ 65536) (f : Fc) (x : Pc) : (bD_ l f x).length ≤ 131072 := by
  unfold bD_
  split
  · simp
  · split
    · simp
    · split
      · have := do_ (g := bP_ x f) (n := 2) l fun y _ => ii_ x f y
        omega
      · simp
theorem ji_ (f y : Fc) : (ck_ f y).length ≤ 1 := by unfold ck_; (repeat' split) <;> simp
theorem mA_ (f : Fc) (x : Pc) : (cS_ f x).length ≤ 1 := by unfold cS_; split <;> simp
theorem ph_ (p : List Pc) (pad : Option Addr) (pcap : Nat) (A : List Str) (aad : Option Addr) (acap : Nat) (hp : p.length ≤ 100) (hA : A.length ≤ 1000) : Tri Tryz.prog 64 #[.slice pad (List.length p) pcap, .slice aad (List.length A) acap] [] [aD_ pad (List.flatMap Pc.cells p), aD_ aad (List.flatMap aJ_ A)] (fun y : {y : Value × Hp // aR_ 41 6 y.1 (List.length (eh_ p A)) (List.flatMap Fc.cells (eh_ p A)) y.2} => y.1.1) (fun y => y.1.2) (fun _ => []) := by
 refine S_ Tryz.func64 rfl rfl Tryz.ntmps64 rfl fun v0 => ?_
 refine h_ (d_ (a_ (g_ rfl) rfl (e_ (b_ rfl (h_ (d_ (dy_ G_ A_ rfl fun b1 => ?_)))))))
 refine am_ i_ (a_ (g_ rfl) rfl (e_ (b_ rfl (h_ (h_ (d_ (a_ (g_ rfl) rfl (e_ (b_ rfl ?_)))))))))
 refine P_ ?_
 refine aE_ (ι := {y : Nat × Value × Hp // y.1 ≤ List.length A ∧ aR_ 41 6 y.2.1 (List.length (List.flatMap (dN_ p) (List.take y.1 A))) (List.flatMap Fc.cells (List.flatMap (dN_ p) (List.take y.1 A))) y.2.2}) (fun y => [(0, .slice pad (List.length p) pcap), (1, .slice aad (List.length A) acap), (4, .slice none 0 0), (5, y.1.2.1), (6, .int .i64 (y.1.1 : Int))]) (fun y => (y.1.2.2)) (fun y => [aD_ pad (List.flatMap Pc.cells p), aD_ aad (List.flatMap aJ_ A)]) (fun y => List.length A - y.1.1) ⟨((0 : Nat), (.slice (some ⟨b1, 0, none⟩) 0 0), [(b1, .cells #[] 41 (0, 0))]), by simp, (eq_ b1 41 6)⟩ ⟨rfl, rfl, rfl, rfl, rfl, trivial⟩ aA_ (fun _ _ h => h) ?_
 rintro ⟨⟨i, sv_Rfc, H_Rfc⟩, hi_i, hr_Rfc⟩
 dsimp only at hi_i hr_Rfc ⊢
 have hb1 := do_ (g := dN_ p) (n := 102) (List.take i A) (fun x _ => jD_ hp x)
 rw [List.length_take] at hb1
 refine h_ (h_ (d_ (a_ (f_ rfl) rfl (a_ (f_ rfl) rfl (a_ (as_ D_ rfl) rfl (y_ (ay_ rfl rfl) rfl fun r1 hr1 => ?_))))))
 refine e_ (b_ rfl ?_)
 cases r1
 ·
  replace hr1 := of_decide_eq_false hr1
  rw [show List.take i A = A from List.take_of_length_le (by omega)] at hr_Rfc
  refine v_ rfl (aw_ rfl (b_ rfl (h_ (d_ (a_ (f_ rfl) rfl (a_ (g_ rfl) rfl (e_ (b_ rfl (H_ ?_)))))))))
  exact at_ Tryz.results64 ⟨(sv_Rfc, H_Rfc), (kv_ p A) ▸ hr_Rfc⟩ rfl aA_ (fun _ _ _ => trivial)
 ·
  replace hr1 := of_decide_eq_true hr1
  have hlx1 : i < List.length A := by omega
  obtain ⟨x1, hx1⟩ : ∃ e0, A[i]? = some e0 := ⟨_, List.getElem?_eq_getElem hlx1⟩
  have hmx1 : x1 ∈ A := List.mem_of_getElem? hx1
  refine u_ rfl (E_ (b_ rfl (h_ (P_ (h_ ?_)))))
  refine aP_ ([]) (by kernel_rfl) ?_
  refine ad_ 5 [0, 1, 2, 3, 4, 5, 6, 7, 8, 10, 11, 12, 13] (by kernel_rfl) (fun _ a b => ⟨bz_ a, b⟩) (o_ rfl (f_ rfl) rfl (o_ rfl (f_ rfl) rfl (o_ rfl (f_ rfl) rfl (o_ rfl (ae_ D_ j_ rfl rfl (fun v _ h => az_ (n := 1) aq_ (by decide) (by exact h.2.1) hx1) (by omega) (by first | omega | (simp; done))) rfl (o_ rfl (aH_ (ad := aad) p_ rfl (fun v _ h => by exact h.2.1) (ai_ aq_ hx1 0 _ rfl)) rfl (o_ rfl (f_ rfl) rfl (o_ rfl (f_ rfl) rfl (o_ rfl (ae_ D_ j_ rfl rfl (fun v _ h => az_ (n := 1) aq_ (by decide) (by exact h.2.1) hx1) (by omega) (by first | omega | (simp; done))) rfl (o_ rfl (aH_ (ad := aad) p_ rfl (fun v _ h => by exact h.2.1) (ai_ aq_ hx1 0 _ rfl)) rfl ?_)))))))))
  refine o_ rfl (f_ rfl) rfl (o_ rfl (f_ rfl) rfl (o_ rfl (ae_ D_ j_ rfl rfl (fun v _ h => az_ (n := 1) aq_ (by decide) (by exact h.2.1) hx1) (by omega) (by first | omega | (simp; done))) rfl (o_ rfl (aH_ (ad := aad) p_ rfl (fun v _ h => by exact h.2.1) (ai_ aq_ hx1 0 _ rfl)) rfl (ac_ (X_ 9 rfl (by kernel_rfl) (W_ (dD_ x1 x1) rfl J_ (fun _ _ _ => by exact trivial) rfl fun _ => ?_))))))
  refine am_ ix_ (e_ (x_ rfl (O_ (fun _ a b => ⟨bz_ a, b⟩) (X_ 14 rfl (by kernel_rfl) (W_ (dD_ x1 [42]) rfl J_ (fun _ _ _ => by exact trivial) rfl fun _ => ?_)))))
  refine am_ ix_ (e_ (x_ rfl (O_ (fun _ a b => ⟨bz_ a, b⟩) (X_ 15 rfl (by kernel_rfl) (aN_ G_ A_ ag_ rfl rfl rfl rfl rfl rfl fun b2 => ?_)))))
  refine bE_ (List.flatMap Fc.cells [(aj_ x1 x1), (aj_ x1 [42])]) i_ rfl ?_
  refine e_ (x_ rfl (O_ (fun _ a b => ⟨bz_ a, b.2⟩) (X_ 16 rfl (by kernel_rfl) (aL_ (news := List.flatMap Fc.cells [(aj_ x1 x1), (aj_ x1 [42])]) cb_ hr_Rfc rfl rfl (fun q => by cases q) (by simp) aA_ (by rw [bo_ Fc.cells 6 Fc.cells_len]; rfl) (fun v _ h => by exact h.1) (fun u hu => aO_ Fc.cells_one hu) (by simp only [maxLen]; ((try simp only [List.length_append, List.length_cons, List.length_nil]); omega)) (by ((try simp only [List.length_append, List.length_cons, List.length_nil]); omega)) rfl fun sv1 Hr1 hr1 => ?_))))
  refine am_ List.perm_append_comm ?_
  have hq1 : aR_ 41 6 sv1 (List.length ((List.flatMap (dN_ p) (List.take i A)) ++ [(aj_ x1 x1), (aj_ x1 [42])])) (List.flatMap Fc.cells ((List.flatMap (dN_ p) (List.take i A)) ++ [(aj_ x1 x1), (aj_ x1 [42])])) Hr1 := by rw [List.length_append, List.flatMap_append]; exact hr1
  refine e_ (x_ rfl (O_ (fun _ a b => ⟨bz_ a, b.2⟩) (ad_ 0 [17] (by kernel_rfl) (fun _ a b => ⟨bz_ a, b.2⟩) (o_ rfl (g_ rfl) rfl (ac_ (aa_ (by kernel_rfl) (b_ rfl (h_ (d_ ?_)))))))))
  refine a_ (g_ rfl) rfl (e_ (b_ rfl (P_ ?_)))
  have hw2 : aR_ 41 6 sv1 (List.length (((List.flatMap (dN_ p) (List.take i A)) ++ [(aj_ x1 x1), (aj_ x1 [42])]) ++ List.flatMap (eJ_ x1) (List.take 0 p))) (List.flatMap Fc.cells (((List.flatMap (dN_ p) (List.take i A)) ++ [(aj_ x1 x1), (aj_ x1 [42])]) ++ List.flatMap (eJ_ x1) (List.take 0 p))) Hr1 := by have q := hq1; simpa only [List.take_zero, List.flatMap_nil, List.append_nil] using q
  refine aE_ (ι := {y : Nat × Value × Hp // y.1 ≤ List.length p ∧ aR_ 41 6 y.2.1 (List.length (((List.flatMap (dN_ p) (List.take i A)) ++ [(aj_ x1 x1), (aj_ x1 [42])]) ++ List.flatMap (eJ_ x1) (List.take y.1 p))) (List.flatMap Fc.cells (((List.flatMap (dN_ p) (List.take i A)) ++ [(aj_ x1 x1), (aj_ x1 [42])]) ++ List.flatMap (eJ_ x1) (List.take y.1 p))) y.2.2}) (fun y => [(0, .slice pad (List.length p) pcap), (1, .slice aad (List.length A) acap), (4, .slice none 0 0), (5, y.1.2.1), (6, .int .i64 (i : Int)), (7, .int .i64 (y.1.1 : Int))]) (fun y => (y.1.2.2)) (fun y => [aD_ (some ⟨b2, 0, none⟩) (List.flatMap Fc.cells [(aj_ x1 x1), (aj_ x1 [42])]), aD_ pad (List.flatMap Pc.cells p), aD_ aad (List.flatMap aJ_ A)]) (fun y => List.length p - y.1.1) ⟨((0 : Nat), sv1, Hr1), by simp, hw2⟩ ⟨rfl, rfl, rfl, rfl, rfl, rfl, trivial⟩ aA_ (fun _ _ h => h) ?_
  rintro ⟨⟨k, sv_Rfc, H_Rfc⟩, hi_k, hr_Rfc⟩
  dsimp only at hi_k hr_Rfc ⊢
  have hb2 := do_ (g := eJ_ x1) (n := 1) (List.take k p) (fun x _ => ko_ x1 x)
  rw [List.length_take] at hb2
  refine h_ (h_ (d_ (a_ (f_ rfl) rfl (a_ (f_ rfl) rfl (a_ (as_ N_ rfl) rfl (y_ (ay_ rfl rfl) rfl fun r2 hr2 => ?_))))))
  refine e_ (b_ rfl ?_)
  cases r2
  ·
   replace hr2 := of_decide_eq_false hr2
   rw [show List.take k p = p from List.take_of_length_le (by omega)] at hr_Rfc
   refine v_ rfl (aw_ rfl (b_ rfl (d_ (a_ (f_ rfl) rfl (a_ (M_ rfl rfl rfl (al_ (by omega) (by omega))) rfl (a_ (g_ rfl) rfl (e_ (x_ rfl ?_))))))))
   exact Z_ ⟨(i + 1, sv_Rfc, H_Rfc), hlx1, (by have q := hr_Rfc; rw [bj_ hx1, show (dN_ p) x1 = [(aj_ x1 x1), (aj_ x1 [42])] ++ List.flatMap (eJ_ x1) p from (by rfl)]; simpa only [List.append_assoc, List.append_nil] using q)⟩ (by dsimp only; omega) ⟨rfl, rfl, rfl, rfl, rfl, trivial⟩ aA_ (fun _ _ h => h.2)
  ·
   replace hr2 := of_decide_eq_true hr2
   have hlx2 : k < List.length p := by omega
   obtain ⟨x2, hx2⟩ : ∃ e0, p[k]? = some e0 := ⟨_, List.getElem?_eq_getElem hlx2⟩
   have hmx2 : x2 ∈ p := List.mem_of_getElem? hx2
   refine u_ rfl (E_ (b_ rfl (h_ (P_ (h_ (d_ (a_ (f_ rfl) rfl (a_ (f_ rfl) rfl (a_ (ae_ N_ R_ rfl rfl (fun v _ h => az_ (n := 10) Pc.cells_len (by decide) (by exact h.2.1) hx2) (by omega) (by first | omega | (simp; done))) rfl ?_)))))))))
   refine a_ (bU_ l_ rfl rfl rfl K_) rfl (a_ (aH_ (ad := pad) L_ rfl (fun v _ h => by exact h.2.1) (ai_ Pc.cells_len hx2 0 _ rfl)) rfl (y_ (aG_ rfl rfl) rfl fun r3 hr3 => ?_))
   refine e_ (b_ rfl ?_)
   cases r3
   ·
    replace hr3 := ne_of_beq_false hr3
    refine v_ rfl (E_ (b_ rfl (d_ (a_ (f_ rfl) rfl (a_ (M_ rfl rfl rfl (al_ (by omega) (by omega))) rfl (a_ (g_ rfl) rfl (e_ (x_ rfl ?_))))))))
    exact Z_ ⟨(k + 1, sv_Rfc, H_Rfc), hlx2, (by have q := hr_Rfc; rw [bj_ hx2, show (eJ_ x1) x2 = [] from (by unfold eJ_; rw [if_neg (by first | assumption | simpa using hr3 | simp [*])])]; simpa only [List.append_assoc, List.append_nil] using q)⟩ (by dsimp only; omega) ⟨rfl, rfl, rfl, rfl, rfl, rfl, trivial⟩ aA_ (fun _ _ h => h)
   ·
    replace hr3 := eq_of_beq hr3
    refine u_ rfl ?_
    refine aP_ ([]) (by kernel_rfl) ?_
    refine ad_ 4 [0, 1, 2, 3, 4, 5, 6, 7, 8, 9, 10, 11, 12, 13] (by kernel_rfl) (fun _ a b => ⟨bz_ a, b⟩) (o_ rfl (f_ rfl) rfl (o_ rfl (f_ rfl) rfl (o_ rfl (f_ rfl) rfl (o_ rfl (ae_ D_ j_ rfl rfl (fun v _ h => az_ (n := 1) aq_ (by decide) (by exact h.2.2.1) hx1) (by omega) (by first | omega | (simp; done))) rfl (o_ rfl (aH_ (ad := aad) p_ rfl (fun v _ h => by exact h.2.2.1) (ai_ aq_ hx1 0 _ rfl)) rfl (o_ rfl (f_ rfl) rfl (o_ rfl (f_ rfl) rfl (o_ rfl (ae_ N_ R_ rfl rfl (fun v _ h => az_ (n := 10) Pc.cells_len (by decide) (by exact h.2.1) hx2) (by omega) (by first | omega | (simp; done))) rfl (o_ rfl (bU_ l_ rfl rfl rfl j_) rfl ?_)))))))))
    refine o_ rfl (aH_ (ad := pad) p_ rfl (fun v _ h => by exact h.2.1) (ai_ Pc.cells_len hx2 4 _ rfl)) rfl (o_ rfl (f_ rfl) rfl (o_ rfl (f_ rfl) rfl (o_ rfl (ae_ D_ j_ rfl rfl (fun v _ h => az_ (n := 1) aq_ (by decide) (by exact h.2.2.1) hx1) (by omega) (by first | omega | (simp; done))) rfl (o_ rfl (aH_ (ad := aad) p_ rfl (fun v _ h => by exact h.2.2.1) (ai_ aq_ hx1 0 _ rfl)) rfl (ac_ (X_ 14 rfl (by kernel_rfl) (W_ (er_ x1 (Pc.r x2) x1) rfl J_ (fun _ _ _ => by exact trivial) rfl fun _ => ?_)))))))
    refine am_ ix_ (e_ (x_ rfl (O_ (fun _ a b => ⟨bz_ a, b⟩) (X_ 15 rfl (by kernel_rfl) (aN_ G_ A_ ag_ rfl rfl rfl rfl rfl rfl fun b3 => ?_)))))
    refine bE_ (List.flatMap Fc.cells [(au_ x1 (Pc.r x2) x1)]) i_ rfl ?_
    refine e_ (x_ rfl (O_ (fun _ a b => ⟨bz_ a, b.2⟩) (X_ 16 rfl (by kernel_rfl) (aL_ (news := List.flatMap Fc.cells [(au_ x1 (Pc.r x2) x1)]) cb_ hr_Rfc rfl rfl (fun q => by cases q) (by simp) aA_ (by rw [bo_ Fc.cells 6 Fc.cells_len]; rfl) (fun v _ h => by exact h.1) (fun u hu => aO_ Fc.cells_one hu) (by simp only [maxLen]; ((try simp only [List.length_append, List.length_cons, List.length_nil]); omega)) (by ((try simp only [List.length_append, List.length_cons, List.length_nil]); omega)) rfl fun sv3 Hr3 hr3 => ?_))))
    refine am_ List.perm_append_comm ?_
    have hq3 : aR_ 41 6 sv3 (List.length ((((List.flatMap (dN_ p) (List.take i A)) ++ [(aj_ x1 x1), (aj_ x1 [42])]) ++ List.flatMap (eJ_ x1) (List.take k p)) ++ [(au_ x1 (Pc.r x2) x1)])) (List.flatMap Fc.cells ((((List.flatMap (dN_ p) (List.take i A)) ++ [(aj_ x1 x1), (aj_ x1 [42])]) ++ List.flatMap (eJ_ x1) (List.take k p)) ++ [(au_ x1 (Pc.r x2) x1)])) Hr3 := by rw [List.length_append, List.flatMap_append]; exact hr3
    refine e_ (x_ rfl (O_ (fun _ a b => ⟨bz_ a, b.2⟩) (ad_ 0 [17] (by kernel_rfl) (fun _ a b => ⟨bz_ a, b.2⟩) (o_ rfl (g_ rfl) rfl (ac_ (aa_ (by kernel_rfl) (b_ rfl (d_ (a_ (f_ rfl) rfl ?_)))))))))
    refine a_ (M_ rfl rfl rfl (al_ (by omega) (by omega))) rfl (a_ (g_ rfl) rfl (e_ (x_ rfl ?_)))
    exact Z_ ⟨(k + 1, sv3, Hr3), hlx2, (by have q := hq3; rw [bj_ hx2, show (eJ_ x1) x2 = [(au_ x1 (Pc.r x2) x1)] from (by unfold eJ_; rw [if_pos (by first | assumption | simpa using hr3 | simp [*])])]; simpa only [List.append_assoc, List.append_nil] using q)⟩ (by dsimp only; omega) ⟨rfl, rfl, rfl, rfl, rfl, rfl, trivial⟩ aA_ (fun _ _ h => h.2)
end Go.Proofs.YtpdbbglpbngeiaaGreatDoor
