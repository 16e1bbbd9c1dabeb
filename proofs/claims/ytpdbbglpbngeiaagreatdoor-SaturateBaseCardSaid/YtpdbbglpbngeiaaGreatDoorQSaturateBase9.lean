/-
  Part of the proof of the law SaturateBase over this seat: the small logic, the data, the contracts of functions (no condition).
-/
import Derived.Test.YtpdbbglpbngeiaaGreatDoorQSaturateBase8
import Derived.Test.YtpdbbglpbngeiaaGreatDoorQSaturateBase4
import Derived.Test.YtpdbbglpbngeiaaGreatDoorQSaturateBase2
import Derived.Test.YtpdbbglpbngeiaaGreatDoorRows
set_option linter.unusedVariables false
set_option linter.unusedSimpArgs false
set_option linter.unusedSectionVars false
namespace Go.Proofs.YtpdbbglpbngeiaaGreatDoor
open Go Go.Sx Go.Proofs
attribute [local irreducible] Code.wp wpList wpAnyH
open Go.Vs
theorem pS_ (m q : Str) : Tri Tryz.prog 141 #[str m, str q] [] [] (fun b : Bool => .bool b) (fun _ => []) (fun _ => []) := by
  refine R_ Tryz.func141 rfl rfl Tryz.ntmps141 rfl fun v0 => ?_
  refine f_ (d_ (a_ (h_ rfl) rfl (e_ (b_ rfl (f_ (d_ (a_ (g_ rfl) rfl (a_ (bY_ ai_ rfl) rfl (a_ (g_ rfl) rfl ?_)))))))))
  refine a_ (bY_ ai_ rfl) rfl (z_ (dy_ rfl rfl) rfl fun r1 hr1 => ?_)
  refine a_ (g_ rfl) rfl ?_
  cases r1
  · skip
    replace hr1 := of_decide_eq_false hr1
    refine w_ rfl rfl rfl rfl (w_ rfl rfl rfl rfl (w_ rfl rfl rfl rfl (w_ rfl rfl rfl rfl (w_ rfl rfl rfl rfl (w_ rfl rfl rfl rfl (a_ (H_ rfl rfl) rfl (a_ (h_ rfl) rfl (e_ (b_ rfl ?_)))))))))
    refine D_ ?_
    exact ar_ Tryz.results141 false rfl X_ (fun _ _ _ => trivial)
  · skip
    replace hr1 := of_decide_eq_true hr1
    refine u_ rfl rfl (a_ (g_ rfl) rfl (u_ rfl rfl (a_ (g_ rfl) rfl (u_ rfl rfl (a_ (bY_ ai_ rfl) rfl (u_ rfl rfl (a_ (ew_ (i := 0) (j := q.length) (kl := .i64) (kh := .i64) ai_ rfl rfl rfl (Nat.zero_le _) (by omega)) rfl (u_ rfl rfl (a_ (g_ rfl) rfl ?_)))))))))
    refine u_ rfl rfl (z_ (bu_ rfl rfl) rfl fun r2 hr2 => ?_)
    refine a_ (P_ rfl rfl) rfl (a_ (h_ rfl) rfl (e_ (b_ rfl (D_ ?_))))
    exact ar_ Tryz.results141 r2 rfl X_ (fun _ _ _ => trivial)
theorem rg_ (m q : Str) : Tri Tryz.prog 95 #[str m, str q] [] [] (fun b : Bool => .bool b) (fun _ => []) (fun _ => []) := by
  refine R_ Tryz.func95 rfl rfl Tryz.ntmps95 rfl fun v0 => ?_
  refine f_ (d_ (a_ (h_ rfl) rfl (e_ (b_ rfl (f_ (d_ (a_ (g_ rfl) rfl (a_ (g_ rfl) rfl (Q_ (pS_ m q) rfl X_ (fun _ _ _ => by exact trivial) rfl fun hb => ?_)))))))))
  refine a_ (h_ rfl) rfl (e_ (b_ rfl (D_ ?_)))
  exact ar_ Tryz.results95 hb rfl X_ (fun _ _ _ => trivial)
theorem ht_ {x : Fc} {l : List Fc} (h : dQ_ x = true) (hb : x.b = [33]) (hm : x ∈ l) : ax_ x.a [33] ∈ l := by
  have e := of_decide_eq_true h
  rw [hb] at e
  exact e ▸ hm
theorem sr_ (c : Cl) (hf : c.facts.length ≤ 1000000000000) : Tri Tryz.prog 53 #[Cl.val c] [] [bb_ (Cl.fad c) (List.flatMap Fc.cells (Cl.facts c))] (fun y : {y : Str × Bool // y.2 = true → ax_ y.1 [33] ∈ c.facts} => .tuple #[str y.1.1, .bool y.1.2]) (fun _ => []) (fun _ => []) := by
 refine R_ Tryz.func53 rfl rfl Tryz.ntmps53 rfl fun v0 => ?_
 refine f_ (d_ (aI_ rfl rfl fun b1 => ?_))
 refine a_ (h_ rfl) rfl (a_ (h_ rfl) rfl (e_ (b_ rfl (f_ (f_ (d_ (a_ (k_ bz_ rfl rfl rfl dI_) rfl (a_ (o_ 0 cI_ rfl rfl rfl) rfl (a_ (at_ az_ rfl) rfl ?_)))))))))
 refine a_ (g_ rfl) rfl (e_ (b_ rfl (S_ ?_)))
 refine aV_ (ι := {y : Nat × Str × Bool // y.1 ≤ List.length (Cl.facts c) ∧ (y.2.2 = true → ax_ y.2.1 [33] ∈ Cl.facts c)}) (fun y => [(1, zp_ b1 0), (2, str y.1.2.1), (3, .bool y.1.2.2), (7, .slice (Cl.fad c) (List.length (Cl.facts c)) (Cl.fcap c)), (8, .int .i64 (List.length (Cl.facts c) : Int)), (9, .int .i64 (y.1.1 : Int))]) (fun y => ((b1, .cells (Cl.cells c).toArray 28 (0, 0)) :: [])) (fun y => [bb_ (Cl.fad c) (List.flatMap Fc.cells (Cl.facts c))]) (fun y => List.length (Cl.facts c) - y.1.1) ⟨((0 : Nat), ([] : Str), false), by simp, fun h => by cases h⟩ ⟨rfl, rfl, rfl, rfl, rfl, rfl, trivial⟩ i_ (fun _ _ h => h) ?_
 rintro ⟨⟨i, a, b⟩, hi, hb⟩
 dsimp only at hi hb ⊢
 refine f_ (d_ (z_ (aC_ rfl rfl) rfl fun r1 hr1 => ?_))
 refine e_ (b_ rfl (f_ ?_))
 cases r1
 ·
  replace hr1 := of_decide_eq_false hr1
  refine r_ rfl (ay_ rfl (b_ rfl (f_ (d_ (a_ (g_ rfl) rfl (a_ (g_ rfl) rfl (a_ (h_ rfl) rfl (a_ (h_ rfl) rfl (e_ ?_)))))))))
  refine b_ rfl (D_ ?_)
  exact kG_ Tryz.results53 ⟨(a, b), hb⟩ rfl rfl rfl X_ (fun _ _ _ => trivial)
 ·
  replace hr1 := of_decide_eq_true hr1
  have hlx1 : i < List.length (Cl.facts c) := by omega
  obtain ⟨x1, hx1⟩ : ∃ e0, (Cl.facts c)[i]? = some e0 := ⟨_, List.getElem?_eq_getElem hlx1⟩
  have hmx1 : x1 ∈ (Cl.facts c) := List.mem_of_getElem? hx1
  refine n_ rfl (B_ (b_ rfl (f_ (S_ (f_ (d_ (a_ (aj_ az_ M_ rfl rfl (fun v _ h => aO_ (n := 6) Fc.cells_len (by decide) (by exact h.1) hx1) (by omega) (by first | omega | (simp; done))) rfl (a_ (aG_ (ad := (Cl.fad c)) (us := Fc.cells x1) af_ M_ rfl (fun v _ h => by exact h.1) (Fc.cells_len _) (an_ Fc.cells_len hx1)) rfl (al_ aT_ rfl fun b2 => ?_)))))))))
  refine ae_ 0 M_ rfl rfl rfl rfl rfl rfl (e_ (b_ rfl (f_ (f_ (d_ (a_ (K_ 0 af_ M_ rfl rfl rfl) rfl (au_ (oE_ x1) rfl X_ (fun _ _ _ => by exact trivial) rfl fun r2 hr2 => ?_)))))))
  refine a_ (bg_ rfl) rfl (a_ (g_ rfl) rfl ?_)
  cases r2
  ·
   refine w_ rfl rfl rfl rfl (w_ rfl rfl rfl rfl (w_ rfl rfl rfl rfl (a_ (P_ rfl rfl) rfl (a_ (g_ rfl) rfl (w_ rfl rfl rfl rfl (w_ rfl rfl rfl rfl (w_ rfl rfl rfl rfl (w_ rfl rfl rfl rfl (w_ rfl rfl rfl rfl ?_)))))))))
   refine w_ rfl rfl rfl rfl (w_ rfl rfl rfl rfl (w_ rfl rfl rfl rfl (w_ rfl rfl rfl rfl (a_ (P_ rfl rfl) rfl (e_ (b_ rfl (n_ rfl (ay_ rfl (b_ rfl ?_)))))))))
   refine d_ (a_ (V_ rfl rfl rfl (am_ (by omega) (by omega))) rfl (a_ (g_ rfl) rfl (e_ (t_ rfl ?_))))
   exact ah_ ⟨(i + 1, a, b), hlx1, hb⟩ (by dsimp only; omega) ⟨rfl, rfl, rfl, rfl, rfl, rfl, trivial⟩ (c_ i_) (fun _ _ h => h)
  ·
   refine u_ rfl rfl (a_ (k_ s_ rfl rfl rfl p_) rfl (u_ rfl rfl (a_ (o_ 0 v_ rfl rfl rfl) rfl (u_ rfl rfl (z_ (eG_ rfl rfl) rfl fun r3 hr3 => ?_)))))
   refine a_ (H_ rfl rfl) rfl (a_ (g_ rfl) rfl ?_)
   cases r3
   ·
    replace hr3 := bN_ hr3
    refine u_ rfl rfl (a_ (k_ s_ rfl rfl rfl p_) rfl (u_ rfl rfl (a_ (o_ 0 v_ rfl rfl rfl) rfl (u_ rfl rfl (z_ (eG_ rfl rfl) rfl fun r4 hr4 => ?_)))))
    refine u_ rfl rfl (a_ (g_ rfl) rfl ?_)
    cases r4
    ·
     replace hr4 := bN_ hr4
     refine w_ rfl rfl rfl rfl (w_ rfl rfl rfl rfl (w_ rfl rfl rfl rfl (w_ rfl rfl rfl rfl (u_ rfl rfl (a_ (H_ rfl rfl) rfl (a_ (H_ rfl rfl) rfl (e_ (b_ rfl (r_ rfl ?_)))))))))
     refine B_ (b_ rfl (f_ (d_ (a_ (g_ rfl) rfl (a_ (bg_ rfl) rfl (a_ (g_ rfl) rfl ?_))))))
     cases b
     ·
      refine w_ rfl rfl rfl rfl (w_ rfl rfl rfl rfl (w_ rfl rfl rfl rfl (w_ rfl rfl rfl rfl (a_ (P_ rfl rfl) rfl (e_ (b_ rfl (n_ rfl (d_ (a_ (k_ s_ rfl rfl rfl p_) rfl ?_)))))))))
      refine a_ (o_ 0 v_ rfl rfl rfl) rfl (a_ (h_ rfl) rfl (a_ (h_ rfl) rfl (e_ (b_ rfl (d_ (a_ (V_ rfl rfl rfl (am_ (by omega) (by omega))) rfl (a_ (g_ rfl) rfl (e_ (t_ rfl ?_)))))))))
      exact ah_ ⟨(i + 1, (Fc.a x1), true), hlx1, (fun _ => ht_ (by assumption) (by assumption) hmx1)⟩ (by dsimp only; omega) ⟨rfl, rfl, rfl, rfl, rfl, rfl, trivial⟩ (c_ i_) (fun _ _ h => h)
     ·
      refine u_ rfl rfl (a_ (k_ s_ rfl rfl rfl p_) rfl (u_ rfl rfl (a_ (o_ 0 v_ rfl rfl rfl) rfl (u_ rfl rfl (a_ (g_ rfl) rfl (u_ rfl rfl (z_ (me_ rfl rfl) rfl fun r5 hr5 => ?_)))))))
      refine a_ (H_ rfl rfl) rfl (e_ (b_ rfl ?_))
      cases r5
      ·
       replace hr5 := of_decide_eq_false hr5
       refine r_ rfl (B_ (b_ rfl (d_ (a_ (V_ rfl rfl rfl (am_ (by omega) (by omega))) rfl (a_ (g_ rfl) rfl (e_ (t_ rfl ?_)))))))
       exact ah_ ⟨(i + 1, a, true), hlx1, (fun _ => hb (by assumption))⟩ (by dsimp only; omega) ⟨rfl, rfl, rfl, rfl, rfl, rfl, trivial⟩ (c_ i_) (fun _ _ h => h)
      ·
       replace hr5 := of_decide_eq_true hr5
       refine n_ rfl (d_ (a_ (k_ s_ rfl rfl rfl p_) rfl (a_ (o_ 0 v_ rfl rfl rfl) rfl (a_ (h_ rfl) rfl (a_ (h_ rfl) rfl (e_ (b_ rfl (d_ (a_ (V_ rfl rfl rfl (am_ (by omega) (by omega))) rfl ?_)))))))))
       refine a_ (g_ rfl) rfl (e_ (t_ rfl ?_))
       exact ah_ ⟨(i + 1, (Fc.a x1), true), hlx1, (fun _ => ht_ (by assumption) (by assumption) hmx1)⟩ (by dsimp only; omega) ⟨rfl, rfl, rfl, rfl, rfl, rfl, trivial⟩ (c_ i_) (fun _ _ h => h)
    ·
     replace hr4 := bM_ hr4
     refine u_ rfl rfl (a_ (k_ s_ rfl rfl rfl p_) rfl (u_ rfl rfl (a_ (o_ 0 v_ rfl rfl rfl) rfl (u_ rfl rfl (Q_ (rg_ (Fc.a x1) [123]) rfl X_ (fun _ _ _ => by exact trivial) rfl fun hb9 => ?_)))))
     refine u_ rfl rfl (a_ (bg_ rfl) rfl (u_ rfl rfl (a_ (P_ rfl rfl) rfl (a_ (H_ rfl rfl) rfl (e_ (b_ rfl ?_))))))
     cases hb9
     ·
      refine n_ rfl (ay_ rfl (b_ rfl (d_ (a_ (V_ rfl rfl rfl (am_ (by omega) (by omega))) rfl (a_ (g_ rfl) rfl (e_ (t_ rfl ?_)))))))
      exact ah_ ⟨(i + 1, a, b), hlx1, hb⟩ (by dsimp only; omega) ⟨rfl, rfl, rfl, rfl, rfl, rfl, trivial⟩ (c_ i_) (fun _ _ h => h)
     ·
      refine r_ rfl (B_ (b_ rfl (f_ (d_ (a_ (g_ rfl) rfl (a_ (bg_ rfl) rfl (a_ (g_ rfl) rfl ?_)))))))
      cases b
      ·
       refine w_ rfl rfl rfl rfl (w_ rfl rfl rfl rfl (w_ rfl rfl rfl rfl (w_ rfl rfl rfl rfl (a_ (P_ rfl rfl) rfl (e_ (b_ rfl (n_ rfl (d_ (a_ (k_ s_ rfl rfl rfl p_) rfl ?_)))))))))
       refine a_ (o_ 0 v_ rfl rfl rfl) rfl (a_ (h_ rfl) rfl (a_ (h_ rfl) rfl (e_ (b_ rfl (d_ (a_ (V_ rfl rfl rfl (am_ (by omega) (by omega))) rfl (a_ (g_ rfl) rfl (e_ (t_ rfl ?_)))))))))
       exact ah_ ⟨(i + 1, (Fc.a x1), true), hlx1, (fun _ => ht_ (by assumption) (by assumption) hmx1)⟩ (by dsimp only; omega) ⟨rfl, rfl, rfl, rfl, rfl, rfl, trivial⟩ (c_ i_) (fun _ _ h => h)
      ·
       refine u_ rfl rfl (a_ (k_ s_ rfl rfl rfl p_) rfl (u_ rfl rfl (a_ (o_ 0 v_ rfl rfl rfl) rfl (u_ rfl rfl (a_ (g_ rfl) rfl (u_ rfl rfl (z_ (me_ rfl rfl) rfl fun r6 hr6 => ?_)))))))
       refine a_ (H_ rfl rfl) rfl (e_ (b_ rfl ?_))
       cases r6
       ·
        replace hr6 := of_decide_eq_false hr6
        refine r_ rfl (B_ (b_ rfl (d_ (a_ (V_ rfl rfl rfl (am_ (by omega) (by omega))) rfl (a_ (g_ rfl) rfl (e_ (t_ rfl ?_)))))))
        exact ah_ ⟨(i + 1, a, true), hlx1, (fun _ => hb (by assumption))⟩ (by dsimp only; omega) ⟨rfl, rfl, rfl, rfl, rfl, rfl, trivial⟩ (c_ i_) (fun _ _ h => h)
       ·
        replace hr6 := of_decide_eq_true hr6
        refine n_ rfl (d_ (a_ (k_ s_ rfl rfl rfl p_) rfl (a_ (o_ 0 v_ rfl rfl rfl) rfl (a_ (h_ rfl) rfl (a_ (h_ rfl) rfl (e_ (b_ rfl (d_ (a_ (V_ rfl rfl rfl (am_ (by omega) (by omega))) rfl ?_)))))))))
        refine a_ (g_ rfl) rfl (e_ (t_ rfl ?_))
        exact ah_ ⟨(i + 1, (Fc.a x1), true), hlx1, (fun _ => ht_ (by assumption) (by assumption) hmx1)⟩ (by dsimp only; omega) ⟨rfl, rfl, rfl, rfl, rfl, rfl, trivial⟩ (c_ i_) (fun _ _ h => h)
   ·
    replace hr3 := bM_ hr3
    refine w_ rfl rfl rfl rfl (w_ rfl rfl rfl rfl (w_ rfl rfl rfl rfl (w_ rfl rfl rfl rfl (w_ rfl rfl rfl rfl (w_ rfl rfl rfl rfl (w_ rfl rfl rfl rfl (w_ rfl rfl rfl rfl (w_ rfl rfl rfl rfl (a_ (P_ rfl rfl) rfl ?_)))))))))
    refine e_ (b_ rfl (n_ rfl (ay_ rfl (b_ rfl (d_ (a_ (V_ rfl rfl rfl (am_ (by omega) (by omega))) rfl (a_ (g_ rfl) rfl (e_ (t_ rfl ?_)))))))))
    exact ah_ ⟨(i + 1, a, b), hlx1, hb⟩ (by dsimp only; omega) ⟨rfl, rfl, rfl, rfl, rfl, rfl, trivial⟩ (c_ i_) (fun _ _ h => h)
end Go.Proofs.YtpdbbglpbngeiaaGreatDoor
namespace Go.Proofs.YtpdbbglpbngeiaaGreatDoor
open Go Go.Sx Go.Proofs
attribute [local irreducible] Code.wp wpList wpAnyH
open Go.Vs
theorem qI_ (l : List Ax) (ad : Option Addr) (cap : Nat) (hcap : l.length ≤ cap ∧ cap ≤ 2199023255488) (hok : ∀ x ∈ l, x.ok) {p : List Pc} {er : Int} (e : bk_ l = (p, er)) :
    Tri Tryz.prog 49 #[.slice ad l.length cap] [] [np_ ad l, dB_] (fun y : {y : Option Addr × Nat // p.length ≤ y.2 ∧ y.2 ≤ maxLen} => .tuple #[.slice y.1.1 p.length y.1.2, .int .i64 er]) (fun _ => []) (fun y => [bb_ y.1.1 (p.flatMap Pc.cells)]) := by
  have h := qJ_ l ad cap hcap hok
  generalize bk_ l = g at h e
  subst e
  exact h
theorem rJ_ {x : Pc} (h : x.sm) : x.big := ⟨Nat.le_trans h.a (by decide), Nat.le_trans h.b (by decide), Nat.le_trans h.c (by decide), Nat.le_trans h.r (by decide), Nat.le_trans h.s (by decide), Nat.le_trans h.t (by decide)⟩
theorem rV_ {l : List Ax} {p : List Pc} {er : Int} (hl : l.length ≤ 8) (hok : ∀ x ∈ l, x.ok) (hP : bk_ l = (p, er)) : (er = 0 → bX_ p = 0) ∧ p.length ≤ 12000 ∧ ∀ q ∈ p, q.sm := by
  have h := pw_ (k := 0) (by omega) (Nat.zero_le _) hok hP rfl rfl
  exact ⟨h.chk, h.len.1, h.sm⟩
theorem oR_ {p : List Pc} {c : Cl} {e : Int} (h : eP_ p 2000 c e) (hc : bX_ p = 0) (he : e ≠ 0) : e = 3 := by
  unfold eP_ at h
  rw [if_neg (by simp [hc]), if_neg (by omega)] at h
  rcases h with ⟨h1, _⟩ | ⟨_, h2, _⟩
  · exact absurd h1 he
  · rw [h2, if_pos (by decide)]
theorem ro_ {p : List Pc} {x : Pc} (hx : x ∈ p) (hv : x.valid = true) (hk : x.kind = 1 ∨ x.kind = 3 ∨ x.kind = 8) : x.a ∈ atS p := by
  have hn : x.a ≠ [] := by
    intro e
    unfold Pc.valid at hv
    have z : bh_ [] = false := by decide
    rcases hk with k | k | k <;> rw [k, e] at hv <;> simp [nus, eY_, ce_, z] at hv
  rw [hu_, gz_]
  exact .inl (List.mem_flatMap.2 ⟨x, hx, List.mem_filter.2 ⟨by simp, by simpa using hn⟩⟩)
section
variable {p : List Pc} {m : Nat} {L : List Fc} {x : Pc} (h : ev_ p (atS p) m (some L)) (hc : bX_ p = 0) (hx : x ∈ p)
include h hc hx
theorem bs_sub (hk : x.kind = 1) : ax_ x.a x.c ∈ L := (h.2.1 _).2 (Der.step (.r3 hx hk (Der.step (.r1 (ro_ hx (fF_ hc x hx) (.inl hk))))))
theorem sw_ (hk : x.kind = 3) : aN_ x.a x.r x.c ∈ L := (h.2.1 _).2 (Der.step (.r5 hx hk (Der.step (.r1 (ro_ hx (fF_ hc x hx) (.inr (.inl hk)))))))
theorem bs_in (hk : x.kind = 8) : aJ_ x.a x.r x.lo x.hi ∈ L := (h.2.1 _).2 (Der.step (.r11 hx hk (Der.step (.r1 (ro_ hx (fF_ hc x hx) (.inr (.inr hk)))))))
omit hc in
theorem sx_ (hk : x.kind = 7) {a : Str} (ha : a ∈ atS p) : aN_ a x.r a ∈ L := (h.2.1 _).2 (Der.step (.r10 hx hk ha))
end
set_option maxHeartbeats 1000000 in
theorem pe_ (l : List Ax) (ad : Option Addr) (cap : Nat) (hcap : l.length ≤ cap ∧ cap ≤ 2199023255488) (hok : ∀ x ∈ l, x.ok) {p : List Pc} {er : Int} (hP : bk_ l = (p, er)) : Tri Tryz.prog 14 #[.slice ad (List.length l) cap] [] [np_ ad l, dB_, gG_] (fun _ : Unit => .bool true) (fun _ => []) (fun _ => []) := by
 refine R_ Tryz.func14 rfl rfl Tryz.ntmps14 rfl fun v0 => ?_
 refine f_ (d_ (a_ (h_ rfl) rfl (e_ (b_ rfl (f_ (f_ (d_ (Q_ (qt_) rfl X_ (fun v _ h => by exact ⟨h.2.2.1, trivial⟩) rfl fun _ => ?_))))))))
 refine a_ (bg_ rfl) rfl (e_ (b_ rfl (r_ rfl (B_ (b_ rfl (f_ (f_ (d_ (a_ (g_ rfl) rfl ?_)))))))))
 refine Q_ (nf_ l ad cap 8 hcap hok) rfl X_ (fun v _ h => by exact ⟨h.1, trivial⟩) rfl fun ⟨rf, hr⟩ => ?_
 dsimp only
 refine a_ (bg_ rfl) rfl (e_ (b_ rfl ?_))
 cases rf
 ·
  refine n_ rfl (f_ (d_ (a_ (h_ rfl) rfl (e_ (b_ rfl (D_ ?_))))))
  exact ar_ jQ_ () rfl X_ (fun _ _ _ => trivial)
 ·
  have hl8 : l.length ≤ 8 := by have := hr rfl; omega
  obtain ⟨hPc, hPl, hPs⟩ := rV_ hl8 hok hP
  have hp : p.length ≤ 1099511627744 := by omega
  have hbig : ∀ x ∈ p, x.big := fun x hx => rJ_ (hPs x hx)
  refine r_ rfl (B_ (b_ rfl (f_ (d_ (a_ (g_ rfl) rfl (Q_ (qI_ l ad cap hcap hok hP) rfl X_ (fun v _ h => by exact ⟨h.1, h.2.1, trivial⟩) rfl fun ⟨⟨pad, pcap⟩, hpd1, hpd2⟩ => ?_))))))
  dsimp only
  refine a_ (g_ rfl) rfl (a_ (aq_ rfl rfl) rfl (a_ (aq_ rfl rfl) rfl (a_ (h_ rfl) rfl (a_ (h_ rfl) rfl (e_ (b_ rfl (f_ (f_ (d_ ?_)))))))))
  refine a_ (g_ rfl) rfl (z_ (cJ_ rfl rfl) rfl fun r1 hr1 => ?_)
  refine a_ (g_ rfl) rfl ?_
  cases r1
  ·
   replace hr1 := bN_ hr1
   refine u_ rfl rfl (a_ (g_ rfl) rfl (u_ rfl rfl (Q_ (sk_ p pad pcap hp hbig) rfl X_ (fun v _ h => by exact ⟨h.1, trivial⟩) rfl fun ⟨sb, hsb⟩ => ?_)))
   dsimp only
   refine u_ rfl rfl (a_ (bg_ rfl) rfl (a_ (H_ rfl rfl) rfl (e_ (b_ rfl ?_))))
   cases sb
   ·
    refine n_ rfl (f_ (d_ (a_ (h_ rfl) rfl (e_ (b_ rfl (D_ ?_))))))
    exact ar_ jQ_ () rfl X_ (fun _ _ _ => trivial)
   ·
    obtain ⟨hl40, hsm⟩ := hsb rfl
    refine r_ rfl (B_ (b_ rfl (f_ (d_ (a_ (g_ rfl) rfl (Q_ (oS_ p pad pcap 2000 hsm (by omega)) rfl X_ (fun v _ h => by exact ⟨h.1, h.2.2.2.1, trivial⟩) rfl fun ⟨⟨c1, e1⟩, hA1⟩ => ?_))))))
    dsimp only
    dsimp only at hA1
    refine a_ (g_ rfl) rfl (a_ (aq_ rfl rfl) rfl (a_ (aq_ rfl rfl) rfl (al_ hD_ rfl fun b1 => ?_)))
    refine ae_ 0 aH_ rfl rfl rfl rfl rfl rfl (a_ (h_ rfl) rfl (e_ (b_ rfl (f_ (f_ (d_ (a_ (g_ rfl) rfl (z_ (cJ_ rfl rfl) rfl fun r2 hr2 => ?_))))))))
    refine e_ (b_ rfl ?_)
    cases r2
    ·
     replace hr2 := bN_ hr2
     have he1 : e1 = 0 := hr2
     subst he1
     obtain ⟨hck, _, _, hcok, hat, hAl⟩ := hA1.good
     obtain ⟨hla, hlf⟩ := hA1.len
     refine r_ rfl (B_ (b_ rfl (f_ (f_ (d_ (a_ (g_ rfl) rfl (a_ (at_ T_ rfl) rfl (a_ (g_ rfl) rfl (e_ ?_)))))))))
     refine b_ rfl (S_ ?_)
     refine aV_ (ι := {y : Nat // y ≤ List.length p}) (fun y => [(2, .bool false), (5, zp_ b1 0), (39, .slice pad (List.length p) pcap), (40, .int .i64 (List.length p : Int)), (41, .int .i64 (y.1 : Int))]) (fun y => ((b1, .cells (Cl.cells c1).toArray 28 (0, 0)) :: [])) (fun y => [bb_ (Cl.aad c1) (List.flatMap bf_ (Cl.atoms c1)), bb_ (Cl.fad c1) (List.flatMap Fc.cells (Cl.facts c1)), bb_ pad (List.flatMap Pc.cells p), np_ ad l, dB_, gG_]) (fun y => List.length p - y.1) ⟨(0 : Nat), by simp⟩ ⟨rfl, rfl, rfl, rfl, rfl, trivial⟩ i_ (fun _ _ h => h) ?_
     rintro ⟨i, hi_i⟩
     dsimp only at hi_i ⊢
     refine f_ (d_ (z_ (aC_ rfl rfl) rfl fun r3 hr3 => ?_))
     refine e_ (b_ rfl (f_ ?_))
     cases r3
     ·
      replace hr3 := of_decide_eq_false hr3
      refine r_ rfl (ay_ rfl (b_ rfl (f_ (d_ (a_ (K_ 0 bE_ aH_ rfl rfl rfl) rfl (Q_ (sr_ c1 (by omega)) rfl X_ (fun v _ h => by exact ⟨h.2.1, trivial⟩) rfl fun ⟨⟨ka, kb⟩, hka⟩ => ?_))))))
      dsimp only
      dsimp only at hka
      refine a_ (g_ rfl) rfl (a_ (aq_ rfl rfl) rfl (a_ (aq_ rfl rfl) rfl (a_ (h_ rfl) rfl (a_ (h_ rfl) rfl (e_ (b_ rfl (f_ ?_)))))))
      refine aE_ (by kernel_rfl) ?_
      refine ab_ 6 [0, 1, 2] (by kernel_rfl) (fun _ a b => ⟨a, b⟩) (j_ rfl (g_ rfl) rfl (j_ rfl (bg_ rfl) rfl (j_ rfl (g_ rfl) rfl (aa_ ?_))))
      cases kb
      ·
       refine ab_ 0 [3, 4, 5, 6, 7, 8] (by kernel_rfl) (fun _ a b => ⟨a, b⟩) (aL_ rfl rfl rfl rfl rfl (aL_ rfl rfl rfl rfl rfl (aL_ rfl rfl rfl rfl rfl (aL_ rfl rfl rfl rfl rfl (j_ rfl (P_ rfl rfl) rfl (j_ rfl (h_ rfl) rfl (aa_ (Y_ (by kernel_rfl) (b_ rfl ?_)))))))))
       refine D_ ?_
       exact ar_ jQ_ () rfl X_ (fun _ _ _ => trivial)
      ·
       refine ab_ 4 [3, 4] (by kernel_rfl) (fun _ a b => ⟨a, b⟩) (aB_ rfl rfl rfl (K_ 0 bE_ aH_ rfl rfl rfl) rfl (aB_ rfl rfl rfl (g_ rfl) rfl (aa_ (N_ 5 rfl (by kernel_rfl) (u_ rfl rfl (Q_ (ls_ ka [33]) rfl X_ (fun _ _ _ => by exact trivial) rfl fun _ => ?_))))))
       refine e_ (t_ rfl (E_ (fun _ a b => ⟨a, b⟩) (N_ 6 rfl (by kernel_rfl) (u_ rfl rfl (au_ (jh_ c1 (ax_ ka [33]) (by omega)) rfl X_ (fun v _ h => by exact ⟨h.2.1, trivial⟩) rfl fun r4 hr4 => ?_)))))
       refine e_ (t_ rfl (E_ (fun _ a b => ⟨a, b⟩) (ab_ 0 [7, 8] (by kernel_rfl) (fun _ a b => ⟨a, b⟩) (j_ rfl (H_ rfl rfl) rfl (j_ rfl (h_ rfl) rfl (aa_ (Y_ (by kernel_rfl) (b_ rfl (D_ ?_)))))))))
       exact ar_ jQ_ () (G_ rfl (by rw [← hr4]; first | exact beq_iff_eq.2 (oR_ hA1 (hPc (by assumption)) (by assumption)) | exact gc_ (hka (by first | rfl | assumption)))) X_ (fun _ _ _ => trivial)
     ·
      replace hr3 := of_decide_eq_true hr3
      have hlx1 : i < List.length p := by omega
      obtain ⟨x1, hx1⟩ : ∃ e0, p[i]? = some e0 := ⟨_, List.getElem?_eq_getElem hlx1⟩
      have hmx1 : x1 ∈ p := List.mem_of_getElem? hx1
      refine n_ rfl (B_ (b_ rfl (f_ (S_ (f_ (d_ (a_ (aj_ T_ W_ rfl rfl (fun v _ h => aO_ (n := 10) Pc.cells_len (by decide) (by exact h.2.2.1) hx1) (by omega) (by first | omega | (simp; done))) rfl (a_ (aG_ (ad := pad) (us := Pc.cells x1) bs_ W_ rfl (fun v _ h => by exact h.2.2.1) (Pc.cells_len _) (an_ Pc.cells_len hx1)) rfl (al_ as_ rfl fun b2 => ?_)))))))))
      refine ae_ 0 W_ rfl rfl rfl rfl rfl rfl (e_ (b_ rfl (f_ (d_ (a_ (k_ C_ rfl rfl rfl I_) rfl (a_ (o_ 0 J_ rfl rfl rfl) rfl (e_ (b_ rfl (S_ ?_)))))))))
      refine f_ (d_ (z_ (aA_ rfl rfl) rfl fun r5 hr5 => ?_))
      refine a_ (h_ rfl) rfl (e_ (b_ rfl ?_))
      cases r5
      ·
       replace hr5 := ne_of_beq_false hr5
       refine r_ rfl (f_ (d_ (z_ (aA_ rfl rfl) rfl fun r6 hr6 => ?_)))
       refine a_ (h_ rfl) rfl (e_ (b_ rfl ?_))
       cases r6
       ·
        replace hr6 := ne_of_beq_false hr6
        refine r_ rfl (f_ (d_ (z_ (aA_ rfl rfl) rfl fun r7 hr7 => ?_)))
        refine a_ (h_ rfl) rfl (e_ (b_ rfl ?_))
        cases r7
        ·
         replace hr7 := ne_of_beq_false hr7
         refine r_ rfl (f_ (d_ (z_ (aA_ rfl rfl) rfl fun r8 hr8 => ?_)))
         refine a_ (h_ rfl) rfl (e_ (b_ rfl ?_))
         cases r8
         ·
          replace hr8 := ne_of_beq_false hr8
          refine r_ rfl (B_ (b_ rfl (d_ (a_ (V_ rfl rfl rfl (am_ (by omega) (by omega))) rfl (a_ (g_ rfl) rfl (e_ (t_ rfl ?_)))))))
          exact ah_ ⟨i + 1, hlx1⟩ (by dsimp only; omega) ⟨rfl, rfl, rfl, rfl, rfl, trivial⟩ (c_ i_) (fun _ _ h => h)
         ·
          replace hr8 := eq_of_beq hr8
          refine n_ rfl (f_ (d_ (a_ (k_ bz_ rfl rfl rfl bq_) rfl (a_ (o_ 1 cd_ rfl rfl rfl) rfl (a_ (at_ L_ rfl) rfl (a_ (g_ rfl) rfl (e_ (b_ rfl (S_ ?_)))))))))
          refine aV_ (ι := {y : Nat // y ≤ List.length (Cl.atoms c1)}) (fun y => [(2, .bool false), (5, zp_ b1 0), (39, .slice pad (List.length p) pcap), (40, .int .i64 (List.length p : Int)), (41, .int .i64 (i : Int)), (8, zp_ b2 0), (86, .slice (Cl.aad c1) (List.length (Cl.atoms c1)) (Cl.acap c1)), (87, .int .i64 (List.length (Cl.atoms c1) : Int)), (88, .int .i64 (y.1 : Int))]) (fun y => ((b2, .cells (Pc.cells x1).toArray 47 (0, 0)) :: ((b1, .cells (Cl.cells c1).toArray 28 (0, 0)) :: []))) (fun y => [bb_ (Cl.aad c1) (List.flatMap bf_ (Cl.atoms c1)), bb_ (Cl.fad c1) (List.flatMap Fc.cells (Cl.facts c1)), bb_ pad (List.flatMap Pc.cells p), np_ ad l, dB_, gG_]) (fun y => List.length (Cl.atoms c1) - y.1) ⟨(0 : Nat), by simp⟩ ⟨rfl, rfl, rfl, rfl, rfl, rfl, rfl, rfl, rfl, trivial⟩ (l_ i_ i_) (fun _ _ h => h) ?_
          rintro ⟨j, hi_j⟩
          dsimp only at hi_j ⊢
          refine f_ (d_ (z_ (aC_ rfl rfl) rfl fun r9 hr9 => ?_))
          refine e_ (b_ rfl (f_ ?_))
          cases r9
          ·
           replace hr9 := of_decide_eq_false hr9
           refine r_ rfl (ay_ rfl (b_ rfl (d_ (a_ (V_ rfl rfl rfl (am_ (by omega) (by omega))) rfl (a_ (g_ rfl) rfl (e_ (t_ rfl ?_)))))))
           exact ah_ ⟨i + 1, hlx1⟩ (by dsimp only; omega) ⟨rfl, rfl, rfl, rfl, rfl, trivial⟩ (c_ i_) (fun _ _ h => h)
          ·
           replace hr9 := of_decide_eq_true hr9
           have hlx2 : j < List.length (Cl.atoms c1) := by omega
           obtain ⟨x2, hx2⟩ : ∃ e0, (Cl.atoms c1)[j]? = some e0 := ⟨_, List.getElem?_eq_getElem hlx2⟩
           have hmx2 : x2 ∈ (Cl.atoms c1) := List.mem_of_getElem? hx2
           refine n_ rfl (B_ (b_ rfl (f_ (S_ (f_ (d_ (a_ (aj_ L_ p_ rfl rfl (fun v _ h => aO_ (n := 1) aX_ (by decide) (by exact h.1) hx2) (by omega) (by first | omega | (simp; done))) rfl (a_ (bA_ (ad := (Cl.aad c1)) v_ rfl (fun v _ h => by exact h.1) (an_ aX_ hx2 0 _ rfl)) rfl (a_ (h_ rfl) rfl ?_)))))))))
           refine e_ (b_ rfl (f_ ?_))
           refine aE_ (by kernel_rfl) ?_
           refine ab_ 3 [0, 1, 2, 3, 4] (by kernel_rfl) (fun _ a b => ⟨a, b⟩) (j_ rfl (K_ 1 bE_ aH_ rfl rfl rfl) rfl (j_ rfl (g_ rfl) rfl (j_ rfl (k_ C_ rfl rfl rfl p_) rfl (j_ rfl (o_ 0 v_ rfl rfl rfl) rfl (j_ rfl (g_ rfl) rfl (aa_ (N_ 5 rfl (by kernel_rfl) (Q_ (lv_ x2 (Pc.r x1) x2) rfl X_ (fun _ _ _ => by exact trivial) rfl fun _ => ?_))))))))
           refine e_ (t_ rfl (E_ (fun _ a b => ⟨a, b⟩) (N_ 6 rfl (by kernel_rfl) (au_ (jh_ c1 (aN_ x2 (Pc.r x1) x2) (by omega)) rfl X_ (fun v _ h => by exact ⟨h.2.1, trivial⟩) rfl fun r10 hr10 => ?_))))
           refine e_ (t_ rfl (E_ (fun _ a b => ⟨a, b⟩) (ab_ 0 [7] (by kernel_rfl) (fun _ a b => ⟨a, b⟩) (j_ rfl (bg_ rfl) rfl (aa_ (Y_ (by kernel_rfl) (b_ rfl ?_)))))))
           cases r10
           ·
            rw [gc_ (sx_ hAl hmx1 (by assumption) (hat ▸ hmx2))] at hr10; cases hr10
           ·
            refine r_ rfl (B_ (b_ rfl (d_ (a_ (V_ rfl rfl rfl (am_ (by omega) (by omega))) rfl (a_ (g_ rfl) rfl (e_ (t_ rfl ?_)))))))
            exact ah_ ⟨j + 1, hlx2⟩ (by dsimp only; omega) ⟨rfl, rfl, rfl, rfl, rfl, rfl, rfl, rfl, rfl, trivial⟩ (l_ i_ i_) (fun _ _ h => h)
        ·
         replace hr7 := eq_of_beq hr7
         refine n_ rfl (f_ ?_)
         refine aE_ (by kernel_rfl) ?_
         refine ab_ 3 [0, 1, 2, 3, 4, 5, 6, 7, 8] (by kernel_rfl) (fun _ a b => ⟨a, b⟩) (j_ rfl (K_ 1 bE_ aH_ rfl rfl rfl) rfl (j_ rfl (k_ C_ rfl rfl rfl p_) rfl (j_ rfl (o_ 0 v_ rfl rfl rfl) rfl (j_ rfl (k_ C_ rfl rfl rfl p_) rfl (j_ rfl (o_ 0 v_ rfl rfl rfl) rfl (j_ rfl (k_ C_ rfl rfl rfl I_) rfl (j_ rfl (o_ 0 J_ rfl rfl rfl) rfl (j_ rfl (k_ C_ rfl rfl rfl I_) rfl (j_ rfl (o_ 0 J_ rfl rfl rfl) rfl ?_)))))))))
         refine aa_ (N_ 9 rfl (by kernel_rfl) (Q_ (rL_ (Pc.a x1) (Pc.r x1) (Pc.lo x1) (Pc.hi x1)) rfl X_ (fun _ _ _ => by exact trivial) rfl fun _ => ?_))
         refine e_ (t_ rfl (E_ (fun _ a b => ⟨a, b⟩) (N_ 10 rfl (by kernel_rfl) (au_ (jh_ c1 (aJ_ (Pc.a x1) (Pc.r x1) (Pc.lo x1) (Pc.hi x1)) (by omega)) rfl X_ (fun v _ h => by exact ⟨h.2.1, trivial⟩) rfl fun r11 hr11 => ?_))))
         refine e_ (t_ rfl (E_ (fun _ a b => ⟨a, b⟩) (ab_ 0 [11] (by kernel_rfl) (fun _ a b => ⟨a, b⟩) (j_ rfl (bg_ rfl) rfl (aa_ (Y_ (by kernel_rfl) (b_ rfl ?_)))))))
         cases r11
         ·
          rw [gc_ (bs_in hAl hck hmx1 (by assumption))] at hr11; cases hr11
         ·
          refine r_ rfl (B_ (b_ rfl (d_ (a_ (V_ rfl rfl rfl (am_ (by omega) (by omega))) rfl (a_ (g_ rfl) rfl (e_ (t_ rfl ?_)))))))
          exact ah_ ⟨i + 1, hlx1⟩ (by dsimp only; omega) ⟨rfl, rfl, rfl, rfl, rfl, trivial⟩ (c_ i_) (fun _ _ h => h)
       ·
        replace hr6 := eq_of_beq hr6
        refine n_ rfl (f_ ?_)
        refine aE_ (by kernel_rfl) ?_
        refine ab_ 3 [0, 1, 2, 3, 4, 5, 6] (by kernel_rfl) (fun _ a b => ⟨a, b⟩) (j_ rfl (K_ 1 bE_ aH_ rfl rfl rfl) rfl (j_ rfl (k_ C_ rfl rfl rfl p_) rfl (j_ rfl (o_ 0 v_ rfl rfl rfl) rfl (j_ rfl (k_ C_ rfl rfl rfl p_) rfl (j_ rfl (o_ 0 v_ rfl rfl rfl) rfl (j_ rfl (k_ C_ rfl rfl rfl p_) rfl (j_ rfl (o_ 0 v_ rfl rfl rfl) rfl (aa_ (N_ 7 rfl (by kernel_rfl) ?_)))))))))
        refine Q_ (lv_ (Pc.a x1) (Pc.r x1) (Pc.c x1)) rfl X_ (fun _ _ _ => by exact trivial) rfl fun _ => ?_
        refine e_ (t_ rfl (E_ (fun _ a b => ⟨a, b⟩) (N_ 8 rfl (by kernel_rfl) (au_ (jh_ c1 (aN_ (Pc.a x1) (Pc.r x1) (Pc.c x1)) (by omega)) rfl X_ (fun v _ h => by exact ⟨h.2.1, trivial⟩) rfl fun r12 hr12 => ?_))))
        refine e_ (t_ rfl (E_ (fun _ a b => ⟨a, b⟩) (ab_ 0 [9] (by kernel_rfl) (fun _ a b => ⟨a, b⟩) (j_ rfl (bg_ rfl) rfl (aa_ (Y_ (by kernel_rfl) (b_ rfl ?_)))))))
        cases r12
        ·
         rw [gc_ (sw_ hAl hck hmx1 (by assumption))] at hr12; cases hr12
        ·
         refine r_ rfl (B_ (b_ rfl (d_ (a_ (V_ rfl rfl rfl (am_ (by omega) (by omega))) rfl (a_ (g_ rfl) rfl (e_ (t_ rfl ?_)))))))
         exact ah_ ⟨i + 1, hlx1⟩ (by dsimp only; omega) ⟨rfl, rfl, rfl, rfl, rfl, trivial⟩ (c_ i_) (fun _ _ h => h)
      ·
       replace hr5 := eq_of_beq hr5
       refine n_ rfl (f_ ?_)
       refine aE_ (by kernel_rfl) ?_
       refine ab_ 3 [0, 1, 2, 3, 4] (by kernel_rfl) (fun _ a b => ⟨a, b⟩) (j_ rfl (K_ 1 bE_ aH_ rfl rfl rfl) rfl (j_ rfl (k_ C_ rfl rfl rfl p_) rfl (j_ rfl (o_ 0 v_ rfl rfl rfl) rfl (j_ rfl (k_ C_ rfl rfl rfl p_) rfl (j_ rfl (o_ 0 v_ rfl rfl rfl) rfl (aa_ (N_ 5 rfl (by kernel_rfl) (Q_ (ls_ (Pc.a x1) (Pc.c x1)) rfl X_ (fun _ _ _ => by exact trivial) rfl fun _ => ?_))))))))
       refine e_ (t_ rfl (E_ (fun _ a b => ⟨a, b⟩) (N_ 6 rfl (by kernel_rfl) (au_ (jh_ c1 (ax_ (Pc.a x1) (Pc.c x1)) (by omega)) rfl X_ (fun v _ h => by exact ⟨h.2.1, trivial⟩) rfl fun r13 hr13 => ?_))))
       refine e_ (t_ rfl (E_ (fun _ a b => ⟨a, b⟩) (ab_ 0 [7] (by kernel_rfl) (fun _ a b => ⟨a, b⟩) (j_ rfl (bg_ rfl) rfl (aa_ (Y_ (by kernel_rfl) (b_ rfl ?_)))))))
       cases r13
       ·
        rw [gc_ (bs_sub hAl hck hmx1 (by assumption))] at hr13; cases hr13
       ·
        refine r_ rfl (B_ (b_ rfl (d_ (a_ (V_ rfl rfl rfl (am_ (by omega) (by omega))) rfl (a_ (g_ rfl) rfl (e_ (t_ rfl ?_)))))))
        exact ah_ ⟨i + 1, hlx1⟩ (by dsimp only; omega) ⟨rfl, rfl, rfl, rfl, rfl, trivial⟩ (c_ i_) (fun _ _ h => h)
    ·
     replace hr2 := bM_ hr2
     refine n_ rfl (f_ (d_ (a_ (g_ rfl) rfl (z_ (aA_ rfl rfl) rfl fun r14 hr14 => ?_))))
     refine a_ (h_ rfl) rfl (e_ (b_ rfl (D_ ?_)))
     exact ar_ jQ_ () (G_ rfl (by rw [← hr14]; first | exact beq_iff_eq.2 (oR_ hA1 (hPc (by assumption)) (by assumption)) | exact gc_ (hka (by first | rfl | assumption)))) X_ (fun _ _ _ => trivial)
  ·
   replace hr1 := bM_ hr1
   refine w_ rfl rfl rfl rfl (w_ rfl rfl rfl rfl (w_ rfl rfl rfl rfl (a_ (P_ rfl rfl) rfl (e_ (b_ rfl (n_ rfl (f_ (d_ (a_ (h_ rfl) rfl ?_)))))))))
   refine e_ (b_ rfl (D_ ?_))
   exact ar_ jQ_ () rfl X_ (fun _ _ _ => trivial)
end Go.Proofs.YtpdbbglpbngeiaaGreatDoor
namespace Go.Proofs.YtpdbbglpbngeiaaGreatDoor
open Go Go.Sx Go.Proofs
attribute [local irreducible] Code.wp wpList wpAnyH
open Go.Vs Go.ChangeShapes Go.WideShapes Go.ChangeAt Go.RowKit
theorem own : ownKnob Tryz.prog.godebug = none := by kernel_rfl
def fA_ : List (String × DataW Unit) := [("math/bits.deBruijn32tab", Rows.laid_math_bits_deBruijn32tab), ("math/bits.deBruijn64tab", Rows.laid_math_bits_deBruijn64tab), ("internal/strconv.uint64pow10", Rows.laid_internal_strconv_uint64pow10), ("unicode/utf8.acceptRanges", Rows.laid_unicode_utf8_acceptRanges), ("veilstone/terms.needs", Rows.laid_veilstone_terms_needs), ("veilstone/terms.uses", Rows.laid_veilstone_terms_uses), ("veilstone/normal.uses", Rows.laid_veilstone_normal_uses), ("unicode/utf8.first", Rows.laid_unicode_utf8_first)]
theorem qT_ : Kids Tryz.prog (· < Tryz.prog.types.size) := kids_rows (by kernel_rfl) (by kernel_rfl)
theorem full : ∀ t e, t < Tryz.prog.types.size → Tryz.prog.underlying t = some (.slice e) → 0 < Tryz.prog.cellsOf e := slices_full_of _ (by kernel_rfl)
theorem kh_ : Tryz.prog.types.size = 292 := by kernel_rfl
theorem tysX : Tys Tryz.prog 3 4 9 25 132 130 134 75 47 22 where
  i := ac_
  b := Tryz.underlying4
  s := bl_
  ss := gJ_
  c := ⟨_, Tryz.underlying132, rfl⟩
  cs := Tryz.underlying130
  a := ⟨_, Tryz.underlying134, rfl⟩
  axs := Tryz.underlying75
  p := ⟨_, eW_, rfl⟩
  ps := Tryz.underlying22
  ci := by kernel_rfl
  cb := by kernel_rfl
  cs1 := by kernel_rfl
  css := by kernel_rfl
  cc := by kernel_rfl
  ccs := by kernel_rfl
  ca := by kernel_rfl
  cp := by kernel_rfl
  bs := by kernel_rfl
  bc := by kernel_rfl
  ba := by kernel_rfl
  bp := by kernel_rfl
theorem jl_ {W : World} (h : laidMetH Tryz.prog fA_ W) : ∃ T fz, W.heap[3]? = some (.cells (ey_ (H := Unit) Rows.laid_veilstone_terms_needs).toArray T fz) := by
  rw [MakeChecks.laidMetH_plain _ _ _ (by kernel_rfl)] at h
  exact hX_ qT_ (name := "veilstone/terms.needs") h (by simp [fA_]) (g := 3) (t := 219) (by kernel_rfl) (by kernel_rfl) (by rw [kh_]; decide) (m := 4) (by kernel_rfl)
theorem jF_ {W : World} (h : laidMetH Tryz.prog fA_ W) : ∃ T fz, W.heap[1]? = some (.cells (ey_ (H := Unit) Rows.laid_veilstone_terms_uses).toArray T fz) := by
  rw [MakeChecks.laidMetH_plain _ _ _ (by kernel_rfl)] at h
  exact hX_ qT_ (name := "veilstone/terms.uses") h (by simp [fA_]) (g := 1) (t := 161) (by kernel_rfl) (by kernel_rfl) (by rw [kh_]; decide) (m := 4) (by kernel_rfl)
theorem jm_ {W : World} (h : laidMetH Tryz.prog fA_ W) : ∃ T fz, W.heap[0]? = some (.cells (ey_ (H := Unit) Rows.laid_veilstone_normal_uses).toArray T fz) := by
  rw [MakeChecks.laidMetH_plain _ _ _ (by kernel_rfl)] at h
  exact hX_ qT_ (name := "veilstone/normal.uses") h (by simp [fA_]) (g := 0) (t := 153) (by kernel_rfl) (by kernel_rfl) (by rw [kh_]; decide) (m := 4) (by kernel_rfl)
theorem fN_ {W : World} (h : laidMetH Tryz.prog fA_ W) : ∃ T fz, W.heap[6]? = some (.cells (ey_ (H := Unit) Rows.laid_internal_strconv_uint64pow10).toArray T fz) := by
  rw [MakeChecks.laidMetH_plain _ _ _ (by kernel_rfl)] at h
  exact hX_ qT_ (name := "internal/strconv.uint64pow10") h (by simp [fA_]) (g := 6) (t := 275) (by kernel_rfl) (by kernel_rfl) (by rw [kh_]; decide) (m := 4) (by kernel_rfl)
theorem lu_ {W : World} {g : Nat} {l : List Value} {d : List Value} (h : ∃ T fz, W.heap[g]? = some (.cells l.toArray T fz)) (e : l = d) : ci_ (vw W) (some ⟨g, 0, none⟩) d := by
  obtain ⟨T, fz, h⟩ := h
  subst e
  exact .inr ⟨g, 0, _, T, fz, rfl, (Array.getElem?_eq_some_iff.1 h).1, h, fun j x hj => by rw [Nat.zero_add]; simpa using hj⟩
theorem oi_ {W : World} (h : laidMetH Tryz.prog fA_ W) : dB_.p (vw W) := by
  refine ⟨lu_ (jl_ h) (by kernel_rfl), lu_ (jF_ h) (by kernel_rfl), lu_ (jm_ h) (by kernel_rfl), ?_⟩
  obtain ⟨T, fz, h2⟩ := fN_ h
  refine ⟨trivial, (Array.getElem?_eq_some_iff.1 h2).1, T, fz, ?_⟩
  rw [show (Lib.pow10Tab.map fun z => Value.int .u64 z) = ey_ (H := Unit) Rows.laid_internal_strconv_uint64pow10 by kernel_rfl]
  exact h2
theorem rD_ {W : World} (h : laidMetH Tryz.prog fA_ W) : gG_.p (vw W) := (oi_ h).2.2.1
end Go.Proofs.YtpdbbglpbngeiaaGreatDoor
