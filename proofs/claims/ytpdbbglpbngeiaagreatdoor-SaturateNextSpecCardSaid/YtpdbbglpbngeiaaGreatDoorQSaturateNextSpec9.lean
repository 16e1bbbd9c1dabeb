/-
  Part of the proof of the law SaturateNextSpec over this seat: the small logic, the data, the contracts of functions (no condition).
-/
import Derived.Test.YtpdbbglpbngeiaaGreatDoorQSaturateNextSpec8
set_option linter.unusedVariables false
set_option linter.unusedSimpArgs false
set_option linter.unusedSectionVars false
namespace Go.Proofs.YtpdbbglpbngeiaaGreatDoor
open Go Go.Sx Go.Proofs
attribute [local irreducible] Code.wp wpList wpAnyH
open Go.Vs
theorem nt_ {α : Type} {lt : α → α → Prop} (ht : ∀ {x y z}, lt x y → lt y z → lt x z) {l : List α} {j : Nat} {b : α} (h : (l.take j).Pairwise lt) (hb : l[j]? = some b) (hab : ∀ a, 0 < j → l[j - 1]? = some a → lt a b) : (l.take (j + 1)).Pairwise lt := by
  cases j with
  | zero => exact kK_ l
  | succ k =>
    have hk := (List.getElem?_eq_some_iff.1 hb).1
    obtain ⟨a, ha⟩ : ∃ a, l[k]? = some a := ⟨_, List.getElem?_eq_getElem (by omega)⟩
    exact iM_ (lt := lt) ht h ha hb (hab a (by omega) ha)
theorem lG_ {α : Type} {lt : α → α → Prop} {l : List α} {j : Nat} {a b : α} (hj : 0 < j) (ha : l[j - 1]? = some a) (hb : l[j]? = some b) (hab : ¬ lt a b) : ¬ l.Pairwise lt := by
  obtain ⟨k, rfl⟩ : ∃ k, j = k + 1 := ⟨j - 1, by omega⟩
  exact gz_ ha hb hab
def eY_ (fs : List Fc) (O : List Fc) (y : Fc) : List Fc := if y ∈ fs then O else eS_ O y
def dq_ (fs Q : List Fc) : List Fc := Q.foldl (eY_ fs) []
theorem eC_ {fs Q : List Fc} {i : Nat} {x : Fc} (h : Q[i]? = some x) : dq_ fs (Q.take (i + 1)) = eY_ fs (dq_ fs (Q.take i)) x := by
  unfold dq_; rw [List.take_add_one, h, Option.toList_some, List.foldl_append]; rfl
theorem hd_ (fs : List Fc) : ∀ (Q O : List Fc), Srt O → Srt (Q.foldl (eY_ fs) O) ∧ (∀ y, y ∈ Q.foldl (eY_ fs) O ↔ y ∈ O ∨ (y ∈ Q ∧ y ∉ fs)) ∧ (Q.foldl (eY_ fs) O).length ≤ O.length + Q.length
  | [], O, h => ⟨h, by simp, by simp⟩
  | x :: Q, O, h => by
    have hs : Srt (eY_ fs O x) := by unfold eY_; split; exact h; exact mf_ x h
    have hl : (eY_ fs O x).length ≤ O.length + 1 := by unfold eY_; split; omega; exact qP_ O x
    have hm : ∀ y, y ∈ eY_ fs O x ↔ y ∈ O ∨ (y = x ∧ y ∉ fs) := fun y => by
      unfold eY_
      split
      · rename_i hx
        exact ⟨.inl, fun q => q.elim id fun ⟨e, q⟩ => absurd (e ▸ hx) q⟩
      · rename_i hx
        rw [mg_]
        exact ⟨fun q => q.imp id fun e => ⟨e, e ▸ hx⟩, fun q => q.imp id fun e => e.1⟩
    obtain ⟨h1, h2, h3⟩ := hd_ fs Q (eY_ fs O x) hs
    refine ⟨h1, fun y => ?_, by simp only [List.foldl_cons, List.length_cons]; omega⟩
    rw [List.foldl_cons, h2, hm, List.mem_cons]
    constructor
    · rintro ((h | ⟨rfl, h⟩) | ⟨h, h'⟩)
      · exact .inl h
      · exact .inr ⟨.inl rfl, h⟩
      · exact .inr ⟨.inr h, h'⟩
    · rintro (h | ⟨rfl | h, h'⟩)
      · exact .inl (.inl h)
      · exact .inl (.inr ⟨rfl, h'⟩)
      · exact .inr ⟨h, h'⟩
theorem kl_ (fs Q : List Fc) : Srt (dq_ fs Q) := (hd_ fs Q [] List.Pairwise.nil).1
theorem ow_ (fs Q : List Fc) : (dq_ fs Q).length ≤ Q.length := by have := (hd_ fs Q [] List.Pairwise.nil).2.2; unfold dq_; simpa using this
theorem ou_ {p : List Pc} {at' : List Str} {fs : List Fc} (h : bW_ p = 0) (h2 : dj_ at' fs = 0) : dR_ p at' fs (dq_ fs (cN_ p (atS p) ++ List.flatMap (cc_ p fs) fs)) 0 := by
  unfold dR_; rw [if_neg (by simp [h]), if_neg (by simp [h2])]
  refine ⟨rfl, kl_ _ _, fun y => ?_⟩
  have hF : ∀ y ∈ fs, y.form := fun y hy => gM_ ((hi_ h2).1.ok y hy)
  unfold dq_
  rw [(hd_ fs _ [] List.Pairwise.nil).2.1, gF_ hF]
  simp
theorem mK_ {p : List Pc} {at' : List Str} {fs l m : List Fc} {e f : Int} (h : dR_ p at' fs l e) (k : dR_ p at' fs m f) : l = m ∧ e = f := by
  unfold dR_ at h k
  split at h
  · rename_i h1; rw [if_pos h1] at k; exact ⟨h.1.trans k.1.symm, h.2.trans k.2.symm⟩
  · rename_i h1
    rw [if_neg h1] at k
    split at h
    · rename_i h2; rw [if_pos h2] at k; exact ⟨h.1.trans k.1.symm, h.2.trans k.2.symm⟩
    · rename_i h2
      rw [if_neg h2] at k
      exact ⟨h.2.1.ext k.2.1 fun x => (h.2.2 x).trans (k.2.2 x).symm, h.1.trans k.1.symm⟩
theorem pp_ (c : Cl) (hca : c.atoms.length ≤ 1000000000000) (hcf : c.facts.length ≤ 1000000000000) : Tri Tryz.prog 26 #[Cl.val c] [] [az_ (Cl.aad c) (List.flatMap aH_ (Cl.atoms c)), az_ (Cl.fad c) (List.flatMap Fc.cells (Cl.facts c))] (fun _ : Unit => .int .i64 (dj_ c.atoms c.facts)) (fun _ => []) (fun _ => []) := by
 refine T_ Tryz.func26 rfl rfl Tryz.ntmps26 rfl fun v0 => ?_
 refine h_ (c_ (bh_ rfl rfl fun b1 => ?_))
 refine a_ (g_ rfl) rfl (e_ (b_ rfl (h_ (h_ (c_ (a_ (g_ rfl) rfl (e_ (b_ rfl (N_ ?_)))))))))
 refine aB_ (ι := {y : Nat // jR_ (List.take (y + 1) (Cl.atoms c))}) (fun y => [(1, zp_ b1 0), (3, .int .i64 ((y.1 + 1 : Nat) : Int))]) (fun y => ((b1, .cells (Cl.cells c).toArray 28 (0, 0)) :: [])) (fun y => [az_ (Cl.aad c) (List.flatMap aH_ (Cl.atoms c)), az_ (Cl.fad c) (List.flatMap Fc.cells (Cl.facts c))]) (fun y => List.length (Cl.atoms c) - y.1) ⟨(0 : Nat), kK_ _⟩ ⟨rfl, rfl, trivial⟩ i_ (fun _ _ h => h) ?_
 rintro ⟨k, hk⟩
 dsimp only at hk ⊢
 refine h_ (h_ (c_ (a_ (f_ rfl) rfl (a_ (l_ aw_ rfl rfl rfl bR_) rfl (a_ (t_ 0 cI_ rfl rfl rfl) rfl (a_ (ar_ D_ rfl) rfl (y_ (ax_ rfl rfl) rfl fun r1 hr1 => ?_)))))))
 refine e_ (b_ rfl ?_)
 cases r1
 ·
  replace hr1 := of_decide_eq_false hr1
  have hsa : jR_ (Cl.atoms c) := by rwa [List.take_of_length_le (by omega)] at hk
  refine v_ rfl (as_ rfl (b_ rfl (h_ (h_ (c_ (a_ (l_ aw_ rfl rfl rfl bR_) rfl (a_ (t_ 0 cI_ rfl rfl rfl) rfl (at_ (hP_ (Cl.atoms c) (Cl.aad c) (Cl.acap c) [42] hca) rfl J_ (fun v _ h => by exact ⟨h.1, trivial⟩) rfl fun r2 hr2 => ?_))))))))
  refine a_ (bN_ rfl) rfl (a_ (f_ rfl) rfl ?_)
  cases r2
  ·
   replace hr2 := dF hr2
   refine s_ rfl rfl rfl rfl (s_ rfl rfl rfl rfl (s_ rfl rfl rfl rfl (s_ rfl rfl rfl rfl (a_ (G_ rfl rfl) rfl (e_ (b_ rfl (u_ rfl (h_ (c_ ?_)))))))))
   refine a_ (g_ rfl) rfl (e_ (b_ rfl (H_ ?_)))
   exact ap_ gx_ () (bA_ rfl (fA_ (fun h => by first | exact absurd h.top (by assumption) | exact absurd h.bot (by assumption) | exact gz_ hx1 hx2 (List.not_lt.2 (by assumption)) h.sa | (have := h.ok y2 hmy2; simp_all; done) | exact lG_ (by omega) hy1 hy2 (by assumption) h.sf))) J_ (fun _ _ _ => trivial)
  ·
   replace hr2 := dT hr2
   refine r_ rfl rfl (a_ (l_ aw_ rfl rfl rfl bR_) rfl (r_ rfl rfl (a_ (t_ 0 cI_ rfl rfl rfl) rfl (r_ rfl rfl (at_ (hP_ (Cl.atoms c) (Cl.aad c) (Cl.acap c) [33] hca) rfl J_ (fun v _ h => by exact ⟨h.1, trivial⟩) rfl fun r3 hr3 => ?_)))))
   refine r_ rfl rfl (a_ (bN_ rfl) rfl (a_ (A_ rfl rfl) rfl (e_ (b_ rfl ?_))))
   cases r3
   ·
    replace hr3 := dF hr3
    refine u_ rfl (h_ (c_ (a_ (g_ rfl) rfl (e_ (b_ rfl (H_ ?_))))))
    exact ap_ gx_ () (bA_ rfl (fA_ (fun h => by first | exact absurd h.top (by assumption) | exact absurd h.bot (by assumption) | exact gz_ hx1 hx2 (List.not_lt.2 (by assumption)) h.sa | (have := h.ok y2 hmy2; simp_all; done) | exact lG_ (by omega) hy1 hy2 (by assumption) h.sf))) J_ (fun _ _ _ => trivial)
   ·
    replace hr3 := dT hr3
    refine v_ rfl (F_ (b_ rfl (h_ (h_ (c_ (a_ (g_ rfl) rfl (e_ (b_ rfl (N_ ?_)))))))))
    refine aB_ (ι := {y : Nat // y ≤ List.length (Cl.facts c) ∧ (∀ f ∈ List.take y (Cl.facts c), cs_ (Cl.atoms c) f = true) ∧ Srt (List.take y (Cl.facts c))}) (fun y => [(1, zp_ b1 0), (4, .int .i64 (y.1 : Int))]) (fun y => ((b1, .cells (Cl.cells c).toArray 28 (0, 0)) :: [])) (fun y => [az_ (Cl.aad c) (List.flatMap aH_ (Cl.atoms c)), az_ (Cl.fad c) (List.flatMap Fc.cells (Cl.facts c))]) (fun y => List.length (Cl.facts c) - y.1) ⟨(0 : Nat), by simp, by simp, List.Pairwise.nil⟩ ⟨rfl, rfl, trivial⟩ i_ (fun _ _ h => h) ?_
    rintro ⟨j, hj, hall, hsf⟩
    dsimp only at hj hall hsf ⊢
    refine h_ (h_ (c_ (a_ (f_ rfl) rfl (a_ (l_ aw_ rfl rfl rfl bJ_) rfl (a_ (t_ 0 bx_ rfl rfl rfl) rfl (a_ (ar_ E_ rfl) rfl (y_ (ax_ rfl rfl) rfl fun r4 hr4 => ?_)))))))
    refine e_ (b_ rfl ?_)
    cases r4
    ·
     replace hr4 := of_decide_eq_false hr4
     refine v_ rfl (as_ rfl (b_ rfl (h_ (h_ (c_ (a_ (l_ aw_ rfl rfl rfl bJ_) rfl (a_ (t_ 0 bx_ rfl rfl rfl) rfl (a_ (ar_ E_ rfl) rfl (y_ (cp_ rfl rfl) rfl fun r5 hr5 => ?_)))))))))
     refine e_ (b_ rfl ?_)
     cases r5
     ·
      replace hr5 := of_decide_eq_false hr5
      refine v_ rfl (F_ (b_ rfl (h_ (c_ (a_ (g_ rfl) rfl (e_ (b_ rfl (H_ ?_))))))))
      exact ap_ gx_ () (bA_ rfl (kY_ ⟨hsa, by rwa [List.take_of_length_le (by omega)] at hsf, by assumption, by assumption, by rwa [List.take_of_length_le (by omega)] at hall⟩ (by omega))) J_ (fun _ _ _ => trivial)
     ·
      replace hr5 := of_decide_eq_true hr5
      refine u_ rfl (h_ (c_ (a_ (g_ rfl) rfl (e_ (b_ rfl (H_ ?_))))))
      exact ap_ gx_ () (bA_ rfl (nJ_ ⟨hsa, by rwa [List.take_of_length_le (by omega)] at hsf, by assumption, by assumption, by rwa [List.take_of_length_le (by omega)] at hall⟩ (by omega))) J_ (fun _ _ _ => trivial)
    ·
     replace hr4 := of_decide_eq_true hr4
     have hly2 : j < List.length (Cl.facts c) := by omega
     obtain ⟨y2, hy2⟩ : ∃ e0, (Cl.facts c)[j]? = some e0 := ⟨_, List.getElem?_eq_getElem hly2⟩
     have hmy2 : y2 ∈ (Cl.facts c) := List.mem_of_getElem? hy2
     refine u_ rfl (F_ (b_ rfl (h_ (N_ (h_ ?_)))))
     refine aE_ (by kernel_rfl) ?_
     refine Z_ 21 [0, 1, 2, 3, 4, 5, 6] (by kernel_rfl) (fun _ a b => ⟨a, b⟩) (n_ rfl (l_ aw_ rfl rfl rfl bJ_) rfl (n_ rfl (t_ 0 bx_ rfl rfl rfl) rfl (n_ rfl (f_ rfl) rfl (n_ rfl (ad_ E_ B_ rfl rfl (fun v _ h => av_ (n := 6) Fc.cells_len (by decide) (by exact h.2.1) hy2) (by omega) (by first | omega | (simp; done))) rfl (n_ rfl (aJ_ (ad := (Cl.fad c)) (us := Fc.cells y2) V_ B_ rfl (fun v _ h => by exact h.2.1) (Fc.cells_len _) (ag_ Fc.cells_len hy2)) rfl (n_ rfl (l_ aw_ rfl rfl rfl bR_) rfl (n_ rfl (t_ 0 cI_ rfl rfl rfl) rfl (Y_ (U_ 7 rfl (by kernel_rfl) ?_)))))))))
     refine at_ (pe_ y2 (Cl.atoms c) (Cl.aad c) (Cl.acap c) hca) rfl J_ (fun v _ h => by exact ⟨h.1, trivial⟩) rfl fun r6 hr6 => ?_
     refine e_ (w_ rfl (O_ (fun _ a b => ⟨a, b⟩) (Z_ 18 [8, 9] (by kernel_rfl) (fun _ a b => ⟨a, b⟩) (n_ rfl (bN_ rfl) rfl (n_ rfl (f_ rfl) rfl (Y_ ?_))))))
     cases r6
     ·
      refine Z_ 0 [10, 11, 12, 13, 14, 15, 16, 17, 18, 19, 20, 21, 22, 23, 24, 25, 26, 27] (by kernel_rfl) (fun _ a b => ⟨a, b⟩) (ac_ rfl rfl rfl rfl rfl (ac_ rfl rfl rfl rfl rfl (ac_ rfl rfl rfl rfl rfl (ac_ rfl rfl rfl rfl rfl (ac_ rfl rfl rfl rfl rfl (ac_ rfl rfl rfl rfl rfl (ac_ rfl rfl rfl rfl rfl (ac_ rfl rfl rfl rfl rfl (ac_ rfl rfl rfl rfl rfl ?_)))))))))
      refine ac_ rfl rfl rfl rfl rfl (ac_ rfl rfl rfl rfl rfl (ac_ rfl rfl rfl rfl rfl (ac_ rfl rfl rfl rfl rfl (ac_ rfl rfl rfl rfl rfl (ac_ rfl rfl rfl rfl rfl (ac_ rfl rfl rfl rfl rfl (ac_ rfl rfl rfl rfl rfl (n_ rfl (G_ rfl rfl) rfl (Y_ ?_)))))))))
      refine ab_ (by kernel_rfl) (b_ rfl (u_ rfl (h_ (c_ (a_ (g_ rfl) rfl (e_ (b_ rfl (H_ ?_))))))))
      exact ap_ gx_ () (bA_ rfl (fA_ (fun h => by first | exact absurd h.top (by assumption) | exact absurd h.bot (by assumption) | exact gz_ hx1 hx2 (List.not_lt.2 (by assumption)) h.sa | (have := h.ok y2 hmy2; simp_all; done) | exact lG_ (by omega) hy1 hy2 (by assumption) h.sf))) J_ (fun _ _ _ => trivial)
     ·
      refine Z_ 15 [10, 11, 12] (by kernel_rfl) (fun _ a b => ⟨a, b⟩) (W_ rfl rfl rfl (f_ rfl) rfl ?_)
      refine bQ_ rfl rfl rfl (cp_ rfl rfl) rfl fun r7 hr7 => ?_
      refine W_ rfl rfl rfl (f_ rfl) rfl (Y_ ?_)
      cases r7
      ·
       replace hr7 := of_decide_eq_false hr7
       refine Z_ 0 [13, 14, 15, 16, 17, 18, 19, 20, 21, 22, 23, 24, 25, 26, 27] (by kernel_rfl) (fun _ a b => ⟨a, b⟩) (ac_ rfl rfl rfl rfl rfl (ac_ rfl rfl rfl rfl rfl (ac_ rfl rfl rfl rfl rfl (ac_ rfl rfl rfl rfl rfl (ac_ rfl rfl rfl rfl rfl (ac_ rfl rfl rfl rfl rfl (ac_ rfl rfl rfl rfl rfl (ac_ rfl rfl rfl rfl rfl (ac_ rfl rfl rfl rfl rfl ?_)))))))))
       refine ac_ rfl rfl rfl rfl rfl (ac_ rfl rfl rfl rfl rfl (ac_ rfl rfl rfl rfl rfl (ac_ rfl rfl rfl rfl rfl (W_ rfl rfl rfl (A_ rfl rfl) rfl (n_ rfl (A_ rfl rfl) rfl (Y_ (ab_ (by kernel_rfl) (b_ rfl (v_ rfl ?_)))))))))
       refine F_ (b_ rfl (c_ (a_ (f_ rfl) rfl (a_ (M_ rfl rfl rfl (aj_ (by omega) (by omega))) rfl (a_ (g_ rfl) rfl (e_ (w_ rfl ?_)))))))
       exact aa_ ⟨j + 1, hly2, fun y hy => by rw [List.take_add_one, hy2] at hy; simp only [Option.toList_some, List.mem_append, List.mem_singleton] at hy; rcases hy with hy | rfl; exact hall y hy; simp_all, nt_ (lt := Fc.lt) Fc.lt_trans hsf hy2 (fun a hja ha => by omega)⟩ (by dsimp only; omega) ⟨rfl, rfl, trivial⟩ i_ (fun _ _ h => h)
      ·
       replace hr7 := of_decide_eq_true hr7
       have hly1 : (j - 1 : Nat) < List.length (Cl.facts c) := by omega
       obtain ⟨y1, hy1⟩ : ∃ e0, (Cl.facts c)[(j - 1 : Nat)]? = some e0 := ⟨_, List.getElem?_eq_getElem hly1⟩
       have hmy1 : y1 ∈ (Cl.facts c) := List.mem_of_getElem? hy1
       refine Z_ 4 [13, 14, 15, 16, 17, 18, 19, 20, 21, 22, 23] (by kernel_rfl) (fun _ a b => ⟨a, b⟩) (W_ rfl rfl rfl (l_ aw_ rfl rfl rfl bJ_) rfl (W_ rfl rfl rfl (t_ 0 bx_ rfl rfl rfl) rfl (W_ rfl rfl rfl (f_ rfl) rfl (W_ rfl rfl rfl (bm_ (M_ rfl rfl rfl (aj_ (by omega) (by omega))) (show Value.int .i64 ((j : Int) - 1) = Value.int .i64 ((j - 1 : Nat) : Int) from congrArg _ (by omega))) rfl (W_ rfl rfl rfl (ad_ E_ B_ rfl rfl (fun v _ h => av_ (n := 6) Fc.cells_len (by decide) (by exact h.2.1) hy1) (by omega) (by first | omega | (simp; done))) rfl (W_ rfl rfl rfl (aJ_ (ad := (Cl.fad c)) (us := Fc.cells y1) V_ B_ rfl (fun v _ h => by exact h.2.1) (Fc.cells_len _) (ag_ Fc.cells_len hy1)) rfl (W_ rfl rfl rfl (l_ aw_ rfl rfl rfl bJ_) rfl (W_ rfl rfl rfl (t_ 0 bx_ rfl rfl rfl) rfl (W_ rfl rfl rfl (f_ rfl) rfl ?_)))))))))
       refine W_ rfl rfl rfl (ad_ E_ B_ rfl rfl (fun v _ h => av_ (n := 6) Fc.cells_len (by decide) (by exact h.2.1) hy2) (by omega) (by first | omega | (simp; done))) rfl (W_ rfl rfl rfl (aJ_ (ad := (Cl.fad c)) (us := Fc.cells y2) V_ B_ rfl (fun v _ h => by exact h.2.1) (Fc.cells_len _) (ag_ Fc.cells_len hy2)) rfl (Y_ (U_ 24 rfl (by kernel_rfl) (r_ rfl rfl (at_ (pK_ y1 y2) rfl J_ (fun _ _ _ => by exact trivial) rfl fun r8 hr8 => ?_)))))
       refine e_ (w_ rfl (O_ (fun _ a b => ⟨a, b⟩) (Z_ 0 [25, 26, 27] (by kernel_rfl) (fun _ a b => ⟨a, b⟩) (W_ rfl rfl rfl (bN_ rfl) rfl (W_ rfl rfl rfl (G_ rfl rfl) rfl (n_ rfl (A_ rfl rfl) rfl (Y_ (ab_ (by kernel_rfl) (b_ rfl ?_)))))))))
       cases r8
       ·
        replace hr8 := of_decide_eq_false hr8
        refine u_ rfl (h_ (c_ (a_ (g_ rfl) rfl (e_ (b_ rfl (H_ ?_))))))
        exact ap_ gx_ () (bA_ rfl (fA_ (fun h => by first | exact absurd h.top (by assumption) | exact absurd h.bot (by assumption) | exact gz_ hx1 hx2 (List.not_lt.2 (by assumption)) h.sa | (have := h.ok y2 hmy2; simp_all; done) | exact lG_ (by omega) hy1 hy2 (by assumption) h.sf))) J_ (fun _ _ _ => trivial)
       ·
        replace hr8 := of_decide_eq_true hr8
        refine v_ rfl (F_ (b_ rfl (c_ (a_ (f_ rfl) rfl (a_ (M_ rfl rfl rfl (aj_ (by omega) (by omega))) rfl (a_ (g_ rfl) rfl (e_ (w_ rfl ?_))))))))
        exact aa_ ⟨j + 1, hly2, fun y hy => by rw [List.take_add_one, hy2] at hy; simp only [Option.toList_some, List.mem_append, List.mem_singleton] at hy; rcases hy with hy | rfl; exact hall y hy; simp_all, nt_ (lt := Fc.lt) Fc.lt_trans hsf hy2 (fun a hja ha => by rw [hy1] at ha; cases ha; assumption)⟩ (by dsimp only; omega) ⟨rfl, rfl, trivial⟩ i_ (fun _ _ h => h)
 ·
  replace hr1 := of_decide_eq_true hr1
  have hlx1 : k < List.length (Cl.atoms c) := by omega
  obtain ⟨x1, hx1⟩ : ∃ e0, (Cl.atoms c)[k]? = some e0 := ⟨_, List.getElem?_eq_getElem hlx1⟩
  have hmx1 : x1 ∈ (Cl.atoms c) := List.mem_of_getElem? hx1
  have hlx2 : (k + 1 : Nat) < List.length (Cl.atoms c) := by omega
  obtain ⟨x2, hx2⟩ : ∃ e0, (Cl.atoms c)[(k + 1 : Nat)]? = some e0 := ⟨_, List.getElem?_eq_getElem hlx2⟩
  have hmx2 : x2 ∈ (Cl.atoms c) := List.mem_of_getElem? hx2
  refine u_ rfl (F_ (b_ rfl (h_ (N_ (h_ ?_)))))
  refine aE_ (by kernel_rfl) ?_
  refine Z_ 0 [0, 1, 2, 3, 4, 5, 6, 7, 8, 9, 10, 11] (by kernel_rfl) (fun _ a b => ⟨a, b⟩) (n_ rfl (l_ aw_ rfl rfl rfl bR_) rfl (n_ rfl (t_ 0 cI_ rfl rfl rfl) rfl (n_ rfl (f_ rfl) rfl (n_ rfl (bm_ (M_ rfl rfl rfl (aj_ (by omega) (by omega))) (show Value.int .i64 (((k + 1 : Nat) : Int) - 1) = Value.int .i64 (k : Int) from congrArg _ (by omega))) rfl (n_ rfl (ad_ D_ j_ rfl rfl (fun v _ h => av_ (n := 1) am_ (by decide) (by exact h.1) hx1) (by omega) (by first | omega | (simp; done))) rfl (n_ rfl (aG_ (ad := (Cl.aad c)) p_ rfl (fun v _ h => by exact h.1) (ag_ am_ hx1 0 _ rfl)) rfl (n_ rfl (l_ aw_ rfl rfl rfl bR_) rfl (n_ rfl (t_ 0 cI_ rfl rfl rfl) rfl (n_ rfl (f_ rfl) rfl ?_)))))))))
  refine n_ rfl (ad_ D_ j_ rfl rfl (fun v _ h => av_ (n := 1) am_ (by decide) (by exact h.1) hx2) (by omega) (by first | omega | (simp; done))) rfl (n_ rfl (aG_ (ad := (Cl.aad c)) p_ rfl (fun v _ h => by exact h.1) (ag_ am_ hx2 0 _ rfl)) rfl ?_)
  refine bX_ rfl (oR_ rfl rfl) rfl fun r9 hr9 => ?_
  refine Y_ (ab_ (by kernel_rfl) (b_ rfl ?_))
  cases r9
  ·
   replace hr9 := of_decide_eq_false hr9
   refine v_ rfl (F_ (b_ rfl (c_ (a_ (f_ rfl) rfl (a_ (bm_ (M_ rfl rfl rfl (aj_ (by omega) (by omega))) (show Value.int .i64 (((k + 1 : Nat) : Int) + 1) = Value.int .i64 ((k + 1 + 1 : Nat) : Int) from congrArg _ (by omega))) rfl (a_ (g_ rfl) rfl (e_ (w_ rfl ?_))))))))
   exact aa_ ⟨k + 1, iM_ (lt := fun x y => x < y) List.lt_trans hk hx1 hx2 (List.not_le.1 (by assumption))⟩ (by dsimp only; omega) ⟨rfl, rfl, trivial⟩ i_ (fun _ _ h => h)
  ·
   replace hr9 := of_decide_eq_true hr9
   refine u_ rfl (h_ (c_ (a_ (g_ rfl) rfl (e_ (b_ rfl (H_ ?_))))))
   exact ap_ gx_ () (bA_ rfl (fA_ (fun h => by first | exact absurd h.top (by assumption) | exact absurd h.bot (by assumption) | exact gz_ hx1 hx2 (List.not_lt.2 (by assumption)) h.sa | (have := h.ok y2 hmy2; simp_all; done) | exact lG_ (by omega) hy1 hy2 (by assumption) h.sf))) J_ (fun _ _ _ => trivial)
set_option maxHeartbeats 1000000 in
theorem qx_ (p : List Pc) (pad : Option Addr) (pcap : Nat) (c : Cl) (hsm : ∀ x ∈ p, x.sm) (hp : p.length ≤ 100) (hca : c.atoms.length ≤ 1000000000000) (hcf : c.facts.length ≤ 65536) : Tri Tryz.prog 23 #[.slice pad (List.length p) pcap, Cl.val c] [] [az_ pad (List.flatMap Pc.cells p), az_ (Cl.aad c) (List.flatMap aH_ (Cl.atoms c)), az_ (Cl.fad c) (List.flatMap Fc.cells (Cl.facts c))] (fun y : {y : Option Addr × Nat × List Fc × Int // (y.2.2.1.length ≤ y.2.1 ∧ y.2.1 ≤ maxLen ∧ (y.1 = none → y.2.1 = 0)) ∧ dR_ p c.atoms c.facts y.2.2.1 y.2.2.2} => .tuple #[.slice y.1.1 y.1.2.2.1.length y.1.2.1, .int .i64 y.1.2.2.2]) (fun _ => []) (fun y => [az_ y.1.1 (y.1.2.2.1.flatMap Fc.cells)]) := by
 refine T_ Tryz.func23 rfl rfl Tryz.ntmps23 rfl fun v0 => ?_
 refine h_ (c_ (bh_ rfl rfl fun b1 => ?_))
 refine a_ (g_ rfl) rfl (a_ (g_ rfl) rfl (e_ (b_ rfl (h_ (c_ (a_ (f_ rfl) rfl (X_ (pq_ p pad pcap (by omega) hsm) rfl J_ (fun v _ h => by exact ⟨h.1, trivial⟩) rfl fun _ => ?_)))))))
 refine a_ (g_ rfl) rfl (e_ (b_ rfl (h_ (h_ (c_ (a_ (f_ rfl) rfl (y_ (cE_ rfl rfl) rfl fun r1 hr1 => ?_)))))))
 refine e_ (b_ rfl ?_)
 cases r1
 ·
  replace hr1 := bo_ hr1
  have hchk := hr1
  refine v_ rfl (F_ (b_ rfl (h_ (c_ (a_ (ae_ 0 bI_ aI_ rfl rfl rfl) rfl (X_ (pp_ c (by omega) (by omega)) rfl J_ (fun v _ h => by exact ⟨h.2.1, h.2.2.1, trivial⟩) rfl fun _ => ?_))))))
  refine a_ (g_ rfl) rfl (e_ (b_ rfl (h_ (h_ (c_ (a_ (f_ rfl) rfl (y_ (cE_ rfl rfl) rfl fun r2 hr2 => ?_)))))))
  refine e_ (b_ rfl ?_)
  cases r2
  ·
   replace hr2 := bo_ hr2
   have hchc := hr2
   refine v_ rfl (F_ (b_ rfl (h_ (c_ (a_ (f_ rfl) rfl (a_ (f_ rfl) rfl (X_ (qy_ p pad pcap (by omega)) rfl J_ (fun v _ h => by exact ⟨h.1, trivial⟩) rfl fun ⟨⟨aad, acap⟩, hat1, hat2, hat3⟩ => ?_)))))))
   dsimp only
   dsimp only at hat1 hat2 hat3
   have hatl := hj_ p
   refine X_ (pl_ p pad pcap (atS p) aad acap (by omega) (by omega)) rfl J_ (fun v _ h => by exact ⟨h.2.1, h.1, trivial⟩) rfl fun ⟨⟨svf9, Hf9⟩, hf9⟩ => ?_
   dsimp only
   dsimp only at hf9
   refine a_ (g_ rfl) rfl (e_ (b_ rfl (h_ (al_ (cj_ aX_) (h_ (c_ (a_ (g_ rfl) rfl (e_ (b_ rfl ?_)))))))))
   refine N_ ?_
   have hfll := mU_ (p := p) (A := atS p) hp (by omega)
   have hsrt : Srt (Cl.facts c) := (hi_ hchc).1.sf
   have hw1 : aQ_ 41 6 svf9 (List.length (cN_ p (atS p) ++ List.flatMap (cc_ p (Cl.facts c)) (List.take 0 (Cl.facts c)))) (List.flatMap Fc.cells (cN_ p (atS p) ++ List.flatMap (cc_ p (Cl.facts c)) (List.take 0 (Cl.facts c)))) Hf9 := by have q := hf9; simpa only [List.take_zero, List.flatMap_nil, List.append_nil] using q
   refine aB_ (ι := {y : Nat × Value × Hp // y.1 ≤ List.length (Cl.facts c) ∧ aQ_ 41 6 y.2.1 (List.length (cN_ p (atS p) ++ List.flatMap (cc_ p (Cl.facts c)) (List.take y.1 (Cl.facts c)))) (List.flatMap Fc.cells (cN_ p (atS p) ++ List.flatMap (cc_ p (Cl.facts c)) (List.take y.1 (Cl.facts c)))) y.2.2}) (fun y => [(0, .slice pad (List.length p) pcap), (3, zp_ b1 0), (4, .slice none 0 0), (5, .int .i64 0), (8, y.1.2.1), (9, .int .i64 (y.1.1 : Int))]) (fun y => ((b1, .cells (Cl.cells c).toArray 28 (0, 0)) :: y.1.2.2)) (fun y => [az_ aad (List.flatMap aH_ (atS p)), az_ pad (List.flatMap Pc.cells p), az_ (Cl.aad c) (List.flatMap aH_ (Cl.atoms c)), az_ (Cl.fad c) (List.flatMap Fc.cells (Cl.facts c))]) (fun y => List.length (Cl.facts c) - y.1.1) ⟨((0 : Nat), svf9, Hf9), by simp, hw1⟩ ⟨rfl, rfl, rfl, rfl, rfl, rfl, trivial⟩ (o_ i_ aC_) (fun _ _ h => h) ?_
   rintro ⟨⟨i, sv_Rt, H_Rt⟩, hi_i, hr_Rt⟩
   dsimp only at hi_i hr_Rt ⊢
   have hb1 := cW_ (g := cc_ p (Cl.facts c)) (n := 14000000) (List.take i (Cl.facts c)) (fun x _ => fE_ hp (by omega))
   rw [List.length_take] at hb1
   refine h_ (h_ (c_ (a_ (f_ rfl) rfl (a_ (l_ aw_ rfl rfl rfl bJ_) rfl (a_ (t_ 0 bx_ rfl rfl rfl) rfl (a_ (ar_ E_ rfl) rfl (y_ (ax_ rfl rfl) rfl fun r3 hr3 => ?_)))))))
   refine e_ (b_ rfl ?_)
   cases r3
   ·
    replace hr3 := of_decide_eq_false hr3
    rw [show List.take i (Cl.facts c) = (Cl.facts c) from List.take_of_length_le (by omega)] at hr_Rt
    refine v_ rfl (as_ rfl (b_ rfl (h_ (c_ (dk_ E_ B_ rfl fun b2 => ?_)))))
    refine al_ i_ (a_ (g_ rfl) rfl (e_ (b_ rfl (h_ (al_ (cj_ (q_ i_)) (h_ (c_ (a_ (g_ rfl) rfl (e_ ?_)))))))))
    refine b_ rfl (N_ ?_)
    have hb9 := cW_ (g := cc_ p (Cl.facts c)) (n := 14000000) (Cl.facts c) (fun x _ => fE_ hp (by omega))
    have hQl : List.length (cN_ p (atS p) ++ List.flatMap (cc_ p (Cl.facts c)) (Cl.facts c)) ≤ 102000 + 14000000 * List.length (Cl.facts c) := by rw [List.length_append]; omega
    obtain ⟨Q, hQ⟩ : ∃ Q, Q = (cN_ p (atS p) ++ List.flatMap (cc_ p (Cl.facts c)) (Cl.facts c)) := ⟨_, rfl⟩
    rw [← hQ] at hQl hr_Rt
    refine bw_ hr_Rt (d_ aX_) fun qad qcap hqad hcqad hmqad hzqad => ?_
    subst hqad
    refine bw_ (dX_ b2 41 6) Q_ fun oad0 ocap0 hoad0 hcoad0 hmoad0 hzoad0 => ?_
    obtain ⟨rfl, _, rfl⟩ := Value.slice.inj hoad0
    refine fI_ (Γ' := [az_ (some ⟨b2, 0, none⟩) (List.flatMap Fc.cells (dq_ (Cl.facts c) (List.take (0 : Nat) Q))), az_ qad (List.flatMap Fc.cells Q), az_ pad (List.flatMap Pc.cells p), az_ (Cl.aad c) (List.flatMap aH_ (Cl.atoms c)), az_ (Cl.fad c) (List.flatMap Fc.cells (Cl.facts c))]) (fun v _ h => by exact ⟨h.1, h.2.1, h.2.2.2.1, h.2.2.2.2.1, h.2.2.2.2.2.1, trivial⟩) ?_
    refine aB_ (ι := {y : Nat × Option Addr × Nat // y.1 ≤ List.length Q ∧ ((dq_ (Cl.facts c) (List.take y.1 Q)).length ≤ y.2.2 ∧ y.2.2 ≤ maxLen ∧ (y.2.1 = none → y.2.2 = 0))}) (fun y => [(0, .slice pad (List.length p) pcap), (3, zp_ b1 0), (8, .slice qad (List.length Q) qcap), (10, .slice y.1.2.1 (List.length (dq_ (Cl.facts c) (List.take y.1.1 Q))) y.1.2.2), (11, .int .i64 (y.1.1 : Int))]) (fun y => ((b1, .cells (Cl.cells c).toArray 28 (0, 0)) :: [])) (fun y => [az_ y.1.2.1 (List.flatMap Fc.cells (dq_ (Cl.facts c) (List.take y.1.1 Q))), az_ qad (List.flatMap Fc.cells Q), az_ pad (List.flatMap Pc.cells p), az_ (Cl.aad c) (List.flatMap aH_ (Cl.atoms c)), az_ (Cl.fad c) (List.flatMap Fc.cells (Cl.facts c))]) (fun y => List.length Q - y.1.1) ⟨((0 : Nat), (some ⟨b2, 0, none⟩), 0), Nat.zero_le _, ⟨hcoad0, hmoad0, hzoad0⟩⟩ ⟨rfl, rfl, rfl, rfl, rfl, trivial⟩ i_ (fun _ _ h => h) ?_
    rintro ⟨⟨k, oad, ocap⟩, hk, hok⟩
    dsimp only at hk hok ⊢
    have hol := ow_ (Cl.facts c) (List.take k Q)
    rw [List.length_take] at hol
    refine h_ (h_ (c_ (a_ (f_ rfl) rfl (a_ (f_ rfl) rfl (a_ (ar_ E_ rfl) rfl (y_ (ax_ rfl rfl) rfl fun r4 hr4 => ?_))))))
    refine e_ (b_ rfl ?_)
    cases r4
    ·
     replace hr4 := of_decide_eq_false hr4
     refine v_ rfl (as_ rfl (b_ rfl (h_ (c_ (a_ (f_ rfl) rfl (a_ (g_ rfl) rfl (a_ (g_ rfl) rfl (e_ (b_ rfl ?_)))))))))
     refine H_ ?_
     obtain ⟨R9, hR9⟩ : ∃ R, R = dq_ (Cl.facts c) (cN_ p (atS p) ++ List.flatMap (cc_ p (Cl.facts c)) (Cl.facts c)) := ⟨_, rfl⟩
     have hN9 : dR_ p (Cl.atoms c) (Cl.facts c) R9 0 := by rw [hR9]; exact ou_ hchk hchc
     have e9 : (dq_ (Cl.facts c) (List.take k Q)) = R9 := by rw [List.take_of_length_le (by omega), hQ, hR9]
     rw [e9] at hok
     exact od_ Tryz.results23 ⟨(oad, ocap, R9, 0), hok, hN9⟩ rfl rfl (by dsimp only; rw [e9]) J_ (fun v _ h => by refine ⟨?_, trivial⟩; show bl_ v oad (List.flatMap Fc.cells R9); rw [← e9]; exact h.1)
    ·
     replace hr4 := of_decide_eq_true hr4
     have hlx2 : k < List.length Q := by omega
     obtain ⟨x2, hx2⟩ : ∃ e0, Q[k]? = some e0 := ⟨_, List.getElem?_eq_getElem hlx2⟩
     have hmx2 : x2 ∈ Q := List.mem_of_getElem? hx2
     refine u_ rfl (F_ (b_ rfl (h_ (N_ (h_ ?_)))))
     refine aE_ (by kernel_rfl) ?_
     refine Z_ 2 [0, 1, 2, 3, 4, 5] (by kernel_rfl) (fun _ a b => ⟨a, b⟩) (n_ rfl (l_ aw_ rfl rfl rfl bJ_) rfl (n_ rfl (t_ 0 bx_ rfl rfl rfl) rfl (n_ rfl (f_ rfl) rfl (n_ rfl (f_ rfl) rfl (n_ rfl (ad_ E_ B_ rfl rfl (fun v _ h => av_ (n := 6) Fc.cells_len (by decide) (by exact h.2.1) hx2) (by omega) (by first | omega | (simp; done))) rfl (n_ rfl (aJ_ (ad := qad) (us := Fc.cells x2) V_ B_ rfl (fun v _ h => by exact h.2.1) (Fc.cells_len _) (ag_ Fc.cells_len hx2)) rfl (Y_ (U_ 6 rfl (by kernel_rfl) (at_ (ku_ (Cl.facts c) (Cl.fad c) (Cl.fcap c) x2 (by omega) hsrt) rfl J_ (fun v _ h => by exact ⟨h.2.2.2.2.1, trivial⟩) rfl fun r5 hr5 => ?_)))))))))
     refine e_ (w_ rfl (O_ (fun _ a b => ⟨a, b⟩) (Z_ 0 [7] (by kernel_rfl) (fun _ a b => ⟨a, b⟩) (n_ rfl (bN_ rfl) rfl (Y_ (ab_ (by kernel_rfl) (b_ rfl ?_)))))))
     cases r5
     ·
      replace hr5 := dF hr5
      refine u_ rfl (c_ (a_ (f_ rfl) rfl (a_ (f_ rfl) rfl (a_ (f_ rfl) rfl (a_ (ad_ E_ B_ rfl rfl (fun v _ h => av_ (n := 6) Fc.cells_len (by decide) (by exact h.2.1) hx2) (by omega) (by first | omega | (simp; done))) rfl (a_ (aJ_ (ad := qad) (us := Fc.cells x2) V_ B_ rfl (fun v _ h => by exact h.2.1) (Fc.cells_len _) (ag_ Fc.cells_len hx2)) rfl (X_ (ins_c (dq_ (Cl.facts c) (List.take k Q)) oad ocap x2 (by omega) (kl_ _ _) hok) rfl J_ (fun v _ h => by exact ⟨h.1, trivial⟩) rfl fun ⟨⟨nad, ncap⟩, hnk⟩ => ?_)))))))
      dsimp only
      dsimp only at hnk
      refine a_ (g_ rfl) rfl (e_ (b_ rfl (c_ (a_ (f_ rfl) rfl (a_ (M_ rfl rfl rfl (aj_ (by omega) (by omega))) rfl (a_ (g_ rfl) rfl (e_ (w_ rfl ?_))))))))
      exact aa_ ⟨(k + 1, nad, ncap), hlx2, (by dsimp only; rw [eC_ hx2, (show eY_ (Cl.facts c) (dq_ (Cl.facts c) (List.take k Q)) x2 = eS_ (dq_ (Cl.facts c) (List.take k Q)) x2 from by unfold eY_; rw [if_neg (by assumption)])]; exact hnk)⟩ (by dsimp only; omega) ⟨rfl, rfl, rfl, (ca_ rfl (by dsimp only; rw [eC_ hx2, (show eY_ (Cl.facts c) (dq_ (Cl.facts c) (List.take k Q)) x2 = eS_ (dq_ (Cl.facts c) (List.take k Q)) x2 from by unfold eY_; rw [if_neg (by assumption)])])), rfl, trivial⟩ i_ (fun v _ h => by refine ⟨?_, h.2.2.1, h.2.2.2.1, h.2.2.2.2.1, h.2.2.2.2.2.1, trivial⟩; show bl_ v nad (List.flatMap Fc.cells (dq_ (Cl.facts c) (List.take (k + 1) Q))); rw [eC_ hx2, (show eY_ (Cl.facts c) (dq_ (Cl.facts c) (List.take k Q)) x2 = eS_ (dq_ (Cl.facts c) (List.take k Q)) x2 from by unfold eY_; rw [if_neg (by assumption)])]; exact h.1)
     ·
      replace hr5 := dT hr5
      refine v_ rfl (F_ (b_ rfl (c_ (a_ (f_ rfl) rfl (a_ (M_ rfl rfl rfl (aj_ (by omega) (by omega))) rfl (a_ (g_ rfl) rfl (e_ (w_ rfl ?_))))))))
      exact aa_ ⟨(k + 1, oad, ocap), hlx2, (by dsimp only; rw [eC_ hx2, (show eY_ (Cl.facts c) (dq_ (Cl.facts c) (List.take k Q)) x2 = (dq_ (Cl.facts c) (List.take k Q)) from by unfold eY_; rw [if_pos (by assumption)])]; exact hok)⟩ (by dsimp only; omega) ⟨rfl, rfl, rfl, (ca_ rfl (by dsimp only; rw [eC_ hx2, (show eY_ (Cl.facts c) (dq_ (Cl.facts c) (List.take k Q)) x2 = (dq_ (Cl.facts c) (List.take k Q)) from by unfold eY_; rw [if_pos (by assumption)])])), rfl, trivial⟩ i_ (fun v _ h => by refine ⟨?_, h.2.1, h.2.2.1, h.2.2.2.1, h.2.2.2.2.1, trivial⟩; show bl_ v oad (List.flatMap Fc.cells (dq_ (Cl.facts c) (List.take (k + 1) Q))); rw [eC_ hx2, (show eY_ (Cl.facts c) (dq_ (Cl.facts c) (List.take k Q)) x2 = (dq_ (Cl.facts c) (List.take k Q)) from by unfold eY_; rw [if_pos (by assumption)])]; exact h.1)
   ·
    replace hr3 := of_decide_eq_true hr3
    have hlx1 : i < List.length (Cl.facts c) := by omega
    obtain ⟨x1, hx1⟩ : ∃ e0, (Cl.facts c)[i]? = some e0 := ⟨_, List.getElem?_eq_getElem hlx1⟩
    have hmx1 : x1 ∈ (Cl.facts c) := List.mem_of_getElem? hx1
    refine u_ rfl (F_ (b_ rfl (h_ (N_ ?_))))
    refine aP_ ((b1, .cells (Cl.cells c).toArray 28 (0, 0)) :: []) (by kernel_rfl) ?_
    refine Z_ 3 [0, 1, 2, 3, 4, 5, 6, 7, 8] (by kernel_rfl) (fun _ a b => ⟨Vw.sat.sub (a.perm i_), b⟩) (n_ rfl (f_ rfl) rfl (n_ rfl (f_ rfl) rfl (n_ rfl (l_ aw_ rfl rfl rfl bJ_) rfl (n_ rfl (t_ 0 bx_ rfl rfl rfl) rfl (n_ rfl (l_ aw_ rfl rfl rfl bJ_) rfl (n_ rfl (t_ 0 bx_ rfl rfl rfl) rfl (n_ rfl (f_ rfl) rfl (n_ rfl (ad_ E_ B_ rfl rfl (fun v _ h => av_ (n := 6) Fc.cells_len (by decide) (by exact h.2.2.2.1) hx1) (by omega) (by first | omega | (simp; done))) rfl (n_ rfl (aJ_ (ad := (Cl.fad c)) (us := Fc.cells x1) V_ B_ rfl (fun v _ h => by exact h.2.2.2.1) (Fc.cells_len _) (ag_ Fc.cells_len hx1)) rfl ?_)))))))))
    refine Y_ (U_ 9 rfl (by kernel_rfl) (X_ (step_c p pad pcap (Cl.facts c) (Cl.fad c) (Cl.fcap c) x1 hp (by omega) hsrt) rfl J_ (fun v _ h => by exact ⟨h.2.1, h.2.2.2.1, trivial⟩) rfl fun ⟨⟨sad1, scap1⟩, hsc1, hsc2, hsz3⟩ => ?_))
    dsimp only
    dsimp only at hsc1 hsc2 hsz3
    have hsl := fE_ (p := p) (l := (Cl.facts c)) (f := x1) hp (by omega)
    refine e_ (w_ rfl (O_ (fun _ a b => ⟨Vw.sat.sub (a.perm i_), b.2⟩) (U_ 10 rfl (by kernel_rfl) (aM_ (news := List.flatMap Fc.cells (cc_ p (Cl.facts c) x1)) cg_ hr_Rt rfl rfl hsz3 hsc1 Q_ (by rw [bt_ Fc.cells 6 Fc.cells_len]) (fun v _ h => by exact h.1) (fun u hu => aR_ Fc.cells_one hu) (by simp only [maxLen]; (simp only [List.length_append]; omega)) (by (simp only [List.length_append]; omega)) rfl fun sv2 Hr2 hr2 => ?_))))
    refine al_ List.perm_append_comm ?_
    have hq2 : aQ_ 41 6 sv2 (List.length ((cN_ p (atS p) ++ List.flatMap (cc_ p (Cl.facts c)) (List.take i (Cl.facts c))) ++ (cc_ p (Cl.facts c) x1))) (List.flatMap Fc.cells ((cN_ p (atS p) ++ List.flatMap (cc_ p (Cl.facts c)) (List.take i (Cl.facts c))) ++ (cc_ p (Cl.facts c) x1))) Hr2 := by rw [List.length_append, List.flatMap_append]; exact hr2
    refine e_ (w_ rfl (O_ (fun _ a b => ⟨Vw.sat.sub (a.perm i_), b.2⟩) (Z_ 0 [11] (by kernel_rfl) (fun _ a b => ⟨Vw.sat.sub (a.perm i_), b.2⟩) (n_ rfl (g_ rfl) rfl (Y_ (ab_ (by kernel_rfl) (b_ rfl (c_ (a_ (f_ rfl) rfl ?_)))))))))
    refine a_ (M_ rfl rfl rfl (aj_ (by omega) (by omega))) rfl (a_ (g_ rfl) rfl (e_ (w_ rfl ?_)))
    exact aa_ ⟨(i + 1, sv2, Hr2), hlx1, (by have q := hq2; rw [bi_ hx1, show (cc_ p (Cl.facts c)) x1 = (cc_ p (Cl.facts c) x1) from (by rfl)]; simpa only [List.append_assoc, List.append_nil] using q)⟩ (by dsimp only; omega) ⟨rfl, rfl, rfl, rfl, rfl, rfl, trivial⟩ (o_ i_ aC_) (fun _ _ h => h.2)
  ·
   replace hr2 := bn_ hr2
   refine u_ rfl (h_ (c_ (a_ (f_ rfl) rfl (a_ (g_ rfl) rfl (a_ (g_ rfl) rfl (e_ (b_ rfl (H_ ?_))))))))
   exact od_ Tryz.results23 ⟨(none, 0, [], (dj_ (Cl.atoms c) (Cl.facts c))), ⟨Nat.le_refl _, by simp, fun _ => rfl⟩, nA_ (by assumption) (by assumption)⟩ rfl rfl rfl J_ (fun v _ h => by exact ⟨.inl rfl, trivial⟩)
 ·
  replace hr1 := bn_ hr1
  refine u_ rfl (h_ (c_ (a_ (f_ rfl) rfl (a_ (g_ rfl) rfl (a_ (g_ rfl) rfl (e_ (b_ rfl (H_ ?_))))))))
  exact od_ Tryz.results23 ⟨(none, 0, [], (bW_ p)), ⟨Nat.le_refl _, by simp, fun _ => rfl⟩, nz_ (by assumption)⟩ rfl rfl rfl J_ (fun v _ h => by exact ⟨.inl rfl, trivial⟩)
end Go.Proofs.YtpdbbglpbngeiaaGreatDoor
namespace Go.Proofs.YtpdbbglpbngeiaaGreatDoor
open Go Go.Sx Go.Proofs
attribute [local irreducible] Code.wp wpList wpAnyH
open Go.Vs
theorem fewF_c (c : Cl) (hca : c.atoms.length ≤ 10000000000000) (hcf : c.facts.length ≤ 10000000000000) : Tri Tryz.prog 21 #[Cl.val c] [] [az_ (Cl.aad c) (List.flatMap aH_ (Cl.atoms c)), az_ (Cl.fad c) (List.flatMap Fc.cells (Cl.facts c))] (fun b : {b : Bool // b = true → c.atoms.length ≤ 60 ∧ c.facts.length ≤ 600} => .bool b.1) (fun _ => []) (fun _ => []) := by
 refine T_ Tryz.func21 rfl rfl Tryz.ntmps21 rfl fun v0 => ?_
 refine h_ (c_ (bh_ rfl rfl fun b1 => ?_))
 refine a_ (g_ rfl) rfl (e_ (b_ rfl (h_ (c_ (a_ (g_ rfl) rfl (e_ (b_ rfl (h_ (h_ ?_)))))))))
 refine c_ (a_ (l_ aw_ rfl rfl rfl bR_) rfl (a_ (t_ 0 cI_ rfl rfl rfl) rfl (a_ (ar_ D_ rfl) rfl (a_ (f_ rfl) rfl (e_ (b_ rfl (N_ ?_)))))))
 refine aB_ (ι := {y : Nat × Int // y.1 ≤ List.length (Cl.atoms c)}) (fun y => [(1, zp_ b1 0), (8, zp_ b1 0), (3, .int .i64 y.1.2), (9, .slice (Cl.aad c) (List.length (Cl.atoms c)) (Cl.acap c)), (10, .int .i64 (List.length (Cl.atoms c) : Int)), (11, .int .i64 (y.1.1 : Int))]) (fun y => ((b1, .cells (Cl.cells c).toArray 28 (0, 0)) :: [])) (fun y => [az_ (Cl.aad c) (List.flatMap aH_ (Cl.atoms c)), az_ (Cl.fad c) (List.flatMap Fc.cells (Cl.facts c))]) (fun y => List.length (Cl.atoms c) - y.1.1) ⟨((0 : Nat), 0), Nat.zero_le _⟩ ⟨rfl, rfl, rfl, rfl, rfl, rfl, trivial⟩ i_ (fun _ _ h => h) ?_
 rintro ⟨⟨i, w⟩, hi_i⟩
 dsimp only at hi_i ⊢
 refine h_ (c_ (y_ (ax_ rfl rfl) rfl fun r1 hr1 => ?_))
 refine e_ (b_ rfl (h_ ?_))
 cases r1
 ·
  replace hr1 := of_decide_eq_false hr1
  refine v_ rfl (as_ rfl (b_ rfl (h_ (h_ (c_ (a_ (l_ aw_ rfl rfl rfl bJ_) rfl (a_ (t_ 0 bx_ rfl rfl rfl) rfl (a_ (ar_ E_ rfl) rfl (a_ (f_ rfl) rfl ?_)))))))))
  refine e_ (b_ rfl (N_ ?_))
  refine aB_ (ι := {y : Nat × Int // y.1 ≤ List.length (Cl.facts c)}) (fun y => [(1, zp_ b1 0), (8, zp_ b1 0), (20, zp_ b1 1), (3, .int .i64 y.1.2), (21, .slice (Cl.fad c) (List.length (Cl.facts c)) (Cl.fcap c)), (22, .int .i64 (List.length (Cl.facts c) : Int)), (23, .int .i64 (y.1.1 : Int))]) (fun y => ((b1, .cells (Cl.cells c).toArray 28 (0, 0)) :: [])) (fun y => [az_ (Cl.aad c) (List.flatMap aH_ (Cl.atoms c)), az_ (Cl.fad c) (List.flatMap Fc.cells (Cl.facts c))]) (fun y => List.length (Cl.facts c) - y.1.1) ⟨((0 : Nat), w), Nat.zero_le _⟩ ⟨rfl, rfl, rfl, rfl, rfl, rfl, rfl, trivial⟩ i_ (fun _ _ h => h) ?_
  rintro ⟨⟨j, w⟩, hi_j⟩
  dsimp only at hi_j ⊢
  refine h_ (c_ (y_ (ax_ rfl rfl) rfl fun r2 hr2 => ?_))
  refine e_ (b_ rfl (h_ ?_))
  cases r2
  ·
   replace hr2 := of_decide_eq_false hr2
   refine v_ rfl (as_ rfl (b_ rfl (h_ (c_ (a_ (l_ aw_ rfl rfl rfl bR_) rfl (a_ (t_ 0 cI_ rfl rfl rfl) rfl (a_ (ar_ D_ rfl) rfl (y_ (bM_ rfl rfl) rfl fun r3 hr3 => ?_))))))))
   refine a_ (f_ rfl) rfl ?_
   cases r3
   ·
    replace hr3 := of_decide_eq_false hr3
    refine s_ rfl rfl rfl rfl (s_ rfl rfl rfl rfl (s_ rfl rfl rfl rfl (s_ rfl rfl rfl rfl (a_ (A_ rfl rfl) rfl (a_ (f_ rfl) rfl (s_ rfl rfl rfl rfl (s_ rfl rfl rfl rfl (a_ (A_ rfl rfl) rfl (a_ (g_ rfl) rfl ?_)))))))))
    refine e_ (b_ rfl (H_ ?_))
    exact ap_ Tryz.results21 ⟨false, fun h => by cases h⟩ rfl J_ (fun _ _ _ => trivial)
   ·
    replace hr3 := of_decide_eq_true hr3
    refine r_ rfl rfl (a_ (l_ aw_ rfl rfl rfl bJ_) rfl (r_ rfl rfl (a_ (t_ 0 bx_ rfl rfl rfl) rfl (r_ rfl rfl (a_ (ar_ E_ rfl) rfl (r_ rfl rfl (y_ (bM_ rfl rfl) rfl fun r4 hr4 => ?_)))))))
    refine a_ (G_ rfl rfl) rfl (a_ (f_ rfl) rfl ?_)
    cases r4
    ·
     replace hr4 := of_decide_eq_false hr4
     refine s_ rfl rfl rfl rfl (s_ rfl rfl rfl rfl (a_ (A_ rfl rfl) rfl (a_ (g_ rfl) rfl (e_ (b_ rfl (H_ ?_))))))
     exact ap_ Tryz.results21 ⟨false, fun h => by cases h⟩ rfl J_ (fun _ _ _ => trivial)
    ·
     replace hr4 := of_decide_eq_true hr4
     refine r_ rfl rfl (a_ (f_ rfl) rfl (r_ rfl rfl (y_ (bM_ rfl rfl) rfl fun r5 hr5 => ?_)))
     refine a_ (G_ rfl rfl) rfl (a_ (g_ rfl) rfl (e_ (b_ rfl (H_ ?_))))
     exact ap_ Tryz.results21 ⟨r5, fun h => ⟨by omega, by omega⟩⟩ rfl J_ (fun _ _ _ => trivial)
  ·
   replace hr2 := of_decide_eq_true hr2
   have hlx2 : j < List.length (Cl.facts c) := by omega
   obtain ⟨x2, hx2⟩ : ∃ e0, (Cl.facts c)[j]? = some e0 := ⟨_, List.getElem?_eq_getElem hlx2⟩
   have hmx2 : x2 ∈ (Cl.facts c) := List.mem_of_getElem? hx2
   refine u_ rfl (F_ (b_ rfl (h_ (N_ (h_ (c_ (a_ (ad_ E_ B_ rfl rfl (fun v _ h => av_ (n := 6) Fc.cells_len (by decide) (by exact h.2.1) hx2) (by omega) (by first | omega | (simp; done))) rfl (a_ (aJ_ (ad := (Cl.fad c)) (us := Fc.cells x2) V_ B_ rfl (fun v _ h => by exact h.2.1) (Fc.cells_len _) (ag_ Fc.cells_len hx2)) rfl (ay_ ah_ rfl fun b2 => ?_)))))))))
   refine af_ 0 B_ rfl rfl rfl rfl rfl rfl (e_ (b_ rfl (c_ (a_ (f_ rfl) rfl (a_ (l_ k_ rfl rfl rfl j_) rfl (a_ (t_ 0 p_ rfl rfl rfl) rfl (a_ (bP_ S_ rfl) rfl (a_ (l_ k_ rfl rfl rfl j_) rfl (a_ (t_ 0 p_ rfl rfl rfl) rfl ?_)))))))))
   refine a_ (bP_ S_ rfl) rfl (a_ (gu_ rfl rfl) rfl (a_ (l_ k_ rfl rfl rfl j_) rfl (a_ (t_ 0 p_ rfl rfl rfl) rfl (a_ (bP_ S_ rfl) rfl (a_ (gu_ rfl rfl) rfl (a_ (gu_ rfl rfl) rfl (a_ (g_ rfl) rfl (e_ (b_ rfl ?_)))))))))
   refine c_ (a_ (M_ rfl rfl rfl (aj_ (by omega) (by omega))) rfl (a_ (f_ rfl) rfl (e_ (w_ rfl ?_))))
   exact aa_ ⟨(j + 1, (IntKind.wrap .i64 (w + (IntKind.wrap .i64 ((IntKind.wrap .i64 (((Fc.a x2).length : Int) + ((Fc.b x2).length : Int))) + ((Fc.r x2).length : Int)))))), hlx2⟩ (by dsimp only; omega) ⟨rfl, rfl, rfl, rfl, rfl, rfl, rfl, trivial⟩ (d_ i_) (fun _ _ h => h)
 ·
  replace hr1 := of_decide_eq_true hr1
  have hlx1 : i < List.length (Cl.atoms c) := by omega
  obtain ⟨x1, hx1⟩ : ∃ e0, (Cl.atoms c)[i]? = some e0 := ⟨_, List.getElem?_eq_getElem hlx1⟩
  have hmx1 : x1 ∈ (Cl.atoms c) := List.mem_of_getElem? hx1
  refine u_ rfl (F_ (b_ rfl (h_ (N_ (h_ (c_ (a_ (ad_ D_ j_ rfl rfl (fun v _ h => av_ (n := 1) am_ (by decide) (by exact h.1) hx1) (by omega) (by first | omega | (simp; done))) rfl (a_ (aG_ (ad := (Cl.aad c)) p_ rfl (fun v _ h => by exact h.1) (ag_ am_ hx1 0 _ rfl)) rfl (a_ (g_ rfl) rfl ?_)))))))))
  refine e_ (b_ rfl (c_ (a_ (f_ rfl) rfl (a_ (f_ rfl) rfl (a_ (bP_ S_ rfl) rfl (a_ (gu_ rfl rfl) rfl (a_ (g_ rfl) rfl (e_ (b_ rfl ?_)))))))))
  refine c_ (a_ (M_ rfl rfl rfl (aj_ (by omega) (by omega))) rfl (a_ (f_ rfl) rfl (e_ (w_ rfl ?_))))
  exact aa_ ⟨(i + 1, (IntKind.wrap .i64 (w + (x1.length : Int)))), hlx1⟩ (by dsimp only; omega) ⟨rfl, rfl, rfl, rfl, rfl, rfl, trivial⟩ i_ (fun _ _ h => h)
theorem mJ_ {p : List Pc} {at' : List Str} {fs l : List Fc} {e : Int} (hp : p.length ≤ 100) (hl : fs.length ≤ 1000) (h : dR_ p at' fs l e) : l.length ≤ 1000000000000 := by
  by_cases h1 : bW_ p = 0
  · by_cases h2 : dj_ at' fs = 0
    · have := pE_ hp h1 h2 hl h; omega
    · unfold dR_ at h; rw [if_neg (by simp [h1]), if_pos h2] at h; rw [h.1]; simp
  · unfold dR_ at h; rw [if_pos h1] at h; rw [h.1]; simp
set_option maxHeartbeats 1000000 in
theorem nY_ (p : List Pc) (pad : Option Addr) (pcap : Nat) (c : Cl) (hp : p.length ≤ 1099511627744) (hbig : ∀ x ∈ p, x.big) (hca : c.atoms.length ≤ 10000000000000) (hcf : c.facts.length ≤ 10000000000000) : Tri Tryz.prog 4 #[.slice pad (List.length p) pcap, Cl.val c] [] [az_ pad (List.flatMap Pc.cells p), hk_, az_ (Cl.aad c) (List.flatMap aH_ (Cl.atoms c)), az_ (Cl.fad c) (List.flatMap Fc.cells (Cl.facts c))] (fun _ : Unit => .bool true) (fun _ => []) (fun _ => []) := by
 refine T_ Tryz.func4 rfl rfl Tryz.ntmps4 rfl fun v0 => ?_
 refine h_ (c_ (bh_ rfl rfl fun b1 => ?_))
 refine a_ (g_ rfl) rfl (e_ (b_ rfl (h_ (h_ (c_ (X_ (pb_) rfl J_ (fun v _ h => by exact ⟨h.2.1, trivial⟩) rfl fun _ => ?_))))))
 refine a_ (bN_ rfl) rfl (e_ (b_ rfl (v_ rfl (F_ (b_ rfl (h_ (h_ (c_ (a_ (f_ rfl) rfl ?_)))))))))
 refine X_ (qQ_ p pad pcap hp hbig) rfl J_ (fun v _ h => by exact ⟨h.1, trivial⟩) rfl fun ⟨sb, hsb⟩ => ?_
 dsimp only
 refine a_ (bN_ rfl) rfl (a_ (f_ rfl) rfl ?_)
 cases sb
 ·
  refine s_ rfl rfl rfl rfl (s_ rfl rfl rfl rfl (s_ rfl rfl rfl rfl (a_ (G_ rfl rfl) rfl (e_ (b_ rfl (u_ rfl (h_ (c_ (a_ (g_ rfl) rfl ?_)))))))))
  refine e_ (b_ rfl (H_ ?_))
  exact ap_ Tryz.results4 () rfl J_ (fun _ _ _ => trivial)
 ·
  obtain ⟨hl40, hsm⟩ := hsb rfl
  refine r_ rfl rfl (a_ (ae_ 0 bI_ aI_ rfl rfl rfl) rfl (r_ rfl rfl (X_ (fewF_c c (by omega) (by omega)) rfl J_ (fun v _ h => by exact ⟨h.2.2.1, h.2.2.2.1, trivial⟩) rfl fun ⟨fb, hfb⟩ => ?_)))
  dsimp only
  refine r_ rfl rfl (a_ (bN_ rfl) rfl (a_ (A_ rfl rfl) rfl (e_ (b_ rfl ?_))))
  cases fb
  ·
   refine u_ rfl (h_ (c_ (a_ (g_ rfl) rfl (e_ (b_ rfl (H_ ?_))))))
   exact ap_ Tryz.results4 () rfl J_ (fun _ _ _ => trivial)
  ·
   obtain ⟨hca, hcf⟩ := hfb rfl
   refine v_ rfl (F_ (b_ rfl (h_ (c_ (a_ (f_ rfl) rfl (a_ (ae_ 0 bI_ aI_ rfl rfl rfl) rfl (X_ (pF_ p pad pcap c hsm (by omega) (by omega) (by omega)) rfl J_ (fun v _ h => by exact ⟨h.1, h.2.1, h.2.2.1, h.2.2.2.1, trivial⟩) rfl fun ⟨⟨oad, ocap, nl, ne⟩, hrk, hNx⟩ => ?_)))))))
   dsimp only
   dsimp only at hrk hNx
   refine a_ (f_ rfl) rfl (a_ (aA_ rfl rfl) rfl (a_ (aA_ rfl rfl) rfl (a_ (g_ rfl) rfl (a_ (g_ rfl) rfl (e_ (b_ rfl (h_ (c_ (a_ (f_ rfl) rfl ?_)))))))))
   refine a_ (ae_ 0 bI_ aI_ rfl rfl rfl) rfl (X_ (qx_ p pad pcap c hsm (by omega) (by omega) (by omega)) rfl J_ (fun v _ h => by exact ⟨h.2.1, h.2.2.2.1, h.2.2.2.2.1, trivial⟩) rfl fun ⟨⟨oad2, ocap2, nl2, ne2⟩, hrk2, hNx2⟩ => ?_)
   dsimp only
   dsimp only at hrk2 hNx2
   obtain ⟨hs1, hs2⟩ := mK_ hNx hNx2
   subst hs1
   have hnl : List.length nl ≤ 1000000000000 := mJ_ (by omega) (by omega) hNx
   refine a_ (f_ rfl) rfl (a_ (aA_ rfl rfl) rfl (a_ (aA_ rfl rfl) rfl (a_ (g_ rfl) rfl (a_ (g_ rfl) rfl (e_ (b_ rfl (h_ ?_)))))))
   refine aE_ (by kernel_rfl) ?_
   refine Z_ 14 [0, 1] (by kernel_rfl) (fun _ a b => ⟨a, b⟩) (n_ rfl (f_ rfl) rfl (n_ rfl (f_ rfl) rfl (Y_ (U_ 2 rfl (by kernel_rfl) (at_ (qt_ nl nl oad oad2 ocap ocap2 (by omega) (by omega)) rfl J_ (fun v _ h => by exact ⟨h.2.1, h.1, trivial⟩) rfl fun r1 hr1 => ?_)))))
   refine e_ (w_ rfl (O_ (fun _ a b => ⟨a, b⟩) (Z_ 12 [3] (by kernel_rfl) (fun _ a b => ⟨a, b⟩) (n_ rfl (f_ rfl) rfl (Y_ ?_)))))
   cases r1
   ·
    replace hr1 := of_decide_eq_false hr1
    exact absurd rfl hr1
   ·
    replace hr1 := of_decide_eq_true hr1
    refine Z_ 7 [4, 5, 6, 7, 8] (by kernel_rfl) (fun _ a b => ⟨a, b⟩) (W_ rfl rfl rfl (f_ rfl) rfl (W_ rfl rfl rfl (f_ rfl) rfl ?_))
    refine bQ_ rfl rfl rfl (aD_ rfl rfl) rfl fun r2 hr2 => ?_
    refine n_ rfl (G_ rfl rfl) rfl (n_ rfl (f_ rfl) rfl (Y_ ?_))
    cases r2
    ·
     replace hr2 := ne_of_beq_false hr2
     exact absurd hs2 hr2
    ·
     replace hr2 := eq_of_beq hr2
     refine Z_ 5 [9, 11] (by kernel_rfl) (fun _ a b => ⟨a, b⟩) (W_ rfl rfl rfl (ae_ 0 bI_ aI_ rfl rfl rfl) rfl (W_ rfl rfl rfl (ae_ 0 bI_ aI_ rfl rfl rfl) rfl (Y_ (U_ 10 rfl (by kernel_rfl) (r_ rfl rfl (X_ (rp_ c (by omega) (by omega)) rfl J_ (fun v _ h => by exact ⟨h.2.2.2.2.1, h.2.2.2.2.2.1, trivial⟩) rfl fun _ => ?_))))))
     refine e_ (w_ rfl (O_ (fun _ a b => ⟨a, b⟩) (U_ 12 rfl (by kernel_rfl) (r_ rfl rfl (X_ (pp_ c (by omega) (by omega)) rfl J_ (fun v _ h => by exact ⟨h.2.2.2.2.1, h.2.2.2.2.2.1, trivial⟩) rfl fun _ => ?_)))))
     refine e_ (w_ rfl (O_ (fun _ a b => ⟨a, b⟩) (Z_ 0 [13, 14, 15] (by kernel_rfl) (fun _ a b => ⟨a, b⟩) ?_)))
     refine bQ_ rfl rfl rfl (aD_ rfl rfl) rfl fun r3 hr3 => ?_
     refine n_ rfl (G_ rfl rfl) rfl (n_ rfl (g_ rfl) rfl (Y_ (ab_ (by kernel_rfl) (b_ rfl (H_ ?_)))))
     exact ap_ Tryz.results4 () (z_ rfl (by rw [← hr3]; exact beq_iff_eq.2 (by first | assumption | rfl))) J_ (fun _ _ _ => trivial)
end Go.Proofs.YtpdbbglpbngeiaaGreatDoor
