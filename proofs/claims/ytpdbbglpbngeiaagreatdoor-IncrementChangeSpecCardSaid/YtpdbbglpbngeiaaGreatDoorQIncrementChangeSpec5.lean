/-
  Part of the proof of the law IncrementChangeSpec over this seat: the small logic, the data, the contracts of functions (no condition).
-/
import Derived.Test.YtpdbbglpbngeiaaGreatDoorQIncrementChangeSpec4
import Derived.Test.YtpdbbglpbngeiaaGreatDoorQIncrementChangeSpec2
import Derived.Shelf.SlSortCmp.NoneTotal
import Derived.Test.YtpdbbglpbngeiaaGreatDoorProg
import Derived.Test.YtpdbbglpbngeiaaGreatDoorQIncrementChangeSpec1
import Derived.Test.YtpdbbglpbngeiaaGreatDoorRows
set_option linter.unusedVariables false
set_option linter.unusedSimpArgs false
set_option linter.unusedSectionVars false
namespace Go.Proofs.YtpdbbglpbngeiaaGreatDoor
open Go Go.Sx Go.Proofs
attribute [local irreducible] Code.wp wpList wpAnyH
open Go.Vs
def ivC (i : Int × Int) : List Value := [.int .i64 i.1, .int .i64 i.2]
theorem ky_ (i : Int × Int) : (ivC i).length = 2 := rfl
def ivV (i : Int × Int) : Value := .agg (ivC i).toArray
def fp_ (i : Int × Int) : Int := if min i.1 i.2 < -1099511627776 ∨ 1099511627776 < max i.1 i.2 then 1 else if i.2 < i.1 then 80 else 0
def hT_ (e : Int) (i : Int × Int) : Int := if e ≠ 0 then e else fp_ i
def ft_ (l : List (Int × Int)) : Int := l.foldl hT_ 0
theorem lO_ {l : List (Int × Int)} {i : Nat} {x : Int × Int} (h : l[i]? = some x) : ft_ (List.take (i + 1) l) = hT_ (ft_ (List.take i l)) x := by
  unfold ft_; rw [List.take_add_one, h, Option.toList_some, List.foldl_append]; rfl
def nK_ (a b : Int × Int) : Bool := decide (ft_ [a, b] = 0) && (decide (b.1 ≤ a.1) && decide (a.2 ≤ b.2))
theorem qi_ {a b : Int × Int} (ha : -1099511627776 ≤ a.1 ∧ a.1 ≤ a.2 ∧ a.2 ≤ 1099511627776) (hb : -1099511627776 ≤ b.1 ∧ b.1 ≤ b.2 ∧ b.2 ≤ 1099511627776) : nK_ a b = decide (b.1 ≤ a.1 ∧ a.2 ≤ b.2) := by
  have e : ∀ i : Int × Int, -1099511627776 ≤ i.1 ∧ i.1 ≤ i.2 ∧ i.2 ≤ 1099511627776 → fp_ i = 0 := fun i h => by
    unfold fp_; rw [if_neg (by omega), if_neg (by omega)]
  have e2 : ft_ [a, b] = 0 := by simp [ft_, hT_, e a ha, e b hb]
  unfold nK_; rw [e2, Bool.eq_iff_iff]; simp
theorem mK_ : kR_ Tryz.prog 175 [(0, 1), (1, 1)] [.int .i64 0, .int .i64 0] := ⟨_, Tryz.zeroValue175, cb_, fun w => by simp [L_]⟩
theorem nL_ (i : Int × Int) : Fn0 Tryz.prog 206 #[ivV i] (.int .i64 (fp_ i)) := by
  refine T_ Tryz.func206 rfl rfl Tryz.ntmps206 rfl fun v0 => ?_
  refine h_ (c_ (bs_ rfl rfl fun b1 => ?_))
  refine a_ (g_ rfl) rfl (e_ (b_ rfl (h_ (h_ (c_ (a_ (l_ cb_ rfl rfl rfl L_) rfl (a_ (u_ 0 P_ rfl rfl rfl) rfl (a_ (l_ cb_ rfl rfl rfl L_) rfl (a_ (u_ 0 P_ rfl rfl rfl) rfl ?_)))))))))
  refine a_ (gj_ rfl rfl) rfl (x_ (av_ rfl rfl) rfl fun r1 hr1 => ?_)
  refine a_ (d_ rfl) rfl ?_
  cases r1
  · skip
    replace hr1 := of_decide_eq_false hr1
    refine p_ rfl rfl (a_ (l_ cb_ rfl rfl rfl L_) rfl (p_ rfl rfl (a_ (u_ 0 P_ rfl rfl rfl) rfl (p_ rfl rfl (a_ (l_ cb_ rfl rfl rfl L_) rfl (p_ rfl rfl (a_ (u_ 0 P_ rfl rfl rfl) rfl (p_ rfl rfl (a_ (hg_ rfl rfl) rfl ?_)))))))))
    refine p_ rfl rfl (x_ (bR_ rfl rfl) rfl fun r2 hr2 => ?_)
    refine a_ (C_ rfl rfl) rfl (e_ (b_ rfl ?_))
    cases r2
    · skip
      replace hr2 := of_decide_eq_false hr2
      refine v_ rfl (z_ (b_ rfl (h_ (h_ (c_ (a_ (l_ cb_ rfl rfl rfl L_) rfl (a_ (u_ 0 P_ rfl rfl rfl) rfl (a_ (l_ cb_ rfl rfl rfl L_) rfl (a_ (u_ 0 P_ rfl rfl rfl) rfl ?_)))))))))
      refine x_ (bR_ rfl rfl) rfl fun r3 hr3 => ?_
      refine e_ (b_ rfl ?_)
      cases r3
      · skip
        replace hr3 := of_decide_eq_false hr3
        refine v_ rfl (z_ (b_ rfl (h_ (c_ (a_ (g_ rfl) rfl (e_ (b_ rfl (F_ ?_))))))))
        exact aw_ Tryz.results206 () (cm_ rfl (by unfold fp_; first | (rw [if_pos (by omega)]) | (rw [if_neg (by omega), if_pos (by omega)]) | (rw [if_neg (by omega), if_neg (by omega)]))) I_ (fun _ _ _ => trivial)
      · skip
        replace hr3 := of_decide_eq_true hr3
        refine t_ rfl (h_ (c_ (a_ (g_ rfl) rfl (e_ (b_ rfl (F_ ?_))))))
        exact aw_ Tryz.results206 () (cm_ rfl (by unfold fp_; first | (rw [if_pos (by omega)]) | (rw [if_neg (by omega), if_pos (by omega)]) | (rw [if_neg (by omega), if_neg (by omega)]))) I_ (fun _ _ _ => trivial)
    · skip
      replace hr2 := of_decide_eq_true hr2
      refine t_ rfl (h_ (c_ (a_ (g_ rfl) rfl (e_ (b_ rfl (F_ ?_))))))
      exact aw_ Tryz.results206 () (cm_ rfl (by unfold fp_; first | (rw [if_pos (by omega)]) | (rw [if_neg (by omega), if_pos (by omega)]) | (rw [if_neg (by omega), if_neg (by omega)]))) I_ (fun _ _ _ => trivial)
  · skip
    replace hr1 := of_decide_eq_true hr1
    refine r_ rfl rfl rfl rfl (r_ rfl rfl rfl rfl (r_ rfl rfl rfl rfl (r_ rfl rfl rfl rfl (r_ rfl rfl rfl rfl (r_ rfl rfl rfl rfl (a_ (H_ rfl rfl) rfl (e_ (b_ rfl (t_ rfl ?_)))))))))
    refine h_ (c_ (a_ (g_ rfl) rfl (e_ (b_ rfl (F_ ?_)))))
    exact aw_ Tryz.results206 () (cm_ rfl (by unfold fp_; first | (rw [if_pos (by omega)]) | (rw [if_neg (by omega), if_pos (by omega)]) | (rw [if_neg (by omega), if_neg (by omega)]))) I_ (fun _ _ _ => trivial)
theorem qh_ (e : Int) (i : Int × Int) : Fn0 Tryz.prog 205 #[.int .i64 e, ivV i] (.int .i64 (hT_ e i)) := by
  refine T_ Tryz.func205 rfl rfl Tryz.ntmps205 rfl fun v0 => ?_
  refine h_ (c_ (bs_ rfl rfl fun b1 => ?_))
  refine a_ (g_ rfl) rfl (e_ (b_ rfl (h_ (h_ (c_ (a_ (d_ rfl) rfl (x_ (bN_ rfl rfl) rfl fun r1 hr1 => ?_)))))))
  refine e_ (b_ rfl ?_)
  cases r1
  · skip
    replace hr1 := bb_ hr1
    refine v_ rfl (z_ (b_ rfl (h_ (c_ (a_ (Y_ 0 qG_ fd_ rfl rfl rfl) rfl (W_ (nL_ i) rfl I_ (fun _ _ _ => by exact trivial) rfl fun _ => ?_))))))
    refine a_ (g_ rfl) rfl (e_ (b_ rfl (F_ ?_)))
    exact aw_ Tryz.results205 () (cm_ rfl (by unfold hT_; first | (rw [if_pos (by assumption)]) | (rw [if_neg (by omega)]))) I_ (fun _ _ _ => trivial)
  · skip
    replace hr1 := ba_ hr1
    refine t_ rfl (h_ (c_ (a_ (d_ rfl) rfl (a_ (g_ rfl) rfl (e_ (b_ rfl (F_ ?_)))))))
    exact aw_ Tryz.results205 () (cm_ rfl (by unfold hT_; first | (rw [if_pos (by assumption)]) | (rw [if_neg (by omega)]))) I_ (fun _ _ _ => trivial)
theorem mu_ (l : List (Int × Int)) (ad : Option Addr) (cap : Nat) (hl : l.length ≤ 1000000) : Tri Tryz.prog 204 #[.slice ad (List.length l) cap, .int .i64 0, .func (.func 205) #[] #[]] [] [az_ ad (List.flatMap ivC l)] (fun _ : Unit => .int .i64 (ft_ l)) (fun _ => []) (fun _ => []) := by
  refine T_ Tryz.func204 rfl rfl Tryz.ntmps204 rfl fun v0 => ?_
  refine h_ (c_ (a_ (g_ rfl) rfl (e_ (b_ rfl (h_ (h_ (c_ (a_ (d_ rfl) rfl (a_ (am_ Tryz.runUnderlying223 rfl) rfl ?_)))))))))
  refine a_ (d_ rfl) rfl (e_ (b_ rfl (R_ ?_)))
  refine aL_ (ι := {y : Nat // y ≤ l.length}) (fun y => [(1, .int .i64 (ft_ (List.take y.1 l))), (2, .func (.func 205) #[] #[]), (9, .slice ad (List.length l) cap), (10, .int .i64 (List.length l : Int)), (11, .int .i64 (y.1 : Int))]) (fun y => ([])) (fun y => [az_ ad (List.flatMap ivC l)]) (fun y => l.length - y.1) ⟨(0 : Nat), by simp⟩ ⟨rfl, rfl, rfl, rfl, rfl, trivial⟩ I_ (fun _ _ h => h) ?_
  rintro ⟨i, hi⟩
  dsimp only at hi ⊢
  refine h_ (c_ (x_ (av_ rfl rfl) rfl fun r1 hr1 => ?_))
  refine e_ (b_ rfl (h_ ?_))
  cases r1
  · skip
    replace hr1 := of_decide_eq_false hr1
    refine v_ rfl (au_ rfl (b_ rfl (h_ (c_ (a_ (d_ rfl) rfl (a_ (g_ rfl) rfl (e_ (b_ rfl (F_ ?_)))))))))
    exact aw_ Tryz.results204 () (cm_ rfl (by rw [List.take_of_length_le (by omega)])) I_ (fun _ _ _ => trivial)
  · skip
    replace hr1 := of_decide_eq_true hr1
    have hlx1 : i < List.length l := by omega
    obtain ⟨x1, hx1⟩ : ∃ e0, l[i]? = some e0 := ⟨_, List.getElem?_eq_getElem hlx1⟩
    have hmx1 : x1 ∈ l := List.mem_of_getElem? hx1
    refine t_ rfl (z_ (b_ rfl (h_ (R_ (h_ (c_ (a_ (aa_ Tryz.runUnderlying223 fd_ rfl rfl (fun v _ h => ay_ (n := 2) ky_ (by decide) (by exact h.1) hx1) (by omega) (by first | omega | (simp; done))) rfl (a_ (aU_ (ad := ad) (us := ivC x1) qG_ fd_ rfl (fun v _ h => by exact h.1) (ky_ _) (ad_ ky_ hx1)) rfl (ao_ Tryz.zeroValue175 rfl fun b1 => ?_)))))))))
    refine Q_ 0 fd_ rfl rfl rfl rfl rfl rfl (e_ (b_ rfl (c_ (a_ (d_ rfl) rfl (a_ (d_ rfl) rfl (a_ (Y_ 0 qG_ fd_ rfl rfl rfl) rfl (bh_ (qh_ (ft_ (List.take i l)) x1) rfl rfl I_ (fun _ _ _ => by exact trivial) rfl fun _ => ?_)))))))
    refine a_ (g_ rfl) rfl (e_ (b_ rfl (c_ (a_ (M_ rfl rfl rfl (af_ (by omega) (by omega))) rfl (a_ (d_ rfl) rfl (e_ (w_ rfl ?_)))))))
    exact Z_ ⟨i + 1, hlx1⟩ (by dsimp only; omega) ⟨(cm_ rfl (lO_ hx1).symm), rfl, rfl, rfl, rfl, trivial⟩ I_ (fun _ _ h => h)
theorem qj_ (l : List (Int × Int)) (ad : Option Addr) (cap : Nat) (hl : l.length ≤ 1000000) : Tri Tryz.prog 184 #[.slice ad (List.length l) cap] [] [az_ ad (List.flatMap ivC l)] (fun _ : Unit => .int .i64 (ft_ l)) (fun _ => []) (fun _ => []) := by
  refine T_ Tryz.func184 rfl rfl Tryz.ntmps184 rfl fun v0 => ?_
  refine h_ (c_ (a_ (g_ rfl) rfl (e_ (b_ rfl (h_ (c_ (a_ (d_ rfl) rfl (W_ (mu_ l ad cap hl) rfl I_ (fun v _ h => by exact ⟨h.1, trivial⟩) rfl fun _ => ?_))))))))
  refine a_ (g_ rfl) rfl (e_ (b_ rfl (F_ ?_)))
  exact aw_ Tryz.results184 () rfl I_ (fun _ _ _ => trivial)
theorem oi_ (i j : Int × Int) : Fn0 Tryz.prog 143 #[ivV i, ivV j] (.bool (nK_ i j)) := by
  refine T_ Tryz.func143 rfl rfl Tryz.ntmps143 rfl fun v0 => ?_
  refine h_ (c_ (bs_ rfl rfl fun b1 => ?_))
  refine bs_ rfl rfl fun b2 => ?_
  refine a_ (g_ rfl) rfl (e_ (b_ rfl (h_ (c_ (a_ (Y_ 1 qG_ fd_ rfl rfl rfl) rfl (a_ (Y_ 0 qG_ fd_ rfl rfl rfl) rfl (aJ_ Tryz.runUnderlying223 fd_ Tryz.zeroValue175 rfl rfl rfl rfl rfl rfl fun b3 => ?_)))))))
  refine bz_ (List.flatMap ivC [i, j]) i_ rfl ?_
  refine W_ (qj_ [i, j] (some ⟨b3, 0, none⟩) 2 (by simp)) rfl I_ (fun v _ h => by exact ⟨h.1, trivial⟩) rfl fun _ => ?_
  refine x_ (aM_ rfl rfl) rfl fun r1 hr1 => ?_
  refine a_ (d_ rfl) rfl ?_
  cases r1
  · skip
    replace hr1 := ne_of_beq_false hr1
    refine r_ rfl rfl rfl rfl (r_ rfl rfl rfl rfl (r_ rfl rfl rfl rfl (r_ rfl rfl rfl rfl (r_ rfl rfl rfl rfl (a_ (C_ rfl rfl) rfl (a_ (d_ rfl) rfl (r_ rfl rfl rfl rfl (r_ rfl rfl rfl rfl (r_ rfl rfl rfl rfl ?_)))))))))
    refine r_ rfl rfl rfl rfl (r_ rfl rfl rfl rfl (a_ (C_ rfl rfl) rfl (a_ (g_ rfl) rfl (e_ (b_ rfl (F_ ?_))))))
    exact aw_ Tryz.results143 () (y_ rfl (by unfold nK_; simp_all <;> omega)) I_ (fun _ _ _ => trivial)
  · skip
    replace hr1 := eq_of_beq hr1
    refine p_ rfl rfl (a_ (l_ cb_ rfl rfl rfl L_) rfl (p_ rfl rfl (a_ (u_ 0 P_ rfl rfl rfl) rfl (p_ rfl rfl (a_ (l_ cb_ rfl rfl rfl L_) rfl (p_ rfl rfl (a_ (u_ 1 P_ rfl rfl rfl) rfl (p_ rfl rfl (x_ (cf_ rfl rfl) rfl fun r2 hr2 => ?_)))))))))
    refine a_ (H_ rfl rfl) rfl (a_ (d_ rfl) rfl ?_)
    cases r2
    · skip
      replace hr2 := of_decide_eq_false hr2
      refine r_ rfl rfl rfl rfl (r_ rfl rfl rfl rfl (r_ rfl rfl rfl rfl (r_ rfl rfl rfl rfl (r_ rfl rfl rfl rfl (a_ (C_ rfl rfl) rfl (a_ (g_ rfl) rfl (e_ (b_ rfl (F_ ?_)))))))))
      exact aw_ Tryz.results143 () (y_ rfl (by unfold nK_; simp_all <;> omega)) I_ (fun _ _ _ => trivial)
    · skip
      replace hr2 := of_decide_eq_true hr2
      refine p_ rfl rfl (a_ (l_ cb_ rfl rfl rfl L_) rfl (p_ rfl rfl (a_ (u_ 1 P_ rfl rfl rfl) rfl (p_ rfl rfl (a_ (l_ cb_ rfl rfl rfl L_) rfl (p_ rfl rfl (a_ (u_ 0 P_ rfl rfl rfl) rfl (p_ rfl rfl (x_ (cf_ rfl rfl) rfl fun r3 hr3 => ?_)))))))))
      refine a_ (H_ rfl rfl) rfl (a_ (g_ rfl) rfl (e_ (b_ rfl (F_ ?_))))
      exact aw_ Tryz.results143 () (y_ rfl (by unfold nK_; simp_all <;> omega)) I_ (fun _ _ _ => trivial)
theorem md_ (a b c d : Int) (ha : -1099511627776 ≤ a ∧ a ≤ b ∧ b ≤ 1099511627776) (hb : -1099511627776 ≤ c ∧ c ≤ d ∧ d ≤ 1099511627776) : Fn0 Tryz.prog 143 #[ivV (a, b), ivV (c, d)] (.bool (decide (c ≤ a ∧ b ≤ d))) := by
  have := oi_ (a, b) (c, d)
  rw [qi_ ha hb] at this
  exact this
theorem gM_ {α : Type} {p : α → Bool} {l : List α} {i : Nat} {x : α} (h : l[i]? = some x) : List.filter p (List.take (i + 1) l) = List.filter p (List.take i l) ++ (if p x then [x] else []) := by
  rw [List.take_add_one, h, Option.toList_some, List.filter_append]
  congr 1
  simp [List.filter_cons]
theorem out_c (B : EngB) (E : Emt Tryz.prog 41) (A : EngA) (pm : List (Ky × Pc)) (x : Ix) (f : Fc) (nw fm : List Fc) (Hs : Hp) (hS : E.St nw fm Hs) (hpl : ∀ k, (lat pm k).length ≤ 1000000000) (hxl : ∀ k, (lat x.above k).length ≤ 1000000000 ∧ (lat x.under k).length ≤ 1000000000) (hyl : ∀ k, (lat x.frm k).length ≤ 1000000000 ∧ (lat x.into k).length ≤ 1000000000 ∧ (lat x.ranges k).length ≤ 1000000000 ∧ (lat x.firms k).length ≤ 1000000000) (hf : -1099511627776 ≤ f.lo ∧ f.lo ≤ f.hi ∧ f.hi ≤ 1099511627776) (hq : ∀ y ∈ lat pm (Ky.mk 9 (Fc.r f) []), -1099511627776 ≤ y.lo ∧ y.lo ≤ y.hi ∧ y.hi ≤ 1099511627776) : Tri Tryz.prog 111 #[zp_ B.g 0, Fc.val f] Hs [gF B E, pF B pm A, aF B x A, uF B x A, oF B x A, iF B x A, rF B x A, sF B x A, E.ef] (fun _ : {H' : Hp // E.St (emits E.stp (nE_ pm f) nw) fm H'} => .tuple #[]) (fun y => y.1) (fun _ => []) := by
 refine T_ Tryz.func111 rfl rfl Tryz.ntmps111 rfl fun v0 => ?_
 refine h_ (c_ (bs_ rfl rfl fun b1 => ?_))
 refine e_ (b_ rfl (h_ ?_))
 refine aS_ (by kernel_rfl) ?_
 refine ah_ 0 [0, 1, 2, 3, 4, 5, 6, 7, 8, 9] (by kernel_rfl) (fun _ a b => ⟨a, b⟩) (n_ rfl (d_ rfl) rfl (n_ rfl (ar_ rfl) rfl (n_ rfl (l_ J_ rfl rfl rfl dy_) rfl (n_ rfl (al_ ed_ rfl (fun v _ h => by exact h.1) rfl) rfl (n_ rfl (l_ o_ rfl rfl rfl j_) rfl (n_ rfl (u_ 0 q_ rfl rfl rfl) rfl (n_ rfl (ap_ eq_ rfl rfl) rfl (n_ rfl (cx_ (k := (Ky.mk 9 (Fc.r f) [])) (adr := A.p) gf_ ci_ cr_ rfl rfl (fun v _ h => by exact h.2.1)) rfl (n_ rfl (am_ A_ rfl) rfl ?_)))))))))
 refine n_ rfl (d_ rfl) rfl (ag_ (ac_ (by kernel_rfl) (b_ rfl (R_ ?_))))
 refine aL_ (ι := {y : Nat × Hp // y.1 ≤ List.length (lat pm (Ky.mk 9 (Fc.r f) [])) ∧ E.St (emits E.stp (List.map (fun y => an_ (Fc.a f) (Pc.c y)) (List.filter (fun y => decide (Pc.lo y ≤ Fc.lo f ∧ Fc.hi f ≤ Pc.hi y)) (List.take y.1 (lat pm (Ky.mk 9 (Fc.r f) []))))) nw) fm y.2}) (fun y => [(0, zp_ B.g 0), (3, zp_ b1 0), (13, .slice (Prod.fst (A.p (Ky.mk 9 (Fc.r f) []))) (List.length (lat pm (Ky.mk 9 (Fc.r f) []))) (Prod.snd (A.p (Ky.mk 9 (Fc.r f) [])))), (14, .int .i64 (List.length (lat pm (Ky.mk 9 (Fc.r f) [])) : Int)), (15, .int .i64 (y.1.1 : Int))]) (fun y => ((b1, .cells (Fc.cells f).toArray 41 (0, 0)) :: y.1.2)) (fun y => [gF B E, pF B pm A, aF B x A, uF B x A, oF B x A, iF B x A, rF B x A, sF B x A, E.ef]) (fun y => List.length (lat pm (Ky.mk 9 (Fc.r f) [])) - y.1.1) ⟨((0 : Nat), Hs), by simp, by exact hS⟩ ⟨rfl, rfl, rfl, rfl, rfl, trivial⟩ (m_ i_ aD_) (fun _ _ h => h) ?_
 rintro ⟨⟨i, Hs_i⟩, hi_i, hS_i⟩
 dsimp only at hi_i hS_i ⊢
 have hb_i := hpl (Ky.mk 9 (Fc.r f) [])
 refine h_ (c_ (x_ (av_ rfl rfl) rfl fun r1 hr1 => ?_))
 refine e_ (b_ rfl (h_ ?_))
 cases r1
 ·
  replace hr1 := of_decide_eq_false hr1
  refine v_ rfl (au_ rfl (bx_ rfl ?_))
  exact dv_ Tryz.results111 ⟨Hs_i, by unfold nE_; rw [List.take_of_length_le (by omega)] at hS_i; exact hS_i⟩ rfl S_ (fun _ _ _ => trivial)
 ·
  replace hr1 := of_decide_eq_true hr1
  have hlx1 : i < List.length (lat pm (Ky.mk 9 (Fc.r f) [])) := by omega
  obtain ⟨x1, hx1⟩ : ∃ e0, (lat pm (Ky.mk 9 (Fc.r f) []))[i]? = some e0 := ⟨_, List.getElem?_eq_getElem hlx1⟩
  have hmx1 : x1 ∈ (lat pm (Ky.mk 9 (Fc.r f) [])) := List.mem_of_getElem? hx1
  refine t_ rfl (z_ (b_ rfl (h_ (R_ (h_ (c_ (a_ (aa_ A_ K_ rfl rfl (fun v _ h => ay_ (n := 10) Pc.cells_len (by decide) (by exact (bO_ h.2.1 (Ky.mk 9 (Fc.r f) []))) hx1) (by omega) (by first | omega | (simp; done))) rfl (a_ (aU_ (ad := (Prod.fst (A.p (Ky.mk 9 (Fc.r f) [])))) (us := Pc.cells x1) aG_ K_ rfl (fun v _ h => by exact (bO_ h.2.1 (Ky.mk 9 (Fc.r f) []))) (Pc.cells_len _) (ad_ Pc.cells_len hx1)) rfl (ao_ aX_ rfl fun b2 => ?_)))))))))
  refine Q_ 0 K_ rfl rfl rfl rfl rfl rfl (e_ (b_ rfl (h_ (c_ (a_ (l_ o_ rfl rfl rfl L_) rfl (a_ (u_ 1 P_ rfl rfl rfl) rfl (a_ (l_ o_ rfl rfl rfl L_) rfl (a_ (u_ 1 P_ rfl rfl rfl) rfl (a_ (ap_ mK_ rfl rfl) rfl ?_)))))))))
  refine a_ (l_ k_ rfl rfl rfl L_) rfl (a_ (u_ 0 P_ rfl rfl rfl) rfl (a_ (l_ k_ rfl rfl rfl L_) rfl (a_ (u_ 0 P_ rfl rfl rfl) rfl (a_ (ap_ mK_ rfl rfl) rfl (as_ (md_ (Fc.lo f) (Fc.hi f) (Pc.lo x1) (Pc.hi x1) hf (hq x1 hmx1)) rfl I_ (fun _ _ _ => by exact trivial) rfl fun r2 hr2 => ?_)))))
  refine e_ (b_ rfl ?_)
  cases r2
  ·
   replace hr2 := of_decide_eq_false hr2
   refine v_ rfl (z_ (b_ rfl (c_ (a_ (M_ rfl rfl rfl (af_ (by omega) (by omega))) rfl (a_ (d_ rfl) rfl (e_ (w_ rfl ?_)))))))
   exact Z_ ⟨(i + 1, Hs_i), hlx1, (by rw [gM_ hx1]; first | (rw [if_pos (decide_eq_true (by assumption)), List.map_append, aV_]; exact hS_i) | (rw [if_neg (by rw [decide_eq_false (by assumption)]; decide), List.append_nil]; exact hS_i))⟩ (by dsimp only; omega) ⟨rfl, rfl, rfl, rfl, rfl, trivial⟩ (m_ (f_ i_) S_) (fun _ _ h => h)
  ·
   replace hr2 := of_decide_eq_true hr2
   refine t_ rfl ?_
   refine aR_ ((b2, .cells (Pc.cells x1).toArray 47 (0, 0)) :: ((b1, .cells (Fc.cells f).toArray 41 (0, 0)) :: [])) (by kernel_rfl) ?_
   refine ah_ 2 [0, 1, 2, 3, 4, 5, 6, 7] (by kernel_rfl) (fun _ a b => ⟨Vw.sat.sub (a.perm (m_ i_ i_)), b⟩) (n_ rfl (d_ rfl) rfl (n_ rfl (ar_ rfl) rfl (n_ rfl (l_ J_ rfl rfl rfl be_) rfl (n_ rfl (al_ bJ_ rfl (fun v _ h => by exact h.1) rfl) rfl (n_ rfl (l_ o_ rfl rfl rfl j_) rfl (n_ rfl (u_ 1 q_ rfl rfl rfl) rfl (n_ rfl (l_ k_ rfl rfl rfl j_) rfl (n_ rfl (u_ 0 q_ rfl rfl rfl) rfl (ag_ ?_)))))))))
   refine X_ 8 rfl (by kernel_rfl) (W_ (fg_ (Fc.a f) (Pc.c x1)) rfl I_ (fun _ _ _ => by exact trivial) rfl fun _ => ?_)
   refine e_ (w_ rfl (N_ (fun _ a b => ⟨Vw.sat.sub (a.perm (m_ i_ i_)), b⟩) (X_ 9 rfl (by kernel_rfl) (bh_ (first := []) (cap := E.caps) (E.emit (an_ (Fc.a f) (Pc.c x1)) (emits E.stp (List.map (fun y => an_ (Fc.a f) (Pc.c y)) (List.filter (fun y => decide (Pc.lo y ≤ Fc.lo f ∧ Fc.hi f ≤ Pc.hi y)) (List.take i (lat pm (Ky.mk 9 (Fc.r f) []))))) nw) fm Hs_i hS_i) rfl rfl (f_ S_) (fun v _ h => by exact ⟨h.2.2.2.2.2.2.2.2.1, trivial⟩) rfl fun ⟨Hs1, hS1⟩ => ?_))))
   dsimp only
   refine e_ (w_ rfl (N_ (fun _ a b => ⟨Vw.sat.sub (a.perm (m_ (s_ i_) bj_)), b⟩) (ac_ (by kernel_rfl) (b_ rfl (c_ (a_ (M_ rfl rfl rfl (af_ (by omega) (by omega))) rfl (a_ (d_ rfl) rfl (e_ (w_ rfl ?_)))))))))
   exact Z_ ⟨(i + 1, Hs1), hlx1, (by rw [gM_ hx1]; first | (rw [if_pos (decide_eq_true (by assumption)), List.map_append, aV_]; exact hS1) | (rw [if_neg (by rw [decide_eq_false (by assumption)]; decide), List.append_nil]; exact hS1))⟩ (by dsimp only; omega) ⟨rfl, rfl, rfl, rfl, rfl, trivial⟩ (m_ (s_ (f_ i_)) E_) (fun _ _ h => h)
theorem dV_ {f : Fc} {l : List Fc} {i : Nat} {x : Fc} (h : l[i]? = some x) : fm_ f (List.take (i + 1) l) = fm_ f (List.take i l) ++ (if (!cP_ f x && decide (dJ_ f x ≠ f ∧ dJ_ f x ≠ x)) = true then [dJ_ f x] else []) := by
  unfold fm_
  rw [gM_ h, List.map_append]
  congr 1
  split <;> simp
theorem eN_ {α : Type} {p : α → Bool} {l : List α} {i : Nat} {x : α} (h : l[i]? = some x) : List.any (List.take (i + 1) l) p = (List.any (List.take i l) p || p x) := by
  rw [List.take_add_one, h, Option.toList_some, List.any_append]; simp
theorem meet_c (B : EngB) (E : Emt Tryz.prog 41) (A : EngA) (pm : List (Ky × Pc)) (x : Ix) (f : Fc) (nw fm : List Fc) (Hs : Hp) (hS : E.St nw fm Hs) (hpl : ∀ k, (lat pm k).length ≤ 1000000000) (hxl : ∀ k, (lat x.above k).length ≤ 1000000000 ∧ (lat x.under k).length ≤ 1000000000) (hyl : ∀ k, (lat x.frm k).length ≤ 1000000000 ∧ (lat x.into k).length ≤ 1000000000 ∧ (lat x.ranges k).length ≤ 1000000000 ∧ (lat x.firms k).length ≤ 1000000000) : Tri Tryz.prog 110 #[zp_ B.g 0, Fc.val f] Hs [gF B E, pF B pm A, aF B x A, uF B x A, oF B x A, iF B x A, rF B x A, sF B x A, E.ef] (fun _ : {H' : Hp // E.St (emits E.stp (fm_ f (ek_ x f (decide (f ∈ fm))) ++ ge_ f (ek_ x f (decide (f ∈ fm)))) nw) fm H'} => .tuple #[]) (fun y => y.1) (fun _ => []) := by
 refine T_ Tryz.func110 rfl rfl Tryz.ntmps110 rfl fun v0 => ?_
 refine h_ (c_ (bs_ rfl rfl fun b1 => ?_))
 refine e_ (b_ rfl (h_ (c_ (a_ (l_ o_ rfl rfl rfl j_) rfl (a_ (u_ 0 q_ rfl rfl rfl) rfl (a_ (l_ o_ rfl rfl rfl j_) rfl (a_ (u_ 0 q_ rfl rfl rfl) rfl (a_ (ap_ eT_ rfl rfl) rfl (ao_ cK_ rfl fun b2 => ?_)))))))))
 refine Q_ 0 by_ rfl rfl rfl rfl rfl rfl (e_ (b_ rfl (h_ ?_)))
 refine aS_ (by kernel_rfl) ?_
 refine ah_ 0 [0, 1, 2, 3, 4, 5, 6] (by kernel_rfl) (fun _ a b => ⟨a, b⟩) (n_ rfl (d_ rfl) rfl (n_ rfl (ar_ rfl) rfl (n_ rfl (l_ J_ rfl rfl rfl qD_) rfl (n_ rfl (al_ Tryz.isAgg92 rfl (fun v _ h => by exact h.1) rfl) rfl (n_ rfl (Y_ 0 dA_ by_ rfl rfl rfl) rfl (n_ rfl (cx_ (k := ((Fc.a f), (Fc.r f))) (adr := A.s) cX_ oy_ kW_ rfl rfl (fun v _ h => by exact h.2.2.2.2.2.2.2.1)) rfl (n_ rfl (g_ rfl) rfl (ag_ (ac_ (by kernel_rfl) ?_)))))))))
 refine b_ rfl (h_ (h_ ?_))
 refine aS_ (by kernel_rfl) ?_
 refine ah_ 0 [0, 1, 2, 3, 4, 5] (by kernel_rfl) (fun _ a b => ⟨a, b⟩) (n_ rfl (d_ rfl) rfl (n_ rfl (ar_ rfl) rfl (n_ rfl (l_ J_ rfl rfl rfl bW_) rfl (n_ rfl (al_ cz_ rfl (fun v _ h => by exact h.1) rfl) rfl (n_ rfl (Y_ 1 ai_ B_ rfl rfl rfl) rfl ?_)))))
 refine cl_ rfl (kY_ (f := f) hS gr_ bq_ dK_ rfl rfl (f_ S_)) rfl fun r1 hr1 => ?_
 refine ag_ (ac_ (by kernel_rfl) (b_ rfl ?_))
 cases r1
 ·
  replace hr1 := of_decide_eq_false hr1
  refine v_ rfl (z_ (b_ rfl (h_ (c_ (a_ (g_ rfl) rfl (e_ (b_ rfl (h_ (h_ ?_)))))))))
  refine c_ (a_ (d_ rfl) rfl (a_ (am_ G_ rfl) rfl (a_ (d_ rfl) rfl (e_ (b_ rfl (R_ ?_))))))
  refine aL_ (ι := {y : Nat × Hp × Bool // y.1 ≤ List.length (lat x.firms ((Fc.a f), (Fc.r f))) ∧ E.St (emits E.stp (fm_ f (List.take y.1 (lat x.firms ((Fc.a f), (Fc.r f))))) nw) fm y.2.1 ∧ y.2.2 = List.any (List.take y.1 (lat x.firms ((Fc.a f), (Fc.r f)))) (cP_ f)}) (fun y => [(0, zp_ B.g 0), (3, zp_ b1 0), (6, .bool y.1.2.2), (35, .slice (Prod.fst (A.s ((Fc.a f), (Fc.r f)))) (List.length (lat x.firms ((Fc.a f), (Fc.r f)))) (Prod.snd (A.s ((Fc.a f), (Fc.r f))))), (36, .int .i64 (List.length (lat x.firms ((Fc.a f), (Fc.r f))) : Int)), (37, .int .i64 (y.1.1 : Int))]) (fun y => ((b1, .cells (Fc.cells f).toArray 41 (0, 0)) :: y.1.2.1)) (fun y => [gF B E, pF B pm A, aF B x A, uF B x A, oF B x A, iF B x A, rF B x A, sF B x A, E.ef]) (fun y => List.length (lat x.firms ((Fc.a f), (Fc.r f))) - y.1.1) ⟨((0 : Nat), Hs, false), by simp, by exact hS, by simp⟩ ⟨rfl, rfl, rfl, rfl, rfl, rfl, trivial⟩ (m_ (f_ i_) S_) (fun _ _ h => h) ?_
  rintro ⟨⟨i, Hs_i, e⟩, hi_i, hS_i, he⟩
  dsimp only at hi_i hS_i he ⊢
  have hb_i := (hyl ((Fc.a f), (Fc.r f))).2.2.2
  refine h_ (c_ (x_ (av_ rfl rfl) rfl fun r2 hr2 => ?_))
  refine e_ (b_ rfl (h_ ?_))
  cases r2
  ·
   replace hr2 := of_decide_eq_false hr2
   refine v_ rfl (au_ rfl (b_ rfl (h_ (c_ (a_ (d_ rfl) rfl (e_ (b_ rfl ?_)))))))
   cases e
   ·
    refine v_ rfl (z_ (bx_ rfl ?_))
    exact dv_ Tryz.results110 ⟨Hs_i, by have hL : (ek_ x f (decide (f ∈ fm))) = (lat x.firms ((Fc.a f), (Fc.r f))) := (by unfold ek_; rw [decide_eq_false (by assumption)] <;> rfl); rw [hL, aV_]; have e9 : List.take i (lat x.firms ((Fc.a f), (Fc.r f))) = (lat x.firms ((Fc.a f), (Fc.r f))) := List.take_of_length_le (by omega); rw [e9] at he hS_i; unfold ge_; rw [if_neg (by rw [← he]; decide)]; exact hS_i⟩ rfl S_ (fun _ _ _ => trivial)
   ·
    refine t_ rfl ?_
    refine aR_ ((b1, .cells (Fc.cells f).toArray 41 (0, 0)) :: []) (by kernel_rfl) ?_
    refine ah_ 2 [0, 1, 2, 3, 4, 5] (by kernel_rfl) (fun _ a b => ⟨Vw.sat.sub (a.perm i_), b⟩) (n_ rfl (d_ rfl) rfl (n_ rfl (ar_ rfl) rfl (n_ rfl (l_ J_ rfl rfl rfl be_) rfl (n_ rfl (al_ bJ_ rfl (fun v _ h => by exact h.1) rfl) rfl (n_ rfl (l_ o_ rfl rfl rfl j_) rfl (n_ rfl (u_ 0 q_ rfl rfl rfl) rfl (ag_ (X_ 6 rfl (by kernel_rfl) (W_ (fg_ (Fc.a f) [33]) rfl I_ (fun _ _ _ => by exact trivial) rfl fun _ => ?_)))))))))
    refine e_ (w_ rfl (N_ (fun _ a b => ⟨Vw.sat.sub (a.perm i_), b⟩) (X_ 7 rfl (by kernel_rfl) (bh_ (first := []) (cap := E.caps) (E.emit (an_ (Fc.a f) [33]) (emits E.stp (fm_ f (List.take i (lat x.firms ((Fc.a f), (Fc.r f))))) nw) fm Hs_i hS_i) rfl rfl S_ (fun v _ h => by exact ⟨h.2.2.2.2.2.2.2.2.1, trivial⟩) rfl fun ⟨Hs1, hS1⟩ => ?_))))
    dsimp only
    refine e_ (w_ rfl (N_ (fun _ a b => ⟨Vw.sat.sub (a.perm bj_), b⟩) (ac_ (by kernel_rfl) (bx_ rfl ?_))))
    exact dv_ Tryz.results110 ⟨Hs1, by have hL : (ek_ x f (decide (f ∈ fm))) = (lat x.firms ((Fc.a f), (Fc.r f))) := (by unfold ek_; rw [decide_eq_false (by assumption)] <;> rfl); rw [hL, aV_]; have e9 : List.take i (lat x.firms ((Fc.a f), (Fc.r f))) = (lat x.firms ((Fc.a f), (Fc.r f))) := List.take_of_length_le (by omega); rw [e9] at he hS1; unfold ge_; rw [if_pos he.symm]; exact hS1⟩ rfl E_ (fun _ _ _ => trivial)
  ·
   replace hr2 := of_decide_eq_true hr2
   have hlx1 : i < List.length (lat x.firms ((Fc.a f), (Fc.r f))) := by omega
   obtain ⟨x1, hx1⟩ : ∃ e0, (lat x.firms ((Fc.a f), (Fc.r f)))[i]? = some e0 := ⟨_, List.getElem?_eq_getElem hlx1⟩
   have hmx1 : x1 ∈ (lat x.firms ((Fc.a f), (Fc.r f))) := List.mem_of_getElem? hx1
   refine t_ rfl (z_ (b_ rfl (h_ (R_ (h_ (c_ (a_ (aa_ G_ B_ rfl rfl (fun v _ h => ay_ (n := 6) Fc.cells_len (by decide) (by exact (bO_ h.2.2.2.2.2.2.2.1 ((Fc.a f), (Fc.r f)))) hx1) (by omega) (by first | omega | (simp; done))) rfl (a_ (aU_ (ad := (Prod.fst (A.s ((Fc.a f), (Fc.r f))))) (us := Fc.cells x1) ai_ B_ rfl (fun v _ h => by exact (bO_ h.2.2.2.2.2.2.2.1 ((Fc.a f), (Fc.r f)))) (Fc.cells_len _) (ad_ Fc.cells_len hx1)) rfl (ao_ ak_ rfl fun b3 => ?_)))))))))
   refine Q_ 0 B_ rfl rfl rfl rfl rfl rfl (e_ (b_ rfl (h_ ?_)))
   refine aS_ (by kernel_rfl) ?_
   refine ah_ 0 [0, 1, 2, 3, 4, 5, 6, 7, 8, 9, 10, 11] (by kernel_rfl) (fun _ a b => ⟨a, b⟩) (n_ rfl (l_ o_ rfl rfl rfl L_) rfl (n_ rfl (u_ 1 P_ rfl rfl rfl) rfl (n_ rfl (l_ o_ rfl rfl rfl L_) rfl (n_ rfl (u_ 0 P_ rfl rfl rfl) rfl (n_ rfl (hg_ rfl rfl) rfl (n_ rfl (l_ o_ rfl rfl rfl L_) rfl (n_ rfl (u_ 1 P_ rfl rfl rfl) rfl (n_ rfl (l_ o_ rfl rfl rfl L_) rfl (n_ rfl (u_ 0 P_ rfl rfl rfl) rfl ?_)))))))))
   refine n_ rfl (gj_ rfl rfl) rfl (n_ rfl (g_ rfl) rfl (n_ rfl (g_ rfl) rfl (ag_ (ac_ (by kernel_rfl) (b_ rfl (h_ (c_ (a_ (d_ rfl) rfl (a_ (d_ rfl) rfl ?_)))))))))
   refine x_ (bR_ rfl rfl) rfl fun r3 hr3 => ?_
   refine e_ (b_ rfl ?_)
   cases r3
   ·
    replace hr3 := of_decide_eq_false hr3
    refine v_ rfl (h_ (c_ (a_ (l_ o_ rfl rfl rfl j_) rfl (a_ (u_ 1 q_ rfl rfl rfl) rfl (a_ (l_ o_ rfl rfl rfl j_) rfl (a_ (u_ 1 q_ rfl rfl rfl) rfl (a_ (d_ rfl) rfl (a_ (d_ rfl) rfl (W_ (mf_ (Fc.a f) (Fc.r f) (max (Fc.lo f) (Fc.lo x1)) (min (Fc.hi f) (Fc.hi x1))) rfl I_ (fun _ _ _ => by exact trivial) rfl fun _ => ?_)))))))))
    refine ao_ ak_ rfl fun b4 => ?_
    refine Q_ 0 B_ rfl rfl rfl rfl rfl rfl (e_ (b_ rfl (h_ (c_ (a_ (Y_ 0 ai_ B_ rfl rfl rfl) rfl (a_ (Y_ 2 ai_ B_ rfl rfl rfl) rfl (x_ (eW_ (p := (aP_ (Fc.a f) (Fc.r f) (max (Fc.lo f) (Fc.lo x1)) (min (Fc.hi f) (Fc.hi x1)))) (q := f) rfl rfl) rfl fun r4 hr4 => ?_)))))))
    refine a_ (d_ rfl) rfl ?_
    cases r4
    ·
     replace hr4 := of_decide_eq_false hr4
     refine r_ rfl rfl rfl rfl (r_ rfl rfl rfl rfl (r_ rfl rfl rfl rfl (a_ (C_ rfl rfl) rfl (e_ (b_ rfl (v_ rfl (z_ (b_ rfl (c_ ?_)))))))))
     refine a_ (M_ rfl rfl rfl (af_ (by omega) (by omega))) rfl (a_ (d_ rfl) rfl (e_ (w_ rfl ?_)))
     exact Z_ ⟨(i + 1, Hs_i, e), hlx1, (by rw [dV_ hx1]; first | (rw [if_pos (by rw [Bool.and_eq_true]; exact ⟨by simp only [cP_]; rw [decide_eq_false (by omega)]; rfl, decide_eq_true ⟨by assumption, by assumption⟩⟩), aV_]; exact hS_i) | (rw [if_neg (by rw [Bool.and_eq_true]; intro q; first | exact absurd (of_decide_eq_true q.2).1 (by assumption) | exact absurd (of_decide_eq_true q.2).2 (by assumption) | (have q1 := q.1; simp only [cP_] at q1; rw [decide_eq_true (by omega)] at q1; cases q1)), List.append_nil]; exact hS_i)), by rw [eN_ hx1, ← he]; simp only [cP_]; rw [decide_eq_false (by omega)]; simp⟩ (by dsimp only; omega) ⟨rfl, rfl, rfl, rfl, rfl, rfl, trivial⟩ (m_ (f_ (f_ i_)) (f_ S_)) (fun _ _ h => h)
    ·
     replace hr4 := of_decide_eq_true hr4
     refine p_ rfl rfl (a_ (Y_ 0 ai_ B_ rfl rfl rfl) rfl (p_ rfl rfl (a_ (Y_ 1 ai_ B_ rfl rfl rfl) rfl (p_ rfl rfl (x_ (eW_ (p := (aP_ (Fc.a f) (Fc.r f) (max (Fc.lo f) (Fc.lo x1)) (min (Fc.hi f) (Fc.hi x1)))) (q := x1) rfl rfl) rfl fun r5 hr5 => ?_)))))
     refine a_ (H_ rfl rfl) rfl (e_ (b_ rfl ?_))
     cases r5
     ·
      replace hr5 := of_decide_eq_false hr5
      refine v_ rfl (z_ (b_ rfl (c_ (a_ (M_ rfl rfl rfl (af_ (by omega) (by omega))) rfl (a_ (d_ rfl) rfl (e_ (w_ rfl ?_)))))))
      exact Z_ ⟨(i + 1, Hs_i, e), hlx1, (by rw [dV_ hx1]; first | (rw [if_pos (by rw [Bool.and_eq_true]; exact ⟨by simp only [cP_]; rw [decide_eq_false (by omega)]; rfl, decide_eq_true ⟨by assumption, by assumption⟩⟩), aV_]; exact hS_i) | (rw [if_neg (by rw [Bool.and_eq_true]; intro q; first | exact absurd (of_decide_eq_true q.2).1 (by assumption) | exact absurd (of_decide_eq_true q.2).2 (by assumption) | (have q1 := q.1; simp only [cP_] at q1; rw [decide_eq_true (by omega)] at q1; cases q1)), List.append_nil]; exact hS_i)), by rw [eN_ hx1, ← he]; simp only [cP_]; rw [decide_eq_false (by omega)]; simp⟩ (by dsimp only; omega) ⟨rfl, rfl, rfl, rfl, rfl, rfl, trivial⟩ (m_ (f_ (f_ i_)) (f_ S_)) (fun _ _ h => h)
     ·
      replace hr5 := of_decide_eq_true hr5
      refine t_ rfl ?_
      refine aR_ ((b4, .cells #[.int .i64 (Fc.kind (aP_ (Fc.a f) (Fc.r f) (max (Fc.lo f) (Fc.lo x1)) (min (Fc.hi f) (Fc.hi x1)))), str (Fc.a (aP_ (Fc.a f) (Fc.r f) (max (Fc.lo f) (Fc.lo x1)) (min (Fc.hi f) (Fc.hi x1)))), str (Fc.b (aP_ (Fc.a f) (Fc.r f) (max (Fc.lo f) (Fc.lo x1)) (min (Fc.hi f) (Fc.hi x1)))), str (Fc.r (aP_ (Fc.a f) (Fc.r f) (max (Fc.lo f) (Fc.lo x1)) (min (Fc.hi f) (Fc.hi x1)))), .int .i64 (Fc.lo (aP_ (Fc.a f) (Fc.r f) (max (Fc.lo f) (Fc.lo x1)) (min (Fc.hi f) (Fc.hi x1)))), .int .i64 (Fc.hi (aP_ (Fc.a f) (Fc.r f) (max (Fc.lo f) (Fc.lo x1)) (min (Fc.hi f) (Fc.hi x1))))] 41 (0, 0)) :: ((b3, .cells (Fc.cells x1).toArray 41 (0, 0)) :: ((b1, .cells (Fc.cells f).toArray 41 (0, 0)) :: []))) (by kernel_rfl) ?_
      refine ah_ 1 [0, 1, 2, 3, 4] (by kernel_rfl) (fun _ a b => ⟨Vw.sat.sub (a.perm (m_ i_ (m_ i_ i_))), b⟩) (n_ rfl (d_ rfl) rfl (n_ rfl (ar_ rfl) rfl (n_ rfl (l_ J_ rfl rfl rfl be_) rfl (n_ rfl (al_ bJ_ rfl (fun v _ h => by exact h.1) rfl) rfl (n_ rfl (Y_ 0 ai_ B_ rfl rfl rfl) rfl (ag_ (X_ 5 rfl (by kernel_rfl) (bh_ (first := []) (cap := E.caps) (E.emit (aP_ (Fc.a f) (Fc.r f) (max (Fc.lo f) (Fc.lo x1)) (min (Fc.hi f) (Fc.hi x1))) (emits E.stp (fm_ f (List.take i (lat x.firms ((Fc.a f), (Fc.r f))))) nw) fm Hs_i hS_i) rfl rfl (f_ (f_ S_)) (fun v _ h => by exact ⟨h.2.2.2.2.2.2.2.2.1, trivial⟩) rfl fun ⟨Hs2, hS2⟩ => ?_))))))))
      dsimp only
      refine e_ (w_ rfl (N_ (fun _ a b => ⟨Vw.sat.sub (a.perm (m_ (s_ i_) (m_ (s_ i_) bj_))), b⟩) (ac_ (by kernel_rfl) (b_ rfl (c_ (a_ (M_ rfl rfl rfl (af_ (by omega) (by omega))) rfl (a_ (d_ rfl) rfl (e_ (w_ rfl ?_)))))))))
      exact Z_ ⟨(i + 1, Hs2, e), hlx1, (by rw [dV_ hx1]; first | (rw [if_pos (by rw [Bool.and_eq_true]; exact ⟨by simp only [cP_]; rw [decide_eq_false (by omega)]; rfl, decide_eq_true ⟨by assumption, by assumption⟩⟩), aV_]; exact hS2) | (rw [if_neg (by rw [Bool.and_eq_true]; intro q; first | exact absurd (of_decide_eq_true q.2).1 (by assumption) | exact absurd (of_decide_eq_true q.2).2 (by assumption) | (have q1 := q.1; simp only [cP_] at q1; rw [decide_eq_true (by omega)] at q1; cases q1)), List.append_nil]; exact hS2)), by rw [eN_ hx1, ← he]; simp only [cP_]; rw [decide_eq_false (by omega)]; simp⟩ (by dsimp only; omega) ⟨rfl, rfl, rfl, rfl, rfl, rfl, trivial⟩ (m_ (s_ (f_ (f_ i_))) E_) (fun _ _ h => h)
   ·
    replace hr3 := of_decide_eq_true hr3
    refine t_ rfl (c_ (a_ (g_ rfl) rfl (e_ (b_ rfl (c_ (a_ (M_ rfl rfl rfl (af_ (by omega) (by omega))) rfl (a_ (d_ rfl) rfl (e_ (w_ rfl ?_)))))))))
    exact Z_ ⟨(i + 1, Hs_i, true), hlx1, (by rw [dV_ hx1]; first | (rw [if_pos (by rw [Bool.and_eq_true]; exact ⟨by simp only [cP_]; rw [decide_eq_false (by omega)]; rfl, decide_eq_true ⟨by assumption, by assumption⟩⟩), aV_]; exact hS_i) | (rw [if_neg (by rw [Bool.and_eq_true]; intro q; first | exact absurd (of_decide_eq_true q.2).1 (by assumption) | exact absurd (of_decide_eq_true q.2).2 (by assumption) | (have q1 := q.1; simp only [cP_] at q1; rw [decide_eq_true (by omega)] at q1; cases q1)), List.append_nil]; exact hS_i)), by rw [eN_ hx1, ← he]; simp only [cP_]; rw [decide_eq_true (by omega)]; simp⟩ (by dsimp only; omega) ⟨rfl, rfl, rfl, rfl, rfl, rfl, trivial⟩ (m_ (f_ i_) S_) (fun _ _ h => h)
 ·
  replace hr1 := of_decide_eq_true hr1
  refine t_ rfl ?_
  refine aS_ (by kernel_rfl) ?_
  refine ah_ 0 [0, 1, 2, 3, 4, 5, 6] (by kernel_rfl) (fun _ a b => ⟨a, b⟩) (n_ rfl (d_ rfl) rfl (n_ rfl (ar_ rfl) rfl (n_ rfl (l_ J_ rfl rfl rfl qD_) rfl (n_ rfl (al_ Tryz.isAgg92 rfl (fun v _ h => by exact h.1) rfl) rfl (n_ rfl (Y_ 0 dA_ by_ rfl rfl rfl) rfl (n_ rfl (cx_ (k := ((Fc.a f), (Fc.r f))) (adr := A.r) cX_ oy_ kW_ rfl rfl (fun v _ h => by exact h.2.2.2.2.2.2.1)) rfl (n_ rfl (g_ rfl) rfl (ag_ (ac_ (by kernel_rfl) ?_)))))))))
  refine b_ rfl (h_ (c_ (a_ (g_ rfl) rfl (e_ (b_ rfl (h_ (h_ (c_ (a_ (d_ rfl) rfl ?_)))))))))
  refine a_ (am_ G_ rfl) rfl (a_ (d_ rfl) rfl (e_ (b_ rfl (R_ ?_))))
  refine aL_ (ι := {y : Nat × Hp × Bool // y.1 ≤ List.length (lat x.ranges ((Fc.a f), (Fc.r f))) ∧ E.St (emits E.stp (fm_ f (List.take y.1 (lat x.ranges ((Fc.a f), (Fc.r f))))) nw) fm y.2.1 ∧ y.2.2 = List.any (List.take y.1 (lat x.ranges ((Fc.a f), (Fc.r f)))) (cP_ f)}) (fun y => [(0, zp_ B.g 0), (3, zp_ b1 0), (6, .bool y.1.2.2), (35, .slice (Prod.fst (A.r ((Fc.a f), (Fc.r f)))) (List.length (lat x.ranges ((Fc.a f), (Fc.r f)))) (Prod.snd (A.r ((Fc.a f), (Fc.r f))))), (36, .int .i64 (List.length (lat x.ranges ((Fc.a f), (Fc.r f))) : Int)), (37, .int .i64 (y.1.1 : Int))]) (fun y => ((b1, .cells (Fc.cells f).toArray 41 (0, 0)) :: y.1.2.1)) (fun y => [gF B E, pF B pm A, aF B x A, uF B x A, oF B x A, iF B x A, rF B x A, sF B x A, E.ef]) (fun y => List.length (lat x.ranges ((Fc.a f), (Fc.r f))) - y.1.1) ⟨((0 : Nat), Hs, false), by simp, by exact hS, by simp⟩ ⟨rfl, rfl, rfl, rfl, rfl, rfl, trivial⟩ (m_ (f_ i_) S_) (fun _ _ h => h) ?_
  rintro ⟨⟨i, Hs_i, e⟩, hi_i, hS_i, he⟩
  dsimp only at hi_i hS_i he ⊢
  have hb_i := (hyl ((Fc.a f), (Fc.r f))).2.2.1
  refine h_ (c_ (x_ (av_ rfl rfl) rfl fun r6 hr6 => ?_))
  refine e_ (b_ rfl (h_ ?_))
  cases r6
  ·
   replace hr6 := of_decide_eq_false hr6
   refine v_ rfl (au_ rfl (b_ rfl (h_ (c_ (a_ (d_ rfl) rfl (e_ (b_ rfl ?_)))))))
   cases e
   ·
    refine v_ rfl (z_ (bx_ rfl ?_))
    exact dv_ Tryz.results110 ⟨Hs_i, by have hL : (ek_ x f (decide (f ∈ fm))) = (lat x.ranges ((Fc.a f), (Fc.r f))) := (by unfold ek_; rw [decide_eq_true (by assumption)] <;> rfl); rw [hL, aV_]; have e9 : List.take i (lat x.ranges ((Fc.a f), (Fc.r f))) = (lat x.ranges ((Fc.a f), (Fc.r f))) := List.take_of_length_le (by omega); rw [e9] at he hS_i; unfold ge_; rw [if_neg (by rw [← he]; decide)]; exact hS_i⟩ rfl S_ (fun _ _ _ => trivial)
   ·
    refine t_ rfl ?_
    refine aR_ ((b1, .cells (Fc.cells f).toArray 41 (0, 0)) :: []) (by kernel_rfl) ?_
    refine ah_ 2 [0, 1, 2, 3, 4, 5] (by kernel_rfl) (fun _ a b => ⟨Vw.sat.sub (a.perm i_), b⟩) (n_ rfl (d_ rfl) rfl (n_ rfl (ar_ rfl) rfl (n_ rfl (l_ J_ rfl rfl rfl be_) rfl (n_ rfl (al_ bJ_ rfl (fun v _ h => by exact h.1) rfl) rfl (n_ rfl (l_ o_ rfl rfl rfl j_) rfl (n_ rfl (u_ 0 q_ rfl rfl rfl) rfl (ag_ (X_ 6 rfl (by kernel_rfl) (W_ (fg_ (Fc.a f) [33]) rfl I_ (fun _ _ _ => by exact trivial) rfl fun _ => ?_)))))))))
    refine e_ (w_ rfl (N_ (fun _ a b => ⟨Vw.sat.sub (a.perm i_), b⟩) (X_ 7 rfl (by kernel_rfl) (bh_ (first := []) (cap := E.caps) (E.emit (an_ (Fc.a f) [33]) (emits E.stp (fm_ f (List.take i (lat x.ranges ((Fc.a f), (Fc.r f))))) nw) fm Hs_i hS_i) rfl rfl S_ (fun v _ h => by exact ⟨h.2.2.2.2.2.2.2.2.1, trivial⟩) rfl fun ⟨Hs3, hS3⟩ => ?_))))
    dsimp only
    refine e_ (w_ rfl (N_ (fun _ a b => ⟨Vw.sat.sub (a.perm bj_), b⟩) (ac_ (by kernel_rfl) (bx_ rfl ?_))))
    exact dv_ Tryz.results110 ⟨Hs3, by have hL : (ek_ x f (decide (f ∈ fm))) = (lat x.ranges ((Fc.a f), (Fc.r f))) := (by unfold ek_; rw [decide_eq_true (by assumption)] <;> rfl); rw [hL, aV_]; have e9 : List.take i (lat x.ranges ((Fc.a f), (Fc.r f))) = (lat x.ranges ((Fc.a f), (Fc.r f))) := List.take_of_length_le (by omega); rw [e9] at he hS3; unfold ge_; rw [if_pos he.symm]; exact hS3⟩ rfl E_ (fun _ _ _ => trivial)
  ·
   replace hr6 := of_decide_eq_true hr6
   have hlx1 : i < List.length (lat x.ranges ((Fc.a f), (Fc.r f))) := by omega
   obtain ⟨x1, hx1⟩ : ∃ e0, (lat x.ranges ((Fc.a f), (Fc.r f)))[i]? = some e0 := ⟨_, List.getElem?_eq_getElem hlx1⟩
   have hmx1 : x1 ∈ (lat x.ranges ((Fc.a f), (Fc.r f))) := List.mem_of_getElem? hx1
   refine t_ rfl (z_ (b_ rfl (h_ (R_ (h_ (c_ (a_ (aa_ G_ B_ rfl rfl (fun v _ h => ay_ (n := 6) Fc.cells_len (by decide) (by exact (bO_ h.2.2.2.2.2.2.1 ((Fc.a f), (Fc.r f)))) hx1) (by omega) (by first | omega | (simp; done))) rfl (a_ (aU_ (ad := (Prod.fst (A.r ((Fc.a f), (Fc.r f))))) (us := Fc.cells x1) ai_ B_ rfl (fun v _ h => by exact (bO_ h.2.2.2.2.2.2.1 ((Fc.a f), (Fc.r f)))) (Fc.cells_len _) (ad_ Fc.cells_len hx1)) rfl (ao_ ak_ rfl fun b5 => ?_)))))))))
   refine Q_ 0 B_ rfl rfl rfl rfl rfl rfl (e_ (b_ rfl (h_ ?_)))
   refine aS_ (by kernel_rfl) ?_
   refine ah_ 0 [0, 1, 2, 3, 4, 5, 6, 7, 8, 9, 10, 11] (by kernel_rfl) (fun _ a b => ⟨a, b⟩) (n_ rfl (l_ o_ rfl rfl rfl L_) rfl (n_ rfl (u_ 1 P_ rfl rfl rfl) rfl (n_ rfl (l_ o_ rfl rfl rfl L_) rfl (n_ rfl (u_ 0 P_ rfl rfl rfl) rfl (n_ rfl (hg_ rfl rfl) rfl (n_ rfl (l_ o_ rfl rfl rfl L_) rfl (n_ rfl (u_ 1 P_ rfl rfl rfl) rfl (n_ rfl (l_ o_ rfl rfl rfl L_) rfl (n_ rfl (u_ 0 P_ rfl rfl rfl) rfl ?_)))))))))
   refine n_ rfl (gj_ rfl rfl) rfl (n_ rfl (g_ rfl) rfl (n_ rfl (g_ rfl) rfl (ag_ (ac_ (by kernel_rfl) (b_ rfl (h_ (c_ (a_ (d_ rfl) rfl (a_ (d_ rfl) rfl ?_)))))))))
   refine x_ (bR_ rfl rfl) rfl fun r7 hr7 => ?_
   refine e_ (b_ rfl ?_)
   cases r7
   ·
    replace hr7 := of_decide_eq_false hr7
    refine v_ rfl (h_ (c_ (a_ (l_ o_ rfl rfl rfl j_) rfl (a_ (u_ 1 q_ rfl rfl rfl) rfl (a_ (l_ o_ rfl rfl rfl j_) rfl (a_ (u_ 1 q_ rfl rfl rfl) rfl (a_ (d_ rfl) rfl (a_ (d_ rfl) rfl (W_ (mf_ (Fc.a f) (Fc.r f) (max (Fc.lo f) (Fc.lo x1)) (min (Fc.hi f) (Fc.hi x1))) rfl I_ (fun _ _ _ => by exact trivial) rfl fun _ => ?_)))))))))
    refine ao_ ak_ rfl fun b6 => ?_
    refine Q_ 0 B_ rfl rfl rfl rfl rfl rfl (e_ (b_ rfl (h_ (c_ (a_ (Y_ 0 ai_ B_ rfl rfl rfl) rfl (a_ (Y_ 2 ai_ B_ rfl rfl rfl) rfl (x_ (eW_ (p := (aP_ (Fc.a f) (Fc.r f) (max (Fc.lo f) (Fc.lo x1)) (min (Fc.hi f) (Fc.hi x1)))) (q := f) rfl rfl) rfl fun r8 hr8 => ?_)))))))
    refine a_ (d_ rfl) rfl ?_
    cases r8
    ·
     replace hr8 := of_decide_eq_false hr8
     refine r_ rfl rfl rfl rfl (r_ rfl rfl rfl rfl (r_ rfl rfl rfl rfl (a_ (C_ rfl rfl) rfl (e_ (b_ rfl (v_ rfl (z_ (b_ rfl (c_ ?_)))))))))
     refine a_ (M_ rfl rfl rfl (af_ (by omega) (by omega))) rfl (a_ (d_ rfl) rfl (e_ (w_ rfl ?_)))
     exact Z_ ⟨(i + 1, Hs_i, e), hlx1, (by rw [dV_ hx1]; first | (rw [if_pos (by rw [Bool.and_eq_true]; exact ⟨by simp only [cP_]; rw [decide_eq_false (by omega)]; rfl, decide_eq_true ⟨by assumption, by assumption⟩⟩), aV_]; exact hS_i) | (rw [if_neg (by rw [Bool.and_eq_true]; intro q; first | exact absurd (of_decide_eq_true q.2).1 (by assumption) | exact absurd (of_decide_eq_true q.2).2 (by assumption) | (have q1 := q.1; simp only [cP_] at q1; rw [decide_eq_true (by omega)] at q1; cases q1)), List.append_nil]; exact hS_i)), by rw [eN_ hx1, ← he]; simp only [cP_]; rw [decide_eq_false (by omega)]; simp⟩ (by dsimp only; omega) ⟨rfl, rfl, rfl, rfl, rfl, rfl, trivial⟩ (m_ (f_ (f_ i_)) (f_ S_)) (fun _ _ h => h)
    ·
     replace hr8 := of_decide_eq_true hr8
     refine p_ rfl rfl (a_ (Y_ 0 ai_ B_ rfl rfl rfl) rfl (p_ rfl rfl (a_ (Y_ 1 ai_ B_ rfl rfl rfl) rfl (p_ rfl rfl (x_ (eW_ (p := (aP_ (Fc.a f) (Fc.r f) (max (Fc.lo f) (Fc.lo x1)) (min (Fc.hi f) (Fc.hi x1)))) (q := x1) rfl rfl) rfl fun r9 hr9 => ?_)))))
     refine a_ (H_ rfl rfl) rfl (e_ (b_ rfl ?_))
     cases r9
     ·
      replace hr9 := of_decide_eq_false hr9
      refine v_ rfl (z_ (b_ rfl (c_ (a_ (M_ rfl rfl rfl (af_ (by omega) (by omega))) rfl (a_ (d_ rfl) rfl (e_ (w_ rfl ?_)))))))
      exact Z_ ⟨(i + 1, Hs_i, e), hlx1, (by rw [dV_ hx1]; first | (rw [if_pos (by rw [Bool.and_eq_true]; exact ⟨by simp only [cP_]; rw [decide_eq_false (by omega)]; rfl, decide_eq_true ⟨by assumption, by assumption⟩⟩), aV_]; exact hS_i) | (rw [if_neg (by rw [Bool.and_eq_true]; intro q; first | exact absurd (of_decide_eq_true q.2).1 (by assumption) | exact absurd (of_decide_eq_true q.2).2 (by assumption) | (have q1 := q.1; simp only [cP_] at q1; rw [decide_eq_true (by omega)] at q1; cases q1)), List.append_nil]; exact hS_i)), by rw [eN_ hx1, ← he]; simp only [cP_]; rw [decide_eq_false (by omega)]; simp⟩ (by dsimp only; omega) ⟨rfl, rfl, rfl, rfl, rfl, rfl, trivial⟩ (m_ (f_ (f_ i_)) (f_ S_)) (fun _ _ h => h)
     ·
      replace hr9 := of_decide_eq_true hr9
      refine t_ rfl ?_
      refine aR_ ((b6, .cells #[.int .i64 (Fc.kind (aP_ (Fc.a f) (Fc.r f) (max (Fc.lo f) (Fc.lo x1)) (min (Fc.hi f) (Fc.hi x1)))), str (Fc.a (aP_ (Fc.a f) (Fc.r f) (max (Fc.lo f) (Fc.lo x1)) (min (Fc.hi f) (Fc.hi x1)))), str (Fc.b (aP_ (Fc.a f) (Fc.r f) (max (Fc.lo f) (Fc.lo x1)) (min (Fc.hi f) (Fc.hi x1)))), str (Fc.r (aP_ (Fc.a f) (Fc.r f) (max (Fc.lo f) (Fc.lo x1)) (min (Fc.hi f) (Fc.hi x1)))), .int .i64 (Fc.lo (aP_ (Fc.a f) (Fc.r f) (max (Fc.lo f) (Fc.lo x1)) (min (Fc.hi f) (Fc.hi x1)))), .int .i64 (Fc.hi (aP_ (Fc.a f) (Fc.r f) (max (Fc.lo f) (Fc.lo x1)) (min (Fc.hi f) (Fc.hi x1))))] 41 (0, 0)) :: ((b5, .cells (Fc.cells x1).toArray 41 (0, 0)) :: ((b1, .cells (Fc.cells f).toArray 41 (0, 0)) :: []))) (by kernel_rfl) ?_
      refine ah_ 1 [0, 1, 2, 3, 4] (by kernel_rfl) (fun _ a b => ⟨Vw.sat.sub (a.perm (m_ i_ (m_ i_ i_))), b⟩) (n_ rfl (d_ rfl) rfl (n_ rfl (ar_ rfl) rfl (n_ rfl (l_ J_ rfl rfl rfl be_) rfl (n_ rfl (al_ bJ_ rfl (fun v _ h => by exact h.1) rfl) rfl (n_ rfl (Y_ 0 ai_ B_ rfl rfl rfl) rfl (ag_ (X_ 5 rfl (by kernel_rfl) (bh_ (first := []) (cap := E.caps) (E.emit (aP_ (Fc.a f) (Fc.r f) (max (Fc.lo f) (Fc.lo x1)) (min (Fc.hi f) (Fc.hi x1))) (emits E.stp (fm_ f (List.take i (lat x.ranges ((Fc.a f), (Fc.r f))))) nw) fm Hs_i hS_i) rfl rfl (f_ (f_ S_)) (fun v _ h => by exact ⟨h.2.2.2.2.2.2.2.2.1, trivial⟩) rfl fun ⟨Hs4, hS4⟩ => ?_))))))))
      dsimp only
      refine e_ (w_ rfl (N_ (fun _ a b => ⟨Vw.sat.sub (a.perm (m_ (s_ i_) (m_ (s_ i_) bj_))), b⟩) (ac_ (by kernel_rfl) (b_ rfl (c_ (a_ (M_ rfl rfl rfl (af_ (by omega) (by omega))) rfl (a_ (d_ rfl) rfl (e_ (w_ rfl ?_)))))))))
      exact Z_ ⟨(i + 1, Hs4, e), hlx1, (by rw [dV_ hx1]; first | (rw [if_pos (by rw [Bool.and_eq_true]; exact ⟨by simp only [cP_]; rw [decide_eq_false (by omega)]; rfl, decide_eq_true ⟨by assumption, by assumption⟩⟩), aV_]; exact hS4) | (rw [if_neg (by rw [Bool.and_eq_true]; intro q; first | exact absurd (of_decide_eq_true q.2).1 (by assumption) | exact absurd (of_decide_eq_true q.2).2 (by assumption) | (have q1 := q.1; simp only [cP_] at q1; rw [decide_eq_true (by omega)] at q1; cases q1)), List.append_nil]; exact hS4)), by rw [eN_ hx1, ← he]; simp only [cP_]; rw [decide_eq_false (by omega)]; simp⟩ (by dsimp only; omega) ⟨rfl, rfl, rfl, rfl, rfl, rfl, trivial⟩ (m_ (s_ (f_ (f_ i_))) E_) (fun _ _ h => h)
   ·
    replace hr7 := of_decide_eq_true hr7
    refine t_ rfl (c_ (a_ (g_ rfl) rfl (e_ (b_ rfl (c_ (a_ (M_ rfl rfl rfl (af_ (by omega) (by omega))) rfl (a_ (d_ rfl) rfl (e_ (w_ rfl ?_)))))))))
    exact Z_ ⟨(i + 1, Hs_i, true), hlx1, (by rw [dV_ hx1]; first | (rw [if_pos (by rw [Bool.and_eq_true]; exact ⟨by simp only [cP_]; rw [decide_eq_false (by omega)]; rfl, decide_eq_true ⟨by assumption, by assumption⟩⟩), aV_]; exact hS_i) | (rw [if_neg (by rw [Bool.and_eq_true]; intro q; first | exact absurd (of_decide_eq_true q.2).1 (by assumption) | exact absurd (of_decide_eq_true q.2).2 (by assumption) | (have q1 := q.1; simp only [cP_] at q1; rw [decide_eq_true (by omega)] at q1; cases q1)), List.append_nil]; exact hS_i)), by rw [eN_ hx1, ← he]; simp only [cP_]; rw [decide_eq_true (by omega)]; simp⟩ (by dsimp only; omega) ⟨rfl, rfl, rfl, rfl, rfl, rfl, trivial⟩ (m_ (f_ i_) S_) (fun _ _ h => h)
theorem qs_ (B : EngB) (E : Emt Tryz.prog 41) (nw fm : List Fc) (Hs : Hp) (hS : E.St nw fm Hs) (al : List Str) (aad : Option Addr) (acap : Nat) (hal : al.length ≤ 1000000000) (hll : B.lps.length ≤ 1000000000) : Tri Tryz.prog 57 #[zp_ B.g 0, .slice aad (List.length al) acap] Hs [gF B E, az_ B.lad (List.flatMap aO_ B.lps), az_ aad (List.flatMap aO_ al), E.ef] (fun _ : {H' : Hp // E.St (emits E.stp (ew_ B.lps al) nw) fm H'} => .tuple #[]) (fun y => y.1) (fun _ => []) := by
 refine T_ Tryz.func57 rfl rfl Tryz.ntmps57 rfl fun v0 => ?_
 refine h_ (c_ (a_ (d_ rfl) rfl (a_ (am_ D_ rfl) rfl (a_ (d_ rfl) rfl (e_ (b_ rfl (R_ ?_)))))))
 refine aL_ (ι := {y : Nat × Hp // y.1 ≤ List.length al ∧ E.St (emits E.stp (List.flatMap (fun a => an_ a a :: an_ a [42] :: List.map (fun r => ax_ a r a) B.lps) (List.take y.1 al)) nw) fm y.2}) (fun y => [(0, zp_ B.g 0), (8, .slice aad (List.length al) acap), (9, .int .i64 (List.length al : Int)), (10, .int .i64 (y.1.1 : Int))]) (fun y => (y.1.2)) (fun y => [gF B E, az_ B.lad (List.flatMap aO_ B.lps), az_ aad (List.flatMap aO_ al), E.ef]) (fun y => List.length al - y.1.1) ⟨((0 : Nat), Hs), by simp, by exact hS⟩ ⟨rfl, rfl, rfl, rfl, trivial⟩ aD_ (fun _ _ h => h) ?_
 rintro ⟨⟨i, Hs_i⟩, hi_i, hS_i⟩
 dsimp only at hi_i hS_i ⊢
 have hb_i := hal
 refine h_ (c_ (x_ (av_ rfl rfl) rfl fun r1 hr1 => ?_))
 refine e_ (b_ rfl (h_ ?_))
 cases r1
 ·
  replace hr1 := of_decide_eq_false hr1
  refine v_ rfl (au_ rfl (bx_ rfl ?_))
  exact dv_ Tryz.results57 ⟨Hs_i, by unfold ew_; rw [List.take_of_length_le (by omega)] at hS_i; exact hS_i⟩ rfl aD_ (fun _ _ _ => trivial)
 ·
  replace hr1 := of_decide_eq_true hr1
  have hlx1 : i < List.length al := by omega
  obtain ⟨x1, hx1⟩ : ∃ e0, al[i]? = some e0 := ⟨_, List.getElem?_eq_getElem hlx1⟩
  have hmx1 : x1 ∈ al := List.mem_of_getElem? hx1
  refine t_ rfl (z_ (b_ rfl (h_ (R_ (h_ (c_ (a_ (aa_ D_ j_ rfl rfl (fun v _ h => ay_ (n := 1) at_ (by decide) (by exact h.2.2.1) hx1) (by omega) (by first | omega | (simp; done))) rfl (a_ (aN_ (ad := aad) q_ rfl (fun v _ h => by exact h.2.2.1) (ad_ at_ hx1 0 _ rfl)) rfl (a_ (g_ rfl) rfl ?_)))))))))
  refine e_ (b_ rfl (h_ ?_))
  refine aR_ ([]) (by kernel_rfl) ?_
  refine ah_ 2 [0, 1, 2, 3, 4, 5] (by kernel_rfl) (fun _ a b => ⟨bG_ a, b⟩) (n_ rfl (d_ rfl) rfl (n_ rfl (ar_ rfl) rfl (n_ rfl (l_ J_ rfl rfl rfl be_) rfl (n_ rfl (al_ bJ_ rfl (fun v _ h => by exact h.1) rfl) rfl (n_ rfl (d_ rfl) rfl (n_ rfl (d_ rfl) rfl (ag_ (X_ 6 rfl (by kernel_rfl) (W_ (fg_ x1 x1) rfl I_ (fun _ _ _ => by exact trivial) rfl fun _ => ?_)))))))))
  refine aj_ ht_ (e_ (w_ rfl (N_ (fun _ a b => ⟨bG_ a, b⟩) (X_ 7 rfl (by kernel_rfl) (bh_ (first := []) (cap := E.caps) (E.emit (an_ x1 x1) (emits E.stp (List.flatMap (fun a => an_ a a :: an_ a [42] :: List.map (fun r => ax_ a r a) B.lps) (List.take i al)) nw) fm Hs_i hS_i) rfl rfl aD_ (fun v _ h => by exact ⟨h.2.2.2.1, trivial⟩) rfl fun ⟨Hs1, hS1⟩ => ?_)))))
  dsimp only
  refine aj_ fk_ (e_ (w_ rfl (N_ (fun _ a b => ⟨bG_ a, b⟩) (ac_ (by kernel_rfl) (b_ rfl (h_ ?_))))))
  refine aR_ ([]) (by kernel_rfl) ?_
  refine ah_ 2 [0, 1, 2, 3, 4] (by kernel_rfl) (fun _ a b => ⟨bG_ a, b⟩) (n_ rfl (d_ rfl) rfl (n_ rfl (ar_ rfl) rfl (n_ rfl (l_ J_ rfl rfl rfl be_) rfl (n_ rfl (al_ bJ_ rfl (fun v _ h => by exact h.1) rfl) rfl (n_ rfl (d_ rfl) rfl (ag_ (X_ 5 rfl (by kernel_rfl) (W_ (fg_ x1 [42]) rfl I_ (fun _ _ _ => by exact trivial) rfl fun _ => ?_))))))))
  refine aj_ ht_ (e_ (w_ rfl (N_ (fun _ a b => ⟨bG_ a, b⟩) (X_ 6 rfl (by kernel_rfl) (bh_ (first := []) (cap := E.caps) (E.emit (an_ x1 [42]) (E.stp (an_ x1 x1) (emits E.stp (List.flatMap (fun a => an_ a a :: an_ a [42] :: List.map (fun r => ax_ a r a) B.lps) (List.take i al)) nw)) fm Hs1 hS1) rfl rfl aD_ (fun v _ h => by exact ⟨h.2.2.2.1, trivial⟩) rfl fun ⟨Hs2, hS2⟩ => ?_)))))
  dsimp only
  refine aj_ fk_ (e_ (w_ rfl (N_ (fun _ a b => ⟨bG_ a, b⟩) (ac_ (by kernel_rfl) (b_ rfl (h_ (c_ (a_ (d_ rfl) rfl (a_ (ar_ rfl) rfl ?_)))))))))
  refine a_ (l_ J_ rfl rfl rfl da_) rfl (a_ (al_ gu_ rfl (fun v _ h => by exact h.1) rfl) rfl (a_ (am_ D_ rfl) rfl (a_ (d_ rfl) rfl (e_ (b_ rfl (R_ ?_))))))
  refine aL_ (ι := {y : Nat × Hp // y.1 ≤ List.length B.lps ∧ E.St (emits E.stp (List.map (fun r => ax_ x1 r x1) (List.take y.1 B.lps)) (E.stp (an_ x1 [42]) (E.stp (an_ x1 x1) (emits E.stp (List.flatMap (fun a => an_ a a :: an_ a [42] :: List.map (fun r => ax_ a r a) B.lps) (List.take i al)) nw)))) fm y.2}) (fun y => [(0, zp_ B.g 0), (8, .slice aad (List.length al) acap), (9, .int .i64 (List.length al : Int)), (10, .int .i64 (i : Int)), (5, str x1), (32, .slice B.lad (List.length B.lps) B.lcap), (33, .int .i64 (List.length B.lps : Int)), (34, .int .i64 (y.1.1 : Int))]) (fun y => (y.1.2)) (fun y => [gF B E, az_ B.lad (List.flatMap aO_ B.lps), az_ aad (List.flatMap aO_ al), E.ef]) (fun y => List.length B.lps - y.1.1) ⟨((0 : Nat), Hs2), by simp, by exact hS2⟩ ⟨rfl, rfl, rfl, rfl, rfl, rfl, rfl, rfl, trivial⟩ aD_ (fun _ _ h => h) ?_
  rintro ⟨⟨j, Hs_j⟩, hi_j, hS_j⟩
  dsimp only at hi_j hS_j ⊢
  have hb_j := hll
  refine h_ (c_ (x_ (av_ rfl rfl) rfl fun r2 hr2 => ?_))
  refine e_ (b_ rfl (h_ ?_))
  cases r2
  ·
   replace hr2 := of_decide_eq_false hr2
   refine v_ rfl (au_ rfl (b_ rfl (c_ (a_ (M_ rfl rfl rfl (af_ (by omega) (by omega))) rfl (a_ (d_ rfl) rfl (e_ (w_ rfl ?_)))))))
   exact Z_ ⟨(i + 1, Hs_j), hlx1, (by rw [fG_ hx1, aV_]; have e9 : List.take j B.lps = B.lps := List.take_of_length_le (by omega); rw [e9] at hS_j; exact hS_j)⟩ (by dsimp only; omega) ⟨rfl, rfl, rfl, rfl, trivial⟩ aD_ (fun _ _ h => h)
  ·
   replace hr2 := of_decide_eq_true hr2
   have hlx2 : j < List.length B.lps := by omega
   obtain ⟨x2, hx2⟩ : ∃ e0, B.lps[j]? = some e0 := ⟨_, List.getElem?_eq_getElem hlx2⟩
   have hmx2 : x2 ∈ B.lps := List.mem_of_getElem? hx2
   refine t_ rfl (z_ (b_ rfl (h_ (R_ (h_ (c_ (a_ (aa_ D_ j_ rfl rfl (fun v _ h => ay_ (n := 1) at_ (by decide) (by exact h.2.1) hx2) (by omega) (by first | omega | (simp; done))) rfl (a_ (aN_ (ad := B.lad) q_ rfl (fun v _ h => by exact h.2.1) (ad_ at_ hx2 0 _ rfl)) rfl (a_ (g_ rfl) rfl ?_)))))))))
   refine e_ (b_ rfl ?_)
   refine aR_ ([]) (by kernel_rfl) ?_
   refine ah_ 2 [0, 1, 2, 3, 4, 5, 6] (by kernel_rfl) (fun _ a b => ⟨bG_ a, b⟩) (n_ rfl (d_ rfl) rfl (n_ rfl (ar_ rfl) rfl (n_ rfl (l_ J_ rfl rfl rfl be_) rfl (n_ rfl (al_ bJ_ rfl (fun v _ h => by exact h.1) rfl) rfl (n_ rfl (d_ rfl) rfl (n_ rfl (d_ rfl) rfl (n_ rfl (d_ rfl) rfl (ag_ (X_ 7 rfl (by kernel_rfl) ?_)))))))))
   refine W_ (iY_ x1 x2 x1) rfl I_ (fun _ _ _ => by exact trivial) rfl fun _ => ?_
   refine aj_ ht_ (e_ (w_ rfl (N_ (fun _ a b => ⟨bG_ a, b⟩) (X_ 8 rfl (by kernel_rfl) (bh_ (first := []) (cap := E.caps) (E.emit (ax_ x1 x2 x1) (emits E.stp (List.map (fun r => ax_ x1 r x1) (List.take j B.lps)) (E.stp (an_ x1 [42]) (E.stp (an_ x1 x1) (emits E.stp (List.flatMap (fun a => an_ a a :: an_ a [42] :: List.map (fun r => ax_ a r a) B.lps) (List.take i al)) nw)))) fm Hs_j hS_j) rfl rfl aD_ (fun v _ h => by exact ⟨h.2.2.2.1, trivial⟩) rfl fun ⟨Hs3, hS3⟩ => ?_)))))
   dsimp only
   refine aj_ fk_ (e_ (w_ rfl (N_ (fun _ a b => ⟨bG_ a, b⟩) (ac_ (by kernel_rfl) (b_ rfl (c_ (a_ (M_ rfl rfl rfl (af_ (by omega) (by omega))) rfl (a_ (d_ rfl) rfl (e_ ?_)))))))))
   refine w_ rfl ?_
   exact Z_ ⟨(j + 1, Hs3), hlx2, (by rw [eu_ hx2, aV_]; exact hS3)⟩ (by dsimp only; omega) ⟨rfl, rfl, rfl, rfl, rfl, rfl, rfl, rfl, trivial⟩ aD_ (fun _ _ h => h)
end Go.Proofs.YtpdbbglpbngeiaaGreatDoor
namespace Go.Proofs.YtpdbbglpbngeiaaGreatDoor
open Go Go.Sx Go.Proofs
attribute [local irreducible] Code.wp wpList wpAnyH
open Go.Vs
theorem ql_ (B : EngB) (E : Emt Tryz.prog 41) (x : Ix) (f : Fc) (nw fm : List Fc) (Hs : Hp) (hS : E.St nw fm Hs) (Ha Hu Ho Hi Hr Hm : Hp) (hI : IxO 9 41 B x ⟨Ha, Hu, Ho, Hi, Hr, Hm⟩) (hxl : ∀ k, (lat x.above k).length ≤ 1000000000 ∧ (lat x.under k).length ≤ 1000000000) (hyl : ∀ k, (lat x.frm k).length ≤ 1000000000 ∧ (lat x.into k).length ≤ 1000000000 ∧ (lat x.ranges k).length ≤ 1000000000 ∧ (lat x.firms k).length ≤ 1000000000) : Tri Tryz.prog 59 #[zp_ B.g 0, Fc.val f] (Ha ++ (Hu ++ (Ho ++ (Hi ++ (Hr ++ (Hm ++ Hs)))))) [gF B E] (fun _ : {y : IxH // IxO 9 41 B (x.add (decide (f ∈ fm)) f) y} => .tuple #[]) (fun y => y.1.a ++ (y.1.u ++ (y.1.o ++ (y.1.i ++ (y.1.r ++ (y.1.s ++ Hs)))))) (fun _ => []) := by
 refine T_ Tryz.func59 rfl rfl Tryz.ntmps59 rfl fun v0 => ?_
 obtain ⟨ha, hu, ho, hi, hr, hm⟩ := hI
 dsimp only at ha hu ho hi hr hm
 refine h_ (c_ (bs_ rfl rfl fun b1 => ?_))
 refine e_ (b_ rfl (h_ (c_ (a_ (l_ o_ rfl rfl rfl L_) rfl (a_ (u_ 0 P_ rfl rfl rfl) rfl (e_ (b_ rfl (R_ (h_ ?_)))))))))
 refine c_ (x_ (aM_ rfl rfl) rfl fun r1 hr1 => ?_)
 refine a_ (g_ rfl) rfl (e_ (b_ rfl ?_))
 cases r1
 ·
  replace hr1 := ne_of_beq_false hr1
  refine v_ rfl (h_ (c_ (x_ (aM_ rfl rfl) rfl fun r2 hr2 => ?_)))
  refine a_ (g_ rfl) rfl (e_ (b_ rfl ?_))
  cases r2
  ·
   replace hr2 := ne_of_beq_false hr2
   refine v_ rfl (h_ (c_ (x_ (aM_ rfl rfl) rfl fun r3 hr3 => ?_)))
   refine a_ (g_ rfl) rfl (e_ (b_ rfl ?_))
   cases r3
   ·
    replace hr3 := ne_of_beq_false hr3
    refine v_ rfl (z_ (bx_ rfl ?_))
    exact dv_ es_ ⟨IxH.mk Ha Hu Ho Hi Hr Hm, by unfold Ix.add; rw [if_neg (by assumption), if_neg (by assumption), if_neg (by assumption)]; exact ⟨ha, hu, ho, hi, hr, hm⟩⟩ rfl (O_ (f_ E_) (O_ (f_ E_) (O_ (f_ E_) (O_ (f_ E_) (O_ (f_ E_) (O_ (f_ E_) S_)))))) (fun _ _ _ => trivial)
   ·
    replace hr3 := eq_of_beq hr3
    refine t_ rfl (h_ (c_ (a_ (l_ o_ rfl rfl rfl j_) rfl (a_ (u_ 0 q_ rfl rfl rfl) rfl (a_ (l_ o_ rfl rfl rfl j_) rfl (a_ (u_ 0 q_ rfl rfl rfl) rfl (a_ (ap_ eT_ rfl rfl) rfl (ao_ cK_ rfl fun b2 => ?_))))))))
    refine Q_ 0 by_ rfl rfl rfl rfl rfl rfl (e_ (b_ rfl (h_ ?_)))
    refine aR_ ((b2, .cells #[str (Fc.a f), str (Fc.r f)] 145 (0, 0)) :: ((b1, .cells (Fc.cells f).toArray 41 (0, 0)) :: [])) (by kernel_rfl) ?_
    refine ah_ 6 [0, 1, 2, 3, 4, 5] (by kernel_rfl) (fun _ a b => ⟨Vw.sat.sub (a.perm (m_ i_ i_)), b⟩) (n_ rfl (d_ rfl) rfl (n_ rfl (ar_ rfl) rfl (n_ rfl (l_ J_ rfl rfl rfl qD_) rfl (n_ rfl (al_ Tryz.isAgg92 rfl (fun v _ h => by exact h.1) rfl) rfl (n_ rfl (Y_ 0 dA_ by_ rfl rfl rfl) rfl (n_ rfl (Y_ 1 ai_ B_ rfl rfl rfl) rfl (ag_ (X_ 6 rfl (by kernel_rfl) (aJ_ G_ B_ ak_ rfl rfl rfl rfl rfl rfl fun b3 => ?_)))))))))
    refine e_ (w_ rfl (N_ (fun _ a b => ⟨Vw.sat.sub (a.perm (m_ (f_ i_) (f_ i_))), b⟩) (X_ 7 rfl (by kernel_rfl) ?_)))
    have hbb1 := (hyl ((Fc.a f), (Fc.r f))).2.2.1
    refine dF_ (k := ((Fc.a f), (Fc.r f))) cX_ hr oy_ kW_ rfl rfl (f_ (f_ (f_ (s_ (s_ (s_ (s_ E_))))))) rfl fun es1 ce1 ie1 se1 ve1 Hk1 Hx1 ho1 hw1 => ?_
    refine e_ (w_ rfl (N_ (fun _ a b => ⟨Vw.sat.sub (a.perm (m_ (f_ (s_ (s_ (f_ i_)))) (f_ (s_ (s_ (f_ i_)))))), b⟩) (ah_ 2 [8, 10] (by kernel_rfl) (fun _ a b => ⟨Vw.sat.sub (a.perm (m_ (f_ (s_ (s_ (f_ i_)))) (f_ (s_ (s_ (f_ i_)))))), b⟩) (n_ rfl (ae_ rfl rfl) rfl (n_ rfl (ae_ rfl rfl) rfl (ag_ (X_ 9 rfl (by kernel_rfl) (bi_ (news := List.flatMap Fc.cells [f]) ca_ hw1 rfl rfl (f_ E_) rfl (dD_ (f_ (s_ (s_ i_)))) (fun u hu => aK_ Fc.cells_one hu) (by simp only [maxLen]; omega) (by omega) rfl fun sv1 Hr1 hr1 => ?_))))))))
    have hq1 : aQ_ 41 6 sv1 (List.length ((lat x.ranges ((Fc.a f), (Fc.r f))) ++ [f])) (List.flatMap Fc.cells ((lat x.ranges ((Fc.a f), (Fc.r f))) ++ [f])) Hr1 := by rw [List.length_append, List.flatMap_append]; exact hr1
    refine e_ (w_ rfl (N_ (fun _ a b => ⟨Vw.sat.sub (a.perm (m_ (s_ (f_ (s_ (f_ i_)))) (s_ (f_ (s_ (f_ i_)))))), b⟩) (X_ 11 rfl (by kernel_rfl) (cd_ (k := ((Fc.a f), (Fc.r f))) (dd := f) ho1 (by rw [dh_]; exact hq1) rfl rfl rfl (dg_ (m_ (s_ i_) (O_ E_ E_))) fun H2 hM2 => ?_))))
    refine e_ (w_ rfl (N_ (fun _ a b => ⟨Vw.sat.sub (a.perm (m_ (s_ (f_ i_)) (s_ (f_ i_)))), b⟩) (ac_ (by kernel_rfl) (b_ rfl (aj_ (bu_ (s_ i_) (bu_ (s_ i_) (df_ (s_ i_)))) (h_ ?_))))))
    refine aS_ (by kernel_rfl) ?_
    refine ah_ 0 [0, 1, 2, 3, 4, 5] (by kernel_rfl) (fun _ a b => ⟨a, b⟩) (n_ rfl (d_ rfl) rfl (n_ rfl (ar_ rfl) rfl (n_ rfl (l_ J_ rfl rfl rfl bW_) rfl (n_ rfl (al_ cz_ rfl (fun v _ h => by exact h.1) rfl) rfl (n_ rfl (Y_ 2 ai_ B_ rfl rfl rfl) rfl ?_)))))
    refine cl_ rfl (kY_ (f := f) hS gr_ bq_ dK_ rfl rfl (f_ (f_ (f_ (s_ (s_ (s_ (s_ (s_ bj_))))))))) rfl fun r4 hr4 => ?_
    refine ag_ (ac_ (by kernel_rfl) (b_ rfl ?_))
    cases r4
    ·
     replace hr4 := of_decide_eq_false hr4
     refine v_ rfl (z_ (bx_ rfl ?_))
     exact dv_ es_ ⟨IxH.mk Ha Hu Ho Hi H2 Hm, by have e0 : x.add (decide (f ∈ fm)) f = { x with ranges := (x.ranges ++ [(((Fc.a f), (Fc.r f)), f)]) } := (by unfold Ix.add; rw [if_neg (by omega), if_neg (by omega), if_pos (by assumption), decide_eq_false (by assumption)]; rfl); rw [e0]; exact ⟨ha, hu, ho, hi, hM2, hm⟩⟩ rfl (O_ (f_ (f_ (f_ (s_ E_)))) (O_ (f_ (f_ (f_ (s_ E_)))) (O_ (f_ (f_ (f_ (s_ E_)))) (O_ (f_ (f_ (f_ (s_ E_)))) (O_ (f_ (f_ (f_ E_))) (O_ (f_ (f_ (f_ E_))) (f_ (f_ S_)))))))) (fun _ _ _ => trivial)
    ·
     replace hr4 := of_decide_eq_true hr4
     refine t_ rfl ?_
     refine aR_ ((b3, .cells (Fc.cells f).toArray 41 (0, 0)) :: ((b2, .cells #[str (Fc.a f), str (Fc.r f)] 145 (0, 0)) :: ((b1, .cells (Fc.cells f).toArray 41 (0, 0)) :: []))) (by kernel_rfl) ?_
     refine ah_ 6 [0, 1, 2, 3, 4, 5] (by kernel_rfl) (fun _ a b => ⟨Vw.sat.sub (a.perm (m_ i_ (m_ i_ i_))), b⟩) (n_ rfl (d_ rfl) rfl (n_ rfl (ar_ rfl) rfl (n_ rfl (l_ J_ rfl rfl rfl qD_) rfl (n_ rfl (al_ Tryz.isAgg92 rfl (fun v _ h => by exact h.1) rfl) rfl (n_ rfl (Y_ 1 dA_ by_ rfl rfl rfl) rfl (n_ rfl (Y_ 2 ai_ B_ rfl rfl rfl) rfl (ag_ (X_ 6 rfl (by kernel_rfl) (aJ_ G_ B_ ak_ rfl rfl rfl rfl rfl rfl fun b4 => ?_)))))))))
     refine e_ (w_ rfl (N_ (fun _ a b => ⟨Vw.sat.sub (a.perm (m_ (f_ i_) (m_ (f_ i_) (f_ i_)))), b⟩) (X_ 7 rfl (by kernel_rfl) ?_)))
     have hbb3 := (hyl ((Fc.a f), (Fc.r f))).2.2.2
     refine dF_ (k := ((Fc.a f), (Fc.r f))) cX_ hm oy_ kW_ rfl rfl (f_ (f_ (f_ (f_ (s_ (s_ (s_ (s_ (s_ E_))))))))) rfl fun es3 ce3 ie3 se3 ve3 Hk3 Hx3 ho3 hw3 => ?_
     refine e_ (w_ rfl (N_ (fun _ a b => ⟨Vw.sat.sub (a.perm (m_ (f_ (s_ (s_ (f_ i_)))) (m_ (f_ (s_ (s_ (f_ i_)))) (f_ (s_ (s_ (f_ i_))))))), b⟩) (ah_ 2 [8, 10] (by kernel_rfl) (fun _ a b => ⟨Vw.sat.sub (a.perm (m_ (f_ (s_ (s_ (f_ i_)))) (m_ (f_ (s_ (s_ (f_ i_)))) (f_ (s_ (s_ (f_ i_))))))), b⟩) (n_ rfl (ae_ rfl rfl) rfl (n_ rfl (ae_ rfl rfl) rfl (ag_ (X_ 9 rfl (by kernel_rfl) (bi_ (news := List.flatMap Fc.cells [f]) ca_ hw3 rfl rfl (f_ E_) rfl (dD_ (f_ (s_ (s_ i_)))) (fun u hu => aK_ Fc.cells_one hu) (by simp only [maxLen]; omega) (by omega) rfl fun sv2 Hr2 hr2 => ?_))))))))
     have hq2 : aQ_ 41 6 sv2 (List.length ((lat x.firms ((Fc.a f), (Fc.r f))) ++ [f])) (List.flatMap Fc.cells ((lat x.firms ((Fc.a f), (Fc.r f))) ++ [f])) Hr2 := by rw [List.length_append, List.flatMap_append]; exact hr2
     refine e_ (w_ rfl (N_ (fun _ a b => ⟨Vw.sat.sub (a.perm (m_ (s_ (f_ (s_ (f_ i_)))) (m_ (s_ (f_ (s_ (f_ i_)))) (s_ (f_ (s_ (f_ i_))))))), b⟩) (X_ 11 rfl (by kernel_rfl) (cd_ (k := ((Fc.a f), (Fc.r f))) (dd := f) ho3 (by rw [dh_]; exact hq2) rfl rfl rfl (dg_ (m_ (s_ i_) (O_ E_ E_))) fun H4 hM4 => ?_))))
     refine e_ (w_ rfl (N_ (fun _ a b => ⟨Vw.sat.sub (a.perm (m_ (s_ (f_ i_)) (m_ (s_ (f_ i_)) (s_ (f_ i_))))), b⟩) (ac_ (by kernel_rfl) (bx_ rfl ?_))))
     exact dv_ es_ ⟨IxH.mk Ha Hu Ho Hi H2 H4, by have e0 : x.add (decide (f ∈ fm)) f = { x with ranges := (x.ranges ++ [(((Fc.a f), (Fc.r f)), f)]), firms := (x.firms ++ [(((Fc.a f), (Fc.r f)), f)]) } := (by unfold Ix.add; rw [if_neg (by omega), if_neg (by omega), if_pos (by assumption), decide_eq_true (by assumption)]; rfl); rw [e0]; exact ⟨ha, hu, ho, hi, hM2, hM4⟩⟩ rfl (O_ (s_ (f_ (f_ (f_ (f_ (s_ E_)))))) (O_ (s_ (f_ (f_ (f_ (f_ (s_ E_)))))) (O_ (s_ (f_ (f_ (f_ (f_ (s_ E_)))))) (O_ (s_ (f_ (f_ (f_ (f_ (s_ E_)))))) (O_ (s_ (f_ (f_ (f_ (f_ E_))))) (O_ E_ (f_ (f_ (f_ S_))))))))) (fun _ _ _ => trivial)
  ·
   replace hr2 := eq_of_beq hr2
   refine t_ rfl ?_
   have hbb5 := (hxl (Fc.b f)).2
   refine mX_ hu_ (Fc.b f) hu (f_ (s_ E_)) fun es5 ce5 ve5 Hk5 Hx5 hw5 ho5 => ?_
   refine aj_ (bu_ i_ (df_ (s_ (s_ i_)))) (h_ ?_)
   refine aR_ ((b1, .cells (Fc.cells f).toArray 41 (0, 0)) :: []) (by kernel_rfl) ?_
   refine ah_ 4 [0, 1, 2, 3, 4, 5, 6, 7, 8, 9, 10, 11, 13, 14] (by kernel_rfl) (fun _ a b => ⟨Vw.sat.sub (a.perm (f_ i_)), b⟩) (n_ rfl (d_ rfl) rfl (n_ rfl (ar_ rfl) rfl (n_ rfl (l_ J_ rfl rfl rfl hf_) rfl (n_ rfl (al_ mv_ rfl (fun v _ h => by exact h.1) rfl) rfl (n_ rfl (l_ o_ rfl rfl rfl j_) rfl (n_ rfl (u_ 0 q_ rfl rfl rfl) rfl (n_ rfl (d_ rfl) rfl (n_ rfl (ar_ rfl) rfl (n_ rfl (l_ J_ rfl rfl rfl hf_) rfl ?_)))))))))
   refine n_ rfl (al_ mv_ rfl (fun v _ h => by exact h.1) rfl) rfl (n_ rfl (l_ o_ rfl rfl rfl j_) rfl (n_ rfl (u_ 0 q_ rfl rfl rfl) rfl (n_ rfl (l_ o_ rfl rfl rfl j_) rfl (n_ rfl (u_ 0 q_ rfl rfl rfl) rfl (ag_ ?_)))))
   refine fr_ 12 15 rfl rfl (by kernel_rfl) ?_ ?_
   ·
    refine a_ (gz_ (k := (Fc.b f)) hu_ ho5 cE_ bI_ rfl rfl 0 rfl) rfl (e_ (w_ rfl (N_ (fun _ a b => ⟨Vw.sat.sub (a.perm (f_ i_)), b⟩) (X_ 15 rfl (by kernel_rfl) (aJ_ D_ j_ bm_ rfl rfl rfl rfl rfl rfl fun b5 => ?_)))))
    refine e_ (w_ rfl (N_ (fun _ a b => ⟨Vw.sat.sub (a.perm (f_ (f_ i_))), b⟩) (X_ 16 rfl (by kernel_rfl) (bi_ (news := List.flatMap aO_ [(Fc.a f)]) cN_ hw5 rfl rfl (f_ (f_ (f_ E_))) rfl (cy_ 0 rfl) (fun u hu => aK_ cn_ hu) (by simp only [maxLen]; omega) (by omega) rfl fun sv3 Hr3 hr3 => ?_))))
    have hq3 : aQ_ 9 1 sv3 (List.length ((lat x.under (Fc.b f)) ++ [(Fc.a f)])) (List.flatMap aO_ ((lat x.under (Fc.b f)) ++ [(Fc.a f)])) Hr3 := by rw [List.length_append, List.flatMap_append]; exact hr3
    refine e_ (w_ rfl (N_ (fun _ a b => ⟨Vw.sat.sub (a.perm (s_ (f_ (f_ i_)))), b⟩) (X_ 17 rfl (by kernel_rfl) (fZ_ (k := (Fc.b f)) (dd := (Fc.a f)) hu_ ho5 (by rw [dh_]; exact hq3) (.inr rfl) cE_ rfl rfl rfl (dg_ (m_ (s_ (f_ i_)) (O_ E_ (f_ (f_ E_))))) fun H6 hM6 => ?_))))
    refine e_ (w_ rfl (N_ (fun _ a b => ⟨Vw.sat.sub (a.perm (s_ (f_ i_))), b⟩) (ac_ (by kernel_rfl) (b_ rfl (aj_ (bu_ (s_ i_) (df_ (s_ i_))) (h_ ?_))))))
    refine aS_ (by kernel_rfl) ?_
    refine ah_ 4 [0, 1, 2, 3, 4, 5, 6, 7, 8, 9] (by kernel_rfl) (fun _ a b => ⟨a, b⟩) (n_ rfl (l_ o_ rfl rfl rfl j_) rfl (n_ rfl (u_ 1 q_ rfl rfl rfl) rfl (n_ rfl (l_ o_ rfl rfl rfl j_) rfl (n_ rfl (u_ 1 q_ rfl rfl rfl) rfl (n_ rfl (ap_ eT_ rfl rfl) rfl (n_ rfl (l_ o_ rfl rfl rfl j_) rfl (n_ rfl (u_ 1 q_ rfl rfl rfl) rfl (n_ rfl (l_ o_ rfl rfl rfl j_) rfl (n_ rfl (u_ 1 q_ rfl rfl rfl) rfl ?_)))))))))
    refine n_ rfl (ap_ eT_ rfl rfl) rfl (ag_ ?_)
    refine fr_ 10 11 rfl rfl (by kernel_rfl) ?_ ?_
    ·
     refine ao_ cK_ rfl fun b6 => ?_
     refine e_ (w_ rfl (N_ (fun _ a b => ⟨a.tail, b⟩) (X_ 11 rfl (by kernel_rfl) (ao_ cK_ rfl fun b7 => ?_))))
     refine e_ (w_ rfl (N_ (fun _ a b => ⟨a.tail.tail, b⟩) (X_ 12 rfl (by kernel_rfl) (Q_ 1 by_ rfl rfl rfl rfl rfl rfl (e_ (w_ rfl (N_ (fun _ a b => ⟨a.tail.tail, b⟩) (X_ 13 rfl (by kernel_rfl) (Q_ 0 by_ rfl rfl rfl rfl rfl rfl ?_)))))))))
     refine e_ (w_ rfl (N_ (fun _ a b => ⟨a.tail.tail, b⟩) (ac_ (by kernel_rfl) (b_ rfl (h_ ?_)))))
     refine aR_ ((b7, .cells #[str (Fc.b f), str (Fc.r f)] 145 (0, 0)) :: ((b6, .cells #[str (Fc.a f), str (Fc.r f)] 145 (0, 0)) :: ((b5, .cells #[str (Fc.a f)] 9 (0, 0)) :: ((b1, .cells (Fc.cells f).toArray 41 (0, 0)) :: [])))) (by kernel_rfl) ?_
     refine ah_ 6 [0, 1, 2, 3, 4, 5, 6] (by kernel_rfl) (fun _ a b => ⟨Vw.sat.sub (a.perm (m_ i_ (m_ i_ (m_ i_ i_)))), b⟩) (n_ rfl (d_ rfl) rfl (n_ rfl (ar_ rfl) rfl (n_ rfl (l_ J_ rfl rfl rfl dx_) rfl (n_ rfl (al_ ec_ rfl (fun v _ h => by exact h.1) rfl) rfl (n_ rfl (Y_ 1 dA_ by_ rfl rfl rfl) rfl (n_ rfl (l_ o_ rfl rfl rfl j_) rfl (n_ rfl (u_ 3 q_ rfl rfl rfl) rfl (ag_ (X_ 7 rfl (by kernel_rfl) ?_)))))))))
     refine aJ_ D_ j_ bm_ rfl rfl rfl rfl rfl rfl fun b8 => ?_
     refine e_ (w_ rfl (N_ (fun _ a b => ⟨Vw.sat.sub (a.perm (m_ (f_ i_) (m_ (f_ i_) (m_ (f_ i_) (f_ i_))))), b⟩) (X_ 8 rfl (by kernel_rfl) ?_)))
     have hbb7 := (hyl ((Fc.a f), (Fc.r f))).1
     refine dF_ (k := ((Fc.a f), (Fc.r f))) cX_ ho ch_ bI_ rfl rfl (f_ (f_ (f_ (f_ (f_ (s_ (s_ E_))))))) rfl fun es7 ce7 ie7 se7 ve7 Hk7 Hx7 ho7 hw7 => ?_
     refine e_ (w_ rfl (N_ (fun _ a b => ⟨Vw.sat.sub (a.perm (m_ (f_ (s_ (s_ (f_ i_)))) (m_ (f_ (s_ (s_ (f_ i_)))) (m_ (f_ (s_ (s_ (f_ i_)))) (f_ (s_ (s_ (f_ i_)))))))), b⟩) (ah_ 2 [9, 11] (by kernel_rfl) (fun _ a b => ⟨Vw.sat.sub (a.perm (m_ (f_ (s_ (s_ (f_ i_)))) (m_ (f_ (s_ (s_ (f_ i_)))) (m_ (f_ (s_ (s_ (f_ i_)))) (f_ (s_ (s_ (f_ i_)))))))), b⟩) (n_ rfl (ae_ rfl rfl) rfl (n_ rfl (ae_ rfl rfl) rfl (ag_ (X_ 10 rfl (by kernel_rfl) (bi_ (news := List.flatMap aO_ [(Fc.b f)]) cN_ hw7 rfl rfl (f_ E_) rfl (dD_ (f_ (s_ (s_ i_)))) (fun u hu => aK_ cn_ hu) (by simp only [maxLen]; omega) (by omega) rfl fun sv4 Hr4 hr4 => ?_))))))))
     have hq4 : aQ_ 9 1 sv4 (List.length ((lat x.frm ((Fc.a f), (Fc.r f))) ++ [(Fc.b f)])) (List.flatMap aO_ ((lat x.frm ((Fc.a f), (Fc.r f))) ++ [(Fc.b f)])) Hr4 := by rw [List.length_append, List.flatMap_append]; exact hr4
     refine e_ (w_ rfl (N_ (fun _ a b => ⟨Vw.sat.sub (a.perm (m_ (s_ (f_ (s_ (f_ i_)))) (m_ (s_ (f_ (s_ (f_ i_)))) (m_ (s_ (f_ (s_ (f_ i_)))) (s_ (f_ (s_ (f_ i_)))))))), b⟩) (X_ 12 rfl (by kernel_rfl) (cd_ (k := ((Fc.a f), (Fc.r f))) (dd := (Fc.b f)) ho7 (by rw [dh_]; exact hq4) rfl rfl rfl (dg_ (m_ (s_ i_) (O_ E_ E_))) fun H8 hM8 => ?_))))
     refine e_ (w_ rfl (N_ (fun _ a b => ⟨Vw.sat.sub (a.perm (m_ (s_ (f_ i_)) (m_ (s_ (f_ i_)) (m_ (s_ (f_ i_)) (s_ (f_ i_)))))), b⟩) (ac_ (by kernel_rfl) (b_ rfl (aj_ (bu_ (s_ i_) (bu_ (s_ i_) (bu_ (s_ i_) (bu_ (s_ i_) (df_ (s_ i_)))))) ?_)))))
     refine aR_ ((b8, .cells #[str (Fc.b f)] 9 (0, 0)) :: ((b7, .cells #[str (Fc.b f), str (Fc.r f)] 145 (0, 0)) :: ((b6, .cells #[str (Fc.a f), str (Fc.r f)] 145 (0, 0)) :: ((b5, .cells #[str (Fc.a f)] 9 (0, 0)) :: ((b1, .cells (Fc.cells f).toArray 41 (0, 0)) :: []))))) (by kernel_rfl) ?_
     refine ah_ 6 [0, 1, 2, 3, 4, 5, 6] (by kernel_rfl) (fun _ a b => ⟨Vw.sat.sub (a.perm (m_ i_ (m_ i_ (m_ i_ (m_ i_ i_))))), b⟩) (n_ rfl (d_ rfl) rfl (n_ rfl (ar_ rfl) rfl (n_ rfl (l_ J_ rfl rfl rfl dx_) rfl (n_ rfl (al_ ec_ rfl (fun v _ h => by exact h.1) rfl) rfl (n_ rfl (Y_ 1 dA_ by_ rfl rfl rfl) rfl (n_ rfl (l_ o_ rfl rfl rfl j_) rfl (n_ rfl (u_ 4 q_ rfl rfl rfl) rfl (ag_ (X_ 7 rfl (by kernel_rfl) ?_)))))))))
     refine aJ_ D_ j_ bm_ rfl rfl rfl rfl rfl rfl fun b9 => ?_
     refine e_ (w_ rfl (N_ (fun _ a b => ⟨Vw.sat.sub (a.perm (m_ (f_ i_) (m_ (f_ i_) (m_ (f_ i_) (m_ (f_ i_) (f_ i_)))))), b⟩) (X_ 8 rfl (by kernel_rfl) ?_)))
     have hbb9 := (hyl ((Fc.b f), (Fc.r f))).2.1
     refine dF_ (k := ((Fc.b f), (Fc.r f))) cX_ hi ch_ bI_ rfl rfl (f_ (f_ (f_ (f_ (f_ (f_ (s_ (s_ (s_ E_))))))))) rfl fun es9 ce9 ie9 se9 ve9 Hk9 Hx9 ho9 hw9 => ?_
     refine e_ (w_ rfl (N_ (fun _ a b => ⟨Vw.sat.sub (a.perm (m_ (f_ (s_ (s_ (f_ i_)))) (m_ (f_ (s_ (s_ (f_ i_)))) (m_ (f_ (s_ (s_ (f_ i_)))) (m_ (f_ (s_ (s_ (f_ i_)))) (f_ (s_ (s_ (f_ i_))))))))), b⟩) (ah_ 2 [9, 11] (by kernel_rfl) (fun _ a b => ⟨Vw.sat.sub (a.perm (m_ (f_ (s_ (s_ (f_ i_)))) (m_ (f_ (s_ (s_ (f_ i_)))) (m_ (f_ (s_ (s_ (f_ i_)))) (m_ (f_ (s_ (s_ (f_ i_)))) (f_ (s_ (s_ (f_ i_))))))))), b⟩) (n_ rfl (ae_ rfl rfl) rfl (n_ rfl (ae_ rfl rfl) rfl (ag_ (X_ 10 rfl (by kernel_rfl) (bi_ (news := List.flatMap aO_ [(Fc.a f)]) cN_ hw9 rfl rfl (f_ E_) rfl (dD_ (f_ (s_ (s_ i_)))) (fun u hu => aK_ cn_ hu) (by simp only [maxLen]; omega) (by omega) rfl fun sv5 Hr5 hr5 => ?_))))))))
     have hq5 : aQ_ 9 1 sv5 (List.length ((lat x.into ((Fc.b f), (Fc.r f))) ++ [(Fc.a f)])) (List.flatMap aO_ ((lat x.into ((Fc.b f), (Fc.r f))) ++ [(Fc.a f)])) Hr5 := by rw [List.length_append, List.flatMap_append]; exact hr5
     refine e_ (w_ rfl (N_ (fun _ a b => ⟨Vw.sat.sub (a.perm (m_ (s_ (f_ (s_ (f_ i_)))) (m_ (s_ (f_ (s_ (f_ i_)))) (m_ (s_ (f_ (s_ (f_ i_)))) (m_ (s_ (f_ (s_ (f_ i_)))) (s_ (f_ (s_ (f_ i_))))))))), b⟩) (X_ 12 rfl (by kernel_rfl) (cd_ (k := ((Fc.b f), (Fc.r f))) (dd := (Fc.a f)) ho9 (by rw [dh_]; exact hq5) rfl rfl rfl (dg_ (m_ (s_ i_) (O_ E_ E_))) fun H10 hM10 => ?_))))
     refine e_ (w_ rfl (N_ (fun _ a b => ⟨Vw.sat.sub (a.perm (m_ (s_ (f_ i_)) (m_ (s_ (f_ i_)) (m_ (s_ (f_ i_)) (m_ (s_ (f_ i_)) (s_ (f_ i_))))))), b⟩) (ac_ (by kernel_rfl) (bx_ rfl ?_))))
     exact dv_ es_ ⟨IxH.mk Ha H6 H8 H10 Hr Hm, by have e0 : x.add (decide (f ∈ fm)) f = { x with under := (x.under ++ [((Fc.b f), (Fc.a f))]), frm := (x.frm ++ [(((Fc.a f), (Fc.r f)), (Fc.b f))]), into := (x.into ++ [(((Fc.b f), (Fc.r f)), (Fc.a f))]) } := (by unfold Ix.add; rw [if_neg (by omega), if_pos (by assumption)]); rw [e0]; exact ⟨ha, hM6, hM8, hM10, hr, hm⟩⟩ rfl (O_ (s_ (f_ (f_ (f_ (f_ (f_ (f_ (s_ (s_ E_))))))))) (O_ (s_ (f_ (f_ (f_ (f_ (f_ (f_ (s_ E_)))))))) (O_ (s_ (f_ (f_ (f_ (f_ (f_ (f_ E_))))))) (O_ E_ (O_ (f_ (f_ (f_ (f_ (f_ (f_ E_)))))) (O_ (f_ (f_ (f_ (f_ (f_ (f_ E_)))))) (f_ (f_ (f_ (f_ (f_ S_))))))))))) (fun _ _ _ => trivial)
    ·
     refine ao_ cK_ rfl fun b10 => ?_
     refine e_ (w_ rfl (N_ (fun _ a b => ⟨a.tail, b⟩) (X_ 10 rfl (by kernel_rfl) (ao_ cK_ rfl fun b11 => ?_))))
     refine e_ (w_ rfl (N_ (fun _ a b => ⟨a.tail.tail, b⟩) (X_ 12 rfl (by kernel_rfl) (Q_ 0 by_ rfl rfl rfl rfl rfl rfl (e_ (w_ rfl (N_ (fun _ a b => ⟨a.tail.tail, b⟩) (X_ 13 rfl (by kernel_rfl) (Q_ 1 by_ rfl rfl rfl rfl rfl rfl ?_)))))))))
     refine e_ (w_ rfl (N_ (fun _ a b => ⟨a.tail.tail, b⟩) (ac_ (by kernel_rfl) (b_ rfl (h_ ?_)))))
     refine aR_ ((b11, .cells #[str (Fc.a f), str (Fc.r f)] 145 (0, 0)) :: ((b10, .cells #[str (Fc.b f), str (Fc.r f)] 145 (0, 0)) :: ((b5, .cells #[str (Fc.a f)] 9 (0, 0)) :: ((b1, .cells (Fc.cells f).toArray 41 (0, 0)) :: [])))) (by kernel_rfl) ?_
     refine ah_ 6 [0, 1, 2, 3, 4, 5, 6] (by kernel_rfl) (fun _ a b => ⟨Vw.sat.sub (a.perm (m_ i_ (m_ i_ (m_ i_ i_)))), b⟩) (n_ rfl (d_ rfl) rfl (n_ rfl (ar_ rfl) rfl (n_ rfl (l_ J_ rfl rfl rfl dx_) rfl (n_ rfl (al_ ec_ rfl (fun v _ h => by exact h.1) rfl) rfl (n_ rfl (Y_ 0 dA_ by_ rfl rfl rfl) rfl (n_ rfl (l_ o_ rfl rfl rfl j_) rfl (n_ rfl (u_ 3 q_ rfl rfl rfl) rfl (ag_ (X_ 7 rfl (by kernel_rfl) ?_)))))))))
     refine aJ_ D_ j_ bm_ rfl rfl rfl rfl rfl rfl fun b12 => ?_
     refine e_ (w_ rfl (N_ (fun _ a b => ⟨Vw.sat.sub (a.perm (m_ (f_ i_) (m_ (f_ i_) (m_ (f_ i_) (f_ i_))))), b⟩) (X_ 8 rfl (by kernel_rfl) ?_)))
     have hbb11 := (hyl ((Fc.a f), (Fc.r f))).1
     refine dF_ (k := ((Fc.a f), (Fc.r f))) cX_ ho ch_ bI_ rfl rfl (f_ (f_ (f_ (f_ (f_ (s_ (s_ E_))))))) rfl fun es11 ce11 ie11 se11 ve11 Hk11 Hx11 ho11 hw11 => ?_
     refine e_ (w_ rfl (N_ (fun _ a b => ⟨Vw.sat.sub (a.perm (m_ (f_ (s_ (s_ (f_ i_)))) (m_ (f_ (s_ (s_ (f_ i_)))) (m_ (f_ (s_ (s_ (f_ i_)))) (f_ (s_ (s_ (f_ i_)))))))), b⟩) (ah_ 2 [9, 11] (by kernel_rfl) (fun _ a b => ⟨Vw.sat.sub (a.perm (m_ (f_ (s_ (s_ (f_ i_)))) (m_ (f_ (s_ (s_ (f_ i_)))) (m_ (f_ (s_ (s_ (f_ i_)))) (f_ (s_ (s_ (f_ i_)))))))), b⟩) (n_ rfl (ae_ rfl rfl) rfl (n_ rfl (ae_ rfl rfl) rfl (ag_ (X_ 10 rfl (by kernel_rfl) (bi_ (news := List.flatMap aO_ [(Fc.b f)]) cN_ hw11 rfl rfl (f_ E_) rfl (dD_ (f_ (s_ (s_ i_)))) (fun u hu => aK_ cn_ hu) (by simp only [maxLen]; omega) (by omega) rfl fun sv6 Hr6 hr6 => ?_))))))))
     have hq6 : aQ_ 9 1 sv6 (List.length ((lat x.frm ((Fc.a f), (Fc.r f))) ++ [(Fc.b f)])) (List.flatMap aO_ ((lat x.frm ((Fc.a f), (Fc.r f))) ++ [(Fc.b f)])) Hr6 := by rw [List.length_append, List.flatMap_append]; exact hr6
     refine e_ (w_ rfl (N_ (fun _ a b => ⟨Vw.sat.sub (a.perm (m_ (s_ (f_ (s_ (f_ i_)))) (m_ (s_ (f_ (s_ (f_ i_)))) (m_ (s_ (f_ (s_ (f_ i_)))) (s_ (f_ (s_ (f_ i_)))))))), b⟩) (X_ 12 rfl (by kernel_rfl) (cd_ (k := ((Fc.a f), (Fc.r f))) (dd := (Fc.b f)) ho11 (by rw [dh_]; exact hq6) rfl rfl rfl (dg_ (m_ (s_ i_) (O_ E_ E_))) fun H12 hM12 => ?_))))
     refine e_ (w_ rfl (N_ (fun _ a b => ⟨Vw.sat.sub (a.perm (m_ (s_ (f_ i_)) (m_ (s_ (f_ i_)) (m_ (s_ (f_ i_)) (s_ (f_ i_)))))), b⟩) (ac_ (by kernel_rfl) (b_ rfl (aj_ (bu_ (s_ i_) (bu_ (s_ i_) (bu_ (s_ i_) (bu_ (s_ i_) (df_ (s_ i_)))))) ?_)))))
     refine aR_ ((b12, .cells #[str (Fc.b f)] 9 (0, 0)) :: ((b11, .cells #[str (Fc.a f), str (Fc.r f)] 145 (0, 0)) :: ((b10, .cells #[str (Fc.b f), str (Fc.r f)] 145 (0, 0)) :: ((b5, .cells #[str (Fc.a f)] 9 (0, 0)) :: ((b1, .cells (Fc.cells f).toArray 41 (0, 0)) :: []))))) (by kernel_rfl) ?_
     refine ah_ 6 [0, 1, 2, 3, 4, 5, 6] (by kernel_rfl) (fun _ a b => ⟨Vw.sat.sub (a.perm (m_ i_ (m_ i_ (m_ i_ (m_ i_ i_))))), b⟩) (n_ rfl (d_ rfl) rfl (n_ rfl (ar_ rfl) rfl (n_ rfl (l_ J_ rfl rfl rfl dx_) rfl (n_ rfl (al_ ec_ rfl (fun v _ h => by exact h.1) rfl) rfl (n_ rfl (Y_ 2 dA_ by_ rfl rfl rfl) rfl (n_ rfl (l_ o_ rfl rfl rfl j_) rfl (n_ rfl (u_ 4 q_ rfl rfl rfl) rfl (ag_ (X_ 7 rfl (by kernel_rfl) ?_)))))))))
     refine aJ_ D_ j_ bm_ rfl rfl rfl rfl rfl rfl fun b13 => ?_
     refine e_ (w_ rfl (N_ (fun _ a b => ⟨Vw.sat.sub (a.perm (m_ (f_ i_) (m_ (f_ i_) (m_ (f_ i_) (m_ (f_ i_) (f_ i_)))))), b⟩) (X_ 8 rfl (by kernel_rfl) ?_)))
     have hbb13 := (hyl ((Fc.b f), (Fc.r f))).2.1
     refine dF_ (k := ((Fc.b f), (Fc.r f))) cX_ hi ch_ bI_ rfl rfl (f_ (f_ (f_ (f_ (f_ (f_ (s_ (s_ (s_ E_))))))))) rfl fun es13 ce13 ie13 se13 ve13 Hk13 Hx13 ho13 hw13 => ?_
     refine e_ (w_ rfl (N_ (fun _ a b => ⟨Vw.sat.sub (a.perm (m_ (f_ (s_ (s_ (f_ i_)))) (m_ (f_ (s_ (s_ (f_ i_)))) (m_ (f_ (s_ (s_ (f_ i_)))) (m_ (f_ (s_ (s_ (f_ i_)))) (f_ (s_ (s_ (f_ i_))))))))), b⟩) (ah_ 2 [9, 11] (by kernel_rfl) (fun _ a b => ⟨Vw.sat.sub (a.perm (m_ (f_ (s_ (s_ (f_ i_)))) (m_ (f_ (s_ (s_ (f_ i_)))) (m_ (f_ (s_ (s_ (f_ i_)))) (m_ (f_ (s_ (s_ (f_ i_)))) (f_ (s_ (s_ (f_ i_))))))))), b⟩) (n_ rfl (ae_ rfl rfl) rfl (n_ rfl (ae_ rfl rfl) rfl (ag_ (X_ 10 rfl (by kernel_rfl) (bi_ (news := List.flatMap aO_ [(Fc.a f)]) cN_ hw13 rfl rfl (f_ E_) rfl (dD_ (f_ (s_ (s_ i_)))) (fun u hu => aK_ cn_ hu) (by simp only [maxLen]; omega) (by omega) rfl fun sv7 Hr7 hr7 => ?_))))))))
     have hq7 : aQ_ 9 1 sv7 (List.length ((lat x.into ((Fc.b f), (Fc.r f))) ++ [(Fc.a f)])) (List.flatMap aO_ ((lat x.into ((Fc.b f), (Fc.r f))) ++ [(Fc.a f)])) Hr7 := by rw [List.length_append, List.flatMap_append]; exact hr7
     refine e_ (w_ rfl (N_ (fun _ a b => ⟨Vw.sat.sub (a.perm (m_ (s_ (f_ (s_ (f_ i_)))) (m_ (s_ (f_ (s_ (f_ i_)))) (m_ (s_ (f_ (s_ (f_ i_)))) (m_ (s_ (f_ (s_ (f_ i_)))) (s_ (f_ (s_ (f_ i_))))))))), b⟩) (X_ 12 rfl (by kernel_rfl) (cd_ (k := ((Fc.b f), (Fc.r f))) (dd := (Fc.a f)) ho13 (by rw [dh_]; exact hq7) rfl rfl rfl (dg_ (m_ (s_ i_) (O_ E_ E_))) fun H14 hM14 => ?_))))
     refine e_ (w_ rfl (N_ (fun _ a b => ⟨Vw.sat.sub (a.perm (m_ (s_ (f_ i_)) (m_ (s_ (f_ i_)) (m_ (s_ (f_ i_)) (m_ (s_ (f_ i_)) (s_ (f_ i_))))))), b⟩) (ac_ (by kernel_rfl) (bx_ rfl ?_))))
     exact dv_ es_ ⟨IxH.mk Ha H6 H12 H14 Hr Hm, by have e0 : x.add (decide (f ∈ fm)) f = { x with under := (x.under ++ [((Fc.b f), (Fc.a f))]), frm := (x.frm ++ [(((Fc.a f), (Fc.r f)), (Fc.b f))]), into := (x.into ++ [(((Fc.b f), (Fc.r f)), (Fc.a f))]) } := (by unfold Ix.add; rw [if_neg (by omega), if_pos (by assumption)]); rw [e0]; exact ⟨ha, hM6, hM12, hM14, hr, hm⟩⟩ rfl (O_ (s_ (f_ (f_ (f_ (f_ (f_ (f_ (s_ (s_ E_))))))))) (O_ (s_ (f_ (f_ (f_ (f_ (f_ (f_ (s_ E_)))))))) (O_ (s_ (f_ (f_ (f_ (f_ (f_ (f_ E_))))))) (O_ E_ (O_ (f_ (f_ (f_ (f_ (f_ (f_ E_)))))) (O_ (f_ (f_ (f_ (f_ (f_ (f_ E_)))))) (f_ (f_ (f_ (f_ (f_ S_))))))))))) (fun _ _ _ => trivial)
   ·
    refine aJ_ D_ j_ bm_ rfl rfl rfl rfl rfl rfl fun b14 => ?_
    refine e_ (w_ rfl (N_ (fun _ a b => ⟨Vw.sat.sub (a.perm (f_ (f_ i_))), b⟩) (X_ 12 rfl (by kernel_rfl) (a_ (gz_ (k := (Fc.b f)) hu_ ho5 cE_ bI_ rfl rfl 1 rfl) rfl (e_ (w_ rfl (N_ (fun _ a b => ⟨Vw.sat.sub (a.perm (f_ (f_ i_))), b⟩) (X_ 16 rfl (by kernel_rfl) (bi_ (news := List.flatMap aO_ [(Fc.a f)]) cN_ hw5 rfl rfl (f_ (f_ (f_ E_))) rfl (cy_ 0 rfl) (fun u hu => aK_ cn_ hu) (by simp only [maxLen]; omega) (by omega) rfl fun sv8 Hr8 hr8 => ?_)))))))))
    have hq8 : aQ_ 9 1 sv8 (List.length ((lat x.under (Fc.b f)) ++ [(Fc.a f)])) (List.flatMap aO_ ((lat x.under (Fc.b f)) ++ [(Fc.a f)])) Hr8 := by rw [List.length_append, List.flatMap_append]; exact hr8
    refine e_ (w_ rfl (N_ (fun _ a b => ⟨Vw.sat.sub (a.perm (s_ (f_ (f_ i_)))), b⟩) (X_ 17 rfl (by kernel_rfl) (fZ_ (k := (Fc.b f)) (dd := (Fc.a f)) hu_ ho5 (by rw [dh_]; exact hq8) (.inr rfl) cE_ rfl rfl rfl (dg_ (m_ (s_ (f_ i_)) (O_ E_ (f_ (f_ E_))))) fun H15 hM15 => ?_))))
    refine e_ (w_ rfl (N_ (fun _ a b => ⟨Vw.sat.sub (a.perm (s_ (f_ i_))), b⟩) (ac_ (by kernel_rfl) (b_ rfl (aj_ (bu_ (s_ i_) (df_ (s_ i_))) (h_ ?_))))))
    refine aS_ (by kernel_rfl) ?_
    refine ah_ 4 [0, 1, 2, 3, 4, 5, 6, 7, 8, 9] (by kernel_rfl) (fun _ a b => ⟨a, b⟩) (n_ rfl (l_ o_ rfl rfl rfl j_) rfl (n_ rfl (u_ 1 q_ rfl rfl rfl) rfl (n_ rfl (l_ o_ rfl rfl rfl j_) rfl (n_ rfl (u_ 1 q_ rfl rfl rfl) rfl (n_ rfl (ap_ eT_ rfl rfl) rfl (n_ rfl (l_ o_ rfl rfl rfl j_) rfl (n_ rfl (u_ 1 q_ rfl rfl rfl) rfl (n_ rfl (l_ o_ rfl rfl rfl j_) rfl (n_ rfl (u_ 1 q_ rfl rfl rfl) rfl ?_)))))))))
    refine n_ rfl (ap_ eT_ rfl rfl) rfl (ag_ ?_)
    refine fr_ 10 11 rfl rfl (by kernel_rfl) ?_ ?_
    ·
     refine ao_ cK_ rfl fun b15 => ?_
     refine e_ (w_ rfl (N_ (fun _ a b => ⟨a.tail, b⟩) (X_ 11 rfl (by kernel_rfl) (ao_ cK_ rfl fun b16 => ?_))))
     refine e_ (w_ rfl (N_ (fun _ a b => ⟨a.tail.tail, b⟩) (X_ 12 rfl (by kernel_rfl) (Q_ 1 by_ rfl rfl rfl rfl rfl rfl (e_ (w_ rfl (N_ (fun _ a b => ⟨a.tail.tail, b⟩) (X_ 13 rfl (by kernel_rfl) (Q_ 0 by_ rfl rfl rfl rfl rfl rfl ?_)))))))))
     refine e_ (w_ rfl (N_ (fun _ a b => ⟨a.tail.tail, b⟩) (ac_ (by kernel_rfl) (b_ rfl (h_ ?_)))))
     refine aR_ ((b16, .cells #[str (Fc.b f), str (Fc.r f)] 145 (0, 0)) :: ((b15, .cells #[str (Fc.a f), str (Fc.r f)] 145 (0, 0)) :: ((b14, .cells #[str (Fc.a f)] 9 (0, 0)) :: ((b1, .cells (Fc.cells f).toArray 41 (0, 0)) :: [])))) (by kernel_rfl) ?_
     refine ah_ 6 [0, 1, 2, 3, 4, 5, 6] (by kernel_rfl) (fun _ a b => ⟨Vw.sat.sub (a.perm (m_ i_ (m_ i_ (m_ i_ i_)))), b⟩) (n_ rfl (d_ rfl) rfl (n_ rfl (ar_ rfl) rfl (n_ rfl (l_ J_ rfl rfl rfl dx_) rfl (n_ rfl (al_ ec_ rfl (fun v _ h => by exact h.1) rfl) rfl (n_ rfl (Y_ 1 dA_ by_ rfl rfl rfl) rfl (n_ rfl (l_ o_ rfl rfl rfl j_) rfl (n_ rfl (u_ 3 q_ rfl rfl rfl) rfl (ag_ (X_ 7 rfl (by kernel_rfl) ?_)))))))))
     refine aJ_ D_ j_ bm_ rfl rfl rfl rfl rfl rfl fun b17 => ?_
     refine e_ (w_ rfl (N_ (fun _ a b => ⟨Vw.sat.sub (a.perm (m_ (f_ i_) (m_ (f_ i_) (m_ (f_ i_) (f_ i_))))), b⟩) (X_ 8 rfl (by kernel_rfl) ?_)))
     have hbb16 := (hyl ((Fc.a f), (Fc.r f))).1
     refine dF_ (k := ((Fc.a f), (Fc.r f))) cX_ ho ch_ bI_ rfl rfl (f_ (f_ (f_ (f_ (f_ (s_ (s_ E_))))))) rfl fun es16 ce16 ie16 se16 ve16 Hk16 Hx16 ho16 hw16 => ?_
     refine e_ (w_ rfl (N_ (fun _ a b => ⟨Vw.sat.sub (a.perm (m_ (f_ (s_ (s_ (f_ i_)))) (m_ (f_ (s_ (s_ (f_ i_)))) (m_ (f_ (s_ (s_ (f_ i_)))) (f_ (s_ (s_ (f_ i_)))))))), b⟩) (ah_ 2 [9, 11] (by kernel_rfl) (fun _ a b => ⟨Vw.sat.sub (a.perm (m_ (f_ (s_ (s_ (f_ i_)))) (m_ (f_ (s_ (s_ (f_ i_)))) (m_ (f_ (s_ (s_ (f_ i_)))) (f_ (s_ (s_ (f_ i_)))))))), b⟩) (n_ rfl (ae_ rfl rfl) rfl (n_ rfl (ae_ rfl rfl) rfl (ag_ (X_ 10 rfl (by kernel_rfl) (bi_ (news := List.flatMap aO_ [(Fc.b f)]) cN_ hw16 rfl rfl (f_ E_) rfl (dD_ (f_ (s_ (s_ i_)))) (fun u hu => aK_ cn_ hu) (by simp only [maxLen]; omega) (by omega) rfl fun sv9 Hr9 hr9 => ?_))))))))
     have hq9 : aQ_ 9 1 sv9 (List.length ((lat x.frm ((Fc.a f), (Fc.r f))) ++ [(Fc.b f)])) (List.flatMap aO_ ((lat x.frm ((Fc.a f), (Fc.r f))) ++ [(Fc.b f)])) Hr9 := by rw [List.length_append, List.flatMap_append]; exact hr9
     refine e_ (w_ rfl (N_ (fun _ a b => ⟨Vw.sat.sub (a.perm (m_ (s_ (f_ (s_ (f_ i_)))) (m_ (s_ (f_ (s_ (f_ i_)))) (m_ (s_ (f_ (s_ (f_ i_)))) (s_ (f_ (s_ (f_ i_)))))))), b⟩) (X_ 12 rfl (by kernel_rfl) (cd_ (k := ((Fc.a f), (Fc.r f))) (dd := (Fc.b f)) ho16 (by rw [dh_]; exact hq9) rfl rfl rfl (dg_ (m_ (s_ i_) (O_ E_ E_))) fun H17 hM17 => ?_))))
     refine e_ (w_ rfl (N_ (fun _ a b => ⟨Vw.sat.sub (a.perm (m_ (s_ (f_ i_)) (m_ (s_ (f_ i_)) (m_ (s_ (f_ i_)) (s_ (f_ i_)))))), b⟩) (ac_ (by kernel_rfl) (b_ rfl (aj_ (bu_ (s_ i_) (bu_ (s_ i_) (bu_ (s_ i_) (bu_ (s_ i_) (df_ (s_ i_)))))) ?_)))))
     refine aR_ ((b17, .cells #[str (Fc.b f)] 9 (0, 0)) :: ((b16, .cells #[str (Fc.b f), str (Fc.r f)] 145 (0, 0)) :: ((b15, .cells #[str (Fc.a f), str (Fc.r f)] 145 (0, 0)) :: ((b14, .cells #[str (Fc.a f)] 9 (0, 0)) :: ((b1, .cells (Fc.cells f).toArray 41 (0, 0)) :: []))))) (by kernel_rfl) ?_
     refine ah_ 6 [0, 1, 2, 3, 4, 5, 6] (by kernel_rfl) (fun _ a b => ⟨Vw.sat.sub (a.perm (m_ i_ (m_ i_ (m_ i_ (m_ i_ i_))))), b⟩) (n_ rfl (d_ rfl) rfl (n_ rfl (ar_ rfl) rfl (n_ rfl (l_ J_ rfl rfl rfl dx_) rfl (n_ rfl (al_ ec_ rfl (fun v _ h => by exact h.1) rfl) rfl (n_ rfl (Y_ 1 dA_ by_ rfl rfl rfl) rfl (n_ rfl (l_ o_ rfl rfl rfl j_) rfl (n_ rfl (u_ 4 q_ rfl rfl rfl) rfl (ag_ (X_ 7 rfl (by kernel_rfl) ?_)))))))))
     refine aJ_ D_ j_ bm_ rfl rfl rfl rfl rfl rfl fun b18 => ?_
     refine e_ (w_ rfl (N_ (fun _ a b => ⟨Vw.sat.sub (a.perm (m_ (f_ i_) (m_ (f_ i_) (m_ (f_ i_) (m_ (f_ i_) (f_ i_)))))), b⟩) (X_ 8 rfl (by kernel_rfl) ?_)))
     have hbb18 := (hyl ((Fc.b f), (Fc.r f))).2.1
     refine dF_ (k := ((Fc.b f), (Fc.r f))) cX_ hi ch_ bI_ rfl rfl (f_ (f_ (f_ (f_ (f_ (f_ (s_ (s_ (s_ E_))))))))) rfl fun es18 ce18 ie18 se18 ve18 Hk18 Hx18 ho18 hw18 => ?_
     refine e_ (w_ rfl (N_ (fun _ a b => ⟨Vw.sat.sub (a.perm (m_ (f_ (s_ (s_ (f_ i_)))) (m_ (f_ (s_ (s_ (f_ i_)))) (m_ (f_ (s_ (s_ (f_ i_)))) (m_ (f_ (s_ (s_ (f_ i_)))) (f_ (s_ (s_ (f_ i_))))))))), b⟩) (ah_ 2 [9, 11] (by kernel_rfl) (fun _ a b => ⟨Vw.sat.sub (a.perm (m_ (f_ (s_ (s_ (f_ i_)))) (m_ (f_ (s_ (s_ (f_ i_)))) (m_ (f_ (s_ (s_ (f_ i_)))) (m_ (f_ (s_ (s_ (f_ i_)))) (f_ (s_ (s_ (f_ i_))))))))), b⟩) (n_ rfl (ae_ rfl rfl) rfl (n_ rfl (ae_ rfl rfl) rfl (ag_ (X_ 10 rfl (by kernel_rfl) (bi_ (news := List.flatMap aO_ [(Fc.a f)]) cN_ hw18 rfl rfl (f_ E_) rfl (dD_ (f_ (s_ (s_ i_)))) (fun u hu => aK_ cn_ hu) (by simp only [maxLen]; omega) (by omega) rfl fun sv10 Hr10 hr10 => ?_))))))))
     have hq10 : aQ_ 9 1 sv10 (List.length ((lat x.into ((Fc.b f), (Fc.r f))) ++ [(Fc.a f)])) (List.flatMap aO_ ((lat x.into ((Fc.b f), (Fc.r f))) ++ [(Fc.a f)])) Hr10 := by rw [List.length_append, List.flatMap_append]; exact hr10
     refine e_ (w_ rfl (N_ (fun _ a b => ⟨Vw.sat.sub (a.perm (m_ (s_ (f_ (s_ (f_ i_)))) (m_ (s_ (f_ (s_ (f_ i_)))) (m_ (s_ (f_ (s_ (f_ i_)))) (m_ (s_ (f_ (s_ (f_ i_)))) (s_ (f_ (s_ (f_ i_))))))))), b⟩) (X_ 12 rfl (by kernel_rfl) (cd_ (k := ((Fc.b f), (Fc.r f))) (dd := (Fc.a f)) ho18 (by rw [dh_]; exact hq10) rfl rfl rfl (dg_ (m_ (s_ i_) (O_ E_ E_))) fun H19 hM19 => ?_))))
     refine e_ (w_ rfl (N_ (fun _ a b => ⟨Vw.sat.sub (a.perm (m_ (s_ (f_ i_)) (m_ (s_ (f_ i_)) (m_ (s_ (f_ i_)) (m_ (s_ (f_ i_)) (s_ (f_ i_))))))), b⟩) (ac_ (by kernel_rfl) (bx_ rfl ?_))))
     exact dv_ es_ ⟨IxH.mk Ha H15 H17 H19 Hr Hm, by have e0 : x.add (decide (f ∈ fm)) f = { x with under := (x.under ++ [((Fc.b f), (Fc.a f))]), frm := (x.frm ++ [(((Fc.a f), (Fc.r f)), (Fc.b f))]), into := (x.into ++ [(((Fc.b f), (Fc.r f)), (Fc.a f))]) } := (by unfold Ix.add; rw [if_neg (by omega), if_pos (by assumption)]); rw [e0]; exact ⟨ha, hM15, hM17, hM19, hr, hm⟩⟩ rfl (O_ (s_ (f_ (f_ (f_ (f_ (f_ (f_ (s_ (s_ E_))))))))) (O_ (s_ (f_ (f_ (f_ (f_ (f_ (f_ (s_ E_)))))))) (O_ (s_ (f_ (f_ (f_ (f_ (f_ (f_ E_))))))) (O_ E_ (O_ (f_ (f_ (f_ (f_ (f_ (f_ E_)))))) (O_ (f_ (f_ (f_ (f_ (f_ (f_ E_)))))) (f_ (f_ (f_ (f_ (f_ S_))))))))))) (fun _ _ _ => trivial)
    ·
     refine ao_ cK_ rfl fun b19 => ?_
     refine e_ (w_ rfl (N_ (fun _ a b => ⟨a.tail, b⟩) (X_ 10 rfl (by kernel_rfl) (ao_ cK_ rfl fun b20 => ?_))))
     refine e_ (w_ rfl (N_ (fun _ a b => ⟨a.tail.tail, b⟩) (X_ 12 rfl (by kernel_rfl) (Q_ 0 by_ rfl rfl rfl rfl rfl rfl (e_ (w_ rfl (N_ (fun _ a b => ⟨a.tail.tail, b⟩) (X_ 13 rfl (by kernel_rfl) (Q_ 1 by_ rfl rfl rfl rfl rfl rfl ?_)))))))))
     refine e_ (w_ rfl (N_ (fun _ a b => ⟨a.tail.tail, b⟩) (ac_ (by kernel_rfl) (b_ rfl (h_ ?_)))))
     refine aR_ ((b20, .cells #[str (Fc.a f), str (Fc.r f)] 145 (0, 0)) :: ((b19, .cells #[str (Fc.b f), str (Fc.r f)] 145 (0, 0)) :: ((b14, .cells #[str (Fc.a f)] 9 (0, 0)) :: ((b1, .cells (Fc.cells f).toArray 41 (0, 0)) :: [])))) (by kernel_rfl) ?_
     refine ah_ 6 [0, 1, 2, 3, 4, 5, 6] (by kernel_rfl) (fun _ a b => ⟨Vw.sat.sub (a.perm (m_ i_ (m_ i_ (m_ i_ i_)))), b⟩) (n_ rfl (d_ rfl) rfl (n_ rfl (ar_ rfl) rfl (n_ rfl (l_ J_ rfl rfl rfl dx_) rfl (n_ rfl (al_ ec_ rfl (fun v _ h => by exact h.1) rfl) rfl (n_ rfl (Y_ 0 dA_ by_ rfl rfl rfl) rfl (n_ rfl (l_ o_ rfl rfl rfl j_) rfl (n_ rfl (u_ 3 q_ rfl rfl rfl) rfl (ag_ (X_ 7 rfl (by kernel_rfl) ?_)))))))))
     refine aJ_ D_ j_ bm_ rfl rfl rfl rfl rfl rfl fun b21 => ?_
     refine e_ (w_ rfl (N_ (fun _ a b => ⟨Vw.sat.sub (a.perm (m_ (f_ i_) (m_ (f_ i_) (m_ (f_ i_) (f_ i_))))), b⟩) (X_ 8 rfl (by kernel_rfl) ?_)))
     have hbb20 := (hyl ((Fc.a f), (Fc.r f))).1
     refine dF_ (k := ((Fc.a f), (Fc.r f))) cX_ ho ch_ bI_ rfl rfl (f_ (f_ (f_ (f_ (f_ (s_ (s_ E_))))))) rfl fun es20 ce20 ie20 se20 ve20 Hk20 Hx20 ho20 hw20 => ?_
     refine e_ (w_ rfl (N_ (fun _ a b => ⟨Vw.sat.sub (a.perm (m_ (f_ (s_ (s_ (f_ i_)))) (m_ (f_ (s_ (s_ (f_ i_)))) (m_ (f_ (s_ (s_ (f_ i_)))) (f_ (s_ (s_ (f_ i_)))))))), b⟩) (ah_ 2 [9, 11] (by kernel_rfl) (fun _ a b => ⟨Vw.sat.sub (a.perm (m_ (f_ (s_ (s_ (f_ i_)))) (m_ (f_ (s_ (s_ (f_ i_)))) (m_ (f_ (s_ (s_ (f_ i_)))) (f_ (s_ (s_ (f_ i_)))))))), b⟩) (n_ rfl (ae_ rfl rfl) rfl (n_ rfl (ae_ rfl rfl) rfl (ag_ (X_ 10 rfl (by kernel_rfl) (bi_ (news := List.flatMap aO_ [(Fc.b f)]) cN_ hw20 rfl rfl (f_ E_) rfl (dD_ (f_ (s_ (s_ i_)))) (fun u hu => aK_ cn_ hu) (by simp only [maxLen]; omega) (by omega) rfl fun sv11 Hr11 hr11 => ?_))))))))
     have hq11 : aQ_ 9 1 sv11 (List.length ((lat x.frm ((Fc.a f), (Fc.r f))) ++ [(Fc.b f)])) (List.flatMap aO_ ((lat x.frm ((Fc.a f), (Fc.r f))) ++ [(Fc.b f)])) Hr11 := by rw [List.length_append, List.flatMap_append]; exact hr11
     refine e_ (w_ rfl (N_ (fun _ a b => ⟨Vw.sat.sub (a.perm (m_ (s_ (f_ (s_ (f_ i_)))) (m_ (s_ (f_ (s_ (f_ i_)))) (m_ (s_ (f_ (s_ (f_ i_)))) (s_ (f_ (s_ (f_ i_)))))))), b⟩) (X_ 12 rfl (by kernel_rfl) (cd_ (k := ((Fc.a f), (Fc.r f))) (dd := (Fc.b f)) ho20 (by rw [dh_]; exact hq11) rfl rfl rfl (dg_ (m_ (s_ i_) (O_ E_ E_))) fun H21 hM21 => ?_))))
     refine e_ (w_ rfl (N_ (fun _ a b => ⟨Vw.sat.sub (a.perm (m_ (s_ (f_ i_)) (m_ (s_ (f_ i_)) (m_ (s_ (f_ i_)) (s_ (f_ i_)))))), b⟩) (ac_ (by kernel_rfl) (b_ rfl (aj_ (bu_ (s_ i_) (bu_ (s_ i_) (bu_ (s_ i_) (bu_ (s_ i_) (df_ (s_ i_)))))) ?_)))))
     refine aR_ ((b21, .cells #[str (Fc.b f)] 9 (0, 0)) :: ((b20, .cells #[str (Fc.a f), str (Fc.r f)] 145 (0, 0)) :: ((b19, .cells #[str (Fc.b f), str (Fc.r f)] 145 (0, 0)) :: ((b14, .cells #[str (Fc.a f)] 9 (0, 0)) :: ((b1, .cells (Fc.cells f).toArray 41 (0, 0)) :: []))))) (by kernel_rfl) ?_
     refine ah_ 6 [0, 1, 2, 3, 4, 5, 6] (by kernel_rfl) (fun _ a b => ⟨Vw.sat.sub (a.perm (m_ i_ (m_ i_ (m_ i_ (m_ i_ i_))))), b⟩) (n_ rfl (d_ rfl) rfl (n_ rfl (ar_ rfl) rfl (n_ rfl (l_ J_ rfl rfl rfl dx_) rfl (n_ rfl (al_ ec_ rfl (fun v _ h => by exact h.1) rfl) rfl (n_ rfl (Y_ 2 dA_ by_ rfl rfl rfl) rfl (n_ rfl (l_ o_ rfl rfl rfl j_) rfl (n_ rfl (u_ 4 q_ rfl rfl rfl) rfl (ag_ (X_ 7 rfl (by kernel_rfl) ?_)))))))))
     refine aJ_ D_ j_ bm_ rfl rfl rfl rfl rfl rfl fun b22 => ?_
     refine e_ (w_ rfl (N_ (fun _ a b => ⟨Vw.sat.sub (a.perm (m_ (f_ i_) (m_ (f_ i_) (m_ (f_ i_) (m_ (f_ i_) (f_ i_)))))), b⟩) (X_ 8 rfl (by kernel_rfl) ?_)))
     have hbb22 := (hyl ((Fc.b f), (Fc.r f))).2.1
     refine dF_ (k := ((Fc.b f), (Fc.r f))) cX_ hi ch_ bI_ rfl rfl (f_ (f_ (f_ (f_ (f_ (f_ (s_ (s_ (s_ E_))))))))) rfl fun es22 ce22 ie22 se22 ve22 Hk22 Hx22 ho22 hw22 => ?_
     refine e_ (w_ rfl (N_ (fun _ a b => ⟨Vw.sat.sub (a.perm (m_ (f_ (s_ (s_ (f_ i_)))) (m_ (f_ (s_ (s_ (f_ i_)))) (m_ (f_ (s_ (s_ (f_ i_)))) (m_ (f_ (s_ (s_ (f_ i_)))) (f_ (s_ (s_ (f_ i_))))))))), b⟩) (ah_ 2 [9, 11] (by kernel_rfl) (fun _ a b => ⟨Vw.sat.sub (a.perm (m_ (f_ (s_ (s_ (f_ i_)))) (m_ (f_ (s_ (s_ (f_ i_)))) (m_ (f_ (s_ (s_ (f_ i_)))) (m_ (f_ (s_ (s_ (f_ i_)))) (f_ (s_ (s_ (f_ i_))))))))), b⟩) (n_ rfl (ae_ rfl rfl) rfl (n_ rfl (ae_ rfl rfl) rfl (ag_ (X_ 10 rfl (by kernel_rfl) (bi_ (news := List.flatMap aO_ [(Fc.a f)]) cN_ hw22 rfl rfl (f_ E_) rfl (dD_ (f_ (s_ (s_ i_)))) (fun u hu => aK_ cn_ hu) (by simp only [maxLen]; omega) (by omega) rfl fun sv12 Hr12 hr12 => ?_))))))))
     have hq12 : aQ_ 9 1 sv12 (List.length ((lat x.into ((Fc.b f), (Fc.r f))) ++ [(Fc.a f)])) (List.flatMap aO_ ((lat x.into ((Fc.b f), (Fc.r f))) ++ [(Fc.a f)])) Hr12 := by rw [List.length_append, List.flatMap_append]; exact hr12
     refine e_ (w_ rfl (N_ (fun _ a b => ⟨Vw.sat.sub (a.perm (m_ (s_ (f_ (s_ (f_ i_)))) (m_ (s_ (f_ (s_ (f_ i_)))) (m_ (s_ (f_ (s_ (f_ i_)))) (m_ (s_ (f_ (s_ (f_ i_)))) (s_ (f_ (s_ (f_ i_))))))))), b⟩) (X_ 12 rfl (by kernel_rfl) (cd_ (k := ((Fc.b f), (Fc.r f))) (dd := (Fc.a f)) ho22 (by rw [dh_]; exact hq12) rfl rfl rfl (dg_ (m_ (s_ i_) (O_ E_ E_))) fun H23 hM23 => ?_))))
     refine e_ (w_ rfl (N_ (fun _ a b => ⟨Vw.sat.sub (a.perm (m_ (s_ (f_ i_)) (m_ (s_ (f_ i_)) (m_ (s_ (f_ i_)) (m_ (s_ (f_ i_)) (s_ (f_ i_))))))), b⟩) (ac_ (by kernel_rfl) (bx_ rfl ?_))))
     exact dv_ es_ ⟨IxH.mk Ha H15 H21 H23 Hr Hm, by have e0 : x.add (decide (f ∈ fm)) f = { x with under := (x.under ++ [((Fc.b f), (Fc.a f))]), frm := (x.frm ++ [(((Fc.a f), (Fc.r f)), (Fc.b f))]), into := (x.into ++ [(((Fc.b f), (Fc.r f)), (Fc.a f))]) } := (by unfold Ix.add; rw [if_neg (by omega), if_pos (by assumption)]); rw [e0]; exact ⟨ha, hM15, hM21, hM23, hr, hm⟩⟩ rfl (O_ (s_ (f_ (f_ (f_ (f_ (f_ (f_ (s_ (s_ E_))))))))) (O_ (s_ (f_ (f_ (f_ (f_ (f_ (f_ (s_ E_)))))))) (O_ (s_ (f_ (f_ (f_ (f_ (f_ (f_ E_))))))) (O_ E_ (O_ (f_ (f_ (f_ (f_ (f_ (f_ E_)))))) (O_ (f_ (f_ (f_ (f_ (f_ (f_ E_)))))) (f_ (f_ (f_ (f_ (f_ S_))))))))))) (fun _ _ _ => trivial)
 ·
  replace hr1 := eq_of_beq hr1
  refine t_ rfl ?_
  have hbb24 := (hxl (Fc.a f)).1
  refine mX_ hu_ (Fc.a f) ha (f_ E_) fun es24 ce24 ve24 Hk24 Hx24 hw24 ho24 => ?_
  refine aj_ (bu_ i_ (df_ (s_ (s_ i_)))) ?_
  refine aR_ ((b1, .cells (Fc.cells f).toArray 41 (0, 0)) :: []) (by kernel_rfl) ?_
  refine ah_ 4 [0, 1, 2, 3, 4, 5, 6, 7, 8, 9, 10, 11, 13, 14] (by kernel_rfl) (fun _ a b => ⟨Vw.sat.sub (a.perm (f_ i_)), b⟩) (n_ rfl (d_ rfl) rfl (n_ rfl (ar_ rfl) rfl (n_ rfl (l_ J_ rfl rfl rfl hf_) rfl (n_ rfl (al_ mv_ rfl (fun v _ h => by exact h.1) rfl) rfl (n_ rfl (l_ o_ rfl rfl rfl j_) rfl (n_ rfl (u_ 0 q_ rfl rfl rfl) rfl (n_ rfl (d_ rfl) rfl (n_ rfl (ar_ rfl) rfl (n_ rfl (l_ J_ rfl rfl rfl hf_) rfl ?_)))))))))
  refine n_ rfl (al_ mv_ rfl (fun v _ h => by exact h.1) rfl) rfl (n_ rfl (l_ o_ rfl rfl rfl j_) rfl (n_ rfl (u_ 0 q_ rfl rfl rfl) rfl (n_ rfl (l_ o_ rfl rfl rfl j_) rfl (n_ rfl (u_ 0 q_ rfl rfl rfl) rfl (ag_ ?_)))))
  refine fr_ 12 15 rfl rfl (by kernel_rfl) ?_ ?_
  ·
   refine a_ (gz_ (k := (Fc.a f)) hu_ ho24 cE_ bI_ rfl rfl 0 rfl) rfl (e_ (w_ rfl (N_ (fun _ a b => ⟨Vw.sat.sub (a.perm (f_ i_)), b⟩) (X_ 15 rfl (by kernel_rfl) (aJ_ D_ j_ bm_ rfl rfl rfl rfl rfl rfl fun b23 => ?_)))))
   refine e_ (w_ rfl (N_ (fun _ a b => ⟨Vw.sat.sub (a.perm (f_ (f_ i_))), b⟩) (X_ 16 rfl (by kernel_rfl) (bi_ (news := List.flatMap aO_ [(Fc.b f)]) cN_ hw24 rfl rfl (f_ (f_ (f_ E_))) rfl (cy_ 0 rfl) (fun u hu => aK_ cn_ hu) (by simp only [maxLen]; omega) (by omega) rfl fun sv13 Hr13 hr13 => ?_))))
   have hq13 : aQ_ 9 1 sv13 (List.length ((lat x.above (Fc.a f)) ++ [(Fc.b f)])) (List.flatMap aO_ ((lat x.above (Fc.a f)) ++ [(Fc.b f)])) Hr13 := by rw [List.length_append, List.flatMap_append]; exact hr13
   refine e_ (w_ rfl (N_ (fun _ a b => ⟨Vw.sat.sub (a.perm (s_ (f_ (f_ i_)))), b⟩) (X_ 17 rfl (by kernel_rfl) (fZ_ (k := (Fc.a f)) (dd := (Fc.b f)) hu_ ho24 (by rw [dh_]; exact hq13) (.inr rfl) cE_ rfl rfl rfl (dg_ (m_ (s_ (f_ i_)) (O_ E_ (f_ (f_ E_))))) fun H25 hM25 => ?_))))
   refine e_ (w_ rfl (N_ (fun _ a b => ⟨Vw.sat.sub (a.perm (s_ (f_ i_))), b⟩) (ac_ (by kernel_rfl) (bx_ rfl ?_))))
   exact dv_ es_ ⟨IxH.mk H25 Hu Ho Hi Hr Hm, by have e0 : x.add (decide (f ∈ fm)) f = { x with above := (x.above ++ [((Fc.a f), (Fc.b f))]) } := (by unfold Ix.add; rw [if_pos (by assumption)]); rw [e0]; exact ⟨hM25, hu, ho, hi, hr, hm⟩⟩ rfl (O_ E_ (O_ (f_ (f_ E_)) (O_ (f_ (f_ E_)) (O_ (f_ (f_ E_)) (O_ (f_ (f_ E_)) (O_ (f_ (f_ E_)) (f_ S_))))))) (fun _ _ _ => trivial)
  ·
   refine aJ_ D_ j_ bm_ rfl rfl rfl rfl rfl rfl fun b24 => ?_
   refine e_ (w_ rfl (N_ (fun _ a b => ⟨Vw.sat.sub (a.perm (f_ (f_ i_))), b⟩) (X_ 12 rfl (by kernel_rfl) (a_ (gz_ (k := (Fc.a f)) hu_ ho24 cE_ bI_ rfl rfl 1 rfl) rfl (e_ (w_ rfl (N_ (fun _ a b => ⟨Vw.sat.sub (a.perm (f_ (f_ i_))), b⟩) (X_ 16 rfl (by kernel_rfl) (bi_ (news := List.flatMap aO_ [(Fc.b f)]) cN_ hw24 rfl rfl (f_ (f_ (f_ E_))) rfl (cy_ 0 rfl) (fun u hu => aK_ cn_ hu) (by simp only [maxLen]; omega) (by omega) rfl fun sv14 Hr14 hr14 => ?_)))))))))
   have hq14 : aQ_ 9 1 sv14 (List.length ((lat x.above (Fc.a f)) ++ [(Fc.b f)])) (List.flatMap aO_ ((lat x.above (Fc.a f)) ++ [(Fc.b f)])) Hr14 := by rw [List.length_append, List.flatMap_append]; exact hr14
   refine e_ (w_ rfl (N_ (fun _ a b => ⟨Vw.sat.sub (a.perm (s_ (f_ (f_ i_)))), b⟩) (X_ 17 rfl (by kernel_rfl) (fZ_ (k := (Fc.a f)) (dd := (Fc.b f)) hu_ ho24 (by rw [dh_]; exact hq14) (.inr rfl) cE_ rfl rfl rfl (dg_ (m_ (s_ (f_ i_)) (O_ E_ (f_ (f_ E_))))) fun H26 hM26 => ?_))))
   refine e_ (w_ rfl (N_ (fun _ a b => ⟨Vw.sat.sub (a.perm (s_ (f_ i_))), b⟩) (ac_ (by kernel_rfl) (bx_ rfl ?_))))
   exact dv_ es_ ⟨IxH.mk H26 Hu Ho Hi Hr Hm, by have e0 : x.add (decide (f ∈ fm)) f = { x with above := (x.above ++ [((Fc.a f), (Fc.b f))]) } := (by unfold Ix.add; rw [if_pos (by assumption)]); rw [e0]; exact ⟨hM26, hu, ho, hi, hr, hm⟩⟩ rfl (O_ E_ (O_ (f_ (f_ E_)) (O_ (f_ (f_ E_)) (O_ (f_ (f_ E_)) (O_ (f_ (f_ E_)) (O_ (f_ (f_ E_)) (f_ S_))))))) (fun _ _ _ => trivial)
end Go.Proofs.YtpdbbglpbngeiaaGreatDoor
namespace Go.Proofs.YtpdbbglpbngeiaaGreatDoor
open Go Go.Sx Go.Proofs
attribute [local irreducible] Code.wp wpList wpAnyH
open Go.Vs
theorem go_ (x : Pc) (ro at' : Str) (pm : List (Ky × Pc)) (bx bg : Nat) (g pb kb ab ub ob ib rb sb fb : Nat) (ev : Value) (lv : Value) (Hm : Hp) (hm : dO_ Ky.val Pc.cells 47 10 pm pb Hm) (hpl : pm.length ≤ 1000000000) : Tri Tryz.prog 142 #[str ro, str at', zp_ bx 0, zp_ bg 0] ((bx, .cells (Pc.cells x).toArray 47 (0, 0)) :: (bg, .cells #[zp_ g 0] 85 (0, 0)) :: (g, .cells #[.map (some pb), lv, .map (some kb), ev, .map (some ab), .map (some ub), .map (some ob), .map (some ib), .map (some rb), .map (some sb), .map (some fb)] 94 (0, 0)) :: Hm) [] (fun _ : {H : Hp // dO_ Ky.val Pc.cells 47 10 (pm ++ [((Ky.mk (Pc.kind x) ro at'), x)]) pb H} => .tuple #[]) (fun y => (bx, .cells (Pc.cells x).toArray 47 (0, 0)) :: (bg, .cells #[zp_ g 0] 85 (0, 0)) :: (g, .cells #[.map (some pb), lv, .map (some kb), ev, .map (some ab), .map (some ub), .map (some ob), .map (some ib), .map (some rb), .map (some sb), .map (some fb)] 94 (0, 0)) :: y.1) (fun _ => []) := by
  refine T_ Tryz.func142 rfl rfl Tryz.ntmps142 rfl fun v0 => ?_
  refine h_ (c_ (a_ (l_ k_ rfl rfl rfl L_) rfl (a_ (u_ 0 P_ rfl rfl rfl) rfl (a_ (d_ rfl) rfl (a_ (d_ rfl) rfl (a_ (ap_ eq_ rfl rfl) rfl (ao_ Tryz.zeroValue171 rfl fun b1 => ?_)))))))
  refine Q_ 0 Tryz.sizeOf171 rfl rfl rfl rfl rfl rfl (e_ (b_ rfl ?_))
  refine aR_ ((b1, .cells #[.int .i64 (Pc.kind x), str ro, str at'] 171 (0, 0)) :: ((bx, .cells (Pc.cells x).toArray 47 (0, 0)) :: ((bg, .cells #[zp_ g 0] 85 (0, 0)) :: ((g, .cells #[.map (some pb), lv, .map (some kb), ev, .map (some ab), .map (some ub), .map (some ob), .map (some ib), .map (some rb), .map (some sb), .map (some fb)] 94 (0, 0)) :: [])))) (by kernel_rfl) ?_
  refine ah_ 6 [0, 1, 2, 3, 4, 5] (by kernel_rfl) (fun _ a b => ⟨Vw.sat.sub (a.perm (m_ i_ (m_ i_ (m_ i_ i_)))), b⟩) (n_ rfl (u_ 2 cA_ rfl rfl rfl) rfl (n_ rfl (ar_ rfl) rfl (n_ rfl (l_ J_ rfl rfl rfl dy_) rfl (n_ rfl (u_ 3 ed_ rfl rfl rfl) rfl (n_ rfl (Y_ 0 Tryz.isAgg171 Tryz.sizeOf171 rfl rfl rfl) rfl (n_ rfl (Y_ 1 aG_ K_ rfl rfl rfl) rfl (ag_ (X_ 6 rfl (by kernel_rfl) (aJ_ A_ K_ aX_ rfl rfl rfl rfl rfl rfl fun b2 => ?_)))))))))
  refine e_ (w_ rfl (N_ (fun _ a b => ⟨Vw.sat.sub (a.perm (m_ (f_ i_) (m_ (f_ i_) (m_ (f_ i_) (f_ i_))))), b⟩) (X_ 7 rfl (by kernel_rfl) ?_)))
  have hbb1 := Nat.le_trans (fn_ pm (Ky.mk (Pc.kind x) ro at')) hpl
  refine dF_ (k := (Ky.mk (Pc.kind x) ro at')) gf_ hm ci_ cr_ rfl rfl (f_ (f_ (f_ (f_ S_)))) rfl fun es1 ce1 ie1 se1 ve1 Hk1 Hx1 ho1 hw1 => ?_
  refine e_ (w_ rfl (N_ (fun _ a b => ⟨Vw.sat.sub (a.perm (m_ (f_ (s_ (s_ (f_ i_)))) (m_ (f_ (s_ (s_ (f_ i_)))) (m_ (f_ (s_ (s_ (f_ i_)))) (f_ (s_ (s_ (f_ i_)))))))), b⟩) (ah_ 2 [8, 10] (by kernel_rfl) (fun _ a b => ⟨Vw.sat.sub (a.perm (m_ (f_ (s_ (s_ (f_ i_)))) (m_ (f_ (s_ (s_ (f_ i_)))) (m_ (f_ (s_ (s_ (f_ i_)))) (f_ (s_ (s_ (f_ i_)))))))), b⟩) (n_ rfl (ae_ rfl rfl) rfl (n_ rfl (ae_ rfl rfl) rfl (ag_ (X_ 9 rfl (by kernel_rfl) (bi_ (news := List.flatMap Pc.cells [x]) ff_ hw1 rfl rfl (f_ E_) rfl (dD_ (f_ (s_ (s_ i_)))) (fun u hu => aK_ Pc.cells_one hu) (by simp only [maxLen]; omega) (by omega) rfl fun sv1 Hr1 hr1 => ?_))))))))
  have hq1 : aQ_ 47 10 sv1 (List.length ((lat pm (Ky.mk (Pc.kind x) ro at')) ++ [x])) (List.flatMap Pc.cells ((lat pm (Ky.mk (Pc.kind x) ro at')) ++ [x])) Hr1 := by rw [List.length_append, List.flatMap_append]; exact hr1
  refine e_ (w_ rfl (N_ (fun _ a b => ⟨Vw.sat.sub (a.perm (m_ (s_ (f_ (s_ (f_ i_)))) (m_ (s_ (f_ (s_ (f_ i_)))) (m_ (s_ (f_ (s_ (f_ i_)))) (s_ (f_ (s_ (f_ i_)))))))), b⟩) (X_ 11 rfl (by kernel_rfl) (cd_ (k := (Ky.mk (Pc.kind x) ro at')) (dd := x) ho1 (by rw [dh_]; exact hq1) rfl rfl rfl (dg_ (m_ (s_ i_) (O_ E_ E_))) fun H2 hM2 => ?_))))
  refine e_ (w_ rfl (N_ (fun _ a b => ⟨Vw.sat.sub (a.perm (m_ (s_ (f_ i_)) (m_ (s_ (f_ i_)) (m_ (s_ (f_ i_)) (s_ (f_ i_)))))), b⟩) (ac_ (by kernel_rfl) (bx_ rfl ?_))))
  exact dv_ Tryz.results142 ⟨H2, hM2⟩ rfl (m_ (s_ (f_ (f_ i_))) (m_ (s_ (f_ (f_ i_))) (m_ (s_ (f_ (f_ i_))) E_))) (fun _ _ _ => trivial)
theorem nZ_ (x : Pc) (pm : List (Ky × Pc)) (lps : List Str) (g pb kb ab ub ob ib rb sb fb : Nat) (ev : Value) (lv : Value) (Hm Hl : Hp) (hm : dO_ Ky.val Pc.cells 47 10 pm pb Hm) (hl : aQ_ 9 1 lv (List.length lps) (List.flatMap aO_ lps) Hl) (hpl : pm.length ≤ 900000000) (hll : lps.length ≤ 900000000) : Tri Tryz.prog 96 #[zp_ g 0, Pc.val x] ((g, .cells #[.map (some pb), lv, .map (some kb), ev, .map (some ab), .map (some ub), .map (some ob), .map (some ib), .map (some rb), .map (some sb), .map (some fb)] 94 (0, 0)) :: (Hm ++ Hl)) [] (fun _ : {y : Value × Hp × Hp // dO_ Ky.val Pc.cells 47 10 (pm ++ cM_ x) pb y.2.1 ∧ aQ_ 9 1 y.1 (List.length (lps ++ aH_ [x])) (List.flatMap aO_ (lps ++ aH_ [x])) y.2.2} => .tuple #[]) (fun y => (g, .cells #[.map (some pb), y.1.1, .map (some kb), ev, .map (some ab), .map (some ub), .map (some ob), .map (some ib), .map (some rb), .map (some sb), .map (some fb)] 94 (0, 0)) :: (y.1.2.1 ++ y.1.2.2)) (fun _ => []) := by
 refine T_ Tryz.func96 rfl rfl Tryz.ntmps96 rfl fun v0 => ?_
 refine h_ (c_ (bs_ rfl rfl fun b1 => ?_))
 refine bs_ rfl rfl fun b2 => ?_
 refine e_ (b_ rfl (h_ (c_ (a_ (cR_ rfl rfl) rfl (a_ (g_ rfl) rfl (e_ (b_ rfl (h_ (c_ ?_)))))))))
 refine a_ (l_ k_ rfl rfl rfl L_) rfl (a_ (u_ 0 P_ rfl rfl rfl) rfl (e_ (b_ rfl (R_ (h_ (h_ (c_ (x_ (aM_ rfl rfl) rfl fun r1 hr1 => ?_))))))))
 refine a_ (g_ rfl) rfl (e_ (b_ rfl ?_))
 cases r1
 ·
  replace hr1 := ne_of_beq_false hr1
  refine v_ rfl (h_ (c_ (x_ (aM_ rfl rfl) rfl fun r2 hr2 => ?_)))
  refine a_ (g_ rfl) rfl (e_ (b_ rfl ?_))
  cases r2
  ·
   replace hr2 := ne_of_beq_false hr2
   refine v_ rfl (c_ (x_ (aM_ rfl rfl) rfl fun r3 hr3 => ?_))
   refine a_ (g_ rfl) rfl (e_ (b_ rfl ?_))
   cases r3
   ·
    replace hr3 := ne_of_beq_false hr3
    refine v_ rfl (h_ (c_ (x_ (aM_ rfl rfl) rfl fun r4 hr4 => ?_)))
    refine a_ (g_ rfl) rfl (e_ (b_ rfl ?_))
    cases r4
    ·
     replace hr4 := ne_of_beq_false hr4
     refine v_ rfl (h_ (c_ (x_ (aM_ rfl rfl) rfl fun r5 hr5 => ?_)))
     refine a_ (g_ rfl) rfl (e_ (b_ rfl ?_))
     cases r5
     ·
      replace hr5 := ne_of_beq_false hr5
      refine v_ rfl (h_ (h_ (c_ (x_ (aM_ rfl rfl) rfl fun r6 hr6 => ?_))))
      refine a_ (g_ rfl) rfl (e_ (b_ rfl ?_))
      cases r6
      ·
       replace hr6 := ne_of_beq_false hr6
       refine v_ rfl (c_ (x_ (aM_ rfl rfl) rfl fun r7 hr7 => ?_))
       refine a_ (g_ rfl) rfl (e_ (b_ rfl ?_))
       cases r7
       ·
        replace hr7 := ne_of_beq_false hr7
        refine v_ rfl (h_ (c_ (x_ (aM_ rfl rfl) rfl fun r8 hr8 => ?_)))
        refine a_ (g_ rfl) rfl (e_ (b_ rfl ?_))
        cases r8
        ·
         replace hr8 := ne_of_beq_false hr8
         refine v_ rfl (h_ (c_ (x_ (aM_ rfl rfl) rfl fun r9 hr9 => ?_)))
         refine a_ (g_ rfl) rfl (e_ (b_ rfl ?_))
         cases r9
         ·
          replace hr9 := ne_of_beq_false hr9
          refine v_ rfl (z_ (bx_ rfl ?_))
          have e1 : pm = pm ++ cM_ x := by simp [cM_, *]
          have e2 : lps = lps ++ aH_ [x] := by simp [aH_, *]
          exact dv_ dc_ ⟨(lv, Hm, Hl), e1 ▸ hm, e2 ▸ hl⟩ rfl (m_ (f_ (f_ i_)) (O_ (f_ (f_ E_)) (f_ S_))) (fun _ _ _ => trivial)
         ·
          replace hr9 := eq_of_beq hr9
          refine t_ rfl ?_
          refine aR_ ((b2, .cells (Pc.cells x).toArray 47 (0, 0)) :: ((b1, .cells #[zp_ g 0] 85 (0, 0)) :: [])) (by kernel_rfl) ?_
          refine ah_ 6 [0, 1, 2, 3, 5, 6] (by kernel_rfl) (fun _ a b => ⟨Vw.sat.sub (a.perm (m_ i_ i_)), b⟩) (n_ rfl (u_ 1 cA_ rfl rfl rfl) rfl (n_ rfl (u_ 1 cA_ rfl rfl rfl) rfl (n_ rfl (ar_ rfl) rfl (n_ rfl (l_ J_ rfl rfl rfl da_) rfl (n_ rfl (l_ k_ rfl rfl rfl j_) rfl (n_ rfl (u_ 0 q_ rfl rfl rfl) rfl (ag_ ?_)))))))
          refine fr_ 4 7 rfl rfl (by kernel_rfl) ?_ ?_
          ·
           refine a_ (u_ 2 gu_ rfl rfl rfl) rfl (e_ (w_ rfl (N_ (fun _ a b => ⟨Vw.sat.sub (a.perm (m_ i_ i_)), b⟩) (X_ 7 rfl (by kernel_rfl) (aJ_ D_ j_ bm_ rfl rfl rfl rfl rfl rfl fun b3 => ?_)))))
           refine e_ (w_ rfl (N_ (fun _ a b => ⟨Vw.sat.sub (a.perm (m_ (f_ i_) (f_ i_))), b⟩) (X_ 8 rfl (by kernel_rfl) (bi_ (news := List.flatMap aO_ [(Pc.r x)]) cN_ hl rfl rfl (f_ (f_ (f_ (f_ bj_)))) rfl (cy_ 0 rfl) (fun u hu => aK_ cn_ hu) (by simp only [maxLen]; first | omega | (simp; omega)) (by first | omega | (simp; omega)) rfl fun sv1 Hr1 hr1 => ?_))))
           have hq1 : aQ_ 9 1 sv1 (List.length (lps ++ [(Pc.r x)])) (List.flatMap aO_ (lps ++ [(Pc.r x)])) Hr1 := by rw [List.length_append, List.flatMap_append]; exact hr1
           refine e_ (w_ rfl (N_ (fun _ a b => ⟨Vw.sat.sub (a.perm (m_ (s_ (f_ i_)) (s_ (f_ i_)))), b⟩) (ah_ 1 [9, 10] (by kernel_rfl) (fun _ a b => ⟨Vw.sat.sub (a.perm (m_ (s_ (f_ i_)) (s_ (f_ i_)))), b⟩) (n_ rfl (ar_ rfl) rfl (n_ rfl (l_ J_ rfl rfl rfl da_) rfl (ag_ (X_ 11 rfl (by kernel_rfl) (aj_ (bu_ (s_ i_) (bu_ (s_ i_) (bu_ (s_ i_) (df_ (s_ i_))))) (fX_ 3 hq1 da_ rfl rfl rfl rfl ?_)))))))))
           refine e_ (w_ rfl (N_ (fun _ a b => ⟨Vw.sat.sub (a.perm (m_ (f_ i_) (f_ i_))), b⟩) (ac_ (by kernel_rfl) (bx_ rfl ?_))))
           have e1 : pm = pm ++ cM_ x := by simp [cM_, *]
           have e2 : (lps ++ [(Pc.r x)]) = lps ++ aH_ [x] := by simp [aH_, *]
           exact dv_ dc_ ⟨(sv1, Hm, Hr1), e1 ▸ hm, e2 ▸ hq1⟩ rfl (m_ (f_ (f_ (f_ i_))) (O_ (f_ (f_ (f_ bj_))) (f_ (f_ S_)))) (fun _ _ _ => trivial)
          ·
           refine aJ_ D_ j_ bm_ rfl rfl rfl rfl rfl rfl fun b4 => ?_
           refine e_ (w_ rfl (N_ (fun _ a b => ⟨Vw.sat.sub (a.perm (m_ (f_ i_) (f_ i_))), b⟩) (X_ 4 rfl (by kernel_rfl) (a_ (u_ 3 gu_ rfl rfl rfl) rfl (e_ (w_ rfl (N_ (fun _ a b => ⟨Vw.sat.sub (a.perm (m_ (f_ i_) (f_ i_))), b⟩) (X_ 8 rfl (by kernel_rfl) (bi_ (news := List.flatMap aO_ [(Pc.r x)]) cN_ hl rfl rfl (f_ (f_ (f_ (f_ bj_)))) rfl (cy_ 0 rfl) (fun u hu => aK_ cn_ hu) (by simp only [maxLen]; first | omega | (simp; omega)) (by first | omega | (simp; omega)) rfl fun sv2 Hr2 hr2 => ?_)))))))))
           have hq2 : aQ_ 9 1 sv2 (List.length (lps ++ [(Pc.r x)])) (List.flatMap aO_ (lps ++ [(Pc.r x)])) Hr2 := by rw [List.length_append, List.flatMap_append]; exact hr2
           refine e_ (w_ rfl (N_ (fun _ a b => ⟨Vw.sat.sub (a.perm (m_ (s_ (f_ i_)) (s_ (f_ i_)))), b⟩) (ah_ 1 [9, 10] (by kernel_rfl) (fun _ a b => ⟨Vw.sat.sub (a.perm (m_ (s_ (f_ i_)) (s_ (f_ i_)))), b⟩) (n_ rfl (ar_ rfl) rfl (n_ rfl (l_ J_ rfl rfl rfl da_) rfl (ag_ (X_ 11 rfl (by kernel_rfl) (aj_ (bu_ (s_ i_) (bu_ (s_ i_) (bu_ (s_ i_) (df_ (s_ i_))))) (fX_ 3 hq2 da_ rfl rfl rfl rfl ?_)))))))))
           refine e_ (w_ rfl (N_ (fun _ a b => ⟨Vw.sat.sub (a.perm (m_ (f_ i_) (f_ i_))), b⟩) (ac_ (by kernel_rfl) (bx_ rfl ?_))))
           have e1 : pm = pm ++ cM_ x := by simp [cM_, *]
           have e2 : (lps ++ [(Pc.r x)]) = lps ++ aH_ [x] := by simp [aH_, *]
           exact dv_ dc_ ⟨(sv2, Hm, Hr2), e1 ▸ hm, e2 ▸ hq2⟩ rfl (m_ (f_ (f_ (f_ i_))) (O_ (f_ (f_ (f_ bj_))) (f_ (f_ S_)))) (fun _ _ _ => trivial)
        ·
         replace hr8 := eq_of_beq hr8
         refine t_ rfl (h_ (c_ (a_ (d_ rfl) rfl (a_ (l_ k_ rfl rfl rfl j_) rfl (a_ (u_ 0 q_ rfl rfl rfl) rfl (bh_ (go_ x (Pc.r x) [] pm b2 b1 g pb kb ab ub ob ib rb sb fb ev lv Hm hm (by first | omega | (simp; omega))) rfl rfl (m_ i_ (m_ i_ (m_ i_ E_))) (fun _ _ _ => by exact trivial) rfl fun ⟨HP1, hP1⟩ => ?_))))))
         dsimp only
         simp only [List.cons_append]
         refine e_ (b_ rfl (c_ (a_ (d_ rfl) rfl (a_ (l_ k_ rfl rfl rfl j_) rfl (a_ (u_ 0 q_ rfl rfl rfl) rfl (bh_ (go_ x [] (Pc.s x) (pm ++ [((Ky.mk (Pc.kind x) (Pc.r x) []), x)]) b2 b1 g pb kb ab ub ob ib rb sb fb ev lv HP1 hP1 (by first | omega | (simp; omega))) rfl rfl (m_ i_ (m_ i_ (m_ i_ E_))) (fun _ _ _ => by exact trivial) rfl fun ⟨HP2, hP2⟩ => ?_))))))
         dsimp only
         simp only [List.cons_append]
         refine e_ (bx_ rfl ?_)
         have e1 : ((pm ++ [((Ky.mk (Pc.kind x) (Pc.r x) []), x)]) ++ [((Ky.mk (Pc.kind x) [] (Pc.s x)), x)]) = pm ++ cM_ x := by simp [cM_, *]
         have e2 : lps = lps ++ aH_ [x] := by simp [aH_, *]
         exact dv_ dc_ ⟨(lv, HP2, Hl), e1 ▸ hP2, e2 ▸ hl⟩ rfl (m_ (f_ (f_ i_)) (O_ (f_ (f_ E_)) (f_ S_))) (fun _ _ _ => trivial)
       ·
        replace hr7 := eq_of_beq hr7
        refine t_ rfl (c_ (a_ (d_ rfl) rfl (a_ (l_ k_ rfl rfl rfl j_) rfl (a_ (u_ 0 q_ rfl rfl rfl) rfl (bh_ (go_ x (Pc.r x) [] pm b2 b1 g pb kb ab ub ob ib rb sb fb ev lv Hm hm (by first | omega | (simp; omega))) rfl rfl (m_ i_ (m_ i_ (m_ i_ E_))) (fun _ _ _ => by exact trivial) rfl fun ⟨HP3, hP3⟩ => ?_)))))
        dsimp only
        simp only [List.cons_append]
        refine e_ (bx_ rfl ?_)
        have e1 : (pm ++ [((Ky.mk (Pc.kind x) (Pc.r x) []), x)]) = pm ++ cM_ x := by simp [cM_, *]
        have e2 : lps = lps ++ aH_ [x] := by simp [aH_, *]
        exact dv_ dc_ ⟨(lv, HP3, Hl), e1 ▸ hP3, e2 ▸ hl⟩ rfl (m_ (f_ (f_ i_)) (O_ (f_ (f_ E_)) (f_ S_))) (fun _ _ _ => trivial)
      ·
       replace hr6 := eq_of_beq hr6
       refine t_ rfl (z_ (b_ rfl (t_ rfl (c_ (a_ (d_ rfl) rfl (a_ (l_ k_ rfl rfl rfl j_) rfl (a_ (u_ 0 q_ rfl rfl rfl) rfl (bh_ (go_ x (Pc.r x) [] pm b2 b1 g pb kb ab ub ob ib rb sb fb ev lv Hm hm (by first | omega | (simp; omega))) rfl rfl (m_ i_ (m_ i_ (m_ i_ E_))) (fun _ _ _ => by exact trivial) rfl fun ⟨HP4, hP4⟩ => ?_))))))))
       dsimp only
       simp only [List.cons_append]
       refine e_ (bx_ rfl ?_)
       have e1 : (pm ++ [((Ky.mk (Pc.kind x) (Pc.r x) []), x)]) = pm ++ cM_ x := by simp [cM_, *]
       have e2 : lps = lps ++ aH_ [x] := by simp [aH_, *]
       exact dv_ dc_ ⟨(lv, HP4, Hl), e1 ▸ hP4, e2 ▸ hl⟩ rfl (m_ (f_ (f_ i_)) (O_ (f_ (f_ E_)) (f_ S_))) (fun _ _ _ => trivial)
     ·
      replace hr5 := eq_of_beq hr5
      refine t_ rfl (h_ (c_ (a_ (d_ rfl) rfl (a_ (l_ k_ rfl rfl rfl j_) rfl (a_ (u_ 0 q_ rfl rfl rfl) rfl (bh_ (go_ x [] (Pc.a x) pm b2 b1 g pb kb ab ub ob ib rb sb fb ev lv Hm hm (by first | omega | (simp; omega))) rfl rfl (m_ i_ (m_ i_ (m_ i_ E_))) (fun _ _ _ => by exact trivial) rfl fun ⟨HP5, hP5⟩ => ?_))))))
      dsimp only
      simp only [List.cons_append]
      refine e_ (b_ rfl (c_ (a_ (d_ rfl) rfl (a_ (l_ k_ rfl rfl rfl j_) rfl (a_ (u_ 0 q_ rfl rfl rfl) rfl (a_ (l_ k_ rfl rfl rfl j_) rfl (a_ (u_ 0 q_ rfl rfl rfl) rfl (bh_ (go_ x (Pc.r x) (Pc.a x) (pm ++ [((Ky.mk (Pc.kind x) [] (Pc.a x)), x)]) b2 b1 g pb kb ab ub ob ib rb sb fb ev lv HP5 hP5 (by first | omega | (simp; omega))) rfl rfl (m_ i_ (m_ i_ (m_ i_ E_))) (fun _ _ _ => by exact trivial) rfl fun ⟨HP6, hP6⟩ => ?_))))))))
      dsimp only
      simp only [List.cons_append]
      refine e_ (bx_ rfl ?_)
      have e1 : ((pm ++ [((Ky.mk (Pc.kind x) [] (Pc.a x)), x)]) ++ [((Ky.mk (Pc.kind x) (Pc.r x) (Pc.a x)), x)]) = pm ++ cM_ x := by simp [cM_, *]
      have e2 : lps = lps ++ aH_ [x] := by simp [aH_, *]
      exact dv_ dc_ ⟨(lv, HP6, Hl), e1 ▸ hP6, e2 ▸ hl⟩ rfl (m_ (f_ (f_ i_)) (O_ (f_ (f_ E_)) (f_ S_))) (fun _ _ _ => trivial)
    ·
     replace hr4 := eq_of_beq hr4
     refine t_ rfl (h_ (c_ (a_ (d_ rfl) rfl (a_ (l_ k_ rfl rfl rfl j_) rfl (a_ (u_ 0 q_ rfl rfl rfl) rfl (bh_ (go_ x [] (Pc.a x) pm b2 b1 g pb kb ab ub ob ib rb sb fb ev lv Hm hm (by first | omega | (simp; omega))) rfl rfl (m_ i_ (m_ i_ (m_ i_ E_))) (fun _ _ _ => by exact trivial) rfl fun ⟨HP7, hP7⟩ => ?_))))))
     dsimp only
     simp only [List.cons_append]
     refine e_ (b_ rfl (h_ (c_ (a_ (l_ k_ rfl rfl rfl j_) rfl (a_ (u_ 0 q_ rfl rfl rfl) rfl (a_ (l_ k_ rfl rfl rfl j_) rfl (a_ (u_ 0 q_ rfl rfl rfl) rfl (x_ (dL_ rfl rfl) rfl fun r10 hr10 => ?_))))))))
     refine e_ (b_ rfl ?_)
     cases r10
     ·
      replace hr10 := bb_ hr10
      refine v_ rfl (z_ (bx_ rfl ?_))
      have e1 : (pm ++ [((Ky.mk (Pc.kind x) [] (Pc.a x)), x)]) = pm ++ cM_ x := by simp [cM_, *]
      have e2 : lps = lps ++ aH_ [x] := by simp [aH_, *]
      exact dv_ dc_ ⟨(lv, HP7, Hl), e1 ▸ hP7, e2 ▸ hl⟩ rfl (m_ (f_ (f_ i_)) (O_ (f_ (f_ E_)) (f_ S_))) (fun _ _ _ => trivial)
     ·
      replace hr10 := ba_ hr10
      refine t_ rfl (c_ (a_ (d_ rfl) rfl (a_ (l_ k_ rfl rfl rfl j_) rfl (a_ (u_ 0 q_ rfl rfl rfl) rfl (bh_ (go_ x [] (Pc.b x) (pm ++ [((Ky.mk (Pc.kind x) [] (Pc.a x)), x)]) b2 b1 g pb kb ab ub ob ib rb sb fb ev lv HP7 hP7 (by first | omega | (simp; omega))) rfl rfl (m_ i_ (m_ i_ (m_ i_ E_))) (fun _ _ _ => by exact trivial) rfl fun ⟨HP8, hP8⟩ => ?_)))))
      dsimp only
      simp only [List.cons_append]
      refine e_ (bx_ rfl ?_)
      have e1 : ((pm ++ [((Ky.mk (Pc.kind x) [] (Pc.a x)), x)]) ++ [((Ky.mk (Pc.kind x) [] (Pc.b x)), x)]) = pm ++ cM_ x := by simp [cM_, *]
      have e2 : lps = lps ++ aH_ [x] := by simp [aH_, *]
      exact dv_ dc_ ⟨(lv, HP8, Hl), e1 ▸ hP8, e2 ▸ hl⟩ rfl (m_ (f_ (f_ i_)) (O_ (f_ (f_ E_)) (f_ S_))) (fun _ _ _ => trivial)
   ·
    replace hr3 := eq_of_beq hr3
    refine t_ rfl (c_ (a_ (d_ rfl) rfl (a_ (l_ k_ rfl rfl rfl j_) rfl (a_ (u_ 0 q_ rfl rfl rfl) rfl (bh_ (go_ x [] (Pc.a x) pm b2 b1 g pb kb ab ub ob ib rb sb fb ev lv Hm hm (by first | omega | (simp; omega))) rfl rfl (m_ i_ (m_ i_ (m_ i_ E_))) (fun _ _ _ => by exact trivial) rfl fun ⟨HP9, hP9⟩ => ?_)))))
    dsimp only
    simp only [List.cons_append]
    refine e_ (bx_ rfl ?_)
    have e1 : (pm ++ [((Ky.mk (Pc.kind x) [] (Pc.a x)), x)]) = pm ++ cM_ x := by simp [cM_, *]
    have e2 : lps = lps ++ aH_ [x] := by simp [aH_, *]
    exact dv_ dc_ ⟨(lv, HP9, Hl), e1 ▸ hP9, e2 ▸ hl⟩ rfl (m_ (f_ (f_ i_)) (O_ (f_ (f_ E_)) (f_ S_))) (fun _ _ _ => trivial)
  ·
   replace hr2 := eq_of_beq hr2
   refine t_ rfl (z_ (b_ rfl (t_ rfl (c_ (a_ (d_ rfl) rfl (a_ (l_ k_ rfl rfl rfl j_) rfl (a_ (u_ 0 q_ rfl rfl rfl) rfl (bh_ (go_ x [] (Pc.a x) pm b2 b1 g pb kb ab ub ob ib rb sb fb ev lv Hm hm (by first | omega | (simp; omega))) rfl rfl (m_ i_ (m_ i_ (m_ i_ E_))) (fun _ _ _ => by exact trivial) rfl fun ⟨HP10, hP10⟩ => ?_))))))))
   dsimp only
   simp only [List.cons_append]
   refine e_ (bx_ rfl ?_)
   have e1 : (pm ++ [((Ky.mk (Pc.kind x) [] (Pc.a x)), x)]) = pm ++ cM_ x := by simp [cM_, *]
   have e2 : lps = lps ++ aH_ [x] := by simp [aH_, *]
   exact dv_ dc_ ⟨(lv, HP10, Hl), e1 ▸ hP10, e2 ▸ hl⟩ rfl (m_ (f_ (f_ i_)) (O_ (f_ (f_ E_)) (f_ S_))) (fun _ _ _ => trivial)
 ·
  replace hr1 := eq_of_beq hr1
  refine t_ rfl (z_ (b_ rfl (t_ rfl (c_ (a_ (d_ rfl) rfl (a_ (l_ k_ rfl rfl rfl j_) rfl (a_ (u_ 0 q_ rfl rfl rfl) rfl (bh_ (go_ x [] (Pc.a x) pm b2 b1 g pb kb ab ub ob ib rb sb fb ev lv Hm hm (by first | omega | (simp; omega))) rfl rfl (m_ i_ (m_ i_ (m_ i_ E_))) (fun _ _ _ => by exact trivial) rfl fun ⟨HP11, hP11⟩ => ?_))))))))
  dsimp only
  simp only [List.cons_append]
  refine e_ (bx_ rfl ?_)
  have e1 : (pm ++ [((Ky.mk (Pc.kind x) [] (Pc.a x)), x)]) = pm ++ cM_ x := by simp [cM_, *]
  have e2 : lps = lps ++ aH_ [x] := by simp [aH_, *]
  exact dv_ dc_ ⟨(lv, HP11, Hl), e1 ▸ hP11, e2 ▸ hl⟩ rfl (m_ (f_ (f_ i_)) (O_ (f_ (f_ E_)) (f_ S_))) (fun _ _ _ => trivial)
structure NewE where
  g : Nat
  pb : Nat
  kb : Nat
  ab : Nat
  ub : Nat
  ob : Nat
  ib : Nat
  rb : Nat
  sb : Nat
  fb : Nat
  lv : Value
  hm : Hp
  hl : Hp
def NewE.ok (ps : List Pc) (y : NewE) : Prop := dO_ Ky.val Pc.cells 47 10 (bg_ ps) y.pb y.hm ∧ aQ_ 9 1 y.lv (List.length (aH_ ps)) (List.flatMap aO_ (aH_ ps)) y.hl
def NewE.own (y : NewE) : Hp := (y.g, .cells #[.map (some y.pb), y.lv, .map (some y.kb), .nilFunc, .map (some y.ab), .map (some y.ub), .map (some y.ob), .map (some y.ib), .map (some y.rb), .map (some y.sb), .map (some y.fb)] 94 (0, 0)) :: (y.kb, .map #[] 0) :: (y.ab, .map #[] 0) :: (y.ub, .map #[] 0) :: (y.ob, .map #[] 0) :: (y.ib, .map #[] 0) :: (y.rb, .map #[] 0) :: (y.sb, .map #[] 0) :: (y.fb, .map #[] 0) :: (y.hm ++ y.hl)
theorem eX_ {p : List Pc} {i : Nat} {x : Pc} (h : p[i]? = some x) : uniq [] (List.take (i + 1) p) = if x.zf ∈ uniq [] (List.take i p) then uniq [] (List.take i p) else uniq [] (List.take i p) ++ [x.zf] := by
  have key : ∀ (l : List Pc) (r : List Pc), uniq l (r ++ [x]) = if x.zf ∈ uniq l r then uniq l r else uniq l r ++ [x.zf] := by
    intro l r
    induction r generalizing l with
    | nil => rfl
    | cons y r ih => exact ih _
  rw [List.take_add_one, h, Option.toList_some]
  exact key _ _
theorem ny_ (l : List Pc) (x : Pc) : bg_ (l ++ [x]) = bg_ l ++ cM_ x := by simp [bg_]
theorem kx_ (l : List Pc) (x : Pc) : aH_ (l ++ [x]) = aH_ l ++ aH_ [x] := by simp [aH_]
theorem oJ_ (x : Pc) : (cM_ x).length ≤ 2 := by unfold cM_; (repeat' split) <;> simp
theorem iL_ : ∀ l : List Pc, (bg_ l).length ≤ 2 * l.length
  | [] => by simp [bg_]
  | x :: l => by
    have := iL_ l
    have h2 := oJ_ x
    simp only [bg_, List.flatMap_cons, List.length_append, List.length_cons] at this ⊢
    omega
theorem id_ (l : List Pc) : (aH_ l).length ≤ l.length := by
  simp only [aH_, List.length_map]; exact List.length_filter_le _ _
theorem lE_ (p : List Pc) (pad : Option Addr) (pcap : Nat) (hp : p.length ≤ 100000000) : Tri Tryz.prog 54 #[.slice pad (List.length p) pcap] [] [az_ pad (List.flatMap Pc.cells p)] (fun y : {y : NewE // y.ok (uniq [] p)} => zp_ y.1.g 0) (fun y => y.1.own) (fun _ => []) := by
 refine T_ Tryz.func54 rfl rfl Tryz.ntmps54 rfl fun v0 => ?_
 refine h_ (c_ (a_ (g_ rfl) rfl (e_ (b_ rfl (h_ (c_ (dE_ rfl fun b1 => ?_)))))))
 refine dE_ rfl fun b2 => ?_
 refine dE_ rfl fun b3 => ?_
 refine dE_ rfl fun b4 => ?_
 refine dE_ rfl fun b5 => ?_
 refine dE_ rfl fun b6 => ?_
 refine dE_ rfl fun b7 => ?_
 refine dE_ rfl fun b8 => ?_
 refine dE_ rfl fun b9 => ?_
 refine a_ (ap_ strt94 rfl rfl) rfl (bs_ rfl rfl fun b10 => ?_)
 refine a_ (g_ rfl) rfl (e_ (b_ rfl (h_ (c_ (dE_ rfl fun b11 => ?_)))))
 refine a_ (g_ rfl) rfl (e_ (b_ rfl (h_ (h_ (c_ (a_ (d_ rfl) rfl (a_ (am_ A_ rfl) rfl (a_ (d_ rfl) rfl (e_ ?_)))))))))
 refine b_ rfl (R_ ?_)
 refine aL_ (ι := {y : Nat × Array MapEntry × Nat × Hp × Value × Hp // y.1 ≤ List.length p ∧ SetE Pc.val y.2.1 (uniq [] (List.take y.1 p)) ∧ dO_ Ky.val Pc.cells 47 10 (bg_ (uniq [] (List.take y.1 p))) b1 y.2.2.2.1 ∧ aQ_ 9 1 y.2.2.2.2.1 (List.length (aH_ (uniq [] (List.take y.1 p)))) (List.flatMap aO_ (aH_ (uniq [] (List.take y.1 p)))) y.2.2.2.2.2}) (fun y => [(3, zp_ b10 0), (4, .map (some b11)), (19, .slice pad (List.length p) pcap), (20, .int .i64 (List.length p : Int)), (21, .int .i64 (y.1.1 : Int))]) (fun y => ((b10, .cells #[.map (some b1), y.1.2.2.2.2.1, .map (some b2), .nilFunc, .map (some b3), .map (some b4), .map (some b5), .map (some b6), .map (some b7), .map (some b8), .map (some b9)] 94 (0, 0)) :: ((b11, .map y.1.2.1 y.1.2.2.1) :: ((b2, .map #[] 0) :: ((b3, .map #[] 0) :: ((b4, .map #[] 0) :: ((b5, .map #[] 0) :: ((b6, .map #[] 0) :: ((b7, .map #[] 0) :: ((b8, .map #[] 0) :: ((b9, .map #[] 0) :: (y.1.2.2.2.1 ++ y.1.2.2.2.2.2)))))))))))) (fun y => [az_ pad (List.flatMap Pc.cells p)]) (fun y => List.length p - y.1.1) ⟨((0 : Nat), #[], 0, [(b1, .map #[] 0)], (.slice none 0 0), []), by simp, by exact SetE.nil, by exact dO_.nil _ _, (aQ_.nil 9 1)⟩ ⟨rfl, rfl, rfl, rfl, rfl, trivial⟩ (m_ (f_ i_) (m_ i_ (m_ (f_ (f_ (f_ (f_ (f_ (f_ (f_ i_))))))) (m_ (f_ (f_ (f_ (f_ (f_ (f_ i_)))))) (m_ (f_ (f_ (f_ (f_ (f_ i_))))) (m_ (f_ (f_ (f_ (f_ i_)))) (m_ (f_ (f_ (f_ i_))) (m_ (f_ (f_ i_)) (m_ (f_ i_) (m_ i_ i_)))))))))) (fun _ _ h => h) ?_
 rintro ⟨⟨i, es, cs, Hm, sv_L, H_L⟩, hi, hE, hm, hr_L⟩
 dsimp only at hi hE hm hr_L ⊢
 have hbu := hk_ (List.take i p) []
 have hbt := List.length_take_le i p
 simp only [List.length_nil] at hbu
 have hbp : (bg_ (uniq [] (List.take i p))).length ≤ 900000000 := by have := iL_ (uniq [] (List.take i p)); omega
 have hbl : (aH_ (uniq [] (List.take i p))).length ≤ 900000000 := by have := id_ (uniq [] (List.take i p)); omega
 refine h_ (c_ (x_ (av_ rfl rfl) rfl fun r1 hr1 => ?_))
 refine e_ (b_ rfl (h_ ?_))
 cases r1
 ·
  replace hr1 := of_decide_eq_false hr1
  refine v_ rfl (au_ rfl (b_ rfl (h_ (c_ (a_ (d_ rfl) rfl (a_ (g_ rfl) rfl (e_ (b_ rfl (F_ ?_)))))))))
  have e9 : List.take i p = p := List.take_of_length_le (by omega)
  rw [e9] at hm hr_L
  exact aw_ Tryz.results54 ⟨NewE.mk b10 b1 b2 b3 b4 b5 b6 b7 b8 b9 sv_L Hm H_L, hm, hr_L⟩ rfl (m_ i_ (m_ (f_ i_) (m_ (f_ i_) (m_ (f_ i_) (m_ (f_ i_) (m_ (f_ i_) (m_ (f_ i_) (m_ (f_ i_) (m_ (f_ i_) (O_ (f_ E_) S_)))))))))) (fun _ _ _ => trivial)
 ·
  replace hr1 := of_decide_eq_true hr1
  have hlx1 : i < List.length p := by omega
  obtain ⟨x1, hx1⟩ : ∃ e0, p[i]? = some e0 := ⟨_, List.getElem?_eq_getElem hlx1⟩
  have hmx1 : x1 ∈ p := List.mem_of_getElem? hx1
  refine t_ rfl (z_ (b_ rfl (h_ (R_ (h_ (c_ (a_ (aa_ A_ K_ rfl rfl (fun v _ h => ay_ (n := 10) Pc.cells_len (by decide) (by exact h.1) hx1) (by omega) (by first | omega | (simp; done))) rfl (a_ (aU_ (ad := pad) (us := Pc.cells x1) aG_ K_ rfl (fun v _ h => by exact h.1) (Pc.cells_len _) (ad_ Pc.cells_len hx1)) rfl (ao_ aX_ rfl fun b12 => ?_)))))))))
  refine Q_ 0 K_ rfl rfl rfl rfl rfl rfl (e_ (b_ rfl (h_ (c_ (a_ (l_ k_ rfl rfl rfl L_) rfl (Q_ 0 L_ rfl rfl rfl rfl rfl rfl (e_ (b_ rfl (h_ ?_)))))))))
  refine c_ (a_ (d_ rfl) rfl (a_ (Y_ 0 aG_ K_ rfl rfl rfl) rfl (x_ (ej_ (k := Pc.zf x1) (q := (uniq [] (List.take i p))) pd_ Tryz.runUnderlying139 dK_ rfl rfl hE (fun v h _ => (h.own _ (List.mem_of_getElem? (i := 2) rfl)).1)) rfl fun r2 hr2 => ?_)))
  refine a_ (ce_ rfl) rfl (e_ (b_ rfl ?_))
  cases r2
  ·
   replace hr2 := of_decide_eq_false hr2
   refine t_ rfl (h_ (c_ (a_ (d_ rfl) rfl (a_ (Y_ 0 aG_ K_ rfl rfl rfl) rfl (fz_ (k := Pc.zf x1) (q := (uniq [] (List.take i p))) 2 pd_ (.inr rfl) Tryz.runUnderlying139 rfl rfl rfl rfl hE fun es1 c1 hE1 => ?_)))))
   refine e_ (b_ rfl (c_ (a_ (d_ rfl) rfl (a_ (Y_ 0 aG_ K_ rfl rfl rfl) rfl (W_ (nZ_ (Pc.zf x1) (bg_ (uniq [] (List.take i p))) (aH_ (uniq [] (List.take i p))) b10 b1 b2 b3 b4 b5 b6 b7 b8 b9 .nilFunc sv_L Hm H_L hm hr_L  hbp hbl) rfl (m_ (f_ i_) (O_ (f_ (f_ (f_ (f_ (f_ (f_ (f_ (f_ (f_ (f_ E_)))))))))) (f_ (f_ (f_ (f_ (f_ (f_ (f_ (f_ (f_ S_))))))))))) (fun _ _ _ => by exact trivial) rfl fun ⟨⟨lv1, HA1, HA2⟩, hA1, hA2⟩ => ?_)))))
   dsimp only
   simp only [List.cons_append, List.append_assoc]
   refine e_ (b_ rfl (aj_ (bu_ i_ (bu_ (s_ (s_ i_)) (bu_ (s_ (s_ i_)) (bu_ (s_ (s_ i_)) (bu_ (s_ (s_ i_)) (bu_ (s_ (s_ i_)) (bu_ (s_ (s_ i_)) (bu_ (s_ (s_ i_)) (bu_ (s_ (s_ i_)) (bu_ (s_ (s_ i_)) (df_ (s_ bj_)))))))))))) (c_ (a_ (M_ rfl rfl rfl (af_ (by omega) (by omega))) rfl (a_ (d_ rfl) rfl (e_ (w_ rfl ?_)))))))
   exact Z_ ⟨(i + 1, es1, c1, HA1, lv1, HA2), hlx1, by rw [eX_ hx1]; exact hE1, by rw [eX_ hx1, if_neg (by assumption), ny_]; exact hA1, (by rw [eX_ hx1, if_neg (by assumption), kx_]; exact hA2)⟩ (by dsimp only; omega) ⟨rfl, rfl, rfl, rfl, rfl, trivial⟩ (m_ i_ (m_ (f_ i_) (m_ (f_ i_) (m_ (f_ i_) (m_ (f_ i_) (m_ (f_ i_) (m_ (f_ i_) (m_ (f_ i_) (m_ (f_ i_) (m_ (f_ i_) (O_ (f_ E_) S_))))))))))) (fun _ _ h => h)
  ·
   replace hr2 := of_decide_eq_true hr2
   refine v_ rfl (z_ (b_ rfl (c_ (a_ (M_ rfl rfl rfl (af_ (by omega) (by omega))) rfl (a_ (d_ rfl) rfl (e_ (w_ rfl ?_)))))))
   exact Z_ ⟨(i + 1, es, cs, Hm, sv_L, H_L), hlx1, by rw [eX_ hx1, if_pos (by assumption)]; exact hE, by rw [eX_ hx1, if_pos (by assumption)]; exact hm, (by rw [eX_ hx1, if_pos (by assumption)]; exact hr_L)⟩ (by dsimp only; omega) ⟨rfl, rfl, rfl, rfl, rfl, trivial⟩ (m_ (f_ i_) (m_ (f_ i_) (m_ (f_ i_) (m_ (f_ i_) (m_ (f_ i_) (m_ (f_ i_) (m_ (f_ i_) (m_ (f_ i_) (m_ (f_ i_) (m_ (f_ i_) (O_ (f_ E_) S_))))))))))) (fun _ _ h => h)
end Go.Proofs.YtpdbbglpbngeiaaGreatDoor
namespace Go.Proofs.YtpdbbglpbngeiaaGreatDoor
open Go Go.Sx Go.Proofs
attribute [local irreducible] Code.wp wpList wpAnyH
open Go.Vs
theorem ix_ {P : Program} {N : Nat} {fr : Fr} {H : Hp} {Γ : List Fct} {ty : TypeId} {K : Type} [DecidableEq K] {kv : K → Value} {t kt et : TypeId} {x : Operand} {mb c : Nat} {es : Array MapEntry} {q : List K} (hE : SetE kv es q) (hu : ∀ w, (underlying t).run P w = .ok (.map kt et) w) (hx : Fr.ev fr x = some (.map (some mb))) (hm : ∀ v, v.sat H → bd_ Γ v → v.w.heap[mb]? = some (.map es c)) :
    Yld P N fr H Γ (.call ⟨.builtin .len, #[x], #[t]⟩) ty (.int .i64 (q.length : Int)) := by
  rw [← hE.size]; exact oe_ hu hx hm
def andF (a b : Fct) : Fct where
  p v := a.p v ∧ b.p v
  mono := fun v v' h ⟨h1, h2⟩ => ⟨a.mono v v' h h1, b.mono v v' h h2⟩
def StA (b9 kb fb : Nat) (nw fm : List Fc) (H : Hp) : Prop := ∃ sv es c es' c' q Hq, H = (b9, .cells #[sv] 26 (0, 0)) :: (kb, .map es c) :: ([(fb, .map es' c')] ++ Hq) ∧ aQ_ 41 6 sv nw.length (nw.flatMap Fc.cells) Hq ∧ SetE Fc.val es nw ∧ SetE Fc.val es' q ∧ ∀ f, f ∈ q ↔ f ∈ fm
theorem qo_ (f : Fc) (nw fm : List Fc) (m : Nat) (hm : m ≤ 65536) (g b7 b8 b9 kb fb : Nat) (c0 c1 c3 c4 c5 c6 c7 c8 c9 c10 sv : Value) (es es2 : Array MapEntry) (c c2 : Nat) (q : List Fc) (Hq : Hp) (hr : aQ_ 41 6 sv nw.length (nw.flatMap Fc.cells) Hq) (hE : SetE Fc.val es nw) (hF : SetE Fc.val es2 q) (hq : ∀ f, f ∈ q ↔ f ∈ fm) : Tri Tryz.prog 55 #[Fc.val f, zp_ b7 0, zp_ b8 0, zp_ b9 0] ((b9, .cells #[sv] 26 (0, 0)) :: (kb, .map es c) :: ([(fb, .map es2 c2)] ++ Hq)) [eD_ b7 (.cells #[zp_ g 0] 85 (0, 0)), eD_ b8 (.cells #[.int .i64 (m : Int)] 3 (0, 0)), eD_ g (.cells #[c0, c1, .map (some kb), c3, c4, c5, c6, c7, c8, c9, c10] 94 (0, 0))] (fun _ : {H : Hp // StA b9 kb fb (bH_ m f nw) fm H} => .tuple #[]) (fun y => y.1) (fun _ => []) := by
  refine T_ Tryz.func55 rfl rfl Tryz.ntmps55 rfl fun v0 => ?_
  refine h_ (c_ (bs_ rfl rfl fun b1 => ?_))
  refine e_ (b_ rfl (h_ ?_))
  refine aS_ (by kernel_rfl) ?_
  refine ah_ 8 [0, 1, 2, 3, 4, 5, 6, 7] (by kernel_rfl) (fun _ a b => ⟨a, b⟩) (n_ rfl (al_ cA_ rfl (fun v _ h => by exact h.1) rfl) rfl (n_ rfl (ar_ rfl) rfl (n_ rfl (l_ J_ rfl rfl rfl bW_) rfl (n_ rfl (al_ cz_ rfl (fun v _ h => by exact h.2.2.1) rfl) rfl (n_ rfl (ix_ hE bq_ rfl (fun v h _ => (h.own _ (List.mem_of_getElem? (i := 2) rfl)).1)) rfl (n_ rfl (al_ P_ rfl (fun v _ h => by exact h.2.1) rfl) rfl ?_))))))
  refine cl_ rfl (cf_ rfl rfl) rfl fun r1 hr1 => ?_
  refine n_ rfl (d_ rfl) rfl (ag_ ?_)
  cases r1
  · skip
    replace hr1 := of_decide_eq_false hr1
    refine ah_ 0 [8, 9, 10, 11, 12, 13, 14, 15] (by kernel_rfl) (fun _ a b => ⟨a, b⟩) (aE_ rfl rfl rfl rfl rfl (aE_ rfl rfl rfl rfl rfl (aE_ rfl rfl rfl rfl rfl (aE_ rfl rfl rfl rfl rfl (aE_ rfl rfl rfl rfl rfl (aE_ rfl rfl rfl rfl rfl (aE_ rfl rfl rfl rfl rfl (n_ rfl (C_ rfl rfl) rfl (ag_ ?_)))))))))
    refine ac_ (by kernel_rfl) (b_ rfl (v_ rfl (z_ (bx_ rfl ?_))))
    have e0 : bH_ m f nw = nw := by unfold bH_; rw [if_neg (by rintro ⟨q1, q2⟩; first | omega | exact absurd (by assumption) q2)]
    exact dv_ Tryz.results55 ⟨_, sv, es, c, es2, c2, q, Hq, rfl, by rw [e0]; exact hr, by rw [e0]; exact hE, hF, hq⟩ rfl (m_ (f_ i_) (m_ (f_ i_) (O_ (f_ E_) S_))) (fun _ _ _ => trivial)
  · skip
    replace hr1 := of_decide_eq_true hr1
    refine ah_ 0 [8, 9, 10, 11, 12, 13, 14, 15] (by kernel_rfl) (fun _ a b => ⟨a, b⟩) (aC_ rfl rfl rfl (al_ cA_ rfl (fun v _ h => by exact h.1) rfl) rfl (aC_ rfl rfl rfl (ar_ rfl) rfl (aC_ rfl rfl rfl (l_ J_ rfl rfl rfl bW_) rfl (aC_ rfl rfl rfl (al_ cz_ rfl (fun v _ h => by exact h.2.2.1) rfl) rfl (aC_ rfl rfl rfl (Y_ 0 ai_ B_ rfl rfl rfl) rfl ?_)))))
    refine dB_ rfl rfl rfl (ej_ (k := f) gr_ bq_ dK_ rfl rfl hE (fun v h _ => (h.own _ (List.mem_of_getElem? (i := 2) rfl)).1)) rfl fun r2 hr2 => ?_
    refine aC_ rfl rfl rfl (ce_ rfl) rfl (n_ rfl (H_ rfl rfl) rfl (ag_ (ac_ (by kernel_rfl) (b_ rfl ?_))))
    cases r2
    · skip
      replace hr2 := of_decide_eq_false hr2
      refine t_ rfl (h_ ?_)
      refine aR_ ((b1, .cells (Fc.cells f).toArray 41 (0, 0)) :: ((b9, .cells #[sv] 26 (0, 0)) :: [])) (by kernel_rfl) ?_
      refine ah_ 1 [0, 1, 2, 3, 4] (by kernel_rfl) (fun _ a b => ⟨Vw.sat.sub (a.perm (m_ i_ i_)), b⟩) (n_ rfl (al_ cA_ rfl (fun v _ h => by exact h.1) rfl) rfl (n_ rfl (ar_ rfl) rfl (n_ rfl (l_ J_ rfl rfl rfl bW_) rfl (n_ rfl (al_ cz_ rfl (fun v _ h => by exact h.2.2.1) rfl) rfl (n_ rfl (Y_ 0 ai_ B_ rfl rfl rfl) rfl (ag_ (X_ 5 rfl (by kernel_rfl) (fz_ (k := f) 2 gr_ (.inr rfl) bq_ rfl rfl rfl rfl hE fun ej1 cj1 hj1 => ?_))))))))
      refine e_ (w_ rfl (N_ (fun _ a b => ⟨Vw.sat.sub (a.perm (m_ i_ i_)), b⟩) (ac_ (by kernel_rfl) (b_ rfl (c_ (a_ (u_ 1 bt_ rfl rfl rfl) rfl (a_ (Y_ 0 ai_ B_ rfl rfl rfl) rfl (aJ_ G_ B_ ak_ rfl rfl rfl rfl rfl rfl fun b2 => ?_))))))))
      refine bi_ (news := List.flatMap Fc.cells [f]) ca_ hr rfl rfl (f_ (f_ (f_ (f_ bj_)))) rfl (cy_ 0 rfl) (fun u hu => aK_ Fc.cells_one hu) (by simp only [maxLen]; omega) (by omega) rfl fun sv1 Hr1 hr1 => ?_
      have hq1 : aQ_ 41 6 sv1 (List.length (nw ++ [f])) (List.flatMap Fc.cells (nw ++ [f])) Hr1 := by rw [List.length_append, List.flatMap_append]; exact hr1
      refine aj_ (bu_ (s_ i_) (bu_ (s_ i_) (bu_ (s_ i_) (df_ (s_ i_))))) (fX_ 2 hq1 bl_ rfl rfl rfl rfl (e_ (bx_ rfl ?_)))
      have e0 : bH_ m f nw = nw ++ [f] := by unfold bH_; rw [if_pos ⟨by omega, by assumption⟩]
      exact dv_ Tryz.results55 ⟨_, sv1, ej1, cj1, es2, c2, q, Hr1, rfl, by rw [e0]; exact hq1, by rw [e0]; rw [if_neg (by assumption)] at hj1; exact hj1, hF, hq⟩ rfl (m_ (f_ (f_ i_)) (m_ (f_ (f_ i_)) (O_ (f_ (f_ bj_)) (f_ S_)))) (fun _ _ _ => trivial)
    · skip
      replace hr2 := of_decide_eq_true hr2
      refine v_ rfl (z_ (bx_ rfl ?_))
      have e0 : bH_ m f nw = nw := by unfold bH_; rw [if_neg (by rintro ⟨q1, q2⟩; first | omega | exact absurd (by assumption) q2)]
      exact dv_ Tryz.results55 ⟨_, sv, es, c, es2, c2, q, Hq, rfl, by rw [e0]; exact hr, by rw [e0]; exact hE, hF, hq⟩ rfl (m_ (f_ i_) (m_ (f_ i_) (O_ (f_ E_) S_))) (fun _ _ _ => trivial)
end Go.Proofs.YtpdbbglpbngeiaaGreatDoor
namespace Go.Proofs.YtpdbbglpbngeiaaGreatDoor
open Go Go.Sx Go.Proofs
attribute [local irreducible] Code.wp wpList wpAnyH
open Go.Vs
def EA (m : Nat) (hm : m ≤ 65536) (B : EngB) (b7 b8 b9 kb fb : Nat) : Emt Tryz.prog 41 where
  stp := bH_ m
  kof := idk
  St := StA b9 kb fb
  fn := 55
  caps := [zp_ b7 0, zp_ b8 0, zp_ b9 0]
  ef := andF (eD_ b7 (.cells #[zp_ B.g 0] 85 (0, 0))) (andF (eD_ b8 (.cells #[.int .i64 (m : Int)] 3 (0, 0))) (eD_ B.g (.cells #[.map (some B.pb), .slice B.lad B.lps.length B.lcap, .map (some kb), .func (.func 55) #[] #[zp_ b7 0, zp_ b8 0, zp_ b9 0], .map (some B.ab), .map (some B.ub), .map (some B.ob), .map (some B.ib), .map (some B.rb), .map (some B.sb), .map (some fb)] 94 (0, 0))))
  kb := kb
  fb := fb
  grows := eR_ m
  emit := fun f nw fm H hS => by
    obtain ⟨sv, es, c, es2, c2, q, Hq, rfl, h1, h2, h3, h4⟩ := hS
    exact le_ [] (qo_ f nw fm m hm B.g b7 b8 b9 kb fb _ _ _ _ _ _ _ _ _ _ sv es es2 c c2 q Hq h1 h2 h3 h4) (fun v _ h => ⟨h.1.1, h.1.2.1, h.1.2.2, trivial⟩)
  known := fun hS => by
    obtain ⟨sv, es, c, es2, c2, q, Hq, rfl, h1, h2, h3, h4⟩ := hS
    exact ⟨es, c, by simp, h2⟩
  firm := fun hS => by
    obtain ⟨sv, es, c, es2, c2, q, Hq, rfl, h1, h2, h3, h4⟩ := hS
    exact ⟨es2, c2, q, by simp, h3, h4⟩
  setf := fun {nw fm H} f hS => by
    obtain ⟨sv, es, c, es2, c2, q, Hq, rfl, h1, h2, h3, h4⟩ := hS
    refine ⟨es2, c2, q, (b9, .cells #[sv] 26 (0, 0)) :: (kb, .map es c) :: Hq, df_ (f_ (f_ i_)), h3, h4, fun es' c' h5 => ⟨(b9, .cells #[sv] 26 (0, 0)) :: (kb, .map es c) :: ([(fb, .map es' c')] ++ Hq), ⟨sv, es, c, es', c', _, Hq, rfl, h1, h2, h5, ?_⟩, df_ (f_ (f_ i_))⟩⟩
    intro z
    split
    · rename_i hz; rw [h4, List.mem_cons]; constructor
      · exact .inr
      · rintro (rfl | h)
        · exact (h4 _).1 hz
        · exact h
    · rw [List.mem_append, List.mem_singleton, h4, List.mem_cons, or_comm]
end Go.Proofs.YtpdbbglpbngeiaaGreatDoor
namespace Go.Proofs.YtpdbbglpbngeiaaGreatDoor
open Go Go.Sx Go.Proofs
attribute [local irreducible] Code.wp wpList wpAnyH
open Go.Vs
def fvC (v : Value) : List Value := [v]
theorem gJ_ (v : Value) : (fvC v).length = 1 := rfl
theorem nm_ {P : Program} {N : Nat} {fr : Fr} {H : Hp} {Γ : List Fct} {ty : TypeId} {t e : TypeId} {n sz : Nat} {parts : List (Nat × Operand)} {vs : List (Nat × Value)} {z cs : List Value} (hz : ∀ w, (zeroValue t).run P w = .ok (.agg z.toArray) w) (hu : ∀ w, (underlying t).run P w = .ok (.array n e) w) (hs : ∀ w, (sizeOf e).run P w = .ok sz w) (hx : Fr.evp fr parts = some vs) (hf : jp_ (fun i => some (i * sz, sz)) z vs = some cs) :
    Yld P N fr H Γ (.build t parts.toArray) ty (.agg cs.toArray) :=
  jK_ (fun a h1 w => by
    have := h1.evp hx
    rw [List.map_toArray, this]
    have hf' := hE_ _ _ _ _ hf
    simp only [Instr.build, Sem.run_bind, hz, Result.andThen_ok, hu, hs, Value.cells, hf', Sem.run_pure])
def rlV (g : Nat) (k : Nat) : List Value := if k = 1 then [(Value.func (.func 100) #[zp_ g 0] #[]), (Value.func (.func 101) #[zp_ g 0] #[]), (Value.func (.func 102) #[zp_ g 0] #[]), (Value.func (.func 103) #[zp_ g 0] #[]), (Value.func (.func 104) #[zp_ g 0] #[]), (Value.func (.func 105) #[zp_ g 0] #[])] else if k = 2 then [(Value.func (.func 106) #[zp_ g 0] #[]), (Value.func (.func 107) #[zp_ g 0] #[]), (Value.func (.func 108) #[zp_ g 0] #[]), (Value.func (.func 109) #[zp_ g 0] #[])] else [(Value.func (.func 110) #[zp_ g 0] #[]), (Value.func (.func 111) #[zp_ g 0] #[])]
theorem pS_ (g : Nat) : Tri Tryz.prog 58 #[zp_ g 0] [] [] (fun y : Nat × Nat × Nat => .agg #[.slice none 0 0, .slice (some ⟨y.1, 0, none⟩) 6 6, .slice (some ⟨y.2.1, 0, none⟩) 4 4, .slice (some ⟨y.2.2, 0, none⟩) 2 2]) (fun _ => []) (fun y => [az_ (some ⟨y.1, 0, none⟩) (List.flatMap fvC (rlV g 1)), az_ (some ⟨y.2.1, 0, none⟩) (List.flatMap fvC (rlV g 2)), az_ (some ⟨y.2.2, 0, none⟩) (List.flatMap fvC (rlV g 3))]) := by
  refine T_ Tryz.func58 rfl rfl Tryz.ntmps58 rfl fun v0 => ?_
  refine h_ (c_ (ao_ Tryz.zeroValue98 rfl fun b1 => ?_))
  refine e_ (b_ rfl (h_ (c_ (a_ (d_ rfl) rfl (a_ (cR_ (us := [zp_ g 0]) (vs := []) rfl rfl) rfl (a_ (d_ rfl) rfl (a_ (cR_ (us := [zp_ g 0]) (vs := []) rfl rfl) rfl (a_ (d_ rfl) rfl (a_ (cR_ (us := [zp_ g 0]) (vs := []) rfl rfl) rfl ?_)))))))))
  refine a_ (d_ rfl) rfl (a_ (cR_ (us := [zp_ g 0]) (vs := []) rfl rfl) rfl (a_ (d_ rfl) rfl (a_ (cR_ (us := [zp_ g 0]) (vs := []) rfl rfl) rfl (a_ (d_ rfl) rfl (a_ (cR_ (us := [zp_ g 0]) (vs := []) rfl rfl) rfl (aJ_ cS_ be_ Tryz.zeroValue89 rfl rfl rfl rfl rfl rfl fun b2 => ?_))))))
  refine bz_ (List.flatMap fvC [(Value.func (.func 100) #[zp_ g 0] #[]), (Value.func (.func 101) #[zp_ g 0] #[]), (Value.func (.func 102) #[zp_ g 0] #[]), (Value.func (.func 103) #[zp_ g 0] #[]), (Value.func (.func 104) #[zp_ g 0] #[]), (Value.func (.func 105) #[zp_ g 0] #[])]) i_ rfl ?_
  refine a_ (d_ rfl) rfl (a_ (cR_ (us := [zp_ g 0]) (vs := []) rfl rfl) rfl (a_ (d_ rfl) rfl (a_ (cR_ (us := [zp_ g 0]) (vs := []) rfl rfl) rfl (a_ (d_ rfl) rfl (a_ (cR_ (us := [zp_ g 0]) (vs := []) rfl rfl) rfl (a_ (d_ rfl) rfl (a_ (cR_ (us := [zp_ g 0]) (vs := []) rfl rfl) rfl (aJ_ cS_ be_ Tryz.zeroValue89 rfl rfl rfl rfl rfl rfl fun b3 => ?_))))))))
  refine bz_ (List.flatMap fvC [(Value.func (.func 106) #[zp_ g 0] #[]), (Value.func (.func 107) #[zp_ g 0] #[]), (Value.func (.func 108) #[zp_ g 0] #[]), (Value.func (.func 109) #[zp_ g 0] #[])]) i_ rfl ?_
  refine a_ (d_ rfl) rfl (a_ (cR_ (us := [zp_ g 0]) (vs := []) rfl rfl) rfl (a_ (d_ rfl) rfl (a_ (cR_ (us := [zp_ g 0]) (vs := []) rfl rfl) rfl (aJ_ cS_ be_ Tryz.zeroValue89 rfl rfl rfl rfl rfl rfl fun b4 => ?_))))
  refine bz_ (List.flatMap fvC [(Value.func (.func 110) #[zp_ g 0] #[]), (Value.func (.func 111) #[zp_ g 0] #[])]) i_ rfl ?_
  refine a_ (nm_ Tryz.zeroValue98 ox_ Tryz.sizeOf97 rfl rfl) rfl (Q_ 0 Tryz.sizeOf98 rfl rfl rfl rfl rfl rfl (e_ (b_ rfl (F_ ?_))))
  exact cH_ (b2, b3, b4) (fun aa v h1 h2 => eB_ (us := [.slice none 0 0, .slice (some ⟨b2, 0, none⟩) (List.length [(Value.func (.func 100) #[zp_ g 0] #[]), (Value.func (.func 101) #[zp_ g 0] #[]), (Value.func (.func 102) #[zp_ g 0] #[]), (Value.func (.func 103) #[zp_ g 0] #[]), (Value.func (.func 104) #[zp_ g 0] #[]), (Value.func (.func 105) #[zp_ g 0] #[])]) 6, .slice (some ⟨b3, 0, none⟩) (List.length [(Value.func (.func 106) #[zp_ g 0] #[]), (Value.func (.func 107) #[zp_ g 0] #[]), (Value.func (.func 108) #[zp_ g 0] #[]), (Value.func (.func 109) #[zp_ g 0] #[])]) 4, .slice (some ⟨b4, 0, none⟩) (List.length [(Value.func (.func 110) #[zp_ g 0] #[]), (Value.func (.func 111) #[zp_ g 0] #[])]) 2]) 0 Tryz.results58 Tryz.isAgg98 Tryz.sizeOf98 rfl rfl rfl aa v h1 h2) I_ (fun v _ h => by exact ⟨h.2.2.1, h.2.1, h.1, trivial⟩)
end Go.Proofs.YtpdbbglpbngeiaaGreatDoor
namespace Go.Proofs.YtpdbbglpbngeiaaGreatDoor
open Go Go.Sx Go.Proofs
attribute [local irreducible] Code.wp wpList wpAnyH
open Go.Vs
theorem eP_ (B : EngB) (E : Emt Tryz.prog 41) (A0 : EngA) (pm : List (Ky × Pc)) (x : Ix) (f : Fc) (nw fm : List Fc) (Hs : Hp) (hS : E.St nw fm Hs) (Ha Hu Ho Hi Hr Hm : Hp) (hI : IxO 9 41 B x ⟨Ha, Hu, Ho, Hi, Hr, Hm⟩) {n : FuncId} {args : Array Value} {ret : Hp → Prop} (hT : ∀ A : EngA, A.p = A0.p → Tri Tryz.prog n args Hs [gF B E, pF B pm A, aF B x A, uF B x A, oF B x A, iF B x A, rF B x A, sF B x A, E.ef] (fun _ : {H' : Hp // ret H'} => .tuple #[]) (fun y => y.1) (fun _ => [])) :
    Tri Tryz.prog n args ((Ha ++ (Hu ++ (Ho ++ (Hi ++ (Hr ++ Hm))))) ++ Hs) [gF B E, pF B pm A0, E.ef] (fun _ : {H' : Hp // ret H'} => .tuple #[]) (fun y => (Ha ++ (Hu ++ (Ho ++ (Hi ++ (Hr ++ Hm))))) ++ y.1) (fun _ => []) := by
  obtain ⟨ha, hu, ho, hi, hr, hm⟩ := hI
  dsimp only at ha hu ho hi hr hm
  obtain ⟨a1, k1⟩ := ha.lent (P := Tryz.prog) hu_
  obtain ⟨a2, k2⟩ := hu.lent (P := Tryz.prog) hu_
  obtain ⟨a3, k3⟩ := ho.lent (P := Tryz.prog) cX_
  obtain ⟨a4, k4⟩ := hi.lent (P := Tryz.prog) cX_
  obtain ⟨a5, k5⟩ := hr.lent (P := Tryz.prog) cX_
  obtain ⟨a6, k6⟩ := hm.lent (P := Tryz.prog) cX_
  refine le_ _ (hT ⟨A0.p, a1, a2, a3, a4, a5, a6⟩ rfl) fun v hB h => ⟨h.1, h.2.1, k1 v fun p hp => hB p (by simp [hp]), k2 v fun p hp => hB p (by simp [hp]), k3 v fun p hp => hB p (by simp [hp]), k4 v fun p hp => hB p (by simp [hp]), k5 v fun p hp => hB p (by simp [hp]), k6 v fun p hp => hB p (by simp [hp]), h.2.2.1, trivial⟩
theorem rl10_c (B : EngB) (E : Emt Tryz.prog 41) (A0 : EngA) (pm : List (Ky × Pc)) (x : Ix) (f : Fc) (nw fm : List Fc) (Hs : Hp) (hS : E.St nw fm Hs) (Ha Hu Ho Hi Hr Hm : Hp) (hI : IxO 9 41 B x ⟨Ha, Hu, Ho, Hi, Hr, Hm⟩) (hpl : ∀ k, (lat pm k).length ≤ 1000000000) (hxl : ∀ k, (lat x.above k).length ≤ 1000000000 ∧ (lat x.under k).length ≤ 1000000000) (hyl : ∀ k, (lat x.frm k).length ≤ 1000000000 ∧ (lat x.into k).length ≤ 1000000000 ∧ (lat x.ranges k).length ≤ 1000000000 ∧ (lat x.firms k).length ≤ 1000000000) (hf : f.kind = 3 → -1099511627776 ≤ f.lo ∧ f.lo ≤ f.hi ∧ f.hi ≤ 1099511627776) (hq : f.kind = 3 → ∀ y ∈ lat pm (Ky.mk 9 (Fc.r f) []), -1099511627776 ≤ y.lo ∧ y.lo ≤ y.hi ∧ y.hi ≤ 1099511627776) (hk : f.kind = 1) : Tri Tryz.prog 100 #[zp_ B.g 0, f.val] ((Ha ++ (Hu ++ (Ho ++ (Hi ++ (Hr ++ Hm))))) ++ Hs) [gF B E, pF B pm A0, E.ef] (fun _ : {H' : Hp // E.St (rl E.stp E.kof pm x f 0 (nw, fm)).1 (rl E.stp E.kof pm x f 0 (nw, fm)).2 H'} => .tuple #[]) (fun y => (Ha ++ (Hu ++ (Ho ++ (Hi ++ (Hr ++ Hm))))) ++ y.1) (fun _ => []) := by
  refine eP_ B E A0 pm x f nw fm Hs hS Ha Hu Ho Hi Hr Hm hI fun A hA => ?_
  have h := nU_ B E A pm x f nw fm Hs hS hpl hxl hyl
  have e : rl E.stp E.kof pm x f 0 (nw, fm) = _ := if_pos hk
  rw [e]
  exact h
theorem rl11_c (B : EngB) (E : Emt Tryz.prog 41) (A0 : EngA) (pm : List (Ky × Pc)) (x : Ix) (f : Fc) (nw fm : List Fc) (Hs : Hp) (hS : E.St nw fm Hs) (Ha Hu Ho Hi Hr Hm : Hp) (hI : IxO 9 41 B x ⟨Ha, Hu, Ho, Hi, Hr, Hm⟩) (hpl : ∀ k, (lat pm k).length ≤ 1000000000) (hxl : ∀ k, (lat x.above k).length ≤ 1000000000 ∧ (lat x.under k).length ≤ 1000000000) (hyl : ∀ k, (lat x.frm k).length ≤ 1000000000 ∧ (lat x.into k).length ≤ 1000000000 ∧ (lat x.ranges k).length ≤ 1000000000 ∧ (lat x.firms k).length ≤ 1000000000) (hf : f.kind = 3 → -1099511627776 ≤ f.lo ∧ f.lo ≤ f.hi ∧ f.hi ≤ 1099511627776) (hq : f.kind = 3 → ∀ y ∈ lat pm (Ky.mk 9 (Fc.r f) []), -1099511627776 ≤ y.lo ∧ y.lo ≤ y.hi ∧ y.hi ≤ 1099511627776) (hk : f.kind = 1) : Tri Tryz.prog 101 #[zp_ B.g 0, f.val] ((Ha ++ (Hu ++ (Ho ++ (Hi ++ (Hr ++ Hm))))) ++ Hs) [gF B E, pF B pm A0, E.ef] (fun _ : {H' : Hp // E.St (rl E.stp E.kof pm x f 1 (nw, fm)).1 (rl E.stp E.kof pm x f 1 (nw, fm)).2 H'} => .tuple #[]) (fun y => (Ha ++ (Hu ++ (Ho ++ (Hi ++ (Hr ++ Hm))))) ++ y.1) (fun _ => []) := by
  refine eP_ B E A0 pm x f nw fm Hs hS Ha Hu Ho Hi Hr Hm hI fun A hA => ?_
  have h := both_c B E A pm x f nw fm Hs hS hpl hxl hyl
  have e : rl E.stp E.kof pm x f 1 (nw, fm) = _ := if_pos hk
  rw [e]
  exact h
theorem rl12_c (B : EngB) (E : Emt Tryz.prog 41) (A0 : EngA) (pm : List (Ky × Pc)) (x : Ix) (f : Fc) (nw fm : List Fc) (Hs : Hp) (hS : E.St nw fm Hs) (Ha Hu Ho Hi Hr Hm : Hp) (hI : IxO 9 41 B x ⟨Ha, Hu, Ho, Hi, Hr, Hm⟩) (hpl : ∀ k, (lat pm k).length ≤ 1000000000) (hxl : ∀ k, (lat x.above k).length ≤ 1000000000 ∧ (lat x.under k).length ≤ 1000000000) (hyl : ∀ k, (lat x.frm k).length ≤ 1000000000 ∧ (lat x.into k).length ≤ 1000000000 ∧ (lat x.ranges k).length ≤ 1000000000 ∧ (lat x.firms k).length ≤ 1000000000) (hf : f.kind = 3 → -1099511627776 ≤ f.lo ∧ f.lo ≤ f.hi ∧ f.hi ≤ 1099511627776) (hq : f.kind = 3 → ∀ y ∈ lat pm (Ky.mk 9 (Fc.r f) []), -1099511627776 ≤ y.lo ∧ y.lo ≤ y.hi ∧ y.hi ≤ 1099511627776) (hk : f.kind = 1) : Tri Tryz.prog 102 #[zp_ B.g 0, f.val] ((Ha ++ (Hu ++ (Ho ++ (Hi ++ (Hr ++ Hm))))) ++ Hs) [gF B E, pF B pm A0, E.ef] (fun _ : {H' : Hp // E.St (rl E.stp E.kof pm x f 2 (nw, fm)).1 (rl E.stp E.kof pm x f 2 (nw, fm)).2 H'} => .tuple #[]) (fun y => (Ha ++ (Hu ++ (Ho ++ (Hi ++ (Hr ++ Hm))))) ++ y.1) (fun _ => []) := by
  refine eP_ B E A0 pm x f nw fm Hs hS Ha Hu Ho Hi Hr Hm hI fun A hA => ?_
  have h := some_c B E A pm x f nw fm Hs hS hpl hxl hyl
  have e : rl E.stp E.kof pm x f 2 (nw, fm) = _ := if_pos hk
  rw [e]
  exact h
theorem rl13_c (B : EngB) (E : Emt Tryz.prog 41) (A0 : EngA) (pm : List (Ky × Pc)) (x : Ix) (f : Fc) (nw fm : List Fc) (Hs : Hp) (hS : E.St nw fm Hs) (Ha Hu Ho Hi Hr Hm : Hp) (hI : IxO 9 41 B x ⟨Ha, Hu, Ho, Hi, Hr, Hm⟩) (hpl : ∀ k, (lat pm k).length ≤ 1000000000) (hxl : ∀ k, (lat x.above k).length ≤ 1000000000 ∧ (lat x.under k).length ≤ 1000000000) (hyl : ∀ k, (lat x.frm k).length ≤ 1000000000 ∧ (lat x.into k).length ≤ 1000000000 ∧ (lat x.ranges k).length ≤ 1000000000 ∧ (lat x.firms k).length ≤ 1000000000) (hf : f.kind = 3 → -1099511627776 ≤ f.lo ∧ f.lo ≤ f.hi ∧ f.hi ≤ 1099511627776) (hq : f.kind = 3 → ∀ y ∈ lat pm (Ky.mk 9 (Fc.r f) []), -1099511627776 ≤ y.lo ∧ y.lo ≤ y.hi ∧ y.hi ≤ 1099511627776) (hk : f.kind = 1) : Tri Tryz.prog 103 #[zp_ B.g 0, f.val] ((Ha ++ (Hu ++ (Ho ++ (Hi ++ (Hr ++ Hm))))) ++ Hs) [gF B E, pF B pm A0, E.ef] (fun _ : {H' : Hp // E.St (rl E.stp E.kof pm x f 3 (nw, fm)).1 (rl E.stp E.kof pm x f 3 (nw, fm)).2 H'} => .tuple #[]) (fun y => (Ha ++ (Hu ++ (Ho ++ (Hi ++ (Hr ++ Hm))))) ++ y.1) (fun _ => []) := by
  refine eP_ B E A0 pm x f nw fm Hs hS Ha Hu Ho Hi Hr Hm hI fun A hA => ?_
  have h := mA_ B E A pm x f nw fm Hs hS hpl hxl hyl
  have e : rl E.stp E.kof pm x f 3 (nw, fm) = _ := if_pos hk
  rw [e]
  exact h
theorem rl14_c (B : EngB) (E : Emt Tryz.prog 41) (A0 : EngA) (pm : List (Ky × Pc)) (x : Ix) (f : Fc) (nw fm : List Fc) (Hs : Hp) (hS : E.St nw fm Hs) (Ha Hu Ho Hi Hr Hm : Hp) (hI : IxO 9 41 B x ⟨Ha, Hu, Ho, Hi, Hr, Hm⟩) (hpl : ∀ k, (lat pm k).length ≤ 1000000000) (hxl : ∀ k, (lat x.above k).length ≤ 1000000000 ∧ (lat x.under k).length ≤ 1000000000) (hyl : ∀ k, (lat x.frm k).length ≤ 1000000000 ∧ (lat x.into k).length ≤ 1000000000 ∧ (lat x.ranges k).length ≤ 1000000000 ∧ (lat x.firms k).length ≤ 1000000000) (hf : f.kind = 3 → -1099511627776 ≤ f.lo ∧ f.lo ≤ f.hi ∧ f.hi ≤ 1099511627776) (hq : f.kind = 3 → ∀ y ∈ lat pm (Ky.mk 9 (Fc.r f) []), -1099511627776 ≤ y.lo ∧ y.lo ≤ y.hi ∧ y.hi ≤ 1099511627776) (hk : f.kind = 1) : Tri Tryz.prog 104 #[zp_ B.g 0, f.val] ((Ha ++ (Hu ++ (Ho ++ (Hi ++ (Hr ++ Hm))))) ++ Hs) [gF B E, pF B pm A0, E.ef] (fun _ : {H' : Hp // E.St (rl E.stp E.kof pm x f 4 (nw, fm)).1 (rl E.stp E.kof pm x f 4 (nw, fm)).2 H'} => .tuple #[]) (fun y => (Ha ++ (Hu ++ (Ho ++ (Hi ++ (Hr ++ Hm))))) ++ y.1) (fun _ => []) := by
  refine eP_ B E A0 pm x f nw fm Hs hS Ha Hu Ho Hi Hr Hm hI fun A hA => ?_
  have h := lU_ B E A pm x f nw fm Hs hS hpl hxl hyl
  have e : rl E.stp E.kof pm x f 4 (nw, fm) = _ := if_pos hk
  rw [e]
  exact h
theorem rl15_c (B : EngB) (E : Emt Tryz.prog 41) (A0 : EngA) (pm : List (Ky × Pc)) (x : Ix) (f : Fc) (nw fm : List Fc) (Hs : Hp) (hS : E.St nw fm Hs) (Ha Hu Ho Hi Hr Hm : Hp) (hI : IxO 9 41 B x ⟨Ha, Hu, Ho, Hi, Hr, Hm⟩) (hpl : ∀ k, (lat pm k).length ≤ 1000000000) (hxl : ∀ k, (lat x.above k).length ≤ 1000000000 ∧ (lat x.under k).length ≤ 1000000000) (hyl : ∀ k, (lat x.frm k).length ≤ 1000000000 ∧ (lat x.into k).length ≤ 1000000000 ∧ (lat x.ranges k).length ≤ 1000000000 ∧ (lat x.firms k).length ≤ 1000000000) (hf : f.kind = 3 → -1099511627776 ≤ f.lo ∧ f.lo ≤ f.hi ∧ f.hi ≤ 1099511627776) (hq : f.kind = 3 → ∀ y ∈ lat pm (Ky.mk 9 (Fc.r f) []), -1099511627776 ≤ y.lo ∧ y.lo ≤ y.hi ∧ y.hi ≤ 1099511627776) (hk : f.kind = 1) : Tri Tryz.prog 105 #[zp_ B.g 0, f.val] ((Ha ++ (Hu ++ (Ho ++ (Hi ++ (Hr ++ Hm))))) ++ Hs) [gF B E, pF B pm A0, E.ef] (fun _ : {H' : Hp // E.St (rl E.stp E.kof pm x f 5 (nw, fm)).1 (rl E.stp E.kof pm x f 5 (nw, fm)).2 H'} => .tuple #[]) (fun y => (Ha ++ (Hu ++ (Ho ++ (Hi ++ (Hr ++ Hm))))) ++ y.1) (fun _ => []) := by
  refine eP_ B E A0 pm x f nw fm Hs hS Ha Hu Ho Hi Hr Hm hI fun A hA => ?_
  have h := pK_ B E A pm x f nw fm Hs hS hpl hxl hyl
  have e : rl E.stp E.kof pm x f 5 (nw, fm) = _ := if_pos hk
  rw [e]
  exact h
theorem rl20_c (B : EngB) (E : Emt Tryz.prog 41) (A0 : EngA) (pm : List (Ky × Pc)) (x : Ix) (f : Fc) (nw fm : List Fc) (Hs : Hp) (hS : E.St nw fm Hs) (Ha Hu Ho Hi Hr Hm : Hp) (hI : IxO 9 41 B x ⟨Ha, Hu, Ho, Hi, Hr, Hm⟩) (hpl : ∀ k, (lat pm k).length ≤ 1000000000) (hxl : ∀ k, (lat x.above k).length ≤ 1000000000 ∧ (lat x.under k).length ≤ 1000000000) (hyl : ∀ k, (lat x.frm k).length ≤ 1000000000 ∧ (lat x.into k).length ≤ 1000000000 ∧ (lat x.ranges k).length ≤ 1000000000 ∧ (lat x.firms k).length ≤ 1000000000) (hf : f.kind = 3 → -1099511627776 ≤ f.lo ∧ f.lo ≤ f.hi ∧ f.hi ≤ 1099511627776) (hq : f.kind = 3 → ∀ y ∈ lat pm (Ky.mk 9 (Fc.r f) []), -1099511627776 ≤ y.lo ∧ y.lo ≤ y.hi ∧ y.hi ≤ 1099511627776) (hk : f.kind = 2) : Tri Tryz.prog 106 #[zp_ B.g 0, f.val] ((Ha ++ (Hu ++ (Ho ++ (Hi ++ (Hr ++ Hm))))) ++ Hs) [gF B E, pF B pm A0, E.ef] (fun _ : {H' : Hp // E.St (rl E.stp E.kof pm x f 0 (nw, fm)).1 (rl E.stp E.kof pm x f 0 (nw, fm)).2 H'} => .tuple #[]) (fun y => (Ha ++ (Hu ++ (Ho ++ (Hi ++ (Hr ++ Hm))))) ++ y.1) (fun _ => []) := by
  refine eP_ B E A0 pm x f nw fm Hs hS Ha Hu Ho Hi Hr Hm hI fun A hA => ?_
  have h := nQ_ B E A pm x f nw fm Hs hS hpl hxl hyl
  have e : rl E.stp E.kof pm x f 0 (nw, fm) = _ := (if_neg (by rw [hk]; decide)).trans (if_pos hk)
  rw [e]
  exact h
theorem rl21_c (B : EngB) (E : Emt Tryz.prog 41) (A0 : EngA) (pm : List (Ky × Pc)) (x : Ix) (f : Fc) (nw fm : List Fc) (Hs : Hp) (hS : E.St nw fm Hs) (Ha Hu Ho Hi Hr Hm : Hp) (hI : IxO 9 41 B x ⟨Ha, Hu, Ho, Hi, Hr, Hm⟩) (hpl : ∀ k, (lat pm k).length ≤ 1000000000) (hxl : ∀ k, (lat x.above k).length ≤ 1000000000 ∧ (lat x.under k).length ≤ 1000000000) (hyl : ∀ k, (lat x.frm k).length ≤ 1000000000 ∧ (lat x.into k).length ≤ 1000000000 ∧ (lat x.ranges k).length ≤ 1000000000 ∧ (lat x.firms k).length ≤ 1000000000) (hf : f.kind = 3 → -1099511627776 ≤ f.lo ∧ f.lo ≤ f.hi ∧ f.hi ≤ 1099511627776) (hq : f.kind = 3 → ∀ y ∈ lat pm (Ky.mk 9 (Fc.r f) []), -1099511627776 ≤ y.lo ∧ y.lo ≤ y.hi ∧ y.hi ≤ 1099511627776) (hk : f.kind = 2) : Tri Tryz.prog 107 #[zp_ B.g 0, f.val] ((Ha ++ (Hu ++ (Ho ++ (Hi ++ (Hr ++ Hm))))) ++ Hs) [gF B E, pF B pm A0, E.ef] (fun _ : {H' : Hp // E.St (rl E.stp E.kof pm x f 1 (nw, fm)).1 (rl E.stp E.kof pm x f 1 (nw, fm)).2 H'} => .tuple #[]) (fun y => (Ha ++ (Hu ++ (Ho ++ (Hi ++ (Hr ++ Hm))))) ++ y.1) (fun _ => []) := by
  refine eP_ B E A0 pm x f nw fm Hs hS Ha Hu Ho Hi Hr Hm hI fun A hA => ?_
  have h := qq_ B E A pm x f nw fm Hs hS hpl hxl hyl
  have e : rl E.stp E.kof pm x f 1 (nw, fm) = _ := (if_neg (by rw [hk]; decide)).trans (if_pos hk)
  rw [e]
  exact h
theorem rl22_c (B : EngB) (E : Emt Tryz.prog 41) (A0 : EngA) (pm : List (Ky × Pc)) (x : Ix) (f : Fc) (nw fm : List Fc) (Hs : Hp) (hS : E.St nw fm Hs) (Ha Hu Ho Hi Hr Hm : Hp) (hI : IxO 9 41 B x ⟨Ha, Hu, Ho, Hi, Hr, Hm⟩) (hpl : ∀ k, (lat pm k).length ≤ 1000000000) (hxl : ∀ k, (lat x.above k).length ≤ 1000000000 ∧ (lat x.under k).length ≤ 1000000000) (hyl : ∀ k, (lat x.frm k).length ≤ 1000000000 ∧ (lat x.into k).length ≤ 1000000000 ∧ (lat x.ranges k).length ≤ 1000000000 ∧ (lat x.firms k).length ≤ 1000000000) (hf : f.kind = 3 → -1099511627776 ≤ f.lo ∧ f.lo ≤ f.hi ∧ f.hi ≤ 1099511627776) (hq : f.kind = 3 → ∀ y ∈ lat pm (Ky.mk 9 (Fc.r f) []), -1099511627776 ≤ y.lo ∧ y.lo ≤ y.hi ∧ y.hi ≤ 1099511627776) (hk : f.kind = 2) : Tri Tryz.prog 108 #[zp_ B.g 0, f.val] ((Ha ++ (Hu ++ (Ho ++ (Hi ++ (Hr ++ Hm))))) ++ Hs) [gF B E, pF B pm A0, E.ef] (fun _ : {H' : Hp // E.St (rl E.stp E.kof pm x f 2 (nw, fm)).1 (rl E.stp E.kof pm x f 2 (nw, fm)).2 H'} => .tuple #[]) (fun y => (Ha ++ (Hu ++ (Ho ++ (Hi ++ (Hr ++ Hm))))) ++ y.1) (fun _ => []) := by
  refine eP_ B E A0 pm x f nw fm Hs hS Ha Hu Ho Hi Hr Hm hI fun A hA => ?_
  have h := mz_ B E A pm x f nw fm Hs hS hpl hxl hyl
  have e : rl E.stp E.kof pm x f 2 (nw, fm) = _ := (if_neg (by rw [hk]; decide)).trans (if_pos hk)
  rw [e]
  exact h
theorem rl23_c (B : EngB) (E : Emt Tryz.prog 41) (A0 : EngA) (pm : List (Ky × Pc)) (x : Ix) (f : Fc) (nw fm : List Fc) (Hs : Hp) (hS : E.St nw fm Hs) (Ha Hu Ho Hi Hr Hm : Hp) (hI : IxO 9 41 B x ⟨Ha, Hu, Ho, Hi, Hr, Hm⟩) (hpl : ∀ k, (lat pm k).length ≤ 1000000000) (hxl : ∀ k, (lat x.above k).length ≤ 1000000000 ∧ (lat x.under k).length ≤ 1000000000) (hyl : ∀ k, (lat x.frm k).length ≤ 1000000000 ∧ (lat x.into k).length ≤ 1000000000 ∧ (lat x.ranges k).length ≤ 1000000000 ∧ (lat x.firms k).length ≤ 1000000000) (hf : f.kind = 3 → -1099511627776 ≤ f.lo ∧ f.lo ≤ f.hi ∧ f.hi ≤ 1099511627776) (hq : f.kind = 3 → ∀ y ∈ lat pm (Ky.mk 9 (Fc.r f) []), -1099511627776 ≤ y.lo ∧ y.lo ≤ y.hi ∧ y.hi ≤ 1099511627776) (hk : f.kind = 2) : Tri Tryz.prog 109 #[zp_ B.g 0, f.val] ((Ha ++ (Hu ++ (Ho ++ (Hi ++ (Hr ++ Hm))))) ++ Hs) [gF B E, pF B pm A0, E.ef] (fun _ : {H' : Hp // E.St (rl E.stp E.kof pm x f 3 (nw, fm)).1 (rl E.stp E.kof pm x f 3 (nw, fm)).2 H'} => .tuple #[]) (fun y => (Ha ++ (Hu ++ (Ho ++ (Hi ++ (Hr ++ Hm))))) ++ y.1) (fun _ => []) := by
  refine eP_ B E A0 pm x f nw fm Hs hS Ha Hu Ho Hi Hr Hm hI fun A hA => ?_
  have h := lT_ B E A pm x f nw fm Hs hS hpl hxl hyl
  have e : rl E.stp E.kof pm x f 3 (nw, fm) = _ := (if_neg (by rw [hk]; decide)).trans (if_pos hk)
  rw [e]
  exact h
theorem rl30_c (B : EngB) (E : Emt Tryz.prog 41) (A0 : EngA) (pm : List (Ky × Pc)) (x : Ix) (f : Fc) (nw fm : List Fc) (Hs : Hp) (hS : E.St nw fm Hs) (Ha Hu Ho Hi Hr Hm : Hp) (hI : IxO 9 41 B x ⟨Ha, Hu, Ho, Hi, Hr, Hm⟩) (hpl : ∀ k, (lat pm k).length ≤ 1000000000) (hxl : ∀ k, (lat x.above k).length ≤ 1000000000 ∧ (lat x.under k).length ≤ 1000000000) (hyl : ∀ k, (lat x.frm k).length ≤ 1000000000 ∧ (lat x.into k).length ≤ 1000000000 ∧ (lat x.ranges k).length ≤ 1000000000 ∧ (lat x.firms k).length ≤ 1000000000) (hf : f.kind = 3 → -1099511627776 ≤ f.lo ∧ f.lo ≤ f.hi ∧ f.hi ≤ 1099511627776) (hq : f.kind = 3 → ∀ y ∈ lat pm (Ky.mk 9 (Fc.r f) []), -1099511627776 ≤ y.lo ∧ y.lo ≤ y.hi ∧ y.hi ≤ 1099511627776) (hk : f.kind = 3) : Tri Tryz.prog 110 #[zp_ B.g 0, f.val] ((Ha ++ (Hu ++ (Ho ++ (Hi ++ (Hr ++ Hm))))) ++ Hs) [gF B E, pF B pm A0, E.ef] (fun _ : {H' : Hp // E.St (rl E.stp E.kof pm x f 0 (nw, fm)).1 (rl E.stp E.kof pm x f 0 (nw, fm)).2 H'} => .tuple #[]) (fun y => (Ha ++ (Hu ++ (Ho ++ (Hi ++ (Hr ++ Hm))))) ++ y.1) (fun _ => []) := by
  refine eP_ B E A0 pm x f nw fm Hs hS Ha Hu Ho Hi Hr Hm hI fun A hA => ?_
  have h := meet_c B E A pm x f nw fm Hs hS hpl hxl hyl
  have e : rl E.stp E.kof pm x f 0 (nw, fm) = _ := (if_neg (by rw [hk]; decide)).trans (if_neg (by rw [hk]; decide))
  rw [e]
  exact h
theorem rl31_c (B : EngB) (E : Emt Tryz.prog 41) (A0 : EngA) (pm : List (Ky × Pc)) (x : Ix) (f : Fc) (nw fm : List Fc) (Hs : Hp) (hS : E.St nw fm Hs) (Ha Hu Ho Hi Hr Hm : Hp) (hI : IxO 9 41 B x ⟨Ha, Hu, Ho, Hi, Hr, Hm⟩) (hpl : ∀ k, (lat pm k).length ≤ 1000000000) (hxl : ∀ k, (lat x.above k).length ≤ 1000000000 ∧ (lat x.under k).length ≤ 1000000000) (hyl : ∀ k, (lat x.frm k).length ≤ 1000000000 ∧ (lat x.into k).length ≤ 1000000000 ∧ (lat x.ranges k).length ≤ 1000000000 ∧ (lat x.firms k).length ≤ 1000000000) (hf : f.kind = 3 → -1099511627776 ≤ f.lo ∧ f.lo ≤ f.hi ∧ f.hi ≤ 1099511627776) (hq : f.kind = 3 → ∀ y ∈ lat pm (Ky.mk 9 (Fc.r f) []), -1099511627776 ≤ y.lo ∧ y.lo ≤ y.hi ∧ y.hi ≤ 1099511627776) (hk : f.kind = 3) : Tri Tryz.prog 111 #[zp_ B.g 0, f.val] ((Ha ++ (Hu ++ (Ho ++ (Hi ++ (Hr ++ Hm))))) ++ Hs) [gF B E, pF B pm A0, E.ef] (fun _ : {H' : Hp // E.St (rl E.stp E.kof pm x f 1 (nw, fm)).1 (rl E.stp E.kof pm x f 1 (nw, fm)).2 H'} => .tuple #[]) (fun y => (Ha ++ (Hu ++ (Ho ++ (Hi ++ (Hr ++ Hm))))) ++ y.1) (fun _ => []) := by
  refine eP_ B E A0 pm x f nw fm Hs hS Ha Hu Ho Hi Hr Hm hI fun A hA => ?_
  have h := out_c B E A pm x f nw fm Hs hS hpl hxl hyl (hf hk) (hq hk)
  have e : rl E.stp E.kof pm x f 1 (nw, fm) = _ := (if_neg (by rw [hk]; decide)).trans (if_neg (by rw [hk]; decide))
  rw [e]
  exact h
end Go.Proofs.YtpdbbglpbngeiaaGreatDoor
namespace Go.Proofs.YtpdbbglpbngeiaaGreatDoor
open Go Go.Sx Go.Proofs
attribute [local irreducible] Code.wp wpList wpAnyH
open Go.Vs
section
variable {N : Nat} {v0 : Vw} {H0 : Hp} {fr : Fr}
theorem lC_ {k : Act → World → Prop} {F : Hp} : ∀ (B : Hp) {H : Hp} {Γ : List Fct}, H.Perm (B ++ F) → Ok N v0 H0 k fr F (B.reverse.map (fun p => eD_ p.1 p.2) ++ Γ) → Ok N v0 H0 k fr H Γ
  | [], H, Γ, hH, h => aj_ hH h
  | (b, o) :: B, H, Γ, hH, h => by
    refine gG_ (eD_ b o) (F := B ++ F) hH (fun _ h1 h2 _ => ⟨h1, h2⟩) ?_
    refine lC_ B (.refl _) ?_
    simpa using h
end
end Go.Proofs.YtpdbbglpbngeiaaGreatDoor
namespace Go.Proofs.YtpdbbglpbngeiaaGreatDoor
open Go Go.Sx Go.Proofs
attribute [local irreducible] Code.wp wpList wpAnyH
open Go.Vs
theorem nR_ {P : Program} (w : World) (d : Nat) (t e : TypeId) (a : Option Addr) (l c : Nat) (h : P.underlying t = some (.slice e)) : (Op.equalIn (d + 1) t (.slice a l c) (.slice none 0 0)).run P w = .ok a.isNone w := by
  cases a <;> simp [Op.equalIn, run_underlying h]
theorem qn_ {P : Program} (w : World) (t e : TypeId) (a : Option Addr) (l c : Nat) (h : P.underlying t = some (.slice e)) : (Op.equal t (.slice a l c) (.slice none 0 0)).run P w = .ok a.isNone w := nR_ w 9999 t e a l c h
theorem kX_ {P : Program} {N : Nat} {fr : Fr} {H : Hp} {Γ : List Fct} {ty t t' e : TypeId} {x y : Operand} {ad : Option Addr} {m c : Nat} (hu : P.underlying t = some (.slice e)) (hx : Fr.ev fr x = some (.slice ad m c)) (hy : Fr.ev fr y = some (.slice none 0 0)) : Yld P N fr H Γ (.binOp .eql t x y t') ty (.bool (decide (ad = none))) :=
  fun a v h1 _ _ _ _ _ => by
    have he : decide (ad = none) = ad.isNone := by cases ad <;> simp
    simp [execOp, h1.ev hx, h1.ev hy, eqGuard, binOp, qn_ v.w t e ad m c hu, he]
theorem ll_ {v : Vw} {cs : List Value} (h : bv_ v none cs) : cs = [] := by
  rcases h with h | ⟨b, off, arr, T, fz, h1, _⟩
  · exact h
  · cases h1
theorem do_ (b : Nat) (e : TypeId) (sz : Nat) : aQ_ e sz (.slice (some ⟨b, 0, none⟩) 0 0) 0 [] [(b, .cells #[] e (0, 0))] := ⟨by simp, .inr ⟨b, 0, #[], rfl, rfl, Nat.le_refl _, by simp [maxLen], by simp, by simp⟩⟩
theorem ps_ (l : List Str) (ad : Option Addr) (cap : Nat) (hc : l.length ≤ cap) (hl : l.length ≤ 1000000000) : Tri Tryz.prog 97 #[.slice ad (List.length l) cap] [] [az_ ad (List.flatMap aO_ l)] (fun y : {y : Value × Hp // aQ_ 9 1 y.1 (List.length l) (List.flatMap aO_ l) y.2} => y.1.1) (fun y => y.1.2) (fun _ => []) := by
  refine T_ Tryz.func97 rfl rfl Tryz.ntmps97 rfl fun v0 => ?_
  refine h_ (c_ (a_ (g_ rfl) rfl (e_ (b_ rfl (h_ (h_ (c_ (a_ (d_ rfl) rfl (x_ (kX_ jO_ rfl rfl) rfl fun r1 hr1 => ?_)))))))))
  refine e_ (b_ rfl ?_)
  cases r1
  · skip
    replace hr1 := of_decide_eq_false hr1
    refine v_ rfl (z_ (b_ rfl (h_ (c_ (cF_ D_ j_ rfl fun b1 => ?_)))))
    refine aj_ i_ (a_ (d_ rfl) rfl (aI_ (news := List.flatMap aO_ l) cN_ (do_ b1 9 1) rfl rfl (fun q => absurd q hr1) hc aD_ (by rw [bp_ aO_ 1 at_]) (fun v _ h => by exact h.1) (fun u hu => aK_ cn_ hu) (by simp only [maxLen]; omega) (by omega) rfl fun sv1 Hr1 hr1 => ?_))
    refine aj_ List.perm_append_comm ?_
    have hq1 : aQ_ 9 1 sv1 (List.length (([] : List Str) ++ l)) (List.flatMap aO_ (([] : List Str) ++ l)) Hr1 := by rw [List.length_append, List.flatMap_append]; exact hr1
    refine a_ (g_ rfl) rfl (e_ (b_ rfl (F_ ?_)))
    exact aw_ Tryz.results97 ⟨(sv1, Hr1), by simpa using hq1⟩ rfl aD_ (fun _ _ _ => trivial)
  · skip
    replace hr1 := of_decide_eq_true hr1
    refine t_ rfl (h_ (c_ (a_ (g_ rfl) rfl (e_ (b_ rfl (F_ (oR_ (p := List.flatMap aO_ l = []) (fun v _ h => by have q := h.1; subst hr1; exact ll_ q) fun hz => ?_)))))))
    have hz2 : l = [] := List.eq_nil_of_length_eq_zero (by have := congrArg List.length hz; rwa [bp_ aO_ 1 at_, Nat.mul_one] at this)
    exact aw_ Tryz.results97 ⟨(.slice none 0 0, []), by subst hz2; exact aQ_.nil _ _⟩ rfl I_ (fun _ _ _ => trivial)
def atS (p : List Pc) : List Str := Lib.compact ((dH_ p ++ [[42], [33]]).mergeSort fun x y => decide (x ≤ y))
theorem kM_ (p : List Pc) : (atS p).length ≤ 3 * p.length + 2 := by
  have := gw_ ((dH_ p ++ [[42], [33]]).mergeSort fun x y => decide (x ≤ y))
  have h2 := eG_ p
  rw [List.length_mergeSort, List.length_append] at this
  simp only [List.length_cons, List.length_nil] at this
  unfold atS; omega
theorem jz_ (p : List Pc) : (atS p).Pairwise fun x y => x < y := jr_ (lh_ _)
theorem it_ (p : List Pc) (x : Str) : x ∈ atS p ↔ x ∈ dH_ p ∨ x = [42] ∨ x = [33] := by
  unfold atS
  rw [if_, List.mem_mergeSort, List.mem_append]
  simp
theorem atS_c (p : List Pc) (pad : Option Addr) (pcap : Nat) (hp : p.length ≤ 100000000) : Tri Tryz.prog 56 #[.slice pad (List.length p) pcap] [] [az_ pad (List.flatMap Pc.cells p)] (fun y : {y : Option Addr × Nat // (atS p).length ≤ y.2 ∧ y.2 ≤ maxLen ∧ (y.1 = none → y.2 = 0)} => .slice y.1.1 (atS p).length y.1.2) (fun _ => []) (fun y => [az_ y.1.1 ((atS p).flatMap aO_)]) := by
  refine T_ Tryz.func56 rfl rfl Tryz.ntmps56 rfl fun v0 => ?_
  refine h_ (c_ (a_ (g_ rfl) rfl (e_ (b_ rfl (h_ (c_ (a_ (d_ rfl) rfl (W_ (qt_ p pad pcap (by omega)) rfl I_ (fun v _ h => by exact ⟨h.1, trivial⟩) rfl fun ⟨⟨aad, acap⟩, hac, ham⟩ => ?_))))))))
  dsimp only
  refine W_ (ps_ (dH_ p) aad acap hac (by have := eG_ p; omega)) rfl I_ (fun v _ h => by exact ⟨h.1, trivial⟩) rfl fun ⟨⟨svc, Hcl⟩, hcl⟩ => ?_
  dsimp only
  refine aj_ fk_ (aJ_ D_ j_ bm_ rfl rfl rfl rfl rfl rfl fun b1 => ?_)
  refine bi_ (news := List.flatMap aO_ [[42], [33]]) cN_ hcl rfl rfl S_ rfl (cy_ 0 rfl) (fun u hu => aK_ cn_ hu) (by simp only [maxLen]; (have := eG_ p; (try simp only [List.length_append, List.length_cons, List.length_nil]); omega)) (by (have := eG_ p; (try simp only [List.length_append, List.length_cons, List.length_nil]); omega)) rfl fun sv1 Hr1 hr1 => ?_
  refine aj_ List.perm_append_comm ?_
  have hq1 : aQ_ 9 1 sv1 (List.length ((dH_ p) ++ [[42], [33]])) (List.flatMap aO_ ((dH_ p) ++ [[42], [33]])) Hr1 := by rw [List.length_append, List.flatMap_append]; exact hr1
  refine a_ (g_ rfl) rfl (e_ (b_ rfl (h_ (c_ (a_ (d_ rfl) rfl (W_ (mL_ hq1 (by (have := eG_ p; (try simp only [List.length_append, List.length_cons, List.length_nil]); omega))) rfl S_ (fun _ _ _ => by exact trivial) rfl fun ⟨Hso1, hs1⟩ => ?_))))))
  dsimp only
  have hso1 : aQ_ 9 1 sv1 (List.length ((((dH_ p) ++ [[42], [33]])).mergeSort fun x y => decide (x ≤ y))) (List.flatMap aO_ ((((dH_ p) ++ [[42], [33]])).mergeSort fun x y => decide (x ≤ y))) Hso1 := by rw [List.length_mergeSort]; exact hs1
  refine e_ (b_ rfl (aj_ (df_ bj_) (h_ (c_ (a_ (d_ rfl) rfl (W_ (js_ hso1 (by rw [List.length_mergeSort]; (have := eG_ p; (try simp only [List.length_append, List.length_cons, List.length_nil]); omega))) rfl S_ (fun _ _ _ => by exact trivial) rfl fun ⟨⟨svk2, Hk2⟩, hk2⟩ => ?_))))))
  dsimp only
  refine a_ (g_ rfl) rfl (e_ (b_ rfl (F_ (bk_ hk2 E_ fun ad2 cp2 had2 hcad2 hmad2 hzad2 => ?_))))
  exact aw_ Tryz.results56 ⟨(ad2, cp2), hcad2, hmad2, hzad2⟩ (bU_ rfl had2) I_ (fun v _ h => ⟨h.1, trivial⟩)
end Go.Proofs.YtpdbbglpbngeiaaGreatDoor
namespace Go.Proofs
open Go.Shelf
def Tryz.sortFc_ren : Go.Shelf.Ren := ⟨fun | 6 => 60 | 15 => 113 | 14 => 112 | 28 => 152 | 29 => 153 | 20 => 144 | 21 => 145 | 22 => 146 | 23 => 147 | 24 => 148 | 25 => 149 | 26 => 150 | 27 => 151 | 46 => 185 | 47 => 186 | 48 => 187 | 49 => 188 | 50 => 189 | 57 => 207 | n => n, fun | 22 => 26 | 24 => 41 | 25 => 101 | 3 => 3 | 39 => 45 | 0 => 0 | 53 => 65 | 55 => 186 | 4 => 4 | 46 => 178 | 45 => 177 | 50 => 182 | 5 => 5 | 9 => 9 | 66 => 205 | 70 => 199 | 76 => 227 | 77 => 228 | n => n, fun | n => n⟩
theorem Tryz.sortFc : Go.Proofs.SlLaysF0.n6 Tryz.prog Tryz.sortFc_ren := {
 mixed := by kernel_rfl
 f6 := ⟨Tryz.f60.name, by decide, Tryz.func60.trans (congrArg some (by kernel_rfl))⟩
 f14 := ⟨Tryz.f112.name, by decide, Tryz.func112.trans (congrArg some (by kernel_rfl))⟩
 f15 := Tryz.func113.trans (congrArg some (by kernel_rfl))
 f20 := ⟨Tryz.f144.name, by decide, Tryz.func144.trans (congrArg some (by kernel_rfl))⟩
 f21 := ⟨Tryz.f145.name, by decide, Tryz.func145.trans (congrArg some (by kernel_rfl))⟩
 f22 := ⟨Tryz.f146.name, by decide, Tryz.func146.trans (congrArg some (by kernel_rfl))⟩
 f23 := ⟨Tryz.f147.name, by decide, Tryz.func147.trans (congrArg some (by kernel_rfl))⟩
 f24 := ⟨Tryz.f148.name, by decide, Tryz.func148.trans (congrArg some (by kernel_rfl))⟩
 f25 := ⟨Tryz.f149.name, by decide, Tryz.func149.trans (congrArg some (by kernel_rfl))⟩
 f26 := ⟨Tryz.f150.name, by decide, Tryz.func150.trans (congrArg some (by kernel_rfl))⟩
 f27 := ⟨Tryz.f151.name, by decide, Tryz.func151.trans (congrArg some (by kernel_rfl))⟩
 f28 := Tryz.func152.trans (congrArg some (by kernel_rfl))
 f29 := Tryz.func153.trans (congrArg some (by kernel_rfl))
 f46 := ⟨Tryz.f185.name, by decide, Tryz.func185.trans (congrArg some (by kernel_rfl))⟩
 f47 := Tryz.func186.trans (congrArg some (by kernel_rfl))
 f48 := Tryz.func187.trans (congrArg some (by kernel_rfl))
 f49 := ⟨Tryz.f188.name, by decide, Tryz.func188.trans (congrArg some (by kernel_rfl))⟩
 f50 := ⟨Tryz.f189.name, by decide, Tryz.func189.trans (congrArg some (by kernel_rfl))⟩
 f57 := ⟨Tryz.f207.name, by decide, Tryz.func207.trans (congrArg some (by kernel_rfl))⟩
 t0 := Tryz.underlying0
 a0 := Tryz.isAgg0
 z0 := Tryz.sizeOf0
 v0 := Tryz.zeroValue0
 t3 := Tryz.underlying3
 a3 := Tryz.isAgg3
 z3 := Tryz.sizeOf3
 v3 := Tryz.zeroValue3
 t4 := Tryz.underlying4
 a4 := Tryz.isAgg4
 z4 := Tryz.sizeOf4
 v4 := Tryz.zeroValue4
 t5 := Tryz.underlying5
 a5 := Tryz.isAgg5
 z5 := Tryz.sizeOf5
 v5 := Tryz.zeroValue5
 t9 := Tryz.underlying9
 a9 := Tryz.isAgg9
 z9 := Tryz.sizeOf9
 v9 := Tryz.zeroValue9
 t22 := Tryz.underlying26
 a22 := Tryz.isAgg26
 z22 := Tryz.sizeOf26
 v22 := Tryz.zeroValue26
 t25 := Tryz.underlying101
 a25 := Tryz.isAgg101
 z25 := Tryz.sizeOf101
 v25 := Tryz.zeroValue101
 t39 := Tryz.underlying45
 a39 := Tryz.isAgg45
 z39 := Tryz.sizeOf45
 v39 := Tryz.zeroValue45
 t45 := Tryz.underlying177
 a45 := Tryz.isAgg177
 z45 := Tryz.sizeOf177
 v45 := Tryz.zeroValue177
 t46 := Tryz.underlying178
 a46 := Tryz.isAgg178
 z46 := Tryz.sizeOf178
 v46 := Tryz.zeroValue178
 t50 := Tryz.underlying182
 a50 := Tryz.isAgg182
 z50 := Tryz.sizeOf182
 v50 := Tryz.zeroValue182
 t53 := Tryz.underlying65
 a53 := Tryz.isAgg65
 z53 := Tryz.sizeOf65
 v53 := Tryz.zeroValue65
 t55 := Tryz.underlying186
 a55 := Tryz.isAgg186
 z55 := Tryz.sizeOf186
 v55 := Tryz.zeroValue186
 t66 := Tryz.underlying205
 a66 := Tryz.isAgg205
 z66 := Tryz.sizeOf205
 v66 := Tryz.zeroValue205
 t70 := Tryz.underlying199
 a70 := Tryz.isAgg199
 z70 := Tryz.sizeOf199
 v70 := Tryz.zeroValue199
 t76 := Tryz.underlying227
 a76 := Tryz.isAgg227
 z76 := Tryz.sizeOf227
 v76 := Tryz.zeroValue227
 t77 := Tryz.underlying228
 a77 := Tryz.isAgg228
 z77 := Tryz.sizeOf228
 v77 := Tryz.zeroValue228 }
end Go.Proofs
namespace Go.Proofs.YtpdbbglpbngeiaaGreatDoor
open Go Go.Sx Go.Proofs
attribute [local irreducible] Code.wp wpList wpAnyH
open Go.Vs
instance : Inhabited Fc := ⟨⟨0, [], [], [], 0, 0⟩⟩
theorem jv_ (x y : Int) : Fn0 Tryz.prog 115 #[.int .i64 x, .int .i64 y] (.int .i64 (Lib.compareInt x y)) :=
  eo_ (callable Tryz.func115 rfl rfl) fun v _ _ => (Tryz.cmp_Compare_int x y v.w).mono (by rintro e w' ⟨rfl, rfl⟩; exact ⟨rfl, ⟨rfl, rfl, rfl, Nat.le_refl _, fun _ _ => rfl⟩, .inr (Nat.le_refl _)⟩)
theorem ju_ (x y : Str) : Fn0 Tryz.prog 71 #[str x, str y] (.int .i64 (Lib.compareBytes x y)) :=
  eo_ (callable Tryz.func71 rfl rfl) fun v _ _ => (Tryz.strings_Compare ⟨x.toArray⟩ ⟨y.toArray⟩ v.w).mono (by rintro e w' ⟨rfl, rfl⟩; exact ⟨rfl, ⟨rfl, rfl, rfl, Nat.le_refl _, fun _ _ => rfl⟩, .inr (Nat.le_refl _)⟩)
def orF : List Int → Int
  | [] => 0
  | x :: l => if x = 0 then orF l else x
theorem oN_ : ∀ {l : List Int} {i : Nat} {x : Int}, (∀ y ∈ l.take i, y = 0) → l[i]? = some x → x ≠ 0 → orF l = x
  | [], _, _, _, h, _ => by simp at h
  | y :: l, 0, x, _, h, hx => by simp at h; subst h; simp [orF, hx]
  | y :: l, i + 1, x, h0, h, hx => by
    have hy : y = 0 := h0 y (by simp)
    rw [orF, if_pos hy]
    exact oN_ (i := i) (fun z hz => h0 z (by rw [List.take_succ_cons]; exact List.mem_cons_of_mem _ hz)) (by simpa using h) hx
theorem lA_ : ∀ {l : List Int}, (∀ y ∈ l, y = 0) → orF l = 0
  | [], _ => rfl
  | y :: l, h => by rw [orF, if_pos (h y (by simp))]; exact lA_ fun z hz => h z (by simp [hz])
theorem cI_neg (x y : Int) : Lib.compareInt x y < 0 ↔ x < y := by unfold Lib.compareInt; (repeat' split) <;> omega
theorem qr_ (x y : Int) : Lib.compareInt x y = 0 ↔ x = y := by unfold Lib.compareInt; (repeat' split) <;> omega
theorem pv_ : ∀ (x y : Str), Lib.compareBytes x y < 0 ↔ x < y
  | [], [] => by simp [Lib.compareBytes]
  | [], b :: y => by simp [Lib.compareBytes]
  | a :: x, [] => by simp [Lib.compareBytes]
  | a :: x, b :: y => by
    rw [Lib.compareBytes, List.cons_lt_cons_iff]
    by_cases h1 : a < b
    · rw [if_pos h1]; simp [h1]
    · by_cases h2 : b < a
      · rw [if_neg h1, if_pos h2]
        have : a ≠ b := fun e => by subst e; exact h1 h2
        simp [h1, this]
      · have e : a = b := UInt8.le_antisymm (UInt8.not_lt.1 h2) (UInt8.not_lt.1 h1)
        rw [if_neg h1, if_neg h2, pv_ x y]; simp [e]
theorem ng_ : ∀ (x y : Str), Lib.compareBytes x y = 0 ↔ x = y
  | [], [] => by simp [Lib.compareBytes]
  | [], b :: y => by simp [Lib.compareBytes]
  | a :: x, [] => by simp [Lib.compareBytes]
  | a :: x, b :: y => by
    rw [Lib.compareBytes]
    by_cases h1 : a < b
    · rw [if_pos h1]
      have : a ≠ b := fun e => by subst e; exact absurd h1 (UInt8.lt_irrefl a)
      simp [this]
    · by_cases h2 : b < a
      · rw [if_neg h1, if_pos h2]
        have : a ≠ b := fun e => by subst e; exact h1 h2
        simp [this]
      · have e : a = b := UInt8.le_antisymm (UInt8.not_lt.1 h2) (UInt8.not_lt.1 h1)
        rw [if_neg h1, if_neg h2, ng_ x y]; simp [e]
def il_ (x y : Fc) : Int := orF [Lib.compareInt x.kind y.kind, Lib.compareBytes x.a y.a, Lib.compareBytes x.b y.b, Lib.compareBytes x.r y.r, Lib.compareInt x.lo y.lo, Lib.compareInt x.hi y.hi]
theorem gF_ (x : Int) (l : List Int) : orF (x :: l) < 0 ↔ x < 0 ∨ x = 0 ∧ orF l < 0 := by
  rw [orF]; split <;> omega
theorem pr_ (x y : Fc) : il_ x y < 0 ↔ x.lt y := by
  unfold il_ Fc.lt
  rw [gF_, gF_, gF_, gF_, gF_, gF_]
  simp only [cI_neg, qr_, pv_, ng_, orF, Int.lt_irrefl, and_false, or_false]
theorem orF_c (l : List Int) (ad : Option Addr) (cap : Nat) (hl : l.length ≤ 1000) : Tri Tryz.prog 114 #[.slice ad (List.length l) cap] [] [az_ ad (List.flatMap gZ_ l)] (fun _ : Unit => .int .i64 (orF l)) (fun _ => []) (fun _ => []) := by
  refine T_ Tryz.func114 rfl rfl Tryz.ntmps114 rfl fun v0 => ?_
  refine h_ (c_ (a_ (g_ rfl) rfl (e_ (b_ rfl (h_ (c_ (a_ (g_ rfl) rfl (e_ (b_ rfl ?_)))))))))
  refine h_ (h_ (c_ (a_ (d_ rfl) rfl (a_ (am_ bT_ rfl) rfl (a_ (d_ rfl) rfl (e_ (b_ rfl (R_ ?_))))))))
  refine aL_ (ι := {y : Nat // y ≤ l.length ∧ ∀ z ∈ l.take y, z = 0}) (fun y => [(3, .int .i64 0), (6, .slice ad (List.length l) cap), (7, .int .i64 (List.length l : Int)), (8, .int .i64 (y.1 : Int))]) (fun y => ([])) (fun y => [az_ ad (List.flatMap gZ_ l)]) (fun y => l.length - y.1) ⟨(0 : Nat), by simp, by simp⟩ ⟨rfl, rfl, rfl, rfl, trivial⟩ I_ (fun _ _ h => h) ?_
  rintro ⟨i, hi, h0⟩
  dsimp only at hi h0 ⊢
  refine h_ (c_ (x_ (av_ rfl rfl) rfl fun r1 hr1 => ?_))
  refine e_ (b_ rfl (h_ ?_))
  cases r1
  · skip
    replace hr1 := of_decide_eq_false hr1
    refine v_ rfl (au_ rfl (b_ rfl (h_ (c_ (a_ (d_ rfl) rfl (a_ (g_ rfl) rfl (e_ (b_ rfl (F_ ?_)))))))))
    exact aw_ Tryz.results114 () (cm_ rfl (lA_ fun y hy => h0 y (by rw [List.take_of_length_le (by omega)]; exact hy)).symm) I_ (fun _ _ _ => trivial)
  · skip
    replace hr1 := of_decide_eq_true hr1
    have hlx1 : i < List.length l := by omega
    obtain ⟨x1, hx1⟩ : ∃ e0, l[i]? = some e0 := ⟨_, List.getElem?_eq_getElem hlx1⟩
    have hmx1 : x1 ∈ l := List.mem_of_getElem? hx1
    refine t_ rfl (z_ (b_ rfl (h_ (R_ (h_ (c_ (a_ (aa_ bT_ L_ rfl rfl (fun v _ h => ay_ (n := 1) ev_ (by decide) (by exact h.1) hx1) (by omega) (by first | omega | (simp; done))) rfl (a_ (aN_ (ad := ad) P_ rfl (fun v _ h => by exact h.1) (ad_ ev_ hx1 0 _ rfl)) rfl (a_ (g_ rfl) rfl ?_)))))))))
    refine e_ (b_ rfl (h_ (c_ (a_ (d_ rfl) rfl (a_ (d_ rfl) rfl (x_ (bN_ rfl rfl) rfl fun r2 hr2 => ?_))))))
    refine e_ (b_ rfl ?_)
    cases r2
    · skip
      replace hr2 := bb_ hr2
      refine v_ rfl (z_ (b_ rfl (c_ (a_ (M_ rfl rfl rfl (af_ (by omega) (by omega))) rfl (a_ (d_ rfl) rfl (e_ (w_ rfl ?_)))))))
      exact Z_ ⟨i + 1, hlx1, fun y hy => by rw [List.take_add_one, hx1] at hy; simp only [Option.toList_some, List.mem_append, List.mem_singleton] at hy; rcases hy with hy | rfl; exact h0 y hy; omega⟩ (by dsimp only; omega) ⟨rfl, rfl, rfl, rfl, trivial⟩ I_ (fun _ _ h => h)
    · skip
      replace hr2 := ba_ hr2
      refine t_ rfl (h_ (c_ (a_ (d_ rfl) rfl (a_ (g_ rfl) rfl (e_ (b_ rfl (F_ ?_)))))))
      exact aw_ Tryz.results114 () (cm_ rfl (oN_ h0 hx1 (by assumption)).symm) I_ (fun _ _ _ => trivial)
theorem cmpF_c (x y : Fc) : Fn0 Tryz.prog 61 #[Fc.val x, Fc.val y] (.int .i64 (il_ x y)) := by
  refine T_ Tryz.func61 rfl rfl Tryz.ntmps61 rfl fun v0 => ?_
  refine h_ (c_ (bs_ rfl rfl fun b1 => ?_))
  refine bs_ rfl rfl fun b2 => ?_
  refine a_ (g_ rfl) rfl (e_ (b_ rfl (h_ ?_)))
  refine aS_ (by kernel_rfl) ?_
  refine ah_ 9 [0, 1, 2, 3, 5, 6, 7, 8, 10, 11, 12, 13, 15, 16, 17, 18, 20, 21, 22, 23, 25, 26, 27, 28] (by kernel_rfl) (fun _ a b => ⟨a, b⟩) (n_ rfl (l_ o_ rfl rfl rfl L_) rfl (n_ rfl (u_ 1 P_ rfl rfl rfl) rfl (n_ rfl (l_ o_ rfl rfl rfl L_) rfl (n_ rfl (u_ 0 P_ rfl rfl rfl) rfl (n_ rfl (l_ o_ rfl rfl rfl j_) rfl (n_ rfl (u_ 1 q_ rfl rfl rfl) rfl (n_ rfl (l_ o_ rfl rfl rfl j_) rfl (n_ rfl (u_ 0 q_ rfl rfl rfl) rfl (n_ rfl (l_ o_ rfl rfl rfl j_) rfl ?_)))))))))
  refine n_ rfl (u_ 1 q_ rfl rfl rfl) rfl (n_ rfl (l_ o_ rfl rfl rfl j_) rfl (n_ rfl (u_ 0 q_ rfl rfl rfl) rfl (n_ rfl (l_ o_ rfl rfl rfl j_) rfl (n_ rfl (u_ 1 q_ rfl rfl rfl) rfl (n_ rfl (l_ o_ rfl rfl rfl j_) rfl (n_ rfl (u_ 0 q_ rfl rfl rfl) rfl (n_ rfl (l_ o_ rfl rfl rfl L_) rfl (n_ rfl (u_ 1 P_ rfl rfl rfl) rfl (n_ rfl (l_ o_ rfl rfl rfl L_) rfl ?_)))))))))
  refine n_ rfl (u_ 0 P_ rfl rfl rfl) rfl (n_ rfl (l_ o_ rfl rfl rfl L_) rfl (n_ rfl (u_ 1 P_ rfl rfl rfl) rfl (n_ rfl (l_ o_ rfl rfl rfl L_) rfl (n_ rfl (u_ 0 P_ rfl rfl rfl) rfl (ag_ (X_ 4 rfl (by kernel_rfl) (W_ (jv_ (Fc.kind x) (Fc.kind y)) rfl I_ (fun _ _ _ => by exact trivial) rfl fun _ => ?_)))))))
  refine e_ (w_ rfl (N_ (fun _ a b => ⟨a, b⟩) (X_ 9 rfl (by kernel_rfl) (W_ (ju_ (Fc.a x) (Fc.a y)) rfl I_ (fun _ _ _ => by exact trivial) rfl fun _ => ?_))))
  refine e_ (w_ rfl (N_ (fun _ a b => ⟨a, b⟩) (X_ 14 rfl (by kernel_rfl) (W_ (ju_ (Fc.b x) (Fc.b y)) rfl I_ (fun _ _ _ => by exact trivial) rfl fun _ => ?_))))
  refine e_ (w_ rfl (N_ (fun _ a b => ⟨a, b⟩) (X_ 19 rfl (by kernel_rfl) (W_ (ju_ (Fc.r x) (Fc.r y)) rfl I_ (fun _ _ _ => by exact trivial) rfl fun _ => ?_))))
  refine e_ (w_ rfl (N_ (fun _ a b => ⟨a, b⟩) (X_ 24 rfl (by kernel_rfl) (W_ (jv_ (Fc.lo x) (Fc.lo y)) rfl I_ (fun _ _ _ => by exact trivial) rfl fun _ => ?_))))
  refine e_ (w_ rfl (N_ (fun _ a b => ⟨a, b⟩) (X_ 29 rfl (by kernel_rfl) (W_ (jv_ (Fc.hi x) (Fc.hi y)) rfl I_ (fun _ _ _ => by exact trivial) rfl fun _ => ?_))))
  refine e_ (w_ rfl (N_ (fun _ a b => ⟨a, b⟩) (X_ 30 rfl (by kernel_rfl) (aJ_ bT_ L_ Tryz.zeroValue3 rfl rfl rfl rfl rfl rfl fun b3 => ?_))))
  refine bz_ (List.flatMap gZ_ [(Lib.compareInt (Fc.kind x) (Fc.kind y)), (Lib.compareBytes (Fc.a x) (Fc.a y)), (Lib.compareBytes (Fc.b x) (Fc.b y)), (Lib.compareBytes (Fc.r x) (Fc.r y)), (Lib.compareInt (Fc.lo x) (Fc.lo y)), (Lib.compareInt (Fc.hi x) (Fc.hi y))]) i_ rfl ?_
  refine e_ (w_ rfl (N_ (fun _ a b => ⟨a, b.2⟩) (X_ 31 rfl (by kernel_rfl) (W_ (orF_c [(Lib.compareInt (Fc.kind x) (Fc.kind y)), (Lib.compareBytes (Fc.a x) (Fc.a y)), (Lib.compareBytes (Fc.b x) (Fc.b y)), (Lib.compareBytes (Fc.r x) (Fc.r y)), (Lib.compareInt (Fc.lo x) (Fc.lo y)), (Lib.compareInt (Fc.hi x) (Fc.hi y))] (some ⟨b3, 0, none⟩) 6 (by simp)) rfl I_ (fun v _ h => by exact ⟨h.1, trivial⟩) rfl fun _ => ?_))))
  refine e_ (w_ rfl (N_ (fun _ a b => ⟨a, b.2⟩) (ah_ 0 [32] (by kernel_rfl) (fun _ a b => ⟨a, b.2⟩) (n_ rfl (g_ rfl) rfl (ag_ (ac_ (by kernel_rfl) (b_ rfl (F_ ?_))))))))
  exact aw_ Tryz.results61 () (cm_ rfl (by rfl)) I_ (fun _ _ _ => trivial)
end Go.Proofs.YtpdbbglpbngeiaaGreatDoor
namespace Go.Proofs.YtpdbbglpbngeiaaGreatDoor
open Go Go.Sx Go.Proofs
attribute [local irreducible] Code.wp wpList wpAnyH
open Go.Vs
theorem dT {p : Prop} {i : Decidable p} (h : @decide p i = true) : p := of_decide_eq_true h
theorem dF {p : Prop} {i : Decidable p} (h : @decide p i = false) : ¬ p := of_decide_eq_false h
structure Cl where
  atoms : List Str
  aad : Option Addr
  acap : Nat
  facts : List Fc
  fad : Option Addr
  fcap : Nat
def Cl.cells (c : Cl) : List Value := [.slice c.aad c.atoms.length c.acap, .slice c.fad c.facts.length c.fcap]
theorem Cl.cells_len (c : Cl) : c.cells.length = 2 := rfl
def Cl.val (c : Cl) : Value := .agg c.cells.toArray
def Cl.row (c : Cl) : List Fct := [az_ c.aad (List.flatMap aO_ c.atoms), az_ c.fad (List.flatMap Fc.cells c.facts)]
def Cl.no : Cl := Cl.mk [] none 0 [] none 0
structure Cl.ok (c : Cl) : Prop where
  al : c.atoms.length ≤ c.acap
  am : c.acap ≤ maxLen
  az : c.aad = none → c.acap = 0
  fl : c.facts.length ≤ c.fcap
  fm : c.fcap ≤ maxLen
  fz : c.fad = none → c.fcap = 0
theorem Cl.no_ok : Cl.no.ok := ⟨Nat.le_refl _, by simp [Cl.no], fun _ => rfl, Nat.le_refl _, by simp [Cl.no], fun _ => rfl⟩
theorem pX_ {s : Str} (h : bY_ s = true) : s ≠ [] := fun e => by subst e; revert h; decide
theorem nC_ {s : Str} (h : bc_ s = true) : s ≠ [] := fun e => by subst e; revert h; decide
theorem no_ {p : Pc} (h : p.valid = true) : p.vok := by
  unfold Pc.valid at h
  split at h
  · simp at h
  rename_i h1
  split at h
  · simp at h
  rename_i h2
  split at h
  · simp at h
  have hk : p.kind = 1 ∨ p.kind = 2 ∨ p.kind = 3 ∨ p.kind = 4 ∨ p.kind = 5 ∨ p.kind = 6 ∨ p.kind = 7 ∨ p.kind = 8 ∨ p.kind = 9 := by omega
  have hn : ∀ {b : Bool} {s : Str}, ct_ b s bY_ = true → b = true → s ≠ [] := fun h1 h2 => by
    subst h2; simp [ct_] at h1; exact pX_ h1
  have hn' : ∀ {b : Bool} {s : Str}, ct_ b s bc_ = true → b = true → s ≠ [] := fun h1 h2 => by
    subst h2; simp [ct_] at h1; exact nC_ h1
  simp only [Bool.and_eq_true] at h
  obtain ⟨⟨⟨⟨⟨_, _⟩, _⟩, hr⟩, hs⟩, ht⟩ := h
  unfold Pc.rok at *
  refine ⟨⟨fun q => ?_, fun q => ?_, fun q => ?_⟩, fun q => ?_⟩
  · rcases q with q | q | q | q | q | q | q <;> rw [q] at hr
    · exact hn hr (by decide)
    · exact hn hr (by decide)
    · exact hn hr (by decide)
    · exact hn' hr (by decide)
    · exact hn hr (by decide)
    · exact hn hr (by decide)
    · exact hn' hr (by decide)
  · rw [q] at hs ht; exact ⟨hn hs (by decide), hn ht (by decide)⟩
  · rw [q] at ht; exact hn ht (by decide)
  · rcases q with q | q <;> rw [q] at h2 <;> have : (nus 8).numbers = true ∧ (nus 9).numbers = true := by decide
    all_goals simp only [this.1, this.2, true_and] at h2; omega
theorem pu_ {p : List Pc} (h : bM_ p = 0) : p.length ≤ 16384 ∧ p.all Pc.valid = true := by
  unfold bM_ at h
  split at h
  · simp at h
  · split at h
    · exact ⟨by omega, by assumption⟩
    · simp at h
theorem fb_ {p : List Pc} (h : bM_ p = 0) : ∀ x ∈ p, x.vok := fun x hx => no_ (List.all_eq_true.1 (pu_ h).2 x hx)
section
variable {P : Program} {N : Nat} {v0 : Vw} {H0 : Hp} {fr : Fr} {H F Ha Hu Ho Hi Hr Hm Hs : Hp} {Γ : List Fct}
theorem de_ {fn : Func} {t s b n : Nat} {ty T : TypeId} {us : List Value} {u : Value} (i : Nat) (hr : fn.results = #[.cell t ty, .tmp s]) (ha : ∀ w, (isAgg ty).run P w = .ok true w) (hs : ∀ w, (sizeOf ty).run P w = .ok n w) (hn : us.length = n) (hx : Fr.get fr t = some (zp_ b 0)) (hu : Fr.get fr s = some u)
    (hi : H[i]? = some (b, .cells us.toArray T (0, 0))) (a : Act) (v : Vw) (h1 : Fr.sat N fr a) (h2 : v.sat H) : (results fn a.tmps).run P v.w = .ok (.tuple #[.agg us.toArray, u]) v.w := by
  have e := h1.val t _ hx
  have e2 := h1.val s _ hu
  have hl := dn_ (t := ty) (w := v.w) (b := b) (off := 0) ha hs hn (fun j y hj => by rw [Nat.zero_add, fy_ h2 hi]; simpa using hj)
  simp [results, hr, e, e2, asAddr, hl]
theorem ml_ (h : H.Perm ((Ha ++ (Hu ++ (Ho ++ (Hi ++ (Hr ++ (Hm ++ Hs)))))) ++ F)) : H.Perm (((Ha ++ (Hu ++ (Ho ++ (Hi ++ (Hr ++ Hm))))) ++ Hs) ++ F) := by simpa [List.append_assoc] using h
theorem kv_ : (((Ha ++ (Hu ++ (Ho ++ (Hi ++ (Hr ++ Hm))))) ++ Hs) ++ F).Perm (Ha ++ (Hu ++ (Ho ++ (Hi ++ (Hr ++ (Hm ++ (Hs ++ F))))))) := by simp [List.append_assoc]
theorem qb_ {a b c : Nat × Obj} {Hq : Hp} : ((Ha ++ (Hu ++ (Ho ++ (Hi ++ (Hr ++ (Hm ++ (a :: b :: ([c] ++ Hq)))))))) ++ F).Perm (Ha ++ (Hu ++ (Ho ++ (Hi ++ (Hr ++ (Hm ++ (a :: b :: ([c] ++ (Hq ++ F))))))))) := by simp [List.append_assoc]
end
theorem ep_ : kR_ Tryz.prog 28 [(0, 1), (1, 1)] [.slice none 0 0, .slice none 0 0] := ⟨_, dQ_, aB_, fun w => by simp [da_, bl_]⟩
end Go.Proofs.YtpdbbglpbngeiaaGreatDoor
namespace Go.Proofs.YtpdbbglpbngeiaaGreatDoor
open Go Go.Sx Go.Proofs
attribute [local irreducible] Code.wp wpList wpAnyH
open Go.Vs Go.ChangeShapes Go.WideShapes Go.ChangeAt Go.RowKit
structure Tys2 (P : Program) (tI tS tSs tF tFs tK : TypeId) : Prop where
  f : ∃ fs, P.underlying tF = some (.struct fs) ∧ fs.toList.map (fun f => (f.type, f.offset)) = [(tI, 0), (tS, 1), (tS, 2), (tS, 3), (tI, 4), (tI, 5)]
  fs : P.underlying tFs = some (.slice tF)
  k : ∃ fs, P.underlying tK = some (.struct fs) ∧ fs.toList.map (fun f => (f.type, f.offset)) = [(tSs, 0), (tFs, 1)]
  cf : P.cellsOf tF = 6
  cfs : P.cellsOf tFs = 1
  ck : P.cellsOf tK = 2
  bf : P.bytesOf tF = 72
section
variable {H : Type} {enc : TypeId × Value → H} {P : Program} {W : World} {tI tB tS tSs tC tCs tA tAs tP tPs tF tFs tK : TypeId} (X : Tys P tI tB tS tSs tC tCs tA tAs tP tPs) (Z : Tys2 P tI tS tSs tF tFs tK)
include X Z
variable {base : Nat} {v : Value} {d : DataW H} {ps : List MemPlace}
end
end Go.Proofs.YtpdbbglpbngeiaaGreatDoor
namespace Go.Proofs.YtpdbbglpbngeiaaGreatDoor
open Go Go.Sx Go.Proofs
attribute [local irreducible] Code.wp wpList wpAnyH
open Go.Vs Go.ChangeShapes Go.WideShapes Go.ChangeAt Go.RowKit
theorem own : ownKnob Tryz.prog.godebug = none := by kernel_rfl
def ja_ : List (String × DataW Unit) := [("unicode/utf8.acceptRanges", Rows.laid_unicode_utf8_acceptRanges), ("veilstone/normal.uses", Rows.laid_veilstone_normal_uses), ("unicode/utf8.first", Rows.laid_unicode_utf8_first)]
theorem kids : Kids Tryz.prog (· < Tryz.prog.types.size) := kids_rows (by kernel_rfl) (by kernel_rfl)
theorem full : ∀ t e, t < Tryz.prog.types.size → Tryz.prog.underlying t = some (.slice e) → 0 < Tryz.prog.cellsOf e := slices_full_of _ (by kernel_rfl)
theorem oV_ : Tryz.prog.types.size = 292 := by kernel_rfl
theorem pL_ : Tys Tryz.prog 3 4 9 25 132 130 134 75 47 22 where
  i := bS_
  b := Tryz.underlying4
  s := bB_
  ss := jO_
  c := ⟨_, Tryz.underlying132, rfl⟩
  cs := Tryz.underlying130
  a := ⟨_, Tryz.underlying134, rfl⟩
  axs := Tryz.underlying75
  p := ⟨_, jN_, rfl⟩
  ps := Tryz.underlying22
  ci := by kernel_rfl
  cb := by kernel_rfl
  cs1 := by kernel_rfl
  css := by kernel_rfl
  cc := by kernel_rfl
  ccs := by kernel_rfl
  ca := by kernel_rfl
  cp := by kernel_rfl
  bs := by kernel_rfl
  bc := by kernel_rfl
  ba := by kernel_rfl
  bp := by kernel_rfl
theorem ih_ {W : World} (h : laidMetH Tryz.prog ja_ W) : ∃ T fz, W.heap[0]? = some (.cells (fV_ (H := Unit) Rows.laid_veilstone_normal_uses).toArray T fz) := by
  rw [MakeChecks.laidMetH_plain _ _ _ (by kernel_rfl)] at h
  exact om_ kids (name := "veilstone/normal.uses") h (by simp [ja_]) (g := 0) (t := 153) (by kernel_rfl) (by kernel_rfl) (by rw [oV_]; decide) (m := 4) (by kernel_rfl)
theorem pW_ {W : World} {g : Nat} {l : List Value} {d : List Value} (h : ∃ T fz, W.heap[g]? = some (.cells l.toArray T fz)) (e : l = d) : bv_ (vw W) (some ⟨g, 0, none⟩) d := by
  obtain ⟨T, fz, h⟩ := h
  subst e
  exact .inr ⟨g, 0, _, T, fz, rfl, (Array.getElem?_eq_some_iff.1 h).1, h, fun j x hj => by rw [Nat.zero_add]; simpa using hj⟩
theorem pM_ {W : World} (h : laidMetH Tryz.prog ja_ W) : gP_.p (vw W) := pW_ (ih_ h) (by kernel_rfl)
end Go.Proofs.YtpdbbglpbngeiaaGreatDoor
