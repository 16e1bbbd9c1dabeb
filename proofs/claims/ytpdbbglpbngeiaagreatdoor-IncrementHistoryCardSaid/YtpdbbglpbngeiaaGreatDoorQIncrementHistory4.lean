/-
  Part of the proof of the law IncrementHistory over this seat: the small logic, the data, the contracts of functions (no condition).
-/
import Derived.Test.YtpdbbglpbngeiaaGreatDoorQIncrementHistory3
import Derived.Test.YtpdbbglpbngeiaaGreatDoorQIncrementHistory2
set_option linter.unusedVariables false
set_option linter.unusedSimpArgs false
set_option linter.unusedSectionVars false
namespace Go.Proofs.YtpdbbglpbngeiaaGreatDoor
open Go Go.Sx Go.Proofs
attribute [local irreducible] Code.wp wpList wpAnyH
open Go.Vs
theorem dC_ {α β : Type} {g : α → β} {l : List α} {i : Nat} {x : α} (h : l[i]? = some x) : List.map g (List.take (i + 1) l) = List.map g (List.take i l) ++ [g x] := by
  rw [List.take_add_one, h, Option.toList_some, List.map_append]; rfl
theorem eg_ (a b : Str) : Fn0 Tryz.prog 89 #[str a, str b] (Fc.val (aq_ a b)) := by
  refine J_ Tryz.func89 rfl rfl Tryz.ntmps89 rfl fun v0 => ?_
  refine h_ (d_ (ah_ bb_ rfl fun b1 => ?_))
  refine e_ (c_ rfl (h_ (d_ (a_ (g_ rfl) rfl (a_ (g_ rfl) rfl (a_ (aj_ kq_ rfl rfl) rfl (R_ 0 G_ rfl rfl rfl rfl rfl rfl (e_ (c_ rfl ?_)))))))))
  refine D_ ?_
  exact dh_ () (fun aa v h1 h2 => fy_ (us := Fc.cells (aq_ a b)) 0 Tryz.results89 ac_ G_ rfl rfl rfl aa v h1 h2) F_ (fun _ _ _ => trivial)
theorem hF_ (a r b : Str) : Fn0 Tryz.prog 99 #[str a, str r, str b] (Fc.val (av_ a r b)) := by
  refine J_ Tryz.func99 rfl rfl Tryz.ntmps99 rfl fun v0 => ?_
  refine h_ (d_ (ah_ bb_ rfl fun b1 => ?_))
  refine e_ (c_ rfl (h_ (d_ (a_ (g_ rfl) rfl (a_ (g_ rfl) rfl (a_ (g_ rfl) rfl (a_ (aj_ kq_ rfl rfl) rfl (R_ 0 G_ rfl rfl rfl rfl rfl rfl (e_ ?_)))))))))
  refine c_ rfl (D_ ?_)
  exact dh_ () (fun aa v h1 h2 => fy_ (us := Fc.cells (av_ a r b)) 0 Tryz.results99 ac_ G_ rfl rfl rfl aa v h1 h2) F_ (fun _ _ _ => trivial)
theorem ks_ (a r : Str) (lo hi : Int) : Fn0 Tryz.prog 90 #[str a, str r, .int .i64 lo, .int .i64 hi] (Fc.val (at_ a r lo hi)) := by
  refine J_ Tryz.func90 rfl rfl Tryz.ntmps90 rfl fun v0 => ?_
  refine h_ (d_ (ah_ bb_ rfl fun b1 => ?_))
  refine e_ (c_ rfl (h_ (d_ (a_ (g_ rfl) rfl (a_ (g_ rfl) rfl (a_ (g_ rfl) rfl (a_ (g_ rfl) rfl (a_ (aj_ kq_ rfl rfl) rfl (R_ 0 G_ rfl rfl rfl rfl rfl rfl ?_)))))))))
  refine e_ (c_ rfl (D_ ?_))
  exact dh_ () (fun aa v h1 h2 => fy_ (us := Fc.cells (at_ a r lo hi)) 0 Tryz.results90 ac_ G_ rfl rfl rfl aa v h1 h2) F_ (fun _ _ _ => trivial)
theorem mf_ (B : EngB) (E : Emt Tryz.prog 41) (A : EngA) (pm : List (Ky × Pc)) (x : Ix) (f : Fc) (nw fm : List Fc) (Hs : Hp) (hS : E.St nw fm Hs) (hpl : ∀ k, (lat pm k).length ≤ 1000000000) (hxl : ∀ k, (lat x.above k).length ≤ 1000000000 ∧ (lat x.under k).length ≤ 1000000000) (hyl : ∀ k, (lat x.frm k).length ≤ 1000000000 ∧ (lat x.into k).length ≤ 1000000000 ∧ (lat x.ranges k).length ≤ 1000000000 ∧ (lat x.firms k).length ≤ 1000000000) : Tri Tryz.prog 100 #[zp_ B.g 0, Fc.val f] Hs [gF B E, pF B pm A, aF B x A, uF B x A, oF B x A, iF B x A, rF B x A, sF B x A, E.ef] (fun _ : {H' : Hp // E.St (emits E.stp (eF_ pm f) nw) fm H'} => .tuple #[]) (fun y => y.1) (fun _ => []) := by
  refine J_ Tryz.func100 rfl rfl Tryz.ntmps100 rfl fun v0 => ?_
  refine h_ (d_ (bd_ rfl rfl fun b1 => ?_))
  refine e_ (c_ rfl (h_ ?_))
  refine az_ (by kernel_rfl) ?_
  refine ag_ 0 [0, 1, 2, 3, 4, 5, 6, 7, 8, 9] (by kernel_rfl) (fun _ a b => ⟨a, b⟩) (l_ rfl (g_ rfl) rfl (l_ rfl (ab_ rfl) rfl (l_ rfl (m_ w_ rfl rfl rfl cz_) rfl (l_ rfl (U_ dk_ rfl (fun v _ h => by exact h.1) rfl) rfl (l_ rfl (m_ n_ rfl rfl rfl o_) rfl (l_ rfl (t_ 0 u_ rfl rfl rfl) rfl (l_ rfl (aj_ dx_ rfl rfl) rfl (l_ rfl (bI_ (k := (Ky.mk 1 [] (Fc.b f))) (adr := A.p) fa_ bB_ bR_ rfl rfl (fun v _ h => by exact h.2.1)) rfl (l_ rfl (ae_ E_ rfl) rfl ?_)))))))))
  refine l_ rfl (g_ rfl) rfl (af_ (Y_ (by kernel_rfl) (c_ rfl (K_ ?_))))
  refine ax_ (ι := {y : Nat × Hp // y.1 ≤ List.length (lat pm (Ky.mk 1 [] (Fc.b f))) ∧ E.St (emits E.stp (List.map (fun y => aq_ (Fc.a f) (Pc.c y)) (List.take y.1 (lat pm (Ky.mk 1 [] (Fc.b f))))) nw) fm y.2}) (fun y => [(0, zp_ B.g 0), (3, zp_ b1 0), (13, .slice (Prod.fst (A.p (Ky.mk 1 [] (Fc.b f)))) (List.length (lat pm (Ky.mk 1 [] (Fc.b f)))) (Prod.snd (A.p (Ky.mk 1 [] (Fc.b f))))), (14, .int .i64 (List.length (lat pm (Ky.mk 1 [] (Fc.b f))) : Int)), (15, .int .i64 (y.1.1 : Int))]) (fun y => ((b1, .cells (Fc.cells f).toArray 41 (0, 0)) :: y.1.2)) (fun y => [gF B E, pF B pm A, aF B x A, uF B x A, oF B x A, iF B x A, rF B x A, sF B x A, E.ef]) (fun y => List.length (lat pm (Ky.mk 1 [] (Fc.b f))) - y.1.1) ⟨((0 : Nat), Hs), by simp, by exact hS⟩ ⟨rfl, rfl, rfl, rfl, rfl, trivial⟩ (j_ f_ aO_) (fun _ _ h => h) ?_
  rintro ⟨⟨i, Hs_i⟩, hi_i, hS_i⟩
  dsimp only at hi_i hS_i ⊢
  have hb_i := hpl (Ky.mk 1 [] (Fc.b f))
  refine h_ (d_ (x_ (ar_ rfl rfl) rfl fun r1 hr1 => ?_))
  refine e_ (c_ rfl (h_ ?_))
  cases r1
  · skip
    replace hr1 := of_decide_eq_false hr1
    refine s_ rfl (au_ rfl (aW_ rfl ?_))
    exact cw_ Tryz.results100 ⟨Hs_i, by unfold eF_; rw [List.take_of_length_le (by omega)] at hS_i; exact hS_i⟩ rfl S_ (fun _ _ _ => trivial)
  · skip
    replace hr1 := of_decide_eq_true hr1
    have hlx1 : i < List.length (lat pm (Ky.mk 1 [] (Fc.b f))) := by omega
    obtain ⟨x1, hx1⟩ : ∃ e0, (lat pm (Ky.mk 1 [] (Fc.b f)))[i]? = some e0 := ⟨_, List.getElem?_eq_getElem hlx1⟩
    have hmx1 : x1 ∈ (lat pm (Ky.mk 1 [] (Fc.b f))) := List.mem_of_getElem? hx1
    refine p_ rfl (B_ (c_ rfl (h_ (K_ (h_ (d_ (a_ (al_ E_ Q_ rfl rfl (fun v _ h => aG_ (n := 10) Pc.cells_len (by decide) (by exact (bl_ h.2.1 (Ky.mk 1 [] (Fc.b f)))) hx1) (by omega) (by first | omega | (simp; done))) rfl (a_ (aK_ (ad := (Prod.fst (A.p (Ky.mk 1 [] (Fc.b f))))) (us := Pc.cells x1) bc_ Q_ rfl (fun v _ h => by exact (bl_ h.2.1 (Ky.mk 1 [] (Fc.b f)))) (Pc.cells_len _) (ao_ Pc.cells_len hx1)) rfl (ah_ aJ_ rfl fun b2 => ?_)))))))))
    refine R_ 0 Q_ rfl rfl rfl rfl rfl rfl (e_ (c_ rfl ?_))
    refine aB_ ((b2, .cells (Pc.cells x1).toArray 47 (0, 0)) :: ((b1, .cells (Fc.cells f).toArray 41 (0, 0)) :: [])) (by kernel_rfl) ?_
    refine ag_ 2 [0, 1, 2, 3, 4, 5, 6, 7] (by kernel_rfl) (fun _ a b => ⟨Vw.sat.sub (a.perm (j_ f_ f_)), b⟩) (l_ rfl (g_ rfl) rfl (l_ rfl (ab_ rfl) rfl (l_ rfl (m_ w_ rfl rfl rfl aC_) rfl (l_ rfl (U_ bh_ rfl (fun v _ h => by exact h.1) rfl) rfl (l_ rfl (m_ n_ rfl rfl rfl o_) rfl (l_ rfl (t_ 1 u_ rfl rfl rfl) rfl (l_ rfl (m_ z_ rfl rfl rfl o_) rfl (l_ rfl (t_ 0 u_ rfl rfl rfl) rfl (af_ ?_)))))))))
    refine N_ 8 rfl (by kernel_rfl) (aa_ (eg_ (Fc.a f) (Pc.c x1)) rfl F_ (fun _ _ _ => by exact trivial) rfl fun _ => ?_)
    refine e_ (v_ rfl (C_ (fun _ a b => ⟨Vw.sat.sub (a.perm (j_ f_ f_)), b⟩) (N_ 9 rfl (by kernel_rfl) (aH_ (first := []) (cap := E.caps) (E.emit (aq_ (Fc.a f) (Pc.c x1)) (emits E.stp (List.map (fun y => aq_ (Fc.a f) (Pc.c y)) (List.take i (lat pm (Ky.mk 1 [] (Fc.b f))))) nw) fm Hs_i hS_i) rfl rfl (b_ S_) (fun v _ h => by exact ⟨h.2.2.2.2.2.2.2.2.1, trivial⟩) rfl fun ⟨Hs1, hS1⟩ => ?_))))
    dsimp only
    refine e_ (v_ rfl (C_ (fun _ a b => ⟨Vw.sat.sub (a.perm (j_ (k_ f_) aR_)), b⟩) (Y_ (by kernel_rfl) (c_ rfl (d_ (a_ (P_ rfl rfl rfl (an_ (by omega) (by omega))) rfl (a_ (g_ rfl) rfl (e_ (v_ rfl ?_)))))))))
    exact ai_ ⟨(i + 1, Hs1), hlx1, (by rw [dC_ hx1, aw_]; exact hS1)⟩ (by dsimp only; omega) ⟨rfl, rfl, rfl, rfl, rfl, trivial⟩ (j_ (k_ (b_ f_)) q_) (fun _ _ h => h)
theorem some_c (B : EngB) (E : Emt Tryz.prog 41) (A : EngA) (pm : List (Ky × Pc)) (x : Ix) (f : Fc) (nw fm : List Fc) (Hs : Hp) (hS : E.St nw fm Hs) (hpl : ∀ k, (lat pm k).length ≤ 1000000000) (hxl : ∀ k, (lat x.above k).length ≤ 1000000000 ∧ (lat x.under k).length ≤ 1000000000) (hyl : ∀ k, (lat x.frm k).length ≤ 1000000000 ∧ (lat x.into k).length ≤ 1000000000 ∧ (lat x.ranges k).length ≤ 1000000000 ∧ (lat x.firms k).length ≤ 1000000000) : Tri Tryz.prog 102 #[zp_ B.g 0, Fc.val f] Hs [gF B E, pF B pm A, aF B x A, uF B x A, oF B x A, iF B x A, rF B x A, sF B x A, E.ef] (fun _ : {H' : Hp // E.St (emits E.stp (iq_ pm f) nw) fm H'} => .tuple #[]) (fun y => y.1) (fun _ => []) := by
  refine J_ Tryz.func102 rfl rfl Tryz.ntmps102 rfl fun v0 => ?_
  refine h_ (d_ (bd_ rfl rfl fun b1 => ?_))
  refine e_ (c_ rfl (h_ ?_))
  refine az_ (by kernel_rfl) ?_
  refine ag_ 0 [0, 1, 2, 3, 4, 5, 6, 7, 8, 9] (by kernel_rfl) (fun _ a b => ⟨a, b⟩) (l_ rfl (g_ rfl) rfl (l_ rfl (ab_ rfl) rfl (l_ rfl (m_ w_ rfl rfl rfl cz_) rfl (l_ rfl (U_ dk_ rfl (fun v _ h => by exact h.1) rfl) rfl (l_ rfl (m_ n_ rfl rfl rfl o_) rfl (l_ rfl (t_ 0 u_ rfl rfl rfl) rfl (l_ rfl (aj_ dx_ rfl rfl) rfl (l_ rfl (bI_ (k := (Ky.mk 3 [] (Fc.b f))) (adr := A.p) fa_ bB_ bR_ rfl rfl (fun v _ h => by exact h.2.1)) rfl (l_ rfl (ae_ E_ rfl) rfl ?_)))))))))
  refine l_ rfl (g_ rfl) rfl (af_ (Y_ (by kernel_rfl) (c_ rfl (K_ ?_))))
  refine ax_ (ι := {y : Nat × Hp // y.1 ≤ List.length (lat pm (Ky.mk 3 [] (Fc.b f))) ∧ E.St (emits E.stp (List.map (fun y => av_ (Fc.a f) (Pc.r y) (Pc.c y)) (List.take y.1 (lat pm (Ky.mk 3 [] (Fc.b f))))) nw) fm y.2}) (fun y => [(0, zp_ B.g 0), (3, zp_ b1 0), (13, .slice (Prod.fst (A.p (Ky.mk 3 [] (Fc.b f)))) (List.length (lat pm (Ky.mk 3 [] (Fc.b f)))) (Prod.snd (A.p (Ky.mk 3 [] (Fc.b f))))), (14, .int .i64 (List.length (lat pm (Ky.mk 3 [] (Fc.b f))) : Int)), (15, .int .i64 (y.1.1 : Int))]) (fun y => ((b1, .cells (Fc.cells f).toArray 41 (0, 0)) :: y.1.2)) (fun y => [gF B E, pF B pm A, aF B x A, uF B x A, oF B x A, iF B x A, rF B x A, sF B x A, E.ef]) (fun y => List.length (lat pm (Ky.mk 3 [] (Fc.b f))) - y.1.1) ⟨((0 : Nat), Hs), by simp, by exact hS⟩ ⟨rfl, rfl, rfl, rfl, rfl, trivial⟩ (j_ f_ aO_) (fun _ _ h => h) ?_
  rintro ⟨⟨i, Hs_i⟩, hi_i, hS_i⟩
  dsimp only at hi_i hS_i ⊢
  have hb_i := hpl (Ky.mk 3 [] (Fc.b f))
  refine h_ (d_ (x_ (ar_ rfl rfl) rfl fun r1 hr1 => ?_))
  refine e_ (c_ rfl (h_ ?_))
  cases r1
  · skip
    replace hr1 := of_decide_eq_false hr1
    refine s_ rfl (au_ rfl (aW_ rfl ?_))
    exact cw_ Tryz.results102 ⟨Hs_i, by unfold iq_; rw [List.take_of_length_le (by omega)] at hS_i; exact hS_i⟩ rfl S_ (fun _ _ _ => trivial)
  · skip
    replace hr1 := of_decide_eq_true hr1
    have hlx1 : i < List.length (lat pm (Ky.mk 3 [] (Fc.b f))) := by omega
    obtain ⟨x1, hx1⟩ : ∃ e0, (lat pm (Ky.mk 3 [] (Fc.b f)))[i]? = some e0 := ⟨_, List.getElem?_eq_getElem hlx1⟩
    have hmx1 : x1 ∈ (lat pm (Ky.mk 3 [] (Fc.b f))) := List.mem_of_getElem? hx1
    refine p_ rfl (B_ (c_ rfl (h_ (K_ (h_ (d_ (a_ (al_ E_ Q_ rfl rfl (fun v _ h => aG_ (n := 10) Pc.cells_len (by decide) (by exact (bl_ h.2.1 (Ky.mk 3 [] (Fc.b f)))) hx1) (by omega) (by first | omega | (simp; done))) rfl (a_ (aK_ (ad := (Prod.fst (A.p (Ky.mk 3 [] (Fc.b f))))) (us := Pc.cells x1) bc_ Q_ rfl (fun v _ h => by exact (bl_ h.2.1 (Ky.mk 3 [] (Fc.b f)))) (Pc.cells_len _) (ao_ Pc.cells_len hx1)) rfl (ah_ aJ_ rfl fun b2 => ?_)))))))))
    refine R_ 0 Q_ rfl rfl rfl rfl rfl rfl (e_ (c_ rfl ?_))
    refine aB_ ((b2, .cells (Pc.cells x1).toArray 47 (0, 0)) :: ((b1, .cells (Fc.cells f).toArray 41 (0, 0)) :: [])) (by kernel_rfl) ?_
    refine ag_ 2 [0, 1, 2, 3, 4, 5, 6, 7, 8, 9] (by kernel_rfl) (fun _ a b => ⟨Vw.sat.sub (a.perm (j_ f_ f_)), b⟩) (l_ rfl (g_ rfl) rfl (l_ rfl (ab_ rfl) rfl (l_ rfl (m_ w_ rfl rfl rfl aC_) rfl (l_ rfl (U_ bh_ rfl (fun v _ h => by exact h.1) rfl) rfl (l_ rfl (m_ n_ rfl rfl rfl o_) rfl (l_ rfl (t_ 1 u_ rfl rfl rfl) rfl (l_ rfl (m_ z_ rfl rfl rfl o_) rfl (l_ rfl (t_ 0 u_ rfl rfl rfl) rfl (l_ rfl (m_ z_ rfl rfl rfl o_) rfl ?_)))))))))
    refine l_ rfl (t_ 0 u_ rfl rfl rfl) rfl (af_ (N_ 10 rfl (by kernel_rfl) (aa_ (hF_ (Fc.a f) (Pc.r x1) (Pc.c x1)) rfl F_ (fun _ _ _ => by exact trivial) rfl fun _ => ?_)))
    refine e_ (v_ rfl (C_ (fun _ a b => ⟨Vw.sat.sub (a.perm (j_ f_ f_)), b⟩) (N_ 11 rfl (by kernel_rfl) (aH_ (first := []) (cap := E.caps) (E.emit (av_ (Fc.a f) (Pc.r x1) (Pc.c x1)) (emits E.stp (List.map (fun y => av_ (Fc.a f) (Pc.r y) (Pc.c y)) (List.take i (lat pm (Ky.mk 3 [] (Fc.b f))))) nw) fm Hs_i hS_i) rfl rfl (b_ S_) (fun v _ h => by exact ⟨h.2.2.2.2.2.2.2.2.1, trivial⟩) rfl fun ⟨Hs1, hS1⟩ => ?_))))
    dsimp only
    refine e_ (v_ rfl (C_ (fun _ a b => ⟨Vw.sat.sub (a.perm (j_ (k_ f_) aR_)), b⟩) (Y_ (by kernel_rfl) (c_ rfl (d_ (a_ (P_ rfl rfl rfl (an_ (by omega) (by omega))) rfl (a_ (g_ rfl) rfl (e_ (v_ rfl ?_)))))))))
    exact ai_ ⟨(i + 1, Hs1), hlx1, (by rw [dC_ hx1, aw_]; exact hS1)⟩ (by dsimp only; omega) ⟨rfl, rfl, rfl, rfl, rfl, trivial⟩ (j_ (k_ (b_ f_)) q_) (fun _ _ h => h)
theorem lY_ (B : EngB) (E : Emt Tryz.prog 41) (A : EngA) (pm : List (Ky × Pc)) (x : Ix) (f : Fc) (nw fm : List Fc) (Hs : Hp) (hS : E.St nw fm Hs) (hpl : ∀ k, (lat pm k).length ≤ 1000000000) (hxl : ∀ k, (lat x.above k).length ≤ 1000000000 ∧ (lat x.under k).length ≤ 1000000000) (hyl : ∀ k, (lat x.frm k).length ≤ 1000000000 ∧ (lat x.into k).length ≤ 1000000000 ∧ (lat x.ranges k).length ≤ 1000000000 ∧ (lat x.firms k).length ≤ 1000000000) : Tri Tryz.prog 106 #[zp_ B.g 0, Fc.val f] Hs [gF B E, pF B pm A, aF B x A, uF B x A, oF B x A, iF B x A, rF B x A, sF B x A, E.ef] (fun _ : {H' : Hp // E.St (emits E.stp (eD_ pm f) nw) fm H'} => .tuple #[]) (fun y => y.1) (fun _ => []) := by
  refine J_ Tryz.func106 rfl rfl Tryz.ntmps106 rfl fun v0 => ?_
  refine h_ (d_ (bd_ rfl rfl fun b1 => ?_))
  refine e_ (c_ rfl (h_ ?_))
  refine az_ (by kernel_rfl) ?_
  refine ag_ 0 [0, 1, 2, 3, 4, 5, 6, 7, 8, 9] (by kernel_rfl) (fun _ a b => ⟨a, b⟩) (l_ rfl (g_ rfl) rfl (l_ rfl (ab_ rfl) rfl (l_ rfl (m_ w_ rfl rfl rfl cz_) rfl (l_ rfl (U_ dk_ rfl (fun v _ h => by exact h.1) rfl) rfl (l_ rfl (m_ n_ rfl rfl rfl o_) rfl (l_ rfl (t_ 0 u_ rfl rfl rfl) rfl (l_ rfl (aj_ dx_ rfl rfl) rfl (l_ rfl (bI_ (k := (Ky.mk 5 (Fc.r f) [])) (adr := A.p) fa_ bB_ bR_ rfl rfl (fun v _ h => by exact h.2.1)) rfl (l_ rfl (ae_ E_ rfl) rfl ?_)))))))))
  refine l_ rfl (g_ rfl) rfl (af_ (Y_ (by kernel_rfl) (c_ rfl (K_ ?_))))
  refine ax_ (ι := {y : Nat × Hp // y.1 ≤ List.length (lat pm (Ky.mk 5 (Fc.r f) [])) ∧ E.St (emits E.stp (List.map (fun y => av_ (Fc.a f) (Pc.t y) (Fc.b f)) (List.take y.1 (lat pm (Ky.mk 5 (Fc.r f) [])))) nw) fm y.2}) (fun y => [(0, zp_ B.g 0), (3, zp_ b1 0), (13, .slice (Prod.fst (A.p (Ky.mk 5 (Fc.r f) []))) (List.length (lat pm (Ky.mk 5 (Fc.r f) []))) (Prod.snd (A.p (Ky.mk 5 (Fc.r f) [])))), (14, .int .i64 (List.length (lat pm (Ky.mk 5 (Fc.r f) [])) : Int)), (15, .int .i64 (y.1.1 : Int))]) (fun y => ((b1, .cells (Fc.cells f).toArray 41 (0, 0)) :: y.1.2)) (fun y => [gF B E, pF B pm A, aF B x A, uF B x A, oF B x A, iF B x A, rF B x A, sF B x A, E.ef]) (fun y => List.length (lat pm (Ky.mk 5 (Fc.r f) [])) - y.1.1) ⟨((0 : Nat), Hs), by simp, by exact hS⟩ ⟨rfl, rfl, rfl, rfl, rfl, trivial⟩ (j_ f_ aO_) (fun _ _ h => h) ?_
  rintro ⟨⟨i, Hs_i⟩, hi_i, hS_i⟩
  dsimp only at hi_i hS_i ⊢
  have hb_i := hpl (Ky.mk 5 (Fc.r f) [])
  refine h_ (d_ (x_ (ar_ rfl rfl) rfl fun r1 hr1 => ?_))
  refine e_ (c_ rfl (h_ ?_))
  cases r1
  · skip
    replace hr1 := of_decide_eq_false hr1
    refine s_ rfl (au_ rfl (aW_ rfl ?_))
    exact cw_ Tryz.results106 ⟨Hs_i, by unfold eD_; rw [List.take_of_length_le (by omega)] at hS_i; exact hS_i⟩ rfl S_ (fun _ _ _ => trivial)
  · skip
    replace hr1 := of_decide_eq_true hr1
    have hlx1 : i < List.length (lat pm (Ky.mk 5 (Fc.r f) [])) := by omega
    obtain ⟨x1, hx1⟩ : ∃ e0, (lat pm (Ky.mk 5 (Fc.r f) []))[i]? = some e0 := ⟨_, List.getElem?_eq_getElem hlx1⟩
    have hmx1 : x1 ∈ (lat pm (Ky.mk 5 (Fc.r f) [])) := List.mem_of_getElem? hx1
    refine p_ rfl (B_ (c_ rfl (h_ (K_ (h_ (d_ (a_ (al_ E_ Q_ rfl rfl (fun v _ h => aG_ (n := 10) Pc.cells_len (by decide) (by exact (bl_ h.2.1 (Ky.mk 5 (Fc.r f) []))) hx1) (by omega) (by first | omega | (simp; done))) rfl (a_ (aK_ (ad := (Prod.fst (A.p (Ky.mk 5 (Fc.r f) [])))) (us := Pc.cells x1) bc_ Q_ rfl (fun v _ h => by exact (bl_ h.2.1 (Ky.mk 5 (Fc.r f) []))) (Pc.cells_len _) (ao_ Pc.cells_len hx1)) rfl (ah_ aJ_ rfl fun b2 => ?_)))))))))
    refine R_ 0 Q_ rfl rfl rfl rfl rfl rfl (e_ (c_ rfl ?_))
    refine aB_ ((b2, .cells (Pc.cells x1).toArray 47 (0, 0)) :: ((b1, .cells (Fc.cells f).toArray 41 (0, 0)) :: [])) (by kernel_rfl) ?_
    refine ag_ 2 [0, 1, 2, 3, 4, 5, 6, 7, 8, 9] (by kernel_rfl) (fun _ a b => ⟨Vw.sat.sub (a.perm (j_ f_ f_)), b⟩) (l_ rfl (g_ rfl) rfl (l_ rfl (ab_ rfl) rfl (l_ rfl (m_ w_ rfl rfl rfl aC_) rfl (l_ rfl (U_ bh_ rfl (fun v _ h => by exact h.1) rfl) rfl (l_ rfl (m_ n_ rfl rfl rfl o_) rfl (l_ rfl (t_ 1 u_ rfl rfl rfl) rfl (l_ rfl (m_ z_ rfl rfl rfl o_) rfl (l_ rfl (t_ 0 u_ rfl rfl rfl) rfl (l_ rfl (m_ n_ rfl rfl rfl o_) rfl ?_)))))))))
    refine l_ rfl (t_ 1 u_ rfl rfl rfl) rfl (af_ (N_ 10 rfl (by kernel_rfl) (aa_ (hF_ (Fc.a f) (Pc.t x1) (Fc.b f)) rfl F_ (fun _ _ _ => by exact trivial) rfl fun _ => ?_)))
    refine e_ (v_ rfl (C_ (fun _ a b => ⟨Vw.sat.sub (a.perm (j_ f_ f_)), b⟩) (N_ 11 rfl (by kernel_rfl) (aH_ (first := []) (cap := E.caps) (E.emit (av_ (Fc.a f) (Pc.t x1) (Fc.b f)) (emits E.stp (List.map (fun y => av_ (Fc.a f) (Pc.t y) (Fc.b f)) (List.take i (lat pm (Ky.mk 5 (Fc.r f) [])))) nw) fm Hs_i hS_i) rfl rfl (b_ S_) (fun v _ h => by exact ⟨h.2.2.2.2.2.2.2.2.1, trivial⟩) rfl fun ⟨Hs1, hS1⟩ => ?_))))
    dsimp only
    refine e_ (v_ rfl (C_ (fun _ a b => ⟨Vw.sat.sub (a.perm (j_ (k_ f_) aR_)), b⟩) (Y_ (by kernel_rfl) (c_ rfl (d_ (a_ (P_ rfl rfl rfl (an_ (by omega) (by omega))) rfl (a_ (g_ rfl) rfl (e_ (v_ rfl ?_)))))))))
    exact ai_ ⟨(i + 1, Hs1), hlx1, (by rw [dC_ hx1, aw_]; exact hS1)⟩ (by dsimp only; omega) ⟨rfl, rfl, rfl, rfl, rfl, trivial⟩ (j_ (k_ (b_ f_)) q_) (fun _ _ h => h)
theorem eE_ {α β : Type} {g : α → List β} {l : List α} {i : Nat} {x : α} (h : l[i]? = some x) : List.flatMap g (List.take (i + 1) l) = List.flatMap g (List.take i l) ++ g x := by
  rw [List.take_add_one, h, Option.toList_some, List.flatMap_append]; simp
theorem gL_ {stp : Fc → List Fc → List Fc} {kof : List Fc → List Fc} {f : Fc} {l : List Pc} {i : Nat} {x : Pc} {s : List Fc} (h : l[i]? = some x) : dm_ stp kof f (List.take (i + 1) l) s = if aq_ f.a x.a ∈ kof (dm_ stp kof f (List.take i l) s) ∧ aq_ f.a x.b ∈ kof (dm_ stp kof f (List.take i l) s) then stp (aq_ f.a x.c) (dm_ stp kof f (List.take i l) s) else dm_ stp kof f (List.take i l) s := by
  unfold dm_
  rw [List.take_add_one, h, Option.toList_some, List.foldl_append]; rfl
theorem hk_ {stp : Fc → List Fc → List Fc} {kof : List Fc → List Fc} {f : Fc} {l : List Pc} {i : Nat} {x : Pc} {s : List Fc × List Fc} (h : l[i]? = some x) : bM_ stp kof f (List.take (i + 1) l) s = (stp (at_ f.a x.r x.lo x.hi) (bM_ stp kof f (List.take i l) s).1, if at_ f.a x.r x.lo x.hi ∈ kof (bM_ stp kof f (List.take i l) s).1 then (bM_ stp kof f (List.take i l) s).2 else at_ f.a x.r x.lo x.hi :: (bM_ stp kof f (List.take i l) s).2) := by
  unfold bM_
  rw [List.take_add_one, h, Option.toList_some, List.foldl_append]; rfl
theorem both_c (B : EngB) (E : Emt Tryz.prog 41) (A : EngA) (pm : List (Ky × Pc)) (x : Ix) (f : Fc) (nw fm : List Fc) (Hs : Hp) (hS : E.St nw fm Hs) (hpl : ∀ k, (lat pm k).length ≤ 1000000000) (hxl : ∀ k, (lat x.above k).length ≤ 1000000000 ∧ (lat x.under k).length ≤ 1000000000) (hyl : ∀ k, (lat x.frm k).length ≤ 1000000000 ∧ (lat x.into k).length ≤ 1000000000 ∧ (lat x.ranges k).length ≤ 1000000000 ∧ (lat x.firms k).length ≤ 1000000000) : Tri Tryz.prog 101 #[zp_ B.g 0, Fc.val f] Hs [gF B E, pF B pm A, aF B x A, uF B x A, oF B x A, iF B x A, rF B x A, sF B x A, E.ef] (fun _ : {H' : Hp // E.St (dm_ E.stp E.kof f (lat pm (Ky.mk 2 [] (Fc.b f))) nw) fm H'} => .tuple #[]) (fun y => y.1) (fun _ => []) := by
 refine J_ Tryz.func101 rfl rfl Tryz.ntmps101 rfl fun v0 => ?_
 refine h_ (d_ (bd_ rfl rfl fun b1 => ?_))
 refine e_ (c_ rfl (h_ ?_))
 refine az_ (by kernel_rfl) ?_
 refine ag_ 0 [0, 1, 2, 3, 4, 5, 6, 7, 8, 9] (by kernel_rfl) (fun _ a b => ⟨a, b⟩) (l_ rfl (g_ rfl) rfl (l_ rfl (ab_ rfl) rfl (l_ rfl (m_ w_ rfl rfl rfl cz_) rfl (l_ rfl (U_ dk_ rfl (fun v _ h => by exact h.1) rfl) rfl (l_ rfl (m_ n_ rfl rfl rfl o_) rfl (l_ rfl (t_ 0 u_ rfl rfl rfl) rfl (l_ rfl (aj_ dx_ rfl rfl) rfl (l_ rfl (bI_ (k := (Ky.mk 2 [] (Fc.b f))) (adr := A.p) fa_ bB_ bR_ rfl rfl (fun v _ h => by exact h.2.1)) rfl (l_ rfl (ae_ E_ rfl) rfl ?_)))))))))
 refine l_ rfl (g_ rfl) rfl (af_ (Y_ (by kernel_rfl) (c_ rfl (K_ ?_))))
 refine ax_ (ι := {y : Nat × Hp // y.1 ≤ List.length (lat pm (Ky.mk 2 [] (Fc.b f))) ∧ E.St (dm_ E.stp E.kof f (List.take y.1 (lat pm (Ky.mk 2 [] (Fc.b f)))) nw) fm y.2}) (fun y => [(0, zp_ B.g 0), (3, zp_ b1 0), (13, .slice (Prod.fst (A.p (Ky.mk 2 [] (Fc.b f)))) (List.length (lat pm (Ky.mk 2 [] (Fc.b f)))) (Prod.snd (A.p (Ky.mk 2 [] (Fc.b f))))), (14, .int .i64 (List.length (lat pm (Ky.mk 2 [] (Fc.b f))) : Int)), (15, .int .i64 (y.1.1 : Int))]) (fun y => ((b1, .cells (Fc.cells f).toArray 41 (0, 0)) :: y.1.2)) (fun y => [gF B E, pF B pm A, aF B x A, uF B x A, oF B x A, iF B x A, rF B x A, sF B x A, E.ef]) (fun y => List.length (lat pm (Ky.mk 2 [] (Fc.b f))) - y.1.1) ⟨((0 : Nat), Hs), by simp, by exact hS⟩ ⟨rfl, rfl, rfl, rfl, rfl, trivial⟩ (j_ f_ aO_) (fun _ _ h => h) ?_
 rintro ⟨⟨i, Hs_i⟩, hi_i, hS_i⟩
 dsimp only at hi_i hS_i ⊢
 have hb_i := hpl (Ky.mk 2 [] (Fc.b f))
 refine h_ (d_ (x_ (ar_ rfl rfl) rfl fun r1 hr1 => ?_))
 refine e_ (c_ rfl (h_ ?_))
 cases r1
 ·
  replace hr1 := of_decide_eq_false hr1
  refine s_ rfl (au_ rfl (aW_ rfl ?_))
  exact cw_ Tryz.results101 ⟨Hs_i, by rw [List.take_of_length_le (by omega)] at hS_i; exact hS_i⟩ rfl S_ (fun _ _ _ => trivial)
 ·
  replace hr1 := of_decide_eq_true hr1
  have hlx1 : i < List.length (lat pm (Ky.mk 2 [] (Fc.b f))) := by omega
  obtain ⟨x1, hx1⟩ : ∃ e0, (lat pm (Ky.mk 2 [] (Fc.b f)))[i]? = some e0 := ⟨_, List.getElem?_eq_getElem hlx1⟩
  have hmx1 : x1 ∈ (lat pm (Ky.mk 2 [] (Fc.b f))) := List.mem_of_getElem? hx1
  refine p_ rfl (B_ (c_ rfl (h_ (K_ (h_ (d_ (a_ (al_ E_ Q_ rfl rfl (fun v _ h => aG_ (n := 10) Pc.cells_len (by decide) (by exact (bl_ h.2.1 (Ky.mk 2 [] (Fc.b f)))) hx1) (by omega) (by first | omega | (simp; done))) rfl (a_ (aK_ (ad := (Prod.fst (A.p (Ky.mk 2 [] (Fc.b f))))) (us := Pc.cells x1) bc_ Q_ rfl (fun v _ h => by exact (bl_ h.2.1 (Ky.mk 2 [] (Fc.b f)))) (Pc.cells_len _) (ao_ Pc.cells_len hx1)) rfl (ah_ aJ_ rfl fun b2 => ?_)))))))))
  refine R_ 0 Q_ rfl rfl rfl rfl rfl rfl (e_ (c_ rfl (h_ ?_)))
  refine az_ (by kernel_rfl) ?_
  refine ag_ 14 [0, 1, 2, 3, 4, 5, 6, 7] (by kernel_rfl) (fun _ a b => ⟨a, b⟩) (l_ rfl (g_ rfl) rfl (l_ rfl (ab_ rfl) rfl (l_ rfl (m_ w_ rfl rfl rfl bw_) rfl (l_ rfl (U_ bJ_ rfl (fun v _ h => by exact h.1) rfl) rfl (l_ rfl (m_ n_ rfl rfl rfl o_) rfl (l_ rfl (t_ 1 u_ rfl rfl rfl) rfl (l_ rfl (m_ z_ rfl rfl rfl o_) rfl (l_ rfl (t_ 0 u_ rfl rfl rfl) rfl (af_ ?_)))))))))
  refine N_ 8 rfl (by kernel_rfl) (aa_ (eg_ (Fc.a f) (Pc.a x1)) rfl F_ (fun _ _ _ => by exact trivial) rfl fun _ => ?_)
  refine e_ (v_ rfl (C_ (fun _ a b => ⟨a, b⟩) (ag_ 11 [9, 10] (by kernel_rfl) (fun _ a b => ⟨a, b⟩) ?_)))
  refine cq_ rfl (fv_ (f := (aq_ (Fc.a f) (Pc.a x1))) hS_i fk_ aN_ cM_ rfl rfl (b_ S_)) rfl fun r2 hr2 => ?_
  refine l_ rfl (g_ rfl) rfl (af_ ?_)
  cases r2
  ·
   replace hr2 := of_decide_eq_false hr2
   refine ag_ 0 [11, 12, 13, 14, 15, 16, 17, 18, 19, 20, 21] (by kernel_rfl) (fun _ a b => ⟨a, b⟩) (cX_ rfl rfl rfl rfl rfl (cX_ rfl rfl rfl rfl rfl (cX_ rfl rfl rfl rfl rfl (cX_ rfl rfl rfl rfl rfl (cX_ rfl rfl rfl rfl rfl (cX_ rfl rfl rfl rfl rfl (cX_ rfl rfl rfl rfl rfl (cX_ rfl rfl rfl rfl rfl (cX_ rfl rfl rfl rfl rfl ?_)))))))))
   refine cX_ rfl rfl rfl rfl rfl (l_ rfl (M_ rfl rfl) rfl (af_ (Y_ (by kernel_rfl) (c_ rfl (s_ rfl (B_ (c_ rfl (d_ (a_ (P_ rfl rfl rfl (an_ (by omega) (by omega))) rfl ?_)))))))))
   refine a_ (g_ rfl) rfl (e_ (v_ rfl ?_))
   exact ai_ ⟨(i + 1, Hs_i), hlx1, (by rw [gL_ hx1]; first | (rw [if_pos ⟨by assumption, by assumption⟩]; exact hS_i) | (rw [if_neg (fun q => absurd q.1 (by assumption))]; exact hS_i) | (rw [if_neg (fun q => absurd q.2 (by assumption))]; exact hS_i))⟩ (by dsimp only; omega) ⟨rfl, rfl, rfl, rfl, rfl, trivial⟩ (j_ (b_ f_) S_) (fun _ _ h => h)
  ·
   replace hr2 := of_decide_eq_true hr2
   refine ag_ 3 [11, 12, 13, 14, 15, 16, 17, 18] (by kernel_rfl) (fun _ a b => ⟨a, b⟩) (cb_ rfl rfl rfl (g_ rfl) rfl (cb_ rfl rfl rfl (ab_ rfl) rfl (cb_ rfl rfl rfl (m_ w_ rfl rfl rfl bw_) rfl (cb_ rfl rfl rfl (U_ bJ_ rfl (fun v _ h => by exact h.1) rfl) rfl (cb_ rfl rfl rfl (m_ n_ rfl rfl rfl o_) rfl (cb_ rfl rfl rfl (t_ 1 u_ rfl rfl rfl) rfl (cb_ rfl rfl rfl (m_ z_ rfl rfl rfl o_) rfl (cb_ rfl rfl rfl (t_ 0 u_ rfl rfl rfl) rfl (af_ ?_)))))))))
   refine N_ 19 rfl (by kernel_rfl) (r_ rfl rfl (aa_ (eg_ (Fc.a f) (Pc.b x1)) rfl F_ (fun _ _ _ => by exact trivial) rfl fun _ => ?_))
   refine e_ (v_ rfl (C_ (fun _ a b => ⟨a, b⟩) (ag_ 0 [20, 21] (by kernel_rfl) (fun _ a b => ⟨a, b⟩) ?_)))
   refine hp_ rfl rfl rfl (fv_ (f := (aq_ (Fc.a f) (Pc.b x1))) hS_i fk_ aN_ cM_ rfl rfl (b_ S_)) rfl fun r3 hr3 => ?_
   refine l_ rfl (W_ rfl rfl) rfl (af_ (Y_ (by kernel_rfl) (c_ rfl ?_)))
   cases r3
   ·
    replace hr3 := of_decide_eq_false hr3
    refine s_ rfl (B_ (c_ rfl (d_ (a_ (P_ rfl rfl rfl (an_ (by omega) (by omega))) rfl (a_ (g_ rfl) rfl (e_ (v_ rfl ?_)))))))
    exact ai_ ⟨(i + 1, Hs_i), hlx1, (by rw [gL_ hx1]; first | (rw [if_pos ⟨by assumption, by assumption⟩]; exact hS_i) | (rw [if_neg (fun q => absurd q.1 (by assumption))]; exact hS_i) | (rw [if_neg (fun q => absurd q.2 (by assumption))]; exact hS_i))⟩ (by dsimp only; omega) ⟨rfl, rfl, rfl, rfl, rfl, trivial⟩ (j_ (b_ f_) S_) (fun _ _ h => h)
   ·
    replace hr3 := of_decide_eq_true hr3
    refine p_ rfl ?_
    refine aB_ ((b2, .cells (Pc.cells x1).toArray 47 (0, 0)) :: ((b1, .cells (Fc.cells f).toArray 41 (0, 0)) :: [])) (by kernel_rfl) ?_
    refine ag_ 2 [0, 1, 2, 3, 4, 5, 6, 7] (by kernel_rfl) (fun _ a b => ⟨Vw.sat.sub (a.perm (j_ f_ f_)), b⟩) (l_ rfl (g_ rfl) rfl (l_ rfl (ab_ rfl) rfl (l_ rfl (m_ w_ rfl rfl rfl aC_) rfl (l_ rfl (U_ bh_ rfl (fun v _ h => by exact h.1) rfl) rfl (l_ rfl (m_ n_ rfl rfl rfl o_) rfl (l_ rfl (t_ 1 u_ rfl rfl rfl) rfl (l_ rfl (m_ z_ rfl rfl rfl o_) rfl (l_ rfl (t_ 0 u_ rfl rfl rfl) rfl (af_ ?_)))))))))
    refine N_ 8 rfl (by kernel_rfl) (aa_ (eg_ (Fc.a f) (Pc.c x1)) rfl F_ (fun _ _ _ => by exact trivial) rfl fun _ => ?_)
    refine e_ (v_ rfl (C_ (fun _ a b => ⟨Vw.sat.sub (a.perm (j_ f_ f_)), b⟩) (N_ 9 rfl (by kernel_rfl) (aH_ (first := []) (cap := E.caps) (E.emit (aq_ (Fc.a f) (Pc.c x1)) (dm_ E.stp E.kof f (List.take i (lat pm (Ky.mk 2 [] (Fc.b f)))) nw) fm Hs_i hS_i) rfl rfl (b_ S_) (fun v _ h => by exact ⟨h.2.2.2.2.2.2.2.2.1, trivial⟩) rfl fun ⟨Hs1, hS1⟩ => ?_))))
    dsimp only
    refine e_ (v_ rfl (C_ (fun _ a b => ⟨Vw.sat.sub (a.perm (j_ (k_ f_) aR_)), b⟩) (Y_ (by kernel_rfl) (c_ rfl (d_ (a_ (P_ rfl rfl rfl (an_ (by omega) (by omega))) rfl (a_ (g_ rfl) rfl (e_ (v_ rfl ?_)))))))))
    exact ai_ ⟨(i + 1, Hs1), hlx1, (by rw [gL_ hx1]; first | (rw [if_pos ⟨by assumption, by assumption⟩]; exact hS1) | (rw [if_neg (fun q => absurd q.1 (by assumption))]; exact hS1) | (rw [if_neg (fun q => absurd q.2 (by assumption))]; exact hS1))⟩ (by dsimp only; omega) ⟨rfl, rfl, rfl, rfl, rfl, trivial⟩ (j_ (k_ (b_ f_)) q_) (fun _ _ h => h)
theorem nD_ (B : EngB) (E : Emt Tryz.prog 41) (A : EngA) (pm : List (Ky × Pc)) (x : Ix) (f : Fc) (nw fm : List Fc) (Hs : Hp) (hS : E.St nw fm Hs) (hpl : ∀ k, (lat pm k).length ≤ 1000000000) (hxl : ∀ k, (lat x.above k).length ≤ 1000000000 ∧ (lat x.under k).length ≤ 1000000000) (hyl : ∀ k, (lat x.frm k).length ≤ 1000000000 ∧ (lat x.into k).length ≤ 1000000000 ∧ (lat x.ranges k).length ≤ 1000000000 ∧ (lat x.firms k).length ≤ 1000000000) : Tri Tryz.prog 105 #[zp_ B.g 0, Fc.val f] Hs [gF B E, pF B pm A, aF B x A, uF B x A, oF B x A, iF B x A, rF B x A, sF B x A, E.ef] (fun _ : {H' : Hp // E.St (Prod.fst (bM_ E.stp E.kof f (lat pm (Ky.mk 8 [] (Fc.b f))) (nw, fm))) (Prod.snd (bM_ E.stp E.kof f (lat pm (Ky.mk 8 [] (Fc.b f))) (nw, fm))) H'} => .tuple #[]) (fun y => y.1) (fun _ => []) := by
 refine J_ Tryz.func105 rfl rfl Tryz.ntmps105 rfl fun v0 => ?_
 refine h_ (d_ (bd_ rfl rfl fun b1 => ?_))
 refine e_ (c_ rfl (h_ ?_))
 refine az_ (by kernel_rfl) ?_
 refine ag_ 0 [0, 1, 2, 3, 4, 5, 6, 7, 8, 9] (by kernel_rfl) (fun _ a b => ⟨a, b⟩) (l_ rfl (g_ rfl) rfl (l_ rfl (ab_ rfl) rfl (l_ rfl (m_ w_ rfl rfl rfl cz_) rfl (l_ rfl (U_ dk_ rfl (fun v _ h => by exact h.1) rfl) rfl (l_ rfl (m_ n_ rfl rfl rfl o_) rfl (l_ rfl (t_ 0 u_ rfl rfl rfl) rfl (l_ rfl (aj_ dx_ rfl rfl) rfl (l_ rfl (bI_ (k := (Ky.mk 8 [] (Fc.b f))) (adr := A.p) fa_ bB_ bR_ rfl rfl (fun v _ h => by exact h.2.1)) rfl (l_ rfl (ae_ E_ rfl) rfl ?_)))))))))
 refine l_ rfl (g_ rfl) rfl (af_ (Y_ (by kernel_rfl) (c_ rfl (K_ ?_))))
 refine ax_ (ι := {y : Nat × Hp // y.1 ≤ List.length (lat pm (Ky.mk 8 [] (Fc.b f))) ∧ E.St (Prod.fst (bM_ E.stp E.kof f (List.take y.1 (lat pm (Ky.mk 8 [] (Fc.b f)))) (nw, fm))) (Prod.snd (bM_ E.stp E.kof f (List.take y.1 (lat pm (Ky.mk 8 [] (Fc.b f)))) (nw, fm))) y.2}) (fun y => [(0, zp_ B.g 0), (3, zp_ b1 0), (14, .slice (Prod.fst (A.p (Ky.mk 8 [] (Fc.b f)))) (List.length (lat pm (Ky.mk 8 [] (Fc.b f)))) (Prod.snd (A.p (Ky.mk 8 [] (Fc.b f))))), (15, .int .i64 (List.length (lat pm (Ky.mk 8 [] (Fc.b f))) : Int)), (16, .int .i64 (y.1.1 : Int))]) (fun y => ((b1, .cells (Fc.cells f).toArray 41 (0, 0)) :: y.1.2)) (fun y => [gF B E, pF B pm A, aF B x A, uF B x A, oF B x A, iF B x A, rF B x A, sF B x A, E.ef]) (fun y => List.length (lat pm (Ky.mk 8 [] (Fc.b f))) - y.1.1) ⟨((0 : Nat), Hs), by simp, by exact hS⟩ ⟨rfl, rfl, rfl, rfl, rfl, trivial⟩ (j_ f_ aO_) (fun _ _ h => h) ?_
 rintro ⟨⟨i, Hs_i⟩, hi_i, hS_i⟩
 dsimp only at hi_i hS_i ⊢
 have hb_i := hpl (Ky.mk 8 [] (Fc.b f))
 refine h_ (d_ (x_ (ar_ rfl rfl) rfl fun r1 hr1 => ?_))
 refine e_ (c_ rfl (h_ ?_))
 cases r1
 ·
  replace hr1 := of_decide_eq_false hr1
  refine s_ rfl (au_ rfl (aW_ rfl ?_))
  exact cw_ Tryz.results105 ⟨Hs_i, by rw [List.take_of_length_le (by omega)] at hS_i; exact hS_i⟩ rfl S_ (fun _ _ _ => trivial)
 ·
  replace hr1 := of_decide_eq_true hr1
  have hlx1 : i < List.length (lat pm (Ky.mk 8 [] (Fc.b f))) := by omega
  obtain ⟨x1, hx1⟩ : ∃ e0, (lat pm (Ky.mk 8 [] (Fc.b f)))[i]? = some e0 := ⟨_, List.getElem?_eq_getElem hlx1⟩
  have hmx1 : x1 ∈ (lat pm (Ky.mk 8 [] (Fc.b f))) := List.mem_of_getElem? hx1
  refine p_ rfl (B_ (c_ rfl (h_ (K_ (h_ (d_ (a_ (al_ E_ Q_ rfl rfl (fun v _ h => aG_ (n := 10) Pc.cells_len (by decide) (by exact (bl_ h.2.1 (Ky.mk 8 [] (Fc.b f)))) hx1) (by omega) (by first | omega | (simp; done))) rfl (a_ (aK_ (ad := (Prod.fst (A.p (Ky.mk 8 [] (Fc.b f))))) (us := Pc.cells x1) bc_ Q_ rfl (fun v _ h => by exact (bl_ h.2.1 (Ky.mk 8 [] (Fc.b f)))) (Pc.cells_len _) (ao_ Pc.cells_len hx1)) rfl (ah_ aJ_ rfl fun b2 => ?_)))))))))
  refine R_ 0 Q_ rfl rfl rfl rfl rfl rfl (e_ (c_ rfl (h_ (d_ (a_ (m_ n_ rfl rfl rfl o_) rfl (a_ (t_ 1 u_ rfl rfl rfl) rfl (a_ (m_ z_ rfl rfl rfl o_) rfl (a_ (t_ 0 u_ rfl rfl rfl) rfl (a_ (m_ z_ rfl rfl rfl T_) rfl ?_)))))))))
  refine a_ (t_ 0 O_ rfl rfl rfl) rfl (a_ (m_ z_ rfl rfl rfl T_) rfl (a_ (t_ 0 O_ rfl rfl rfl) rfl (aa_ (ks_ (Fc.a f) (Pc.r x1) (Pc.lo x1) (Pc.hi x1)) rfl F_ (fun _ _ _ => by exact trivial) rfl fun _ => ?_)))
  refine ah_ bb_ rfl fun b3 => ?_
  refine R_ 0 G_ rfl rfl rfl rfl rfl rfl (e_ (c_ rfl (h_ (h_ ?_))))
  refine az_ (by kernel_rfl) ?_
  refine ag_ 0 [0, 1, 2, 3, 4, 5, 6] (by kernel_rfl) (fun _ a b => ⟨a, b⟩) (l_ rfl (g_ rfl) rfl (l_ rfl (ab_ rfl) rfl (l_ rfl (m_ w_ rfl rfl rfl bw_) rfl (l_ rfl (U_ bJ_ rfl (fun v _ h => by exact h.1) rfl) rfl (l_ rfl (X_ 0 ac_ G_ rfl rfl rfl) rfl ?_)))))
  refine cq_ rfl (fv_ (f := (at_ (Fc.a f) (Pc.r x1) (Pc.lo x1) (Pc.hi x1))) hS_i fk_ aN_ cM_ rfl rfl (b_ (b_ S_))) rfl fun r2 hr2 => ?_
  refine l_ rfl (bS_ rfl) rfl (af_ (Y_ (by kernel_rfl) (c_ rfl ?_)))
  cases r2
  ·
   replace hr2 := of_decide_eq_false hr2
   refine p_ rfl ?_
   refine aB_ ((b3, .cells #[.int .i64 (Fc.kind (at_ (Fc.a f) (Pc.r x1) (Pc.lo x1) (Pc.hi x1))), str (Fc.a (at_ (Fc.a f) (Pc.r x1) (Pc.lo x1) (Pc.hi x1))), str (Fc.b (at_ (Fc.a f) (Pc.r x1) (Pc.lo x1) (Pc.hi x1))), str (Fc.r (at_ (Fc.a f) (Pc.r x1) (Pc.lo x1) (Pc.hi x1))), .int .i64 (Fc.lo (at_ (Fc.a f) (Pc.r x1) (Pc.lo x1) (Pc.hi x1))), .int .i64 (Fc.hi (at_ (Fc.a f) (Pc.r x1) (Pc.lo x1) (Pc.hi x1)))] 41 (0, 0)) :: ((b2, .cells (Pc.cells x1).toArray 47 (0, 0)) :: ((b1, .cells (Fc.cells f).toArray 41 (0, 0)) :: []))) (by kernel_rfl) ?_
   refine ag_ 1 [0, 1, 2, 3, 4] (by kernel_rfl) (fun _ a b => ⟨Vw.sat.sub (a.perm (j_ f_ (j_ f_ f_))), b⟩) (l_ rfl (g_ rfl) rfl (l_ rfl (ab_ rfl) rfl (l_ rfl (m_ w_ rfl rfl rfl bw_) rfl (l_ rfl (U_ bJ_ rfl (fun v _ h => by exact h.1) rfl) rfl (l_ rfl (X_ 0 ac_ G_ rfl rfl rfl) rfl (af_ (N_ 5 rfl (by kernel_rfl) (mQ_ (f := (at_ (Fc.a f) (Pc.r x1) (Pc.lo x1) (Pc.hi x1))) hS_i fk_ (.inr rfl) aN_ rfl rfl rfl (b_ (b_ S_)) fun Hs1 hS1 => ?_))))))))
   refine e_ (v_ rfl (C_ (fun _ a b => ⟨Vw.sat.sub (a.perm (j_ (k_ f_) (j_ (k_ f_) aR_))), b⟩) (Y_ (by kernel_rfl) (c_ rfl ?_))))
   refine aB_ ((b3, .cells #[.int .i64 (Fc.kind (at_ (Fc.a f) (Pc.r x1) (Pc.lo x1) (Pc.hi x1))), str (Fc.a (at_ (Fc.a f) (Pc.r x1) (Pc.lo x1) (Pc.hi x1))), str (Fc.b (at_ (Fc.a f) (Pc.r x1) (Pc.lo x1) (Pc.hi x1))), str (Fc.r (at_ (Fc.a f) (Pc.r x1) (Pc.lo x1) (Pc.hi x1))), .int .i64 (Fc.lo (at_ (Fc.a f) (Pc.r x1) (Pc.lo x1) (Pc.hi x1))), .int .i64 (Fc.hi (at_ (Fc.a f) (Pc.r x1) (Pc.lo x1) (Pc.hi x1)))] 41 (0, 0)) :: ((b2, .cells (Pc.cells x1).toArray 47 (0, 0)) :: ((b1, .cells (Fc.cells f).toArray 41 (0, 0)) :: []))) (by kernel_rfl) ?_
   refine ag_ 1 [0, 1, 2, 3, 4] (by kernel_rfl) (fun _ a b => ⟨Vw.sat.sub (a.perm (j_ (k_ f_) (j_ (k_ f_) aR_))), b⟩) (l_ rfl (g_ rfl) rfl (l_ rfl (ab_ rfl) rfl (l_ rfl (m_ w_ rfl rfl rfl aC_) rfl (l_ rfl (U_ bh_ rfl (fun v _ h => by exact h.1) rfl) rfl (l_ rfl (X_ 0 ac_ G_ rfl rfl rfl) rfl (af_ (N_ 5 rfl (by kernel_rfl) (aH_ (first := []) (cap := E.caps) (E.emit (at_ (Fc.a f) (Pc.r x1) (Pc.lo x1) (Pc.hi x1)) (Prod.fst (bM_ E.stp E.kof f (List.take i (lat pm (Ky.mk 8 [] (Fc.b f)))) (nw, fm))) ((at_ (Fc.a f) (Pc.r x1) (Pc.lo x1) (Pc.hi x1)) :: (Prod.snd (bM_ E.stp E.kof f (List.take i (lat pm (Ky.mk 8 [] (Fc.b f)))) (nw, fm)))) Hs1 hS1) rfl rfl q_ (fun v _ h => by exact ⟨h.2.2.2.2.2.2.2.2.1, trivial⟩) rfl fun ⟨Hs2, hS2⟩ => ?_))))))))
   dsimp only
   refine e_ (v_ rfl (C_ (fun _ a b => ⟨Vw.sat.sub (a.perm (j_ (k_ f_) (j_ (k_ f_) aR_))), b⟩) (Y_ (by kernel_rfl) (c_ rfl (d_ (a_ (P_ rfl rfl rfl (an_ (by omega) (by omega))) rfl (a_ (g_ rfl) rfl (e_ (v_ rfl ?_)))))))))
   exact ai_ ⟨(i + 1, Hs2), hlx1, (by rw [hk_ hx1]; dsimp only; first | (rw [if_pos (by assumption)]; exact hS2) | (rw [if_neg (by assumption)]; exact hS2))⟩ (by dsimp only; omega) ⟨rfl, rfl, rfl, rfl, rfl, trivial⟩ (j_ (k_ (b_ (b_ f_))) q_) (fun _ _ h => h)
  ·
   replace hr2 := of_decide_eq_true hr2
   refine s_ rfl (B_ (c_ rfl ?_))
   refine aB_ ((b3, .cells #[.int .i64 (Fc.kind (at_ (Fc.a f) (Pc.r x1) (Pc.lo x1) (Pc.hi x1))), str (Fc.a (at_ (Fc.a f) (Pc.r x1) (Pc.lo x1) (Pc.hi x1))), str (Fc.b (at_ (Fc.a f) (Pc.r x1) (Pc.lo x1) (Pc.hi x1))), str (Fc.r (at_ (Fc.a f) (Pc.r x1) (Pc.lo x1) (Pc.hi x1))), .int .i64 (Fc.lo (at_ (Fc.a f) (Pc.r x1) (Pc.lo x1) (Pc.hi x1))), .int .i64 (Fc.hi (at_ (Fc.a f) (Pc.r x1) (Pc.lo x1) (Pc.hi x1)))] 41 (0, 0)) :: ((b2, .cells (Pc.cells x1).toArray 47 (0, 0)) :: ((b1, .cells (Fc.cells f).toArray 41 (0, 0)) :: []))) (by kernel_rfl) ?_
   refine ag_ 1 [0, 1, 2, 3, 4] (by kernel_rfl) (fun _ a b => ⟨Vw.sat.sub (a.perm (j_ f_ (j_ f_ f_))), b⟩) (l_ rfl (g_ rfl) rfl (l_ rfl (ab_ rfl) rfl (l_ rfl (m_ w_ rfl rfl rfl aC_) rfl (l_ rfl (U_ bh_ rfl (fun v _ h => by exact h.1) rfl) rfl (l_ rfl (X_ 0 ac_ G_ rfl rfl rfl) rfl (af_ (N_ 5 rfl (by kernel_rfl) (aH_ (first := []) (cap := E.caps) (E.emit (at_ (Fc.a f) (Pc.r x1) (Pc.lo x1) (Pc.hi x1)) (Prod.fst (bM_ E.stp E.kof f (List.take i (lat pm (Ky.mk 8 [] (Fc.b f)))) (nw, fm))) (Prod.snd (bM_ E.stp E.kof f (List.take i (lat pm (Ky.mk 8 [] (Fc.b f)))) (nw, fm))) Hs_i hS_i) rfl rfl (b_ (b_ S_)) (fun v _ h => by exact ⟨h.2.2.2.2.2.2.2.2.1, trivial⟩) rfl fun ⟨Hs3, hS3⟩ => ?_))))))))
   dsimp only
   refine e_ (v_ rfl (C_ (fun _ a b => ⟨Vw.sat.sub (a.perm (j_ (k_ f_) (j_ (k_ f_) aR_))), b⟩) (Y_ (by kernel_rfl) (c_ rfl (d_ (a_ (P_ rfl rfl rfl (an_ (by omega) (by omega))) rfl (a_ (g_ rfl) rfl (e_ (v_ rfl ?_)))))))))
   exact ai_ ⟨(i + 1, Hs3), hlx1, (by rw [hk_ hx1]; dsimp only; first | (rw [if_pos (by assumption)]; exact hS3) | (rw [if_neg (by assumption)]; exact hS3))⟩ (by dsimp only; omega) ⟨rfl, rfl, rfl, rfl, rfl, trivial⟩ (j_ (k_ (b_ (b_ f_))) q_) (fun _ _ h => h)
theorem kK_ (B : EngB) (E : Emt Tryz.prog 41) (A : EngA) (pm : List (Ky × Pc)) (x : Ix) (f : Fc) (nw fm : List Fc) (Hs : Hp) (hS : E.St nw fm Hs) (hpl : ∀ k, (lat pm k).length ≤ 1000000000) (hxl : ∀ k, (lat x.above k).length ≤ 1000000000 ∧ (lat x.under k).length ≤ 1000000000) (hyl : ∀ k, (lat x.frm k).length ≤ 1000000000 ∧ (lat x.into k).length ≤ 1000000000 ∧ (lat x.ranges k).length ≤ 1000000000 ∧ (lat x.firms k).length ≤ 1000000000) : Tri Tryz.prog 103 #[zp_ B.g 0, Fc.val f] Hs [gF B E, pF B pm A, aF B x A, uF B x A, oF B x A, iF B x A, rF B x A, sF B x A, E.ef] (fun _ : {H' : Hp // E.St (emits E.stp (dX_ pm x f) nw) fm H'} => .tuple #[]) (fun y => y.1) (fun _ => []) := by
 refine J_ Tryz.func103 rfl rfl Tryz.ntmps103 rfl fun v0 => ?_
 refine h_ (d_ (bd_ rfl rfl fun b1 => ?_))
 refine e_ (c_ rfl (h_ ?_))
 refine az_ (by kernel_rfl) ?_
 refine ag_ 0 [0, 1, 2, 3, 4, 5, 6, 7, 8, 9] (by kernel_rfl) (fun _ a b => ⟨a, b⟩) (l_ rfl (g_ rfl) rfl (l_ rfl (ab_ rfl) rfl (l_ rfl (m_ w_ rfl rfl rfl cz_) rfl (l_ rfl (U_ dk_ rfl (fun v _ h => by exact h.1) rfl) rfl (l_ rfl (m_ n_ rfl rfl rfl o_) rfl (l_ rfl (t_ 0 u_ rfl rfl rfl) rfl (l_ rfl (aj_ dx_ rfl rfl) rfl (l_ rfl (bI_ (k := (Ky.mk 4 [] (Fc.b f))) (adr := A.p) fa_ bB_ bR_ rfl rfl (fun v _ h => by exact h.2.1)) rfl (l_ rfl (ae_ E_ rfl) rfl ?_)))))))))
 refine l_ rfl (g_ rfl) rfl (af_ (Y_ (by kernel_rfl) (c_ rfl (K_ ?_))))
 refine ax_ (ι := {y : Nat × Hp // y.1 ≤ List.length (lat pm (Ky.mk 4 [] (Fc.b f))) ∧ E.St (emits E.stp (List.flatMap (fun y => List.map (fun a => aq_ a (Pc.c y)) (lat x.into (Fc.a f, Pc.r y))) (List.take y.1 (lat pm (Ky.mk 4 [] (Fc.b f))))) nw) fm y.2}) (fun y => [(0, zp_ B.g 0), (3, zp_ b1 0), (15, .slice (Prod.fst (A.p (Ky.mk 4 [] (Fc.b f)))) (List.length (lat pm (Ky.mk 4 [] (Fc.b f)))) (Prod.snd (A.p (Ky.mk 4 [] (Fc.b f))))), (16, .int .i64 (List.length (lat pm (Ky.mk 4 [] (Fc.b f))) : Int)), (17, .int .i64 (y.1.1 : Int))]) (fun y => ((b1, .cells (Fc.cells f).toArray 41 (0, 0)) :: y.1.2)) (fun y => [gF B E, pF B pm A, aF B x A, uF B x A, oF B x A, iF B x A, rF B x A, sF B x A, E.ef]) (fun y => List.length (lat pm (Ky.mk 4 [] (Fc.b f))) - y.1.1) ⟨((0 : Nat), Hs), by simp, by exact hS⟩ ⟨rfl, rfl, rfl, rfl, rfl, trivial⟩ (j_ f_ aO_) (fun _ _ h => h) ?_
 rintro ⟨⟨i, Hs_i⟩, hi_i, hS_i⟩
 dsimp only at hi_i hS_i ⊢
 have hb_i := hpl (Ky.mk 4 [] (Fc.b f))
 refine h_ (d_ (x_ (ar_ rfl rfl) rfl fun r1 hr1 => ?_))
 refine e_ (c_ rfl (h_ ?_))
 cases r1
 ·
  replace hr1 := of_decide_eq_false hr1
  refine s_ rfl (au_ rfl (aW_ rfl ?_))
  exact cw_ Tryz.results103 ⟨Hs_i, by unfold dX_; rw [List.take_of_length_le (by omega)] at hS_i; exact hS_i⟩ rfl S_ (fun _ _ _ => trivial)
 ·
  replace hr1 := of_decide_eq_true hr1
  have hlx1 : i < List.length (lat pm (Ky.mk 4 [] (Fc.b f))) := by omega
  obtain ⟨x1, hx1⟩ : ∃ e0, (lat pm (Ky.mk 4 [] (Fc.b f)))[i]? = some e0 := ⟨_, List.getElem?_eq_getElem hlx1⟩
  have hmx1 : x1 ∈ (lat pm (Ky.mk 4 [] (Fc.b f))) := List.mem_of_getElem? hx1
  refine p_ rfl (B_ (c_ rfl (h_ (K_ (h_ (d_ (a_ (al_ E_ Q_ rfl rfl (fun v _ h => aG_ (n := 10) Pc.cells_len (by decide) (by exact (bl_ h.2.1 (Ky.mk 4 [] (Fc.b f)))) hx1) (by omega) (by first | omega | (simp; done))) rfl (a_ (aK_ (ad := (Prod.fst (A.p (Ky.mk 4 [] (Fc.b f))))) (us := Pc.cells x1) bc_ Q_ rfl (fun v _ h => by exact (bl_ h.2.1 (Ky.mk 4 [] (Fc.b f)))) (Pc.cells_len _) (ao_ Pc.cells_len hx1)) rfl (ah_ aJ_ rfl fun b2 => ?_)))))))))
  refine R_ 0 Q_ rfl rfl rfl rfl rfl rfl (e_ (c_ rfl (h_ ?_)))
  refine az_ (by kernel_rfl) ?_
  refine ag_ 0 [0, 1, 2, 3, 4, 5, 6, 7, 8, 9, 10, 11] (by kernel_rfl) (fun _ a b => ⟨a, b⟩) (l_ rfl (g_ rfl) rfl (l_ rfl (ab_ rfl) rfl (l_ rfl (m_ w_ rfl rfl rfl cy_) rfl (l_ rfl (U_ dj_ rfl (fun v _ h => by exact h.1) rfl) rfl (l_ rfl (m_ n_ rfl rfl rfl o_) rfl (l_ rfl (t_ 1 u_ rfl rfl rfl) rfl (l_ rfl (m_ z_ rfl rfl rfl o_) rfl (l_ rfl (t_ 0 u_ rfl rfl rfl) rfl (l_ rfl (aj_ dS_ rfl rfl) rfl ?_)))))))))
  refine l_ rfl (bI_ (k := ((Fc.a f), (Pc.r x1))) (adr := A.i) ch_ bA_ bf_ rfl rfl (fun v _ h => by exact h.2.2.2.2.2.1)) rfl (l_ rfl (ae_ H_ rfl) rfl (l_ rfl (g_ rfl) rfl (af_ (Y_ (by kernel_rfl) (c_ rfl (K_ ?_))))))
  refine ax_ (ι := {y : Nat × Hp // y.1 ≤ List.length (lat x.into ((Fc.a f), (Pc.r x1))) ∧ E.St (emits E.stp (List.map (fun a => aq_ a (Pc.c x1)) (List.take y.1 (lat x.into ((Fc.a f), (Pc.r x1))))) (emits E.stp (List.flatMap (fun y => List.map (fun a => aq_ a (Pc.c y)) (lat x.into (Fc.a f, Pc.r y))) (List.take i (lat pm (Ky.mk 4 [] (Fc.b f))))) nw)) fm y.2}) (fun y => [(0, zp_ B.g 0), (3, zp_ b1 0), (15, .slice (Prod.fst (A.p (Ky.mk 4 [] (Fc.b f)))) (List.length (lat pm (Ky.mk 4 [] (Fc.b f)))) (Prod.snd (A.p (Ky.mk 4 [] (Fc.b f))))), (16, .int .i64 (List.length (lat pm (Ky.mk 4 [] (Fc.b f))) : Int)), (17, .int .i64 (i : Int)), (5, zp_ b2 0), (30, .slice (Prod.fst (A.i ((Fc.a f), (Pc.r x1)))) (List.length (lat x.into ((Fc.a f), (Pc.r x1)))) (Prod.snd (A.i ((Fc.a f), (Pc.r x1))))), (31, .int .i64 (List.length (lat x.into ((Fc.a f), (Pc.r x1))) : Int)), (32, .int .i64 (y.1.1 : Int))]) (fun y => ((b2, .cells (Pc.cells x1).toArray 47 (0, 0)) :: ((b1, .cells (Fc.cells f).toArray 41 (0, 0)) :: y.1.2))) (fun y => [gF B E, pF B pm A, aF B x A, uF B x A, oF B x A, iF B x A, rF B x A, sF B x A, E.ef]) (fun y => List.length (lat x.into ((Fc.a f), (Pc.r x1))) - y.1.1) ⟨((0 : Nat), Hs_i), by simp, by exact hS_i⟩ ⟨rfl, rfl, rfl, rfl, rfl, rfl, rfl, rfl, rfl, trivial⟩ (j_ f_ (j_ f_ aO_)) (fun _ _ h => h) ?_
  rintro ⟨⟨j, Hs_j⟩, hi_j, hS_j⟩
  dsimp only at hi_j hS_j ⊢
  have hb_j := (hyl ((Fc.a f), (Pc.r x1))).2.1
  refine h_ (d_ (x_ (ar_ rfl rfl) rfl fun r2 hr2 => ?_))
  refine e_ (c_ rfl (h_ ?_))
  cases r2
  ·
   replace hr2 := of_decide_eq_false hr2
   refine s_ rfl (au_ rfl (c_ rfl (d_ (a_ (P_ rfl rfl rfl (an_ (by omega) (by omega))) rfl (a_ (g_ rfl) rfl (e_ (v_ rfl ?_)))))))
   exact ai_ ⟨(i + 1, Hs_j), hlx1, (by rw [eE_ hx1, aw_]; have e9 : List.take j (lat x.into (Fc.a f, Pc.r x1)) = (lat x.into (Fc.a f, Pc.r x1)) := List.take_of_length_le (by omega); rw [e9] at hS_j; exact hS_j)⟩ (by dsimp only; omega) ⟨rfl, rfl, rfl, rfl, rfl, trivial⟩ (j_ (b_ f_) S_) (fun _ _ h => h)
  ·
   replace hr2 := of_decide_eq_true hr2
   have hlx2 : j < List.length (lat x.into ((Fc.a f), (Pc.r x1))) := by omega
   obtain ⟨x2, hx2⟩ : ∃ e0, (lat x.into ((Fc.a f), (Pc.r x1)))[j]? = some e0 := ⟨_, List.getElem?_eq_getElem hlx2⟩
   have hmx2 : x2 ∈ (lat x.into ((Fc.a f), (Pc.r x1))) := List.mem_of_getElem? hx2
   refine p_ rfl (B_ (c_ rfl (h_ (K_ (h_ (d_ (a_ (al_ H_ o_ rfl rfl (fun v _ h => aG_ (n := 1) ba_ (by decide) (by exact (bl_ h.2.2.2.2.2.1 ((Fc.a f), (Pc.r x1)))) hx2) (by omega) (by first | omega | (simp; done))) rfl (a_ (bu_ (ad := (Prod.fst (A.i ((Fc.a f), (Pc.r x1))))) u_ rfl (fun v _ h => by exact (bl_ h.2.2.2.2.2.1 ((Fc.a f), (Pc.r x1)))) (ao_ ba_ hx2 0 _ rfl)) rfl (a_ (i_ rfl) rfl ?_)))))))))
   refine e_ (c_ rfl ?_)
   refine aB_ ((b2, .cells (Pc.cells x1).toArray 47 (0, 0)) :: ((b1, .cells (Fc.cells f).toArray 41 (0, 0)) :: [])) (by kernel_rfl) ?_
   refine ag_ 2 [0, 1, 2, 3, 4, 5, 6] (by kernel_rfl) (fun _ a b => ⟨Vw.sat.sub (a.perm (j_ f_ f_)), b⟩) (l_ rfl (g_ rfl) rfl (l_ rfl (ab_ rfl) rfl (l_ rfl (m_ w_ rfl rfl rfl aC_) rfl (l_ rfl (U_ bh_ rfl (fun v _ h => by exact h.1) rfl) rfl (l_ rfl (g_ rfl) rfl (l_ rfl (m_ z_ rfl rfl rfl o_) rfl (l_ rfl (t_ 0 u_ rfl rfl rfl) rfl (af_ (N_ 7 rfl (by kernel_rfl) ?_)))))))))
   refine aa_ (eg_ x2 (Pc.c x1)) rfl F_ (fun _ _ _ => by exact trivial) rfl fun _ => ?_
   refine e_ (v_ rfl (C_ (fun _ a b => ⟨Vw.sat.sub (a.perm (j_ f_ f_)), b⟩) (N_ 8 rfl (by kernel_rfl) (aH_ (first := []) (cap := E.caps) (E.emit (aq_ x2 (Pc.c x1)) (emits E.stp (List.map (fun a => aq_ a (Pc.c x1)) (List.take j (lat x.into ((Fc.a f), (Pc.r x1))))) (emits E.stp (List.flatMap (fun y => List.map (fun a => aq_ a (Pc.c y)) (lat x.into (Fc.a f, Pc.r y))) (List.take i (lat pm (Ky.mk 4 [] (Fc.b f))))) nw)) fm Hs_j hS_j) rfl rfl (b_ S_) (fun v _ h => by exact ⟨h.2.2.2.2.2.2.2.2.1, trivial⟩) rfl fun ⟨Hs1, hS1⟩ => ?_))))
   dsimp only
   refine e_ (v_ rfl (C_ (fun _ a b => ⟨Vw.sat.sub (a.perm (j_ (k_ f_) aR_)), b⟩) (Y_ (by kernel_rfl) (c_ rfl (d_ (a_ (P_ rfl rfl rfl (an_ (by omega) (by omega))) rfl (a_ (g_ rfl) rfl (e_ (v_ rfl ?_)))))))))
   exact ai_ ⟨(j + 1, Hs1), hlx2, (by rw [dC_ hx2, aw_]; exact hS1)⟩ (by dsimp only; omega) ⟨rfl, rfl, rfl, rfl, rfl, rfl, rfl, rfl, rfl, trivial⟩ (j_ (k_ f_) (j_ aR_ aO_)) (fun _ _ h => h)
theorem kJ_ (B : EngB) (E : Emt Tryz.prog 41) (A : EngA) (pm : List (Ky × Pc)) (x : Ix) (f : Fc) (nw fm : List Fc) (Hs : Hp) (hS : E.St nw fm Hs) (hpl : ∀ k, (lat pm k).length ≤ 1000000000) (hxl : ∀ k, (lat x.above k).length ≤ 1000000000 ∧ (lat x.under k).length ≤ 1000000000) (hyl : ∀ k, (lat x.frm k).length ≤ 1000000000 ∧ (lat x.into k).length ≤ 1000000000 ∧ (lat x.ranges k).length ≤ 1000000000 ∧ (lat x.firms k).length ≤ 1000000000) : Tri Tryz.prog 108 #[zp_ B.g 0, Fc.val f] Hs [gF B E, pF B pm A, aF B x A, uF B x A, oF B x A, iF B x A, rF B x A, sF B x A, E.ef] (fun _ : {H' : Hp // E.St (emits E.stp (dW_ pm x f) nw) fm H'} => .tuple #[]) (fun y => y.1) (fun _ => []) := by
 refine J_ Tryz.func108 rfl rfl Tryz.ntmps108 rfl fun v0 => ?_
 refine h_ (d_ (bd_ rfl rfl fun b1 => ?_))
 refine e_ (c_ rfl (h_ ?_))
 refine az_ (by kernel_rfl) ?_
 refine ag_ 0 [0, 1, 2, 3, 4, 5, 6, 7, 8] (by kernel_rfl) (fun _ a b => ⟨a, b⟩) (l_ rfl (g_ rfl) rfl (l_ rfl (ab_ rfl) rfl (l_ rfl (m_ w_ rfl rfl rfl ga_) rfl (l_ rfl (U_ kG_ rfl (fun v _ h => by exact h.1) rfl) rfl (l_ rfl (m_ n_ rfl rfl rfl o_) rfl (l_ rfl (t_ 0 u_ rfl rfl rfl) rfl (l_ rfl (bI_ (k := (Fc.b f)) (adr := A.a) go_ bN_ bf_ rfl rfl (fun v _ h => by exact h.2.2.1)) rfl (l_ rfl (ae_ H_ rfl) rfl (l_ rfl (g_ rfl) rfl ?_)))))))))
 refine af_ (Y_ (by kernel_rfl) (c_ rfl (K_ ?_)))
 refine ax_ (ι := {y : Nat × Hp // y.1 ≤ List.length (lat x.above (Fc.b f)) ∧ E.St (emits E.stp (List.flatMap (fun y => List.map (fun a => aq_ (Fc.a f) (Pc.c a)) (lat pm (Ky.mk 4 (Fc.r f) y))) (List.take y.1 (lat x.above (Fc.b f)))) nw) fm y.2}) (fun y => [(0, zp_ B.g 0), (3, zp_ b1 0), (14, .slice (Prod.fst (A.a (Fc.b f))) (List.length (lat x.above (Fc.b f))) (Prod.snd (A.a (Fc.b f)))), (15, .int .i64 (List.length (lat x.above (Fc.b f)) : Int)), (16, .int .i64 (y.1.1 : Int))]) (fun y => ((b1, .cells (Fc.cells f).toArray 41 (0, 0)) :: y.1.2)) (fun y => [gF B E, pF B pm A, aF B x A, uF B x A, oF B x A, iF B x A, rF B x A, sF B x A, E.ef]) (fun y => List.length (lat x.above (Fc.b f)) - y.1.1) ⟨((0 : Nat), Hs), by simp, by exact hS⟩ ⟨rfl, rfl, rfl, rfl, rfl, trivial⟩ (j_ f_ aO_) (fun _ _ h => h) ?_
 rintro ⟨⟨i, Hs_i⟩, hi_i, hS_i⟩
 dsimp only at hi_i hS_i ⊢
 have hb_i := (hxl (Fc.b f)).1
 refine h_ (d_ (x_ (ar_ rfl rfl) rfl fun r1 hr1 => ?_))
 refine e_ (c_ rfl (h_ ?_))
 cases r1
 ·
  replace hr1 := of_decide_eq_false hr1
  refine s_ rfl (au_ rfl (aW_ rfl ?_))
  exact cw_ Tryz.results108 ⟨Hs_i, by unfold dW_; rw [List.take_of_length_le (by omega)] at hS_i; exact hS_i⟩ rfl S_ (fun _ _ _ => trivial)
 ·
  replace hr1 := of_decide_eq_true hr1
  have hlx1 : i < List.length (lat x.above (Fc.b f)) := by omega
  obtain ⟨x1, hx1⟩ : ∃ e0, (lat x.above (Fc.b f))[i]? = some e0 := ⟨_, List.getElem?_eq_getElem hlx1⟩
  have hmx1 : x1 ∈ (lat x.above (Fc.b f)) := List.mem_of_getElem? hx1
  refine p_ rfl (B_ (c_ rfl (h_ (K_ (h_ (d_ (a_ (al_ H_ o_ rfl rfl (fun v _ h => aG_ (n := 1) ba_ (by decide) (by exact (bl_ h.2.2.1 (Fc.b f))) hx1) (by omega) (by first | omega | (simp; done))) rfl (a_ (bu_ (ad := (Prod.fst (A.a (Fc.b f)))) u_ rfl (fun v _ h => by exact (bl_ h.2.2.1 (Fc.b f))) (ao_ ba_ hx1 0 _ rfl)) rfl (a_ (i_ rfl) rfl ?_)))))))))
  refine e_ (c_ rfl (h_ ?_))
  refine az_ (by kernel_rfl) ?_
  refine ag_ 0 [0, 1, 2, 3, 4, 5, 6, 7, 8, 9, 10] (by kernel_rfl) (fun _ a b => ⟨a, b⟩) (l_ rfl (g_ rfl) rfl (l_ rfl (ab_ rfl) rfl (l_ rfl (m_ w_ rfl rfl rfl cz_) rfl (l_ rfl (U_ dk_ rfl (fun v _ h => by exact h.1) rfl) rfl (l_ rfl (m_ n_ rfl rfl rfl o_) rfl (l_ rfl (t_ 0 u_ rfl rfl rfl) rfl (l_ rfl (g_ rfl) rfl (l_ rfl (aj_ dx_ rfl rfl) rfl (l_ rfl (bI_ (k := (Ky.mk 4 (Fc.r f) x1)) (adr := A.p) fa_ bB_ bR_ rfl rfl (fun v _ h => by exact h.2.1)) rfl ?_)))))))))
  refine l_ rfl (ae_ E_ rfl) rfl (l_ rfl (g_ rfl) rfl (af_ (Y_ (by kernel_rfl) (c_ rfl (K_ ?_)))))
  refine ax_ (ι := {y : Nat × Hp // y.1 ≤ List.length (lat pm (Ky.mk 4 (Fc.r f) x1)) ∧ E.St (emits E.stp (List.map (fun a => aq_ (Fc.a f) (Pc.c a)) (List.take y.1 (lat pm (Ky.mk 4 (Fc.r f) x1)))) (emits E.stp (List.flatMap (fun y => List.map (fun a => aq_ (Fc.a f) (Pc.c a)) (lat pm (Ky.mk 4 (Fc.r f) y))) (List.take i (lat x.above (Fc.b f)))) nw)) fm y.2}) (fun y => [(0, zp_ B.g 0), (3, zp_ b1 0), (14, .slice (Prod.fst (A.a (Fc.b f))) (List.length (lat x.above (Fc.b f))) (Prod.snd (A.a (Fc.b f)))), (15, .int .i64 (List.length (lat x.above (Fc.b f)) : Int)), (16, .int .i64 (i : Int)), (28, .slice (Prod.fst (A.p (Ky.mk 4 (Fc.r f) x1))) (List.length (lat pm (Ky.mk 4 (Fc.r f) x1))) (Prod.snd (A.p (Ky.mk 4 (Fc.r f) x1)))), (29, .int .i64 (List.length (lat pm (Ky.mk 4 (Fc.r f) x1)) : Int)), (30, .int .i64 (y.1.1 : Int))]) (fun y => ((b1, .cells (Fc.cells f).toArray 41 (0, 0)) :: y.1.2)) (fun y => [gF B E, pF B pm A, aF B x A, uF B x A, oF B x A, iF B x A, rF B x A, sF B x A, E.ef]) (fun y => List.length (lat pm (Ky.mk 4 (Fc.r f) x1)) - y.1.1) ⟨((0 : Nat), Hs_i), by simp, by exact hS_i⟩ ⟨rfl, rfl, rfl, rfl, rfl, rfl, rfl, rfl, trivial⟩ (j_ f_ aO_) (fun _ _ h => h) ?_
  rintro ⟨⟨j, Hs_j⟩, hi_j, hS_j⟩
  dsimp only at hi_j hS_j ⊢
  have hb_j := hpl (Ky.mk 4 (Fc.r f) x1)
  refine h_ (d_ (x_ (ar_ rfl rfl) rfl fun r2 hr2 => ?_))
  refine e_ (c_ rfl (h_ ?_))
  cases r2
  ·
   replace hr2 := of_decide_eq_false hr2
   refine s_ rfl (au_ rfl (c_ rfl (d_ (a_ (P_ rfl rfl rfl (an_ (by omega) (by omega))) rfl (a_ (g_ rfl) rfl (e_ (v_ rfl ?_)))))))
   exact ai_ ⟨(i + 1, Hs_j), hlx1, (by rw [eE_ hx1, aw_]; have e9 : List.take j (lat pm (Ky.mk 4 (Fc.r f) x1)) = (lat pm (Ky.mk 4 (Fc.r f) x1)) := List.take_of_length_le (by omega); rw [e9] at hS_j; exact hS_j)⟩ (by dsimp only; omega) ⟨rfl, rfl, rfl, rfl, rfl, trivial⟩ (j_ f_ aO_) (fun _ _ h => h)
  ·
   replace hr2 := of_decide_eq_true hr2
   have hlx2 : j < List.length (lat pm (Ky.mk 4 (Fc.r f) x1)) := by omega
   obtain ⟨x2, hx2⟩ : ∃ e0, (lat pm (Ky.mk 4 (Fc.r f) x1))[j]? = some e0 := ⟨_, List.getElem?_eq_getElem hlx2⟩
   have hmx2 : x2 ∈ (lat pm (Ky.mk 4 (Fc.r f) x1)) := List.mem_of_getElem? hx2
   refine p_ rfl (B_ (c_ rfl (h_ (K_ (h_ (d_ (a_ (al_ E_ Q_ rfl rfl (fun v _ h => aG_ (n := 10) Pc.cells_len (by decide) (by exact (bl_ h.2.1 (Ky.mk 4 (Fc.r f) x1))) hx2) (by omega) (by first | omega | (simp; done))) rfl (a_ (aK_ (ad := (Prod.fst (A.p (Ky.mk 4 (Fc.r f) x1)))) (us := Pc.cells x2) bc_ Q_ rfl (fun v _ h => by exact (bl_ h.2.1 (Ky.mk 4 (Fc.r f) x1))) (Pc.cells_len _) (ao_ Pc.cells_len hx2)) rfl (ah_ aJ_ rfl fun b2 => ?_)))))))))
   refine R_ 0 Q_ rfl rfl rfl rfl rfl rfl (e_ (c_ rfl ?_))
   refine aB_ ((b2, .cells (Pc.cells x2).toArray 47 (0, 0)) :: ((b1, .cells (Fc.cells f).toArray 41 (0, 0)) :: [])) (by kernel_rfl) ?_
   refine ag_ 2 [0, 1, 2, 3, 4, 5, 6, 7] (by kernel_rfl) (fun _ a b => ⟨Vw.sat.sub (a.perm (j_ f_ f_)), b⟩) (l_ rfl (g_ rfl) rfl (l_ rfl (ab_ rfl) rfl (l_ rfl (m_ w_ rfl rfl rfl aC_) rfl (l_ rfl (U_ bh_ rfl (fun v _ h => by exact h.1) rfl) rfl (l_ rfl (m_ n_ rfl rfl rfl o_) rfl (l_ rfl (t_ 1 u_ rfl rfl rfl) rfl (l_ rfl (m_ z_ rfl rfl rfl o_) rfl (l_ rfl (t_ 0 u_ rfl rfl rfl) rfl (af_ ?_)))))))))
   refine N_ 8 rfl (by kernel_rfl) (aa_ (eg_ (Fc.a f) (Pc.c x2)) rfl F_ (fun _ _ _ => by exact trivial) rfl fun _ => ?_)
   refine e_ (v_ rfl (C_ (fun _ a b => ⟨Vw.sat.sub (a.perm (j_ f_ f_)), b⟩) (N_ 9 rfl (by kernel_rfl) (aH_ (first := []) (cap := E.caps) (E.emit (aq_ (Fc.a f) (Pc.c x2)) (emits E.stp (List.map (fun a => aq_ (Fc.a f) (Pc.c a)) (List.take j (lat pm (Ky.mk 4 (Fc.r f) x1)))) (emits E.stp (List.flatMap (fun y => List.map (fun a => aq_ (Fc.a f) (Pc.c a)) (lat pm (Ky.mk 4 (Fc.r f) y))) (List.take i (lat x.above (Fc.b f)))) nw)) fm Hs_j hS_j) rfl rfl (b_ S_) (fun v _ h => by exact ⟨h.2.2.2.2.2.2.2.2.1, trivial⟩) rfl fun ⟨Hs1, hS1⟩ => ?_))))
   dsimp only
   refine e_ (v_ rfl (C_ (fun _ a b => ⟨Vw.sat.sub (a.perm (j_ (k_ f_) aR_)), b⟩) (Y_ (by kernel_rfl) (c_ rfl (d_ (a_ (P_ rfl rfl rfl (an_ (by omega) (by omega))) rfl (a_ (g_ rfl) rfl (e_ (v_ rfl ?_)))))))))
   exact ai_ ⟨(j + 1, Hs1), hlx2, (by rw [dC_ hx2, aw_]; exact hS1)⟩ (by dsimp only; omega) ⟨rfl, rfl, rfl, rfl, rfl, rfl, rfl, rfl, trivial⟩ (j_ (k_ (b_ f_)) q_) (fun _ _ h => h)
theorem om_ (B : EngB) (E : Emt Tryz.prog 41) (A : EngA) (pm : List (Ky × Pc)) (x : Ix) (f : Fc) (nw fm : List Fc) (Hs : Hp) (hS : E.St nw fm Hs) (hpl : ∀ k, (lat pm k).length ≤ 1000000000) (hxl : ∀ k, (lat x.above k).length ≤ 1000000000 ∧ (lat x.under k).length ≤ 1000000000) (hyl : ∀ k, (lat x.frm k).length ≤ 1000000000 ∧ (lat x.into k).length ≤ 1000000000 ∧ (lat x.ranges k).length ≤ 1000000000 ∧ (lat x.firms k).length ≤ 1000000000) : Tri Tryz.prog 107 #[zp_ B.g 0, Fc.val f] Hs [gF B E, pF B pm A, aF B x A, uF B x A, oF B x A, iF B x A, rF B x A, sF B x A, E.ef] (fun _ : {H' : Hp // E.St (emits E.stp (dT_ pm x f ++ eW_ pm x f) nw) fm H'} => .tuple #[]) (fun y => y.1) (fun _ => []) := by
 refine J_ Tryz.func107 rfl rfl Tryz.ntmps107 rfl fun v0 => ?_
 refine h_ (d_ (bd_ rfl rfl fun b1 => ?_))
 refine e_ (c_ rfl (h_ (h_ ?_)))
 refine az_ (by kernel_rfl) ?_
 refine ag_ 0 [0, 1, 2, 3, 4, 5, 6, 7, 8, 9] (by kernel_rfl) (fun _ a b => ⟨a, b⟩) (l_ rfl (g_ rfl) rfl (l_ rfl (ab_ rfl) rfl (l_ rfl (m_ w_ rfl rfl rfl cz_) rfl (l_ rfl (U_ dk_ rfl (fun v _ h => by exact h.1) rfl) rfl (l_ rfl (m_ n_ rfl rfl rfl o_) rfl (l_ rfl (t_ 0 u_ rfl rfl rfl) rfl (l_ rfl (aj_ dx_ rfl rfl) rfl (l_ rfl (bI_ (k := (Ky.mk 6 (Fc.r f) [])) (adr := A.p) fa_ bB_ bR_ rfl rfl (fun v _ h => by exact h.2.1)) rfl (l_ rfl (ae_ E_ rfl) rfl ?_)))))))))
 refine l_ rfl (g_ rfl) rfl (af_ (Y_ (by kernel_rfl) (c_ rfl (K_ ?_))))
 refine ax_ (ι := {y : Nat × Hp // y.1 ≤ List.length (lat pm (Ky.mk 6 (Fc.r f) [])) ∧ E.St (emits E.stp (List.flatMap (fun y => List.map (fun a => av_ (Fc.a f) (Pc.t y) a) (lat x.frm (Fc.b f, Pc.s y))) (List.take y.1 (lat pm (Ky.mk 6 (Fc.r f) [])))) nw) fm y.2}) (fun y => [(0, zp_ B.g 0), (3, zp_ b1 0), (19, .slice (Prod.fst (A.p (Ky.mk 6 (Fc.r f) []))) (List.length (lat pm (Ky.mk 6 (Fc.r f) []))) (Prod.snd (A.p (Ky.mk 6 (Fc.r f) [])))), (20, .int .i64 (List.length (lat pm (Ky.mk 6 (Fc.r f) [])) : Int)), (21, .int .i64 (y.1.1 : Int))]) (fun y => ((b1, .cells (Fc.cells f).toArray 41 (0, 0)) :: y.1.2)) (fun y => [gF B E, pF B pm A, aF B x A, uF B x A, oF B x A, iF B x A, rF B x A, sF B x A, E.ef]) (fun y => List.length (lat pm (Ky.mk 6 (Fc.r f) [])) - y.1.1) ⟨((0 : Nat), Hs), by simp, by exact hS⟩ ⟨rfl, rfl, rfl, rfl, rfl, trivial⟩ (j_ f_ aO_) (fun _ _ h => h) ?_
 rintro ⟨⟨i, Hs_i⟩, hi_i, hS_i⟩
 dsimp only at hi_i hS_i ⊢
 have hb_i := hpl (Ky.mk 6 (Fc.r f) [])
 refine h_ (d_ (x_ (ar_ rfl rfl) rfl fun r1 hr1 => ?_))
 refine e_ (c_ rfl (h_ ?_))
 cases r1
 ·
  replace hr1 := of_decide_eq_false hr1
  refine s_ rfl (au_ rfl (c_ rfl (h_ ?_)))
  refine az_ (by kernel_rfl) ?_
  refine ag_ 0 [0, 1, 2, 3, 4, 5, 6, 7, 8, 9] (by kernel_rfl) (fun _ a b => ⟨a, b⟩) (l_ rfl (g_ rfl) rfl (l_ rfl (ab_ rfl) rfl (l_ rfl (m_ w_ rfl rfl rfl cz_) rfl (l_ rfl (U_ dk_ rfl (fun v _ h => by exact h.1) rfl) rfl (l_ rfl (m_ n_ rfl rfl rfl o_) rfl (l_ rfl (t_ 0 u_ rfl rfl rfl) rfl (l_ rfl (aj_ dx_ rfl rfl) rfl (l_ rfl (bI_ (k := (Ky.mk 6 [] (Fc.r f))) (adr := A.p) fa_ bB_ bR_ rfl rfl (fun v _ h => by exact h.2.1)) rfl (l_ rfl (ae_ E_ rfl) rfl ?_)))))))))
  refine l_ rfl (g_ rfl) rfl (af_ (Y_ (by kernel_rfl) (c_ rfl (K_ ?_))))
  refine ax_ (ι := {y : Nat × Hp // y.1 ≤ List.length (lat pm (Ky.mk 6 [] (Fc.r f))) ∧ E.St (emits E.stp (List.flatMap (fun y => List.map (fun a => av_ a (Pc.t y) (Fc.b f)) (lat x.into (Fc.a f, Pc.r y))) (List.take y.1 (lat pm (Ky.mk 6 [] (Fc.r f))))) (emits E.stp (dT_ pm x f) nw)) fm y.2}) (fun y => [(0, zp_ B.g 0), (3, zp_ b1 0), (19, .slice (Prod.fst (A.p (Ky.mk 6 (Fc.r f) []))) (List.length (lat pm (Ky.mk 6 (Fc.r f) []))) (Prod.snd (A.p (Ky.mk 6 (Fc.r f) [])))), (20, .int .i64 (List.length (lat pm (Ky.mk 6 (Fc.r f) [])) : Int)), (21, .int .i64 (i : Int)), (60, .slice (Prod.fst (A.p (Ky.mk 6 [] (Fc.r f)))) (List.length (lat pm (Ky.mk 6 [] (Fc.r f)))) (Prod.snd (A.p (Ky.mk 6 [] (Fc.r f))))), (61, .int .i64 (List.length (lat pm (Ky.mk 6 [] (Fc.r f))) : Int)), (62, .int .i64 (y.1.1 : Int))]) (fun y => ((b1, .cells (Fc.cells f).toArray 41 (0, 0)) :: y.1.2)) (fun y => [gF B E, pF B pm A, aF B x A, uF B x A, oF B x A, iF B x A, rF B x A, sF B x A, E.ef]) (fun y => List.length (lat pm (Ky.mk 6 [] (Fc.r f))) - y.1.1) ⟨((0 : Nat), Hs_i), by simp, by have e9 : List.take i (lat pm (Ky.mk 6 (Fc.r f) [])) = (lat pm (Ky.mk 6 (Fc.r f) [])) := List.take_of_length_le (by omega); rw [e9] at hS_i; exact hS_i⟩ ⟨rfl, rfl, rfl, rfl, rfl, rfl, rfl, rfl, trivial⟩ (j_ f_ aO_) (fun _ _ h => h) ?_
  rintro ⟨⟨k, Hs_k⟩, hi_k, hS_k⟩
  dsimp only at hi_k hS_k ⊢
  have hb_k := hpl (Ky.mk 6 [] (Fc.r f))
  refine h_ (d_ (x_ (ar_ rfl rfl) rfl fun r2 hr2 => ?_))
  refine e_ (c_ rfl (h_ ?_))
  cases r2
  ·
   replace hr2 := of_decide_eq_false hr2
   refine s_ rfl (au_ rfl (aW_ rfl ?_))
   exact cw_ Tryz.results107 ⟨Hs_k, by rw [aw_]; unfold eW_; have e8 : List.take k (lat pm (Ky.mk 6 [] (Fc.r f))) = lat pm (Ky.mk 6 [] (Fc.r f)) := List.take_of_length_le (by omega); rw [e8] at hS_k; exact hS_k⟩ rfl S_ (fun _ _ _ => trivial)
  ·
   replace hr2 := of_decide_eq_true hr2
   have hlx3 : k < List.length (lat pm (Ky.mk 6 [] (Fc.r f))) := by omega
   obtain ⟨x3, hx3⟩ : ∃ e0, (lat pm (Ky.mk 6 [] (Fc.r f)))[k]? = some e0 := ⟨_, List.getElem?_eq_getElem hlx3⟩
   have hmx3 : x3 ∈ (lat pm (Ky.mk 6 [] (Fc.r f))) := List.mem_of_getElem? hx3
   refine p_ rfl (B_ (c_ rfl (h_ (K_ (h_ (d_ (a_ (al_ E_ Q_ rfl rfl (fun v _ h => aG_ (n := 10) Pc.cells_len (by decide) (by exact (bl_ h.2.1 (Ky.mk 6 [] (Fc.r f)))) hx3) (by omega) (by first | omega | (simp; done))) rfl (a_ (aK_ (ad := (Prod.fst (A.p (Ky.mk 6 [] (Fc.r f))))) (us := Pc.cells x3) bc_ Q_ rfl (fun v _ h => by exact (bl_ h.2.1 (Ky.mk 6 [] (Fc.r f)))) (Pc.cells_len _) (ao_ Pc.cells_len hx3)) rfl (ah_ aJ_ rfl fun b2 => ?_)))))))))
   refine R_ 0 Q_ rfl rfl rfl rfl rfl rfl (e_ (c_ rfl (h_ ?_)))
   refine az_ (by kernel_rfl) ?_
   refine ag_ 0 [0, 1, 2, 3, 4, 5, 6, 7, 8, 9, 10, 11] (by kernel_rfl) (fun _ a b => ⟨a, b⟩) (l_ rfl (g_ rfl) rfl (l_ rfl (ab_ rfl) rfl (l_ rfl (m_ w_ rfl rfl rfl cy_) rfl (l_ rfl (U_ dj_ rfl (fun v _ h => by exact h.1) rfl) rfl (l_ rfl (m_ n_ rfl rfl rfl o_) rfl (l_ rfl (t_ 1 u_ rfl rfl rfl) rfl (l_ rfl (m_ z_ rfl rfl rfl o_) rfl (l_ rfl (t_ 0 u_ rfl rfl rfl) rfl (l_ rfl (aj_ dS_ rfl rfl) rfl ?_)))))))))
   refine l_ rfl (bI_ (k := ((Fc.a f), (Pc.r x3))) (adr := A.i) ch_ bA_ bf_ rfl rfl (fun v _ h => by exact h.2.2.2.2.2.1)) rfl (l_ rfl (ae_ H_ rfl) rfl (l_ rfl (g_ rfl) rfl (af_ (Y_ (by kernel_rfl) (c_ rfl (K_ ?_))))))
   refine ax_ (ι := {y : Nat × Hp // y.1 ≤ List.length (lat x.into ((Fc.a f), (Pc.r x3))) ∧ E.St (emits E.stp (List.map (fun a => av_ a (Pc.t x3) (Fc.b f)) (List.take y.1 (lat x.into ((Fc.a f), (Pc.r x3))))) (emits E.stp (List.flatMap (fun y => List.map (fun a => av_ a (Pc.t y) (Fc.b f)) (lat x.into (Fc.a f, Pc.r y))) (List.take k (lat pm (Ky.mk 6 [] (Fc.r f))))) (emits E.stp (dT_ pm x f) nw))) fm y.2}) (fun y => [(0, zp_ B.g 0), (3, zp_ b1 0), (19, .slice (Prod.fst (A.p (Ky.mk 6 (Fc.r f) []))) (List.length (lat pm (Ky.mk 6 (Fc.r f) []))) (Prod.snd (A.p (Ky.mk 6 (Fc.r f) [])))), (20, .int .i64 (List.length (lat pm (Ky.mk 6 (Fc.r f) [])) : Int)), (21, .int .i64 (i : Int)), (60, .slice (Prod.fst (A.p (Ky.mk 6 [] (Fc.r f)))) (List.length (lat pm (Ky.mk 6 [] (Fc.r f)))) (Prod.snd (A.p (Ky.mk 6 [] (Fc.r f))))), (61, .int .i64 (List.length (lat pm (Ky.mk 6 [] (Fc.r f))) : Int)), (62, .int .i64 (k : Int)), (9, zp_ b2 0), (75, .slice (Prod.fst (A.i ((Fc.a f), (Pc.r x3)))) (List.length (lat x.into ((Fc.a f), (Pc.r x3)))) (Prod.snd (A.i ((Fc.a f), (Pc.r x3))))), (76, .int .i64 (List.length (lat x.into ((Fc.a f), (Pc.r x3))) : Int)), (77, .int .i64 (y.1.1 : Int))]) (fun y => ((b2, .cells (Pc.cells x3).toArray 47 (0, 0)) :: ((b1, .cells (Fc.cells f).toArray 41 (0, 0)) :: y.1.2))) (fun y => [gF B E, pF B pm A, aF B x A, uF B x A, oF B x A, iF B x A, rF B x A, sF B x A, E.ef]) (fun y => List.length (lat x.into ((Fc.a f), (Pc.r x3))) - y.1.1) ⟨((0 : Nat), Hs_k), by simp, by exact hS_k⟩ ⟨rfl, rfl, rfl, rfl, rfl, rfl, rfl, rfl, rfl, rfl, rfl, rfl, trivial⟩ (j_ f_ (j_ f_ aO_)) (fun _ _ h => h) ?_
   rintro ⟨⟨l, Hs_l⟩, hi_l, hS_l⟩
   dsimp only at hi_l hS_l ⊢
   have hb_l := (hyl ((Fc.a f), (Pc.r x3))).2.1
   refine h_ (d_ (x_ (ar_ rfl rfl) rfl fun r3 hr3 => ?_))
   refine e_ (c_ rfl (h_ ?_))
   cases r3
   ·
    replace hr3 := of_decide_eq_false hr3
    refine s_ rfl (au_ rfl (c_ rfl (d_ (a_ (P_ rfl rfl rfl (an_ (by omega) (by omega))) rfl (a_ (g_ rfl) rfl (e_ (v_ rfl ?_)))))))
    exact ai_ ⟨(k + 1, Hs_l), hlx3, (by rw [eE_ hx3, aw_]; have e9 : List.take l (lat x.into (Fc.a f, Pc.r x3)) = (lat x.into (Fc.a f, Pc.r x3)) := List.take_of_length_le (by omega); rw [e9] at hS_l; exact hS_l)⟩ (by dsimp only; omega) ⟨rfl, rfl, rfl, rfl, rfl, rfl, rfl, rfl, trivial⟩ (j_ (b_ f_) S_) (fun _ _ h => h)
   ·
    replace hr3 := of_decide_eq_true hr3
    have hlx4 : l < List.length (lat x.into ((Fc.a f), (Pc.r x3))) := by omega
    obtain ⟨x4, hx4⟩ : ∃ e0, (lat x.into ((Fc.a f), (Pc.r x3)))[l]? = some e0 := ⟨_, List.getElem?_eq_getElem hlx4⟩
    have hmx4 : x4 ∈ (lat x.into ((Fc.a f), (Pc.r x3))) := List.mem_of_getElem? hx4
    refine p_ rfl (B_ (c_ rfl (h_ (K_ (h_ (d_ (a_ (al_ H_ o_ rfl rfl (fun v _ h => aG_ (n := 1) ba_ (by decide) (by exact (bl_ h.2.2.2.2.2.1 ((Fc.a f), (Pc.r x3)))) hx4) (by omega) (by first | omega | (simp; done))) rfl (a_ (bu_ (ad := (Prod.fst (A.i ((Fc.a f), (Pc.r x3))))) u_ rfl (fun v _ h => by exact (bl_ h.2.2.2.2.2.1 ((Fc.a f), (Pc.r x3)))) (ao_ ba_ hx4 0 _ rfl)) rfl (a_ (i_ rfl) rfl ?_)))))))))
    refine e_ (c_ rfl ?_)
    refine aB_ ((b2, .cells (Pc.cells x3).toArray 47 (0, 0)) :: ((b1, .cells (Fc.cells f).toArray 41 (0, 0)) :: [])) (by kernel_rfl) ?_
    refine ag_ 2 [0, 1, 2, 3, 4, 5, 6, 7, 8] (by kernel_rfl) (fun _ a b => ⟨Vw.sat.sub (a.perm (j_ f_ f_)), b⟩) (l_ rfl (g_ rfl) rfl (l_ rfl (ab_ rfl) rfl (l_ rfl (m_ w_ rfl rfl rfl aC_) rfl (l_ rfl (U_ bh_ rfl (fun v _ h => by exact h.1) rfl) rfl (l_ rfl (g_ rfl) rfl (l_ rfl (m_ z_ rfl rfl rfl o_) rfl (l_ rfl (t_ 0 u_ rfl rfl rfl) rfl (l_ rfl (m_ n_ rfl rfl rfl o_) rfl (l_ rfl (t_ 1 u_ rfl rfl rfl) rfl ?_)))))))))
    refine af_ (N_ 9 rfl (by kernel_rfl) (aa_ (hF_ x4 (Pc.t x3) (Fc.b f)) rfl F_ (fun _ _ _ => by exact trivial) rfl fun _ => ?_))
    refine e_ (v_ rfl (C_ (fun _ a b => ⟨Vw.sat.sub (a.perm (j_ f_ f_)), b⟩) (N_ 10 rfl (by kernel_rfl) (aH_ (first := []) (cap := E.caps) (E.emit (av_ x4 (Pc.t x3) (Fc.b f)) (emits E.stp (List.map (fun a => av_ a (Pc.t x3) (Fc.b f)) (List.take l (lat x.into ((Fc.a f), (Pc.r x3))))) (emits E.stp (List.flatMap (fun y => List.map (fun a => av_ a (Pc.t y) (Fc.b f)) (lat x.into (Fc.a f, Pc.r y))) (List.take k (lat pm (Ky.mk 6 [] (Fc.r f))))) (emits E.stp (dT_ pm x f) nw))) fm Hs_l hS_l) rfl rfl (b_ S_) (fun v _ h => by exact ⟨h.2.2.2.2.2.2.2.2.1, trivial⟩) rfl fun ⟨Hs1, hS1⟩ => ?_))))
    dsimp only
    refine e_ (v_ rfl (C_ (fun _ a b => ⟨Vw.sat.sub (a.perm (j_ (k_ f_) aR_)), b⟩) (Y_ (by kernel_rfl) (c_ rfl (d_ (a_ (P_ rfl rfl rfl (an_ (by omega) (by omega))) rfl (a_ (g_ rfl) rfl (e_ (v_ rfl ?_)))))))))
    exact ai_ ⟨(l + 1, Hs1), hlx4, (by rw [dC_ hx4, aw_]; exact hS1)⟩ (by dsimp only; omega) ⟨rfl, rfl, rfl, rfl, rfl, rfl, rfl, rfl, rfl, rfl, rfl, rfl, trivial⟩ (j_ (k_ f_) (j_ aR_ aO_)) (fun _ _ h => h)
 ·
  replace hr1 := of_decide_eq_true hr1
  have hlx1 : i < List.length (lat pm (Ky.mk 6 (Fc.r f) [])) := by omega
  obtain ⟨x1, hx1⟩ : ∃ e0, (lat pm (Ky.mk 6 (Fc.r f) []))[i]? = some e0 := ⟨_, List.getElem?_eq_getElem hlx1⟩
  have hmx1 : x1 ∈ (lat pm (Ky.mk 6 (Fc.r f) [])) := List.mem_of_getElem? hx1
  refine p_ rfl (B_ (c_ rfl (h_ (K_ (h_ (d_ (a_ (al_ E_ Q_ rfl rfl (fun v _ h => aG_ (n := 10) Pc.cells_len (by decide) (by exact (bl_ h.2.1 (Ky.mk 6 (Fc.r f) []))) hx1) (by omega) (by first | omega | (simp; done))) rfl (a_ (aK_ (ad := (Prod.fst (A.p (Ky.mk 6 (Fc.r f) [])))) (us := Pc.cells x1) bc_ Q_ rfl (fun v _ h => by exact (bl_ h.2.1 (Ky.mk 6 (Fc.r f) []))) (Pc.cells_len _) (ao_ Pc.cells_len hx1)) rfl (ah_ aJ_ rfl fun b3 => ?_)))))))))
  refine R_ 0 Q_ rfl rfl rfl rfl rfl rfl (e_ (c_ rfl (h_ ?_)))
  refine az_ (by kernel_rfl) ?_
  refine ag_ 0 [0, 1, 2, 3, 4, 5, 6, 7, 8, 9, 10, 11] (by kernel_rfl) (fun _ a b => ⟨a, b⟩) (l_ rfl (g_ rfl) rfl (l_ rfl (ab_ rfl) rfl (l_ rfl (m_ w_ rfl rfl rfl cy_) rfl (l_ rfl (U_ dj_ rfl (fun v _ h => by exact h.1) rfl) rfl (l_ rfl (m_ n_ rfl rfl rfl o_) rfl (l_ rfl (t_ 1 u_ rfl rfl rfl) rfl (l_ rfl (m_ z_ rfl rfl rfl o_) rfl (l_ rfl (t_ 0 u_ rfl rfl rfl) rfl (l_ rfl (aj_ dS_ rfl rfl) rfl ?_)))))))))
  refine l_ rfl (bI_ (k := ((Fc.b f), (Pc.s x1))) (adr := A.o) ch_ bA_ bf_ rfl rfl (fun v _ h => by exact h.2.2.2.2.1)) rfl (l_ rfl (ae_ H_ rfl) rfl (l_ rfl (g_ rfl) rfl (af_ (Y_ (by kernel_rfl) (c_ rfl (K_ ?_))))))
  refine ax_ (ι := {y : Nat × Hp // y.1 ≤ List.length (lat x.frm ((Fc.b f), (Pc.s x1))) ∧ E.St (emits E.stp (List.map (fun a => av_ (Fc.a f) (Pc.t x1) a) (List.take y.1 (lat x.frm ((Fc.b f), (Pc.s x1))))) (emits E.stp (List.flatMap (fun y => List.map (fun a => av_ (Fc.a f) (Pc.t y) a) (lat x.frm (Fc.b f, Pc.s y))) (List.take i (lat pm (Ky.mk 6 (Fc.r f) [])))) nw)) fm y.2}) (fun y => [(0, zp_ B.g 0), (3, zp_ b1 0), (19, .slice (Prod.fst (A.p (Ky.mk 6 (Fc.r f) []))) (List.length (lat pm (Ky.mk 6 (Fc.r f) []))) (Prod.snd (A.p (Ky.mk 6 (Fc.r f) [])))), (20, .int .i64 (List.length (lat pm (Ky.mk 6 (Fc.r f) [])) : Int)), (21, .int .i64 (i : Int)), (5, zp_ b3 0), (34, .slice (Prod.fst (A.o ((Fc.b f), (Pc.s x1)))) (List.length (lat x.frm ((Fc.b f), (Pc.s x1)))) (Prod.snd (A.o ((Fc.b f), (Pc.s x1))))), (35, .int .i64 (List.length (lat x.frm ((Fc.b f), (Pc.s x1))) : Int)), (36, .int .i64 (y.1.1 : Int))]) (fun y => ((b3, .cells (Pc.cells x1).toArray 47 (0, 0)) :: ((b1, .cells (Fc.cells f).toArray 41 (0, 0)) :: y.1.2))) (fun y => [gF B E, pF B pm A, aF B x A, uF B x A, oF B x A, iF B x A, rF B x A, sF B x A, E.ef]) (fun y => List.length (lat x.frm ((Fc.b f), (Pc.s x1))) - y.1.1) ⟨((0 : Nat), Hs_i), by simp, by exact hS_i⟩ ⟨rfl, rfl, rfl, rfl, rfl, rfl, rfl, rfl, rfl, trivial⟩ (j_ f_ (j_ f_ aO_)) (fun _ _ h => h) ?_
  rintro ⟨⟨j, Hs_j⟩, hi_j, hS_j⟩
  dsimp only at hi_j hS_j ⊢
  have hb_j := (hyl ((Fc.b f), (Pc.s x1))).1
  refine h_ (d_ (x_ (ar_ rfl rfl) rfl fun r4 hr4 => ?_))
  refine e_ (c_ rfl (h_ ?_))
  cases r4
  ·
   replace hr4 := of_decide_eq_false hr4
   refine s_ rfl (au_ rfl (c_ rfl (d_ (a_ (P_ rfl rfl rfl (an_ (by omega) (by omega))) rfl (a_ (g_ rfl) rfl (e_ (v_ rfl ?_)))))))
   exact ai_ ⟨(i + 1, Hs_j), hlx1, (by rw [eE_ hx1, aw_]; have e9 : List.take j (lat x.frm (Fc.b f, Pc.s x1)) = (lat x.frm (Fc.b f, Pc.s x1)) := List.take_of_length_le (by omega); rw [e9] at hS_j; exact hS_j)⟩ (by dsimp only; omega) ⟨rfl, rfl, rfl, rfl, rfl, trivial⟩ (j_ (b_ f_) S_) (fun _ _ h => h)
  ·
   replace hr4 := of_decide_eq_true hr4
   have hlx2 : j < List.length (lat x.frm ((Fc.b f), (Pc.s x1))) := by omega
   obtain ⟨x2, hx2⟩ : ∃ e0, (lat x.frm ((Fc.b f), (Pc.s x1)))[j]? = some e0 := ⟨_, List.getElem?_eq_getElem hlx2⟩
   have hmx2 : x2 ∈ (lat x.frm ((Fc.b f), (Pc.s x1))) := List.mem_of_getElem? hx2
   refine p_ rfl (B_ (c_ rfl (h_ (K_ (h_ (d_ (a_ (al_ H_ o_ rfl rfl (fun v _ h => aG_ (n := 1) ba_ (by decide) (by exact (bl_ h.2.2.2.2.1 ((Fc.b f), (Pc.s x1)))) hx2) (by omega) (by first | omega | (simp; done))) rfl (a_ (bu_ (ad := (Prod.fst (A.o ((Fc.b f), (Pc.s x1))))) u_ rfl (fun v _ h => by exact (bl_ h.2.2.2.2.1 ((Fc.b f), (Pc.s x1)))) (ao_ ba_ hx2 0 _ rfl)) rfl (a_ (i_ rfl) rfl ?_)))))))))
   refine e_ (c_ rfl ?_)
   refine aB_ ((b3, .cells (Pc.cells x1).toArray 47 (0, 0)) :: ((b1, .cells (Fc.cells f).toArray 41 (0, 0)) :: [])) (by kernel_rfl) ?_
   refine ag_ 2 [0, 1, 2, 3, 4, 5, 6, 7, 8] (by kernel_rfl) (fun _ a b => ⟨Vw.sat.sub (a.perm (j_ f_ f_)), b⟩) (l_ rfl (g_ rfl) rfl (l_ rfl (ab_ rfl) rfl (l_ rfl (m_ w_ rfl rfl rfl aC_) rfl (l_ rfl (U_ bh_ rfl (fun v _ h => by exact h.1) rfl) rfl (l_ rfl (m_ n_ rfl rfl rfl o_) rfl (l_ rfl (t_ 1 u_ rfl rfl rfl) rfl (l_ rfl (m_ z_ rfl rfl rfl o_) rfl (l_ rfl (t_ 0 u_ rfl rfl rfl) rfl (l_ rfl (g_ rfl) rfl ?_)))))))))
   refine af_ (N_ 9 rfl (by kernel_rfl) (aa_ (hF_ (Fc.a f) (Pc.t x1) x2) rfl F_ (fun _ _ _ => by exact trivial) rfl fun _ => ?_))
   refine e_ (v_ rfl (C_ (fun _ a b => ⟨Vw.sat.sub (a.perm (j_ f_ f_)), b⟩) (N_ 10 rfl (by kernel_rfl) (aH_ (first := []) (cap := E.caps) (E.emit (av_ (Fc.a f) (Pc.t x1) x2) (emits E.stp (List.map (fun a => av_ (Fc.a f) (Pc.t x1) a) (List.take j (lat x.frm ((Fc.b f), (Pc.s x1))))) (emits E.stp (List.flatMap (fun y => List.map (fun a => av_ (Fc.a f) (Pc.t y) a) (lat x.frm (Fc.b f, Pc.s y))) (List.take i (lat pm (Ky.mk 6 (Fc.r f) [])))) nw)) fm Hs_j hS_j) rfl rfl (b_ S_) (fun v _ h => by exact ⟨h.2.2.2.2.2.2.2.2.1, trivial⟩) rfl fun ⟨Hs2, hS2⟩ => ?_))))
   dsimp only
   refine e_ (v_ rfl (C_ (fun _ a b => ⟨Vw.sat.sub (a.perm (j_ (k_ f_) aR_)), b⟩) (Y_ (by kernel_rfl) (c_ rfl (d_ (a_ (P_ rfl rfl rfl (an_ (by omega) (by omega))) rfl (a_ (g_ rfl) rfl (e_ (v_ rfl ?_)))))))))
   exact ai_ ⟨(j + 1, Hs2), hlx2, (by rw [dC_ hx2, aw_]; exact hS2)⟩ (by dsimp only; omega) ⟨rfl, rfl, rfl, rfl, rfl, rfl, rfl, rfl, rfl, trivial⟩ (j_ (k_ f_) (j_ aR_ aO_)) (fun _ _ h => h)
theorem kf_ (B : EngB) (E : Emt Tryz.prog 41) (A : EngA) (pm : List (Ky × Pc)) (x : Ix) (f : Fc) (nw fm : List Fc) (Hs : Hp) (hS : E.St nw fm Hs) (hpl : ∀ k, (lat pm k).length ≤ 1000000000) (hxl : ∀ k, (lat x.above k).length ≤ 1000000000 ∧ (lat x.under k).length ≤ 1000000000) (hyl : ∀ k, (lat x.frm k).length ≤ 1000000000 ∧ (lat x.into k).length ≤ 1000000000 ∧ (lat x.ranges k).length ≤ 1000000000 ∧ (lat x.firms k).length ≤ 1000000000) : Tri Tryz.prog 104 #[zp_ B.g 0, Fc.val f] Hs [gF B E, pF B pm A, aF B x A, uF B x A, oF B x A, iF B x A, rF B x A, sF B x A, E.ef] (fun _ : {H' : Hp // E.St (emits E.stp (cx_ x f) nw) fm H'} => .tuple #[]) (fun y => y.1) (fun _ => []) := by
 refine J_ Tryz.func104 rfl rfl Tryz.ntmps104 rfl fun v0 => ?_
 refine h_ (d_ (bd_ rfl rfl fun b1 => ?_))
 refine e_ (c_ rfl (h_ (d_ (a_ (m_ n_ rfl rfl rfl o_) rfl (a_ (t_ 0 u_ rfl rfl rfl) rfl (x_ (bo_ rfl rfl) rfl fun r1 hr1 => ?_))))))
 refine e_ (c_ rfl ?_)
 cases r1
 ·
  replace hr1 := ne_of_beq_false hr1
  refine s_ rfl (B_ (aW_ rfl ?_))
  exact cw_ Tryz.results104 ⟨Hs, by unfold cx_; rw [if_neg (by assumption)]; exact hS⟩ rfl S_ (fun _ _ _ => trivial)
 ·
  replace hr1 := eq_of_beq hr1
  refine p_ rfl (h_ ?_)
  refine az_ (by kernel_rfl) ?_
  refine ag_ 0 [0, 1, 2, 3, 4, 5, 6, 7, 8] (by kernel_rfl) (fun _ a b => ⟨a, b⟩) (l_ rfl (g_ rfl) rfl (l_ rfl (ab_ rfl) rfl (l_ rfl (m_ w_ rfl rfl rfl ga_) rfl (l_ rfl (U_ kG_ rfl (fun v _ h => by exact h.1) rfl) rfl (l_ rfl (m_ n_ rfl rfl rfl o_) rfl (l_ rfl (t_ 0 u_ rfl rfl rfl) rfl (l_ rfl (bI_ (k := (Fc.a f)) (adr := A.u) go_ bN_ bf_ rfl rfl (fun v _ h => by exact h.2.2.2.1)) rfl (l_ rfl (ae_ H_ rfl) rfl (l_ rfl (g_ rfl) rfl ?_)))))))))
  refine af_ (Y_ (by kernel_rfl) (c_ rfl (K_ ?_)))
  refine ax_ (ι := {y : Nat × Hp // y.1 ≤ List.length (lat x.under (Fc.a f)) ∧ E.St (emits E.stp (List.map (fun a => aq_ a [33]) (List.take y.1 (lat x.under (Fc.a f)))) nw) fm y.2}) (fun y => [(0, zp_ B.g 0), (15, .slice (Prod.fst (A.u (Fc.a f))) (List.length (lat x.under (Fc.a f))) (Prod.snd (A.u (Fc.a f)))), (16, .int .i64 (List.length (lat x.under (Fc.a f)) : Int)), (17, .int .i64 (y.1.1 : Int))]) (fun y => (y.1.2)) (fun y => [gF B E, pF B pm A, aF B x A, uF B x A, oF B x A, iF B x A, rF B x A, sF B x A, E.ef]) (fun y => List.length (lat x.under (Fc.a f)) - y.1.1) ⟨((0 : Nat), Hs), by simp, by exact hS⟩ ⟨rfl, rfl, rfl, rfl, trivial⟩ S_ (fun _ _ h => h) ?_
  rintro ⟨⟨i, Hs_i⟩, hi_i, hS_i⟩
  dsimp only at hi_i hS_i ⊢
  have hb_i := (hxl (Fc.a f)).2
  refine h_ (d_ (x_ (ar_ rfl rfl) rfl fun r2 hr2 => ?_))
  refine e_ (c_ rfl (h_ ?_))
  cases r2
  ·
   replace hr2 := of_decide_eq_false hr2
   refine s_ rfl (au_ rfl (aW_ rfl ?_))
   exact cw_ Tryz.results104 ⟨Hs_i, by unfold cx_; rw [if_pos (by assumption)]; rw [List.take_of_length_le (by omega)] at hS_i; exact hS_i⟩ rfl aO_ (fun _ _ _ => trivial)
  ·
   replace hr2 := of_decide_eq_true hr2
   have hlx1 : i < List.length (lat x.under (Fc.a f)) := by omega
   obtain ⟨x1, hx1⟩ : ∃ e0, (lat x.under (Fc.a f))[i]? = some e0 := ⟨_, List.getElem?_eq_getElem hlx1⟩
   have hmx1 : x1 ∈ (lat x.under (Fc.a f)) := List.mem_of_getElem? hx1
   refine p_ rfl (B_ (c_ rfl (h_ (K_ (h_ (d_ (a_ (al_ H_ o_ rfl rfl (fun v _ h => aG_ (n := 1) ba_ (by decide) (by exact (bl_ h.2.2.2.1 (Fc.a f))) hx1) (by omega) (by first | omega | (simp; done))) rfl (a_ (bu_ (ad := (Prod.fst (A.u (Fc.a f)))) u_ rfl (fun v _ h => by exact (bl_ h.2.2.2.1 (Fc.a f))) (ao_ ba_ hx1 0 _ rfl)) rfl (a_ (i_ rfl) rfl ?_)))))))))
   refine e_ (c_ rfl ?_)
   refine aB_ ([]) (by kernel_rfl) ?_
   refine ag_ 2 [0, 1, 2, 3, 4] (by kernel_rfl) (fun _ a b => ⟨dg_ a, b⟩) (l_ rfl (g_ rfl) rfl (l_ rfl (ab_ rfl) rfl (l_ rfl (m_ w_ rfl rfl rfl aC_) rfl (l_ rfl (U_ bh_ rfl (fun v _ h => by exact h.1) rfl) rfl (l_ rfl (g_ rfl) rfl (af_ (N_ 5 rfl (by kernel_rfl) (aa_ (eg_ x1 [33]) rfl F_ (fun _ _ _ => by exact trivial) rfl fun _ => ?_))))))))
   refine ay_ ld_ (e_ (v_ rfl (C_ (fun _ a b => ⟨dg_ a, b⟩) (N_ 6 rfl (by kernel_rfl) (aH_ (first := []) (cap := E.caps) (E.emit (aq_ x1 [33]) (emits E.stp (List.map (fun a => aq_ a [33]) (List.take i (lat x.under (Fc.a f)))) nw) fm Hs_i hS_i) rfl rfl aO_ (fun v _ h => by exact ⟨h.2.2.2.2.2.2.2.2.1, trivial⟩) rfl fun ⟨Hs1, hS1⟩ => ?_)))))
   dsimp only
   refine ay_ fA_ (e_ (v_ rfl (C_ (fun _ a b => ⟨dg_ a, b⟩) (Y_ (by kernel_rfl) (c_ rfl (d_ (a_ (P_ rfl rfl rfl (an_ (by omega) (by omega))) rfl (a_ (g_ rfl) rfl (e_ ?_)))))))))
   refine v_ rfl ?_
   exact ai_ ⟨(i + 1, Hs1), hlx1, (by rw [dC_ hx1, aw_]; exact hS1)⟩ (by dsimp only; omega) ⟨rfl, rfl, rfl, rfl, trivial⟩ aO_ (fun _ _ h => h)
theorem ke_ (B : EngB) (E : Emt Tryz.prog 41) (A : EngA) (pm : List (Ky × Pc)) (x : Ix) (f : Fc) (nw fm : List Fc) (Hs : Hp) (hS : E.St nw fm Hs) (hpl : ∀ k, (lat pm k).length ≤ 1000000000) (hxl : ∀ k, (lat x.above k).length ≤ 1000000000 ∧ (lat x.under k).length ≤ 1000000000) (hyl : ∀ k, (lat x.frm k).length ≤ 1000000000 ∧ (lat x.into k).length ≤ 1000000000 ∧ (lat x.ranges k).length ≤ 1000000000 ∧ (lat x.firms k).length ≤ 1000000000) : Tri Tryz.prog 109 #[zp_ B.g 0, Fc.val f] Hs [gF B E, pF B pm A, aF B x A, uF B x A, oF B x A, iF B x A, rF B x A, sF B x A, E.ef] (fun _ : {H' : Hp // E.St (if aq_ (Fc.b f) [33] ∈ E.kof nw then E.stp (aq_ (Fc.a f) [33]) nw else nw) fm H'} => .tuple #[]) (fun y => y.1) (fun _ => []) := by
  refine J_ Tryz.func109 rfl rfl Tryz.ntmps109 rfl fun v0 => ?_
  refine h_ (d_ (bd_ rfl rfl fun b1 => ?_))
  refine e_ (c_ rfl (h_ ?_))
  refine az_ (by kernel_rfl) ?_
  refine ag_ 2 [0, 1, 2, 3, 4, 5] (by kernel_rfl) (fun _ a b => ⟨a, b⟩) (l_ rfl (g_ rfl) rfl (l_ rfl (ab_ rfl) rfl (l_ rfl (m_ w_ rfl rfl rfl bw_) rfl (l_ rfl (U_ bJ_ rfl (fun v _ h => by exact h.1) rfl) rfl (l_ rfl (m_ n_ rfl rfl rfl o_) rfl (l_ rfl (t_ 0 u_ rfl rfl rfl) rfl (af_ (N_ 6 rfl (by kernel_rfl) (aa_ (eg_ (Fc.b f) [33]) rfl F_ (fun _ _ _ => by exact trivial) rfl fun _ => ?_)))))))))
  refine e_ (v_ rfl (C_ (fun _ a b => ⟨a, b⟩) (ag_ 0 [7] (by kernel_rfl) (fun _ a b => ⟨a, b⟩) ?_)))
  refine cq_ rfl (fv_ (f := (aq_ (Fc.b f) [33])) hS fk_ aN_ cM_ rfl rfl S_) rfl fun r1 hr1 => ?_
  refine af_ (Y_ (by kernel_rfl) (c_ rfl ?_))
  cases r1
  · skip
    replace hr1 := of_decide_eq_false hr1
    refine s_ rfl (B_ (aW_ rfl ?_))
    exact cw_ Tryz.results109 ⟨Hs, by first | (rw [if_pos (by assumption)]; exact hS) | (rw [if_neg (by assumption)]; exact hS)⟩ rfl S_ (fun _ _ _ => trivial)
  · skip
    replace hr1 := of_decide_eq_true hr1
    refine p_ rfl ?_
    refine aB_ ((b1, .cells (Fc.cells f).toArray 41 (0, 0)) :: []) (by kernel_rfl) ?_
    refine ag_ 2 [0, 1, 2, 3, 4, 5] (by kernel_rfl) (fun _ a b => ⟨Vw.sat.sub (a.perm f_), b⟩) (l_ rfl (g_ rfl) rfl (l_ rfl (ab_ rfl) rfl (l_ rfl (m_ w_ rfl rfl rfl aC_) rfl (l_ rfl (U_ bh_ rfl (fun v _ h => by exact h.1) rfl) rfl (l_ rfl (m_ n_ rfl rfl rfl o_) rfl (l_ rfl (t_ 0 u_ rfl rfl rfl) rfl (af_ (N_ 6 rfl (by kernel_rfl) (aa_ (eg_ (Fc.a f) [33]) rfl F_ (fun _ _ _ => by exact trivial) rfl fun _ => ?_)))))))))
    refine e_ (v_ rfl (C_ (fun _ a b => ⟨Vw.sat.sub (a.perm f_), b⟩) (N_ 7 rfl (by kernel_rfl) (aH_ (first := []) (cap := E.caps) (E.emit (aq_ (Fc.a f) [33]) nw fm Hs hS) rfl rfl S_ (fun v _ h => by exact ⟨h.2.2.2.2.2.2.2.2.1, trivial⟩) rfl fun ⟨Hs1, hS1⟩ => ?_))))
    dsimp only
    refine e_ (v_ rfl (C_ (fun _ a b => ⟨Vw.sat.sub (a.perm aR_), b⟩) (Y_ (by kernel_rfl) (aW_ rfl ?_))))
    exact cw_ Tryz.results109 ⟨Hs1, by first | (rw [if_pos (by assumption)]; exact hS1) | (rw [if_neg (by assumption)]; exact hS1)⟩ rfl q_ (fun _ _ _ => trivial)
end Go.Proofs.YtpdbbglpbngeiaaGreatDoor
namespace Go.Proofs.YtpdbbglpbngeiaaGreatDoor
open Go Go.Sx Go.Proofs
attribute [local irreducible] Code.wp wpList wpAnyH
open Go.Vs
def ivC (i : Int × Int) : List Value := [.int .i64 i.1, .int .i64 i.2]
theorem iO_ (i : Int × Int) : (ivC i).length = 2 := rfl
def ivV (i : Int × Int) : Value := .agg (ivC i).toArray
def em_ (i : Int × Int) : Int := if min i.1 i.2 < -1099511627776 ∨ 1099511627776 < max i.1 i.2 then 1 else if i.2 < i.1 then 80 else 0
def gJ_ (e : Int) (i : Int × Int) : Int := if e ≠ 0 then e else em_ i
def er_ (l : List (Int × Int)) : Int := l.foldl gJ_ 0
theorem ka_ {l : List (Int × Int)} {i : Nat} {x : Int × Int} (h : l[i]? = some x) : er_ (List.take (i + 1) l) = gJ_ (er_ (List.take i l)) x := by
  unfold er_; rw [List.take_add_one, h, Option.toList_some, List.foldl_append]; rfl
def lS_ (a b : Int × Int) : Bool := decide (er_ [a, b] = 0) && (decide (b.1 ≤ a.1) && decide (a.2 ≤ b.2))
theorem oa_ {a b : Int × Int} (ha : -1099511627776 ≤ a.1 ∧ a.1 ≤ a.2 ∧ a.2 ≤ 1099511627776) (hb : -1099511627776 ≤ b.1 ∧ b.1 ≤ b.2 ∧ b.2 ≤ 1099511627776) : lS_ a b = decide (b.1 ≤ a.1 ∧ a.2 ≤ b.2) := by
  have e : ∀ i : Int × Int, -1099511627776 ≤ i.1 ∧ i.1 ≤ i.2 ∧ i.2 ≤ 1099511627776 → em_ i = 0 := fun i h => by
    unfold em_; rw [if_neg (by omega), if_neg (by omega)]
  have e2 : er_ [a, b] = 0 := by simp [er_, gJ_, e a ha, e b hb]
  unfold lS_; rw [e2, Bool.eq_iff_iff]; simp
theorem kW_ : jh_ Tryz.prog 175 [(0, 1), (1, 1)] [.int .i64 0, .int .i64 0] := ⟨_, Tryz.zeroValue175, bx_, fun w => by simp [T_]⟩
theorem lT_ (i : Int × Int) : Fn0 Tryz.prog 206 #[ivV i] (.int .i64 (em_ i)) := by
  refine J_ Tryz.func206 rfl rfl Tryz.ntmps206 rfl fun v0 => ?_
  refine h_ (d_ (bd_ rfl rfl fun b1 => ?_))
  refine a_ (i_ rfl) rfl (e_ (c_ rfl (h_ (h_ (d_ (a_ (m_ bx_ rfl rfl rfl T_) rfl (a_ (t_ 0 O_ rfl rfl rfl) rfl (a_ (m_ bx_ rfl rfl rfl T_) rfl (a_ (t_ 0 O_ rfl rfl rfl) rfl ?_)))))))))
  refine a_ (gb_ rfl rfl) rfl (x_ (ar_ rfl rfl) rfl fun r1 hr1 => ?_)
  refine a_ (g_ rfl) rfl ?_
  cases r1
  · skip
    replace hr1 := of_decide_eq_false hr1
    refine r_ rfl rfl (a_ (m_ bx_ rfl rfl rfl T_) rfl (r_ rfl rfl (a_ (t_ 0 O_ rfl rfl rfl) rfl (r_ rfl rfl (a_ (m_ bx_ rfl rfl rfl T_) rfl (r_ rfl rfl (a_ (t_ 0 O_ rfl rfl rfl) rfl (r_ rfl rfl (a_ (hh_ rfl rfl) rfl ?_)))))))))
    refine r_ rfl rfl (x_ (bL_ rfl rfl) rfl fun r2 hr2 => ?_)
    refine a_ (M_ rfl rfl) rfl (e_ (c_ rfl ?_))
    cases r2
    · skip
      replace hr2 := of_decide_eq_false hr2
      refine s_ rfl (B_ (c_ rfl (h_ (h_ (d_ (a_ (m_ bx_ rfl rfl rfl T_) rfl (a_ (t_ 0 O_ rfl rfl rfl) rfl (a_ (m_ bx_ rfl rfl rfl T_) rfl (a_ (t_ 0 O_ rfl rfl rfl) rfl ?_)))))))))
      refine x_ (bL_ rfl rfl) rfl fun r3 hr3 => ?_
      refine e_ (c_ rfl ?_)
      cases r3
      · skip
        replace hr3 := of_decide_eq_false hr3
        refine s_ rfl (B_ (c_ rfl (h_ (d_ (a_ (i_ rfl) rfl (e_ (c_ rfl (D_ ?_))))))))
        exact aA_ Tryz.results206 () (ci_ rfl (by unfold em_; first | (rw [if_pos (by omega)]) | (rw [if_neg (by omega), if_pos (by omega)]) | (rw [if_neg (by omega), if_neg (by omega)]))) F_ (fun _ _ _ => trivial)
      · skip
        replace hr3 := of_decide_eq_true hr3
        refine p_ rfl (h_ (d_ (a_ (i_ rfl) rfl (e_ (c_ rfl (D_ ?_))))))
        exact aA_ Tryz.results206 () (ci_ rfl (by unfold em_; first | (rw [if_pos (by omega)]) | (rw [if_neg (by omega), if_pos (by omega)]) | (rw [if_neg (by omega), if_neg (by omega)]))) F_ (fun _ _ _ => trivial)
    · skip
      replace hr2 := of_decide_eq_true hr2
      refine p_ rfl (h_ (d_ (a_ (i_ rfl) rfl (e_ (c_ rfl (D_ ?_))))))
      exact aA_ Tryz.results206 () (ci_ rfl (by unfold em_; first | (rw [if_pos (by omega)]) | (rw [if_neg (by omega), if_pos (by omega)]) | (rw [if_neg (by omega), if_neg (by omega)]))) F_ (fun _ _ _ => trivial)
  · skip
    replace hr1 := of_decide_eq_true hr1
    refine y_ rfl rfl rfl rfl (y_ rfl rfl rfl rfl (y_ rfl rfl rfl rfl (y_ rfl rfl rfl rfl (y_ rfl rfl rfl rfl (y_ rfl rfl rfl rfl (a_ (W_ rfl rfl) rfl (e_ (c_ rfl (p_ rfl ?_)))))))))
    refine h_ (d_ (a_ (i_ rfl) rfl (e_ (c_ rfl (D_ ?_)))))
    exact aA_ Tryz.results206 () (ci_ rfl (by unfold em_; first | (rw [if_pos (by omega)]) | (rw [if_neg (by omega), if_pos (by omega)]) | (rw [if_neg (by omega), if_neg (by omega)]))) F_ (fun _ _ _ => trivial)
theorem nZ_ (e : Int) (i : Int × Int) : Fn0 Tryz.prog 205 #[.int .i64 e, ivV i] (.int .i64 (gJ_ e i)) := by
  refine J_ Tryz.func205 rfl rfl Tryz.ntmps205 rfl fun v0 => ?_
  refine h_ (d_ (bd_ rfl rfl fun b1 => ?_))
  refine a_ (i_ rfl) rfl (e_ (c_ rfl (h_ (h_ (d_ (a_ (g_ rfl) rfl (x_ (bC_ rfl rfl) rfl fun r1 hr1 => ?_)))))))
  refine e_ (c_ rfl ?_)
  cases r1
  · skip
    replace hr1 := aQ_ hr1
    refine s_ rfl (B_ (c_ rfl (h_ (d_ (a_ (X_ 0 oB_ ec_ rfl rfl rfl) rfl (aa_ (lT_ i) rfl F_ (fun _ _ _ => by exact trivial) rfl fun _ => ?_))))))
    refine a_ (i_ rfl) rfl (e_ (c_ rfl (D_ ?_)))
    exact aA_ Tryz.results205 () (ci_ rfl (by unfold gJ_; first | (rw [if_pos (by assumption)]) | (rw [if_neg (by omega)]))) F_ (fun _ _ _ => trivial)
  · skip
    replace hr1 := aP_ hr1
    refine p_ rfl (h_ (d_ (a_ (g_ rfl) rfl (a_ (i_ rfl) rfl (e_ (c_ rfl (D_ ?_)))))))
    exact aA_ Tryz.results205 () (ci_ rfl (by unfold gJ_; first | (rw [if_pos (by assumption)]) | (rw [if_neg (by omega)]))) F_ (fun _ _ _ => trivial)
theorem kF_ (l : List (Int × Int)) (ad : Option Addr) (cap : Nat) (hl : l.length ≤ 1000000) : Tri Tryz.prog 204 #[.slice ad (List.length l) cap, .int .i64 0, .func (.func 205) #[] #[]] [] [ap_ ad (List.flatMap ivC l)] (fun _ : Unit => .int .i64 (er_ l)) (fun _ => []) (fun _ => []) := by
  refine J_ Tryz.func204 rfl rfl Tryz.ntmps204 rfl fun v0 => ?_
  refine h_ (d_ (a_ (i_ rfl) rfl (e_ (c_ rfl (h_ (h_ (d_ (a_ (g_ rfl) rfl (a_ (ae_ Tryz.runUnderlying223 rfl) rfl ?_)))))))))
  refine a_ (g_ rfl) rfl (e_ (c_ rfl (K_ ?_)))
  refine ax_ (ι := {y : Nat // y ≤ l.length}) (fun y => [(1, .int .i64 (er_ (List.take y.1 l))), (2, .func (.func 205) #[] #[]), (9, .slice ad (List.length l) cap), (10, .int .i64 (List.length l : Int)), (11, .int .i64 (y.1 : Int))]) (fun y => ([])) (fun y => [ap_ ad (List.flatMap ivC l)]) (fun y => l.length - y.1) ⟨(0 : Nat), by simp⟩ ⟨rfl, rfl, rfl, rfl, rfl, trivial⟩ F_ (fun _ _ h => h) ?_
  rintro ⟨i, hi⟩
  dsimp only at hi ⊢
  refine h_ (d_ (x_ (ar_ rfl rfl) rfl fun r1 hr1 => ?_))
  refine e_ (c_ rfl (h_ ?_))
  cases r1
  · skip
    replace hr1 := of_decide_eq_false hr1
    refine s_ rfl (au_ rfl (c_ rfl (h_ (d_ (a_ (g_ rfl) rfl (a_ (i_ rfl) rfl (e_ (c_ rfl (D_ ?_)))))))))
    exact aA_ Tryz.results204 () (ci_ rfl (by rw [List.take_of_length_le (by omega)])) F_ (fun _ _ _ => trivial)
  · skip
    replace hr1 := of_decide_eq_true hr1
    have hlx1 : i < List.length l := by omega
    obtain ⟨x1, hx1⟩ : ∃ e0, l[i]? = some e0 := ⟨_, List.getElem?_eq_getElem hlx1⟩
    have hmx1 : x1 ∈ l := List.mem_of_getElem? hx1
    refine p_ rfl (B_ (c_ rfl (h_ (K_ (h_ (d_ (a_ (al_ Tryz.runUnderlying223 ec_ rfl rfl (fun v _ h => aG_ (n := 2) iO_ (by decide) (by exact h.1) hx1) (by omega) (by first | omega | (simp; done))) rfl (a_ (aK_ (ad := ad) (us := ivC x1) oB_ ec_ rfl (fun v _ h => by exact h.1) (iO_ _) (ao_ iO_ hx1)) rfl (ah_ Tryz.zeroValue175 rfl fun b1 => ?_)))))))))
    refine R_ 0 ec_ rfl rfl rfl rfl rfl rfl (e_ (c_ rfl (d_ (a_ (g_ rfl) rfl (a_ (g_ rfl) rfl (a_ (X_ 0 oB_ ec_ rfl rfl rfl) rfl (aH_ (nZ_ (er_ (List.take i l)) x1) rfl rfl F_ (fun _ _ _ => by exact trivial) rfl fun _ => ?_)))))))
    refine a_ (i_ rfl) rfl (e_ (c_ rfl (d_ (a_ (P_ rfl rfl rfl (an_ (by omega) (by omega))) rfl (a_ (g_ rfl) rfl (e_ (v_ rfl ?_)))))))
    exact ai_ ⟨i + 1, hlx1⟩ (by dsimp only; omega) ⟨(ci_ rfl (ka_ hx1).symm), rfl, rfl, rfl, rfl, trivial⟩ F_ (fun _ _ h => h)
theorem ob_ (l : List (Int × Int)) (ad : Option Addr) (cap : Nat) (hl : l.length ≤ 1000000) : Tri Tryz.prog 184 #[.slice ad (List.length l) cap] [] [ap_ ad (List.flatMap ivC l)] (fun _ : Unit => .int .i64 (er_ l)) (fun _ => []) (fun _ => []) := by
  refine J_ Tryz.func184 rfl rfl Tryz.ntmps184 rfl fun v0 => ?_
  refine h_ (d_ (a_ (i_ rfl) rfl (e_ (c_ rfl (h_ (d_ (a_ (g_ rfl) rfl (aa_ (kF_ l ad cap hl) rfl F_ (fun v _ h => by exact ⟨h.1, trivial⟩) rfl fun _ => ?_))))))))
  refine a_ (i_ rfl) rfl (e_ (c_ rfl (D_ ?_)))
  exact aA_ Tryz.results184 () rfl F_ (fun _ _ _ => trivial)
theorem mr_ (i j : Int × Int) : Fn0 Tryz.prog 143 #[ivV i, ivV j] (.bool (lS_ i j)) := by
  refine J_ Tryz.func143 rfl rfl Tryz.ntmps143 rfl fun v0 => ?_
  refine h_ (d_ (bd_ rfl rfl fun b1 => ?_))
  refine bd_ rfl rfl fun b2 => ?_
  refine a_ (i_ rfl) rfl (e_ (c_ rfl (h_ (d_ (a_ (X_ 1 oB_ ec_ rfl rfl rfl) rfl (a_ (X_ 0 oB_ ec_ rfl rfl rfl) rfl (aY_ Tryz.runUnderlying223 ec_ Tryz.zeroValue175 rfl rfl rfl rfl rfl rfl fun b3 => ?_)))))))
  refine da_ (List.flatMap ivC [i, j]) f_ rfl ?_
  refine aa_ (ob_ [i, j] (some ⟨b3, 0, none⟩) 2 (by simp)) rfl F_ (fun v _ h => by exact ⟨h.1, trivial⟩) rfl fun _ => ?_
  refine x_ (bk_ rfl rfl) rfl fun r1 hr1 => ?_
  refine a_ (g_ rfl) rfl ?_
  cases r1
  · skip
    replace hr1 := ne_of_beq_false hr1
    refine y_ rfl rfl rfl rfl (y_ rfl rfl rfl rfl (y_ rfl rfl rfl rfl (y_ rfl rfl rfl rfl (y_ rfl rfl rfl rfl (a_ (M_ rfl rfl) rfl (a_ (g_ rfl) rfl (y_ rfl rfl rfl rfl (y_ rfl rfl rfl rfl (y_ rfl rfl rfl rfl ?_)))))))))
    refine y_ rfl rfl rfl rfl (y_ rfl rfl rfl rfl (a_ (M_ rfl rfl) rfl (a_ (i_ rfl) rfl (e_ (c_ rfl (D_ ?_))))))
    exact aA_ Tryz.results143 () (I_ rfl (by unfold lS_; simp_all <;> omega)) F_ (fun _ _ _ => trivial)
  · skip
    replace hr1 := eq_of_beq hr1
    refine r_ rfl rfl (a_ (m_ bx_ rfl rfl rfl T_) rfl (r_ rfl rfl (a_ (t_ 0 O_ rfl rfl rfl) rfl (r_ rfl rfl (a_ (m_ bx_ rfl rfl rfl T_) rfl (r_ rfl rfl (a_ (t_ 1 O_ rfl rfl rfl) rfl (r_ rfl rfl (x_ (cS_ rfl rfl) rfl fun r2 hr2 => ?_)))))))))
    refine a_ (W_ rfl rfl) rfl (a_ (g_ rfl) rfl ?_)
    cases r2
    · skip
      replace hr2 := of_decide_eq_false hr2
      refine y_ rfl rfl rfl rfl (y_ rfl rfl rfl rfl (y_ rfl rfl rfl rfl (y_ rfl rfl rfl rfl (y_ rfl rfl rfl rfl (a_ (M_ rfl rfl) rfl (a_ (i_ rfl) rfl (e_ (c_ rfl (D_ ?_)))))))))
      exact aA_ Tryz.results143 () (I_ rfl (by unfold lS_; simp_all <;> omega)) F_ (fun _ _ _ => trivial)
    · skip
      replace hr2 := of_decide_eq_true hr2
      refine r_ rfl rfl (a_ (m_ bx_ rfl rfl rfl T_) rfl (r_ rfl rfl (a_ (t_ 1 O_ rfl rfl rfl) rfl (r_ rfl rfl (a_ (m_ bx_ rfl rfl rfl T_) rfl (r_ rfl rfl (a_ (t_ 0 O_ rfl rfl rfl) rfl (r_ rfl rfl (x_ (cS_ rfl rfl) rfl fun r3 hr3 => ?_)))))))))
      refine a_ (W_ rfl rfl) rfl (a_ (i_ rfl) rfl (e_ (c_ rfl (D_ ?_))))
      exact aA_ Tryz.results143 () (I_ rfl (by unfold lS_; simp_all <;> omega)) F_ (fun _ _ _ => trivial)
theorem ko_ (a b c d : Int) (ha : -1099511627776 ≤ a ∧ a ≤ b ∧ b ≤ 1099511627776) (hb : -1099511627776 ≤ c ∧ c ≤ d ∧ d ≤ 1099511627776) : Fn0 Tryz.prog 143 #[ivV (a, b), ivV (c, d)] (.bool (decide (c ≤ a ∧ b ≤ d))) := by
  have := mr_ (a, b) (c, d)
  rw [oa_ ha hb] at this
  exact this
theorem fI_ {α : Type} {p : α → Bool} {l : List α} {i : Nat} {x : α} (h : l[i]? = some x) : List.filter p (List.take (i + 1) l) = List.filter p (List.take i l) ++ (if p x then [x] else []) := by
  rw [List.take_add_one, h, Option.toList_some, List.filter_append]
  congr 1
  simp [List.filter_cons]
theorem out_c (B : EngB) (E : Emt Tryz.prog 41) (A : EngA) (pm : List (Ky × Pc)) (x : Ix) (f : Fc) (nw fm : List Fc) (Hs : Hp) (hS : E.St nw fm Hs) (hpl : ∀ k, (lat pm k).length ≤ 1000000000) (hxl : ∀ k, (lat x.above k).length ≤ 1000000000 ∧ (lat x.under k).length ≤ 1000000000) (hyl : ∀ k, (lat x.frm k).length ≤ 1000000000 ∧ (lat x.into k).length ≤ 1000000000 ∧ (lat x.ranges k).length ≤ 1000000000 ∧ (lat x.firms k).length ≤ 1000000000) (hf : -1099511627776 ≤ f.lo ∧ f.lo ≤ f.hi ∧ f.hi ≤ 1099511627776) (hq : ∀ y ∈ lat pm (Ky.mk 9 (Fc.r f) []), -1099511627776 ≤ y.lo ∧ y.lo ≤ y.hi ∧ y.hi ≤ 1099511627776) : Tri Tryz.prog 111 #[zp_ B.g 0, Fc.val f] Hs [gF B E, pF B pm A, aF B x A, uF B x A, oF B x A, iF B x A, rF B x A, sF B x A, E.ef] (fun _ : {H' : Hp // E.St (emits E.stp (lN_ pm f) nw) fm H'} => .tuple #[]) (fun y => y.1) (fun _ => []) := by
 refine J_ Tryz.func111 rfl rfl Tryz.ntmps111 rfl fun v0 => ?_
 refine h_ (d_ (bd_ rfl rfl fun b1 => ?_))
 refine e_ (c_ rfl (h_ ?_))
 refine az_ (by kernel_rfl) ?_
 refine ag_ 0 [0, 1, 2, 3, 4, 5, 6, 7, 8, 9] (by kernel_rfl) (fun _ a b => ⟨a, b⟩) (l_ rfl (g_ rfl) rfl (l_ rfl (ab_ rfl) rfl (l_ rfl (m_ w_ rfl rfl rfl cz_) rfl (l_ rfl (U_ dk_ rfl (fun v _ h => by exact h.1) rfl) rfl (l_ rfl (m_ n_ rfl rfl rfl o_) rfl (l_ rfl (t_ 0 u_ rfl rfl rfl) rfl (l_ rfl (aj_ dx_ rfl rfl) rfl (l_ rfl (bI_ (k := (Ky.mk 9 (Fc.r f) [])) (adr := A.p) fa_ bB_ bR_ rfl rfl (fun v _ h => by exact h.2.1)) rfl (l_ rfl (ae_ E_ rfl) rfl ?_)))))))))
 refine l_ rfl (g_ rfl) rfl (af_ (Y_ (by kernel_rfl) (c_ rfl (K_ ?_))))
 refine ax_ (ι := {y : Nat × Hp // y.1 ≤ List.length (lat pm (Ky.mk 9 (Fc.r f) [])) ∧ E.St (emits E.stp (List.map (fun y => aq_ (Fc.a f) (Pc.c y)) (List.filter (fun y => decide (Pc.lo y ≤ Fc.lo f ∧ Fc.hi f ≤ Pc.hi y)) (List.take y.1 (lat pm (Ky.mk 9 (Fc.r f) []))))) nw) fm y.2}) (fun y => [(0, zp_ B.g 0), (3, zp_ b1 0), (13, .slice (Prod.fst (A.p (Ky.mk 9 (Fc.r f) []))) (List.length (lat pm (Ky.mk 9 (Fc.r f) []))) (Prod.snd (A.p (Ky.mk 9 (Fc.r f) [])))), (14, .int .i64 (List.length (lat pm (Ky.mk 9 (Fc.r f) [])) : Int)), (15, .int .i64 (y.1.1 : Int))]) (fun y => ((b1, .cells (Fc.cells f).toArray 41 (0, 0)) :: y.1.2)) (fun y => [gF B E, pF B pm A, aF B x A, uF B x A, oF B x A, iF B x A, rF B x A, sF B x A, E.ef]) (fun y => List.length (lat pm (Ky.mk 9 (Fc.r f) [])) - y.1.1) ⟨((0 : Nat), Hs), by simp, by exact hS⟩ ⟨rfl, rfl, rfl, rfl, rfl, trivial⟩ (j_ f_ aO_) (fun _ _ h => h) ?_
 rintro ⟨⟨i, Hs_i⟩, hi_i, hS_i⟩
 dsimp only at hi_i hS_i ⊢
 have hb_i := hpl (Ky.mk 9 (Fc.r f) [])
 refine h_ (d_ (x_ (ar_ rfl rfl) rfl fun r1 hr1 => ?_))
 refine e_ (c_ rfl (h_ ?_))
 cases r1
 ·
  replace hr1 := of_decide_eq_false hr1
  refine s_ rfl (au_ rfl (aW_ rfl ?_))
  exact cw_ Tryz.results111 ⟨Hs_i, by unfold lN_; rw [List.take_of_length_le (by omega)] at hS_i; exact hS_i⟩ rfl S_ (fun _ _ _ => trivial)
 ·
  replace hr1 := of_decide_eq_true hr1
  have hlx1 : i < List.length (lat pm (Ky.mk 9 (Fc.r f) [])) := by omega
  obtain ⟨x1, hx1⟩ : ∃ e0, (lat pm (Ky.mk 9 (Fc.r f) []))[i]? = some e0 := ⟨_, List.getElem?_eq_getElem hlx1⟩
  have hmx1 : x1 ∈ (lat pm (Ky.mk 9 (Fc.r f) [])) := List.mem_of_getElem? hx1
  refine p_ rfl (B_ (c_ rfl (h_ (K_ (h_ (d_ (a_ (al_ E_ Q_ rfl rfl (fun v _ h => aG_ (n := 10) Pc.cells_len (by decide) (by exact (bl_ h.2.1 (Ky.mk 9 (Fc.r f) []))) hx1) (by omega) (by first | omega | (simp; done))) rfl (a_ (aK_ (ad := (Prod.fst (A.p (Ky.mk 9 (Fc.r f) [])))) (us := Pc.cells x1) bc_ Q_ rfl (fun v _ h => by exact (bl_ h.2.1 (Ky.mk 9 (Fc.r f) []))) (Pc.cells_len _) (ao_ Pc.cells_len hx1)) rfl (ah_ aJ_ rfl fun b2 => ?_)))))))))
  refine R_ 0 Q_ rfl rfl rfl rfl rfl rfl (e_ (c_ rfl (h_ (d_ (a_ (m_ n_ rfl rfl rfl T_) rfl (a_ (t_ 1 O_ rfl rfl rfl) rfl (a_ (m_ n_ rfl rfl rfl T_) rfl (a_ (t_ 1 O_ rfl rfl rfl) rfl (a_ (aj_ kW_ rfl rfl) rfl ?_)))))))))
  refine a_ (m_ z_ rfl rfl rfl T_) rfl (a_ (t_ 0 O_ rfl rfl rfl) rfl (a_ (m_ z_ rfl rfl rfl T_) rfl (a_ (t_ 0 O_ rfl rfl rfl) rfl (a_ (aj_ kW_ rfl rfl) rfl (aI_ (ko_ (Fc.lo f) (Fc.hi f) (Pc.lo x1) (Pc.hi x1) hf (hq x1 hmx1)) rfl F_ (fun _ _ _ => by exact trivial) rfl fun r2 hr2 => ?_)))))
  refine e_ (c_ rfl ?_)
  cases r2
  ·
   replace hr2 := of_decide_eq_false hr2
   refine s_ rfl (B_ (c_ rfl (d_ (a_ (P_ rfl rfl rfl (an_ (by omega) (by omega))) rfl (a_ (g_ rfl) rfl (e_ (v_ rfl ?_)))))))
   exact ai_ ⟨(i + 1, Hs_i), hlx1, (by rw [fI_ hx1]; first | (rw [if_pos (decide_eq_true (by assumption)), List.map_append, aw_]; exact hS_i) | (rw [if_neg (by rw [decide_eq_false (by assumption)]; decide), List.append_nil]; exact hS_i))⟩ (by dsimp only; omega) ⟨rfl, rfl, rfl, rfl, rfl, trivial⟩ (j_ (b_ f_) S_) (fun _ _ h => h)
  ·
   replace hr2 := of_decide_eq_true hr2
   refine p_ rfl ?_
   refine aB_ ((b2, .cells (Pc.cells x1).toArray 47 (0, 0)) :: ((b1, .cells (Fc.cells f).toArray 41 (0, 0)) :: [])) (by kernel_rfl) ?_
   refine ag_ 2 [0, 1, 2, 3, 4, 5, 6, 7] (by kernel_rfl) (fun _ a b => ⟨Vw.sat.sub (a.perm (j_ f_ f_)), b⟩) (l_ rfl (g_ rfl) rfl (l_ rfl (ab_ rfl) rfl (l_ rfl (m_ w_ rfl rfl rfl aC_) rfl (l_ rfl (U_ bh_ rfl (fun v _ h => by exact h.1) rfl) rfl (l_ rfl (m_ n_ rfl rfl rfl o_) rfl (l_ rfl (t_ 1 u_ rfl rfl rfl) rfl (l_ rfl (m_ z_ rfl rfl rfl o_) rfl (l_ rfl (t_ 0 u_ rfl rfl rfl) rfl (af_ ?_)))))))))
   refine N_ 8 rfl (by kernel_rfl) (aa_ (eg_ (Fc.a f) (Pc.c x1)) rfl F_ (fun _ _ _ => by exact trivial) rfl fun _ => ?_)
   refine e_ (v_ rfl (C_ (fun _ a b => ⟨Vw.sat.sub (a.perm (j_ f_ f_)), b⟩) (N_ 9 rfl (by kernel_rfl) (aH_ (first := []) (cap := E.caps) (E.emit (aq_ (Fc.a f) (Pc.c x1)) (emits E.stp (List.map (fun y => aq_ (Fc.a f) (Pc.c y)) (List.filter (fun y => decide (Pc.lo y ≤ Fc.lo f ∧ Fc.hi f ≤ Pc.hi y)) (List.take i (lat pm (Ky.mk 9 (Fc.r f) []))))) nw) fm Hs_i hS_i) rfl rfl (b_ S_) (fun v _ h => by exact ⟨h.2.2.2.2.2.2.2.2.1, trivial⟩) rfl fun ⟨Hs1, hS1⟩ => ?_))))
   dsimp only
   refine e_ (v_ rfl (C_ (fun _ a b => ⟨Vw.sat.sub (a.perm (j_ (k_ f_) aR_)), b⟩) (Y_ (by kernel_rfl) (c_ rfl (d_ (a_ (P_ rfl rfl rfl (an_ (by omega) (by omega))) rfl (a_ (g_ rfl) rfl (e_ (v_ rfl ?_)))))))))
   exact ai_ ⟨(i + 1, Hs1), hlx1, (by rw [fI_ hx1]; first | (rw [if_pos (decide_eq_true (by assumption)), List.map_append, aw_]; exact hS1) | (rw [if_neg (by rw [decide_eq_false (by assumption)]; decide), List.append_nil]; exact hS1))⟩ (by dsimp only; omega) ⟨rfl, rfl, rfl, rfl, rfl, trivial⟩ (j_ (k_ (b_ f_)) q_) (fun _ _ h => h)
theorem db_ {f : Fc} {l : List Fc} {i : Nat} {x : Fc} (h : l[i]? = some x) : ei_ f (List.take (i + 1) l) = ei_ f (List.take i l) ++ (if (!cc_ f x && decide (cL_ f x ≠ f ∧ cL_ f x ≠ x)) = true then [cL_ f x] else []) := by
  unfold ei_
  rw [fI_ h, List.map_append]
  congr 1
  split <;> simp
theorem dK_ {α : Type} {p : α → Bool} {l : List α} {i : Nat} {x : α} (h : l[i]? = some x) : List.any (List.take (i + 1) l) p = (List.any (List.take i l) p || p x) := by
  rw [List.take_add_one, h, Option.toList_some, List.any_append]; simp
theorem meet_c (B : EngB) (E : Emt Tryz.prog 41) (A : EngA) (pm : List (Ky × Pc)) (x : Ix) (f : Fc) (nw fm : List Fc) (Hs : Hp) (hS : E.St nw fm Hs) (hpl : ∀ k, (lat pm k).length ≤ 1000000000) (hxl : ∀ k, (lat x.above k).length ≤ 1000000000 ∧ (lat x.under k).length ≤ 1000000000) (hyl : ∀ k, (lat x.frm k).length ≤ 1000000000 ∧ (lat x.into k).length ≤ 1000000000 ∧ (lat x.ranges k).length ≤ 1000000000 ∧ (lat x.firms k).length ≤ 1000000000) : Tri Tryz.prog 110 #[zp_ B.g 0, Fc.val f] Hs [gF B E, pF B pm A, aF B x A, uF B x A, oF B x A, iF B x A, rF B x A, sF B x A, E.ef] (fun _ : {H' : Hp // E.St (emits E.stp (ei_ f (ds_ x f (decide (f ∈ fm))) ++ eZ_ f (ds_ x f (decide (f ∈ fm)))) nw) fm H'} => .tuple #[]) (fun y => y.1) (fun _ => []) := by
 refine J_ Tryz.func110 rfl rfl Tryz.ntmps110 rfl fun v0 => ?_
 refine h_ (d_ (bd_ rfl rfl fun b1 => ?_))
 refine e_ (c_ rfl (h_ (d_ (a_ (m_ n_ rfl rfl rfl o_) rfl (a_ (t_ 0 u_ rfl rfl rfl) rfl (a_ (m_ n_ rfl rfl rfl o_) rfl (a_ (t_ 0 u_ rfl rfl rfl) rfl (a_ (aj_ dS_ rfl rfl) rfl (ah_ bW_ rfl fun b2 => ?_)))))))))
 refine R_ 0 aX_ rfl rfl rfl rfl rfl rfl (e_ (c_ rfl (h_ ?_)))
 refine az_ (by kernel_rfl) ?_
 refine ag_ 0 [0, 1, 2, 3, 4, 5, 6] (by kernel_rfl) (fun _ a b => ⟨a, b⟩) (l_ rfl (g_ rfl) rfl (l_ rfl (ab_ rfl) rfl (l_ rfl (m_ w_ rfl rfl rfl oz_) rfl (l_ rfl (U_ Tryz.isAgg92 rfl (fun v _ h => by exact h.1) rfl) rfl (l_ rfl (X_ 0 cC_ aX_ rfl rfl rfl) rfl (l_ rfl (bI_ (k := ((Fc.a f), (Fc.r f))) (adr := A.s) ch_ mF_ jm_ rfl rfl (fun v _ h => by exact h.2.2.2.2.2.2.2.1)) rfl (l_ rfl (i_ rfl) rfl (af_ (Y_ (by kernel_rfl) ?_)))))))))
 refine c_ rfl (h_ (h_ ?_))
 refine az_ (by kernel_rfl) ?_
 refine ag_ 0 [0, 1, 2, 3, 4, 5] (by kernel_rfl) (fun _ a b => ⟨a, b⟩) (l_ rfl (g_ rfl) rfl (l_ rfl (ab_ rfl) rfl (l_ rfl (m_ w_ rfl rfl rfl bw_) rfl (l_ rfl (U_ bJ_ rfl (fun v _ h => by exact h.1) rfl) rfl (l_ rfl (X_ 1 ac_ G_ rfl rfl rfl) rfl ?_)))))
 refine cq_ rfl (jo_ (f := f) hS fk_ aN_ cM_ rfl rfl (b_ S_)) rfl fun r1 hr1 => ?_
 refine af_ (Y_ (by kernel_rfl) (c_ rfl ?_))
 cases r1
 ·
  replace hr1 := of_decide_eq_false hr1
  refine s_ rfl (B_ (c_ rfl (h_ (d_ (a_ (i_ rfl) rfl (e_ (c_ rfl (h_ (h_ ?_)))))))))
  refine d_ (a_ (g_ rfl) rfl (a_ (ae_ L_ rfl) rfl (a_ (g_ rfl) rfl (e_ (c_ rfl (K_ ?_))))))
  refine ax_ (ι := {y : Nat × Hp × Bool // y.1 ≤ List.length (lat x.firms ((Fc.a f), (Fc.r f))) ∧ E.St (emits E.stp (ei_ f (List.take y.1 (lat x.firms ((Fc.a f), (Fc.r f))))) nw) fm y.2.1 ∧ y.2.2 = List.any (List.take y.1 (lat x.firms ((Fc.a f), (Fc.r f)))) (cc_ f)}) (fun y => [(0, zp_ B.g 0), (3, zp_ b1 0), (6, .bool y.1.2.2), (35, .slice (Prod.fst (A.s ((Fc.a f), (Fc.r f)))) (List.length (lat x.firms ((Fc.a f), (Fc.r f)))) (Prod.snd (A.s ((Fc.a f), (Fc.r f))))), (36, .int .i64 (List.length (lat x.firms ((Fc.a f), (Fc.r f))) : Int)), (37, .int .i64 (y.1.1 : Int))]) (fun y => ((b1, .cells (Fc.cells f).toArray 41 (0, 0)) :: y.1.2.1)) (fun y => [gF B E, pF B pm A, aF B x A, uF B x A, oF B x A, iF B x A, rF B x A, sF B x A, E.ef]) (fun y => List.length (lat x.firms ((Fc.a f), (Fc.r f))) - y.1.1) ⟨((0 : Nat), Hs, false), by simp, by exact hS, by simp⟩ ⟨rfl, rfl, rfl, rfl, rfl, rfl, trivial⟩ (j_ (b_ f_) S_) (fun _ _ h => h) ?_
  rintro ⟨⟨i, Hs_i, e⟩, hi_i, hS_i, he⟩
  dsimp only at hi_i hS_i he ⊢
  have hb_i := (hyl ((Fc.a f), (Fc.r f))).2.2.2
  refine h_ (d_ (x_ (ar_ rfl rfl) rfl fun r2 hr2 => ?_))
  refine e_ (c_ rfl (h_ ?_))
  cases r2
  ·
   replace hr2 := of_decide_eq_false hr2
   refine s_ rfl (au_ rfl (c_ rfl (h_ (d_ (a_ (g_ rfl) rfl (e_ (c_ rfl ?_)))))))
   cases e
   ·
    refine s_ rfl (B_ (aW_ rfl ?_))
    exact cw_ Tryz.results110 ⟨Hs_i, by have hL : (ds_ x f (decide (f ∈ fm))) = (lat x.firms ((Fc.a f), (Fc.r f))) := (by unfold ds_; rw [decide_eq_false (by assumption)] <;> rfl); rw [hL, aw_]; have e9 : List.take i (lat x.firms ((Fc.a f), (Fc.r f))) = (lat x.firms ((Fc.a f), (Fc.r f))) := List.take_of_length_le (by omega); rw [e9] at he hS_i; unfold eZ_; rw [if_neg (by rw [← he]; decide)]; exact hS_i⟩ rfl S_ (fun _ _ _ => trivial)
   ·
    refine p_ rfl ?_
    refine aB_ ((b1, .cells (Fc.cells f).toArray 41 (0, 0)) :: []) (by kernel_rfl) ?_
    refine ag_ 2 [0, 1, 2, 3, 4, 5] (by kernel_rfl) (fun _ a b => ⟨Vw.sat.sub (a.perm f_), b⟩) (l_ rfl (g_ rfl) rfl (l_ rfl (ab_ rfl) rfl (l_ rfl (m_ w_ rfl rfl rfl aC_) rfl (l_ rfl (U_ bh_ rfl (fun v _ h => by exact h.1) rfl) rfl (l_ rfl (m_ n_ rfl rfl rfl o_) rfl (l_ rfl (t_ 0 u_ rfl rfl rfl) rfl (af_ (N_ 6 rfl (by kernel_rfl) (aa_ (eg_ (Fc.a f) [33]) rfl F_ (fun _ _ _ => by exact trivial) rfl fun _ => ?_)))))))))
    refine e_ (v_ rfl (C_ (fun _ a b => ⟨Vw.sat.sub (a.perm f_), b⟩) (N_ 7 rfl (by kernel_rfl) (aH_ (first := []) (cap := E.caps) (E.emit (aq_ (Fc.a f) [33]) (emits E.stp (ei_ f (List.take i (lat x.firms ((Fc.a f), (Fc.r f))))) nw) fm Hs_i hS_i) rfl rfl S_ (fun v _ h => by exact ⟨h.2.2.2.2.2.2.2.2.1, trivial⟩) rfl fun ⟨Hs1, hS1⟩ => ?_))))
    dsimp only
    refine e_ (v_ rfl (C_ (fun _ a b => ⟨Vw.sat.sub (a.perm aR_), b⟩) (Y_ (by kernel_rfl) (aW_ rfl ?_))))
    exact cw_ Tryz.results110 ⟨Hs1, by have hL : (ds_ x f (decide (f ∈ fm))) = (lat x.firms ((Fc.a f), (Fc.r f))) := (by unfold ds_; rw [decide_eq_false (by assumption)] <;> rfl); rw [hL, aw_]; have e9 : List.take i (lat x.firms ((Fc.a f), (Fc.r f))) = (lat x.firms ((Fc.a f), (Fc.r f))) := List.take_of_length_le (by omega); rw [e9] at he hS1; unfold eZ_; rw [if_pos he.symm]; exact hS1⟩ rfl q_ (fun _ _ _ => trivial)
  ·
   replace hr2 := of_decide_eq_true hr2
   have hlx1 : i < List.length (lat x.firms ((Fc.a f), (Fc.r f))) := by omega
   obtain ⟨x1, hx1⟩ : ∃ e0, (lat x.firms ((Fc.a f), (Fc.r f)))[i]? = some e0 := ⟨_, List.getElem?_eq_getElem hlx1⟩
   have hmx1 : x1 ∈ (lat x.firms ((Fc.a f), (Fc.r f))) := List.mem_of_getElem? hx1
   refine p_ rfl (B_ (c_ rfl (h_ (K_ (h_ (d_ (a_ (al_ L_ G_ rfl rfl (fun v _ h => aG_ (n := 6) Fc.cells_len (by decide) (by exact (bl_ h.2.2.2.2.2.2.2.1 ((Fc.a f), (Fc.r f)))) hx1) (by omega) (by first | omega | (simp; done))) rfl (a_ (aK_ (ad := (Prod.fst (A.s ((Fc.a f), (Fc.r f))))) (us := Fc.cells x1) ac_ G_ rfl (fun v _ h => by exact (bl_ h.2.2.2.2.2.2.2.1 ((Fc.a f), (Fc.r f)))) (Fc.cells_len _) (ao_ Fc.cells_len hx1)) rfl (ah_ bb_ rfl fun b3 => ?_)))))))))
   refine R_ 0 G_ rfl rfl rfl rfl rfl rfl (e_ (c_ rfl (h_ ?_)))
   refine az_ (by kernel_rfl) ?_
   refine ag_ 0 [0, 1, 2, 3, 4, 5, 6, 7, 8, 9, 10, 11] (by kernel_rfl) (fun _ a b => ⟨a, b⟩) (l_ rfl (m_ n_ rfl rfl rfl T_) rfl (l_ rfl (t_ 1 O_ rfl rfl rfl) rfl (l_ rfl (m_ n_ rfl rfl rfl T_) rfl (l_ rfl (t_ 0 O_ rfl rfl rfl) rfl (l_ rfl (hh_ rfl rfl) rfl (l_ rfl (m_ n_ rfl rfl rfl T_) rfl (l_ rfl (t_ 1 O_ rfl rfl rfl) rfl (l_ rfl (m_ n_ rfl rfl rfl T_) rfl (l_ rfl (t_ 0 O_ rfl rfl rfl) rfl ?_)))))))))
   refine l_ rfl (gb_ rfl rfl) rfl (l_ rfl (i_ rfl) rfl (l_ rfl (i_ rfl) rfl (af_ (Y_ (by kernel_rfl) (c_ rfl (h_ (d_ (a_ (g_ rfl) rfl (a_ (g_ rfl) rfl ?_)))))))))
   refine x_ (bL_ rfl rfl) rfl fun r3 hr3 => ?_
   refine e_ (c_ rfl ?_)
   cases r3
   ·
    replace hr3 := of_decide_eq_false hr3
    refine s_ rfl (h_ (d_ (a_ (m_ n_ rfl rfl rfl o_) rfl (a_ (t_ 1 u_ rfl rfl rfl) rfl (a_ (m_ n_ rfl rfl rfl o_) rfl (a_ (t_ 1 u_ rfl rfl rfl) rfl (a_ (g_ rfl) rfl (a_ (g_ rfl) rfl (aa_ (ks_ (Fc.a f) (Fc.r f) (max (Fc.lo f) (Fc.lo x1)) (min (Fc.hi f) (Fc.hi x1))) rfl F_ (fun _ _ _ => by exact trivial) rfl fun _ => ?_)))))))))
    refine ah_ bb_ rfl fun b4 => ?_
    refine R_ 0 G_ rfl rfl rfl rfl rfl rfl (e_ (c_ rfl (h_ (d_ (a_ (X_ 0 ac_ G_ rfl rfl rfl) rfl (a_ (X_ 2 ac_ G_ rfl rfl rfl) rfl (x_ (dU_ (p := (at_ (Fc.a f) (Fc.r f) (max (Fc.lo f) (Fc.lo x1)) (min (Fc.hi f) (Fc.hi x1)))) (q := f) rfl rfl) rfl fun r4 hr4 => ?_)))))))
    refine a_ (g_ rfl) rfl ?_
    cases r4
    ·
     replace hr4 := of_decide_eq_false hr4
     refine y_ rfl rfl rfl rfl (y_ rfl rfl rfl rfl (y_ rfl rfl rfl rfl (a_ (M_ rfl rfl) rfl (e_ (c_ rfl (s_ rfl (B_ (c_ rfl (d_ ?_)))))))))
     refine a_ (P_ rfl rfl rfl (an_ (by omega) (by omega))) rfl (a_ (g_ rfl) rfl (e_ (v_ rfl ?_)))
     exact ai_ ⟨(i + 1, Hs_i, e), hlx1, (by rw [db_ hx1]; first | (rw [if_pos (by rw [Bool.and_eq_true]; exact ⟨by simp only [cc_]; rw [decide_eq_false (by omega)]; rfl, decide_eq_true ⟨by assumption, by assumption⟩⟩), aw_]; exact hS_i) | (rw [if_neg (by rw [Bool.and_eq_true]; intro q; first | exact absurd (of_decide_eq_true q.2).1 (by assumption) | exact absurd (of_decide_eq_true q.2).2 (by assumption) | (have q1 := q.1; simp only [cc_] at q1; rw [decide_eq_true (by omega)] at q1; cases q1)), List.append_nil]; exact hS_i)), by rw [dK_ hx1, ← he]; simp only [cc_]; rw [decide_eq_false (by omega)]; simp⟩ (by dsimp only; omega) ⟨rfl, rfl, rfl, rfl, rfl, rfl, trivial⟩ (j_ (b_ (b_ f_)) (b_ S_)) (fun _ _ h => h)
    ·
     replace hr4 := of_decide_eq_true hr4
     refine r_ rfl rfl (a_ (X_ 0 ac_ G_ rfl rfl rfl) rfl (r_ rfl rfl (a_ (X_ 1 ac_ G_ rfl rfl rfl) rfl (r_ rfl rfl (x_ (dU_ (p := (at_ (Fc.a f) (Fc.r f) (max (Fc.lo f) (Fc.lo x1)) (min (Fc.hi f) (Fc.hi x1)))) (q := x1) rfl rfl) rfl fun r5 hr5 => ?_)))))
     refine a_ (W_ rfl rfl) rfl (e_ (c_ rfl ?_))
     cases r5
     ·
      replace hr5 := of_decide_eq_false hr5
      refine s_ rfl (B_ (c_ rfl (d_ (a_ (P_ rfl rfl rfl (an_ (by omega) (by omega))) rfl (a_ (g_ rfl) rfl (e_ (v_ rfl ?_)))))))
      exact ai_ ⟨(i + 1, Hs_i, e), hlx1, (by rw [db_ hx1]; first | (rw [if_pos (by rw [Bool.and_eq_true]; exact ⟨by simp only [cc_]; rw [decide_eq_false (by omega)]; rfl, decide_eq_true ⟨by assumption, by assumption⟩⟩), aw_]; exact hS_i) | (rw [if_neg (by rw [Bool.and_eq_true]; intro q; first | exact absurd (of_decide_eq_true q.2).1 (by assumption) | exact absurd (of_decide_eq_true q.2).2 (by assumption) | (have q1 := q.1; simp only [cc_] at q1; rw [decide_eq_true (by omega)] at q1; cases q1)), List.append_nil]; exact hS_i)), by rw [dK_ hx1, ← he]; simp only [cc_]; rw [decide_eq_false (by omega)]; simp⟩ (by dsimp only; omega) ⟨rfl, rfl, rfl, rfl, rfl, rfl, trivial⟩ (j_ (b_ (b_ f_)) (b_ S_)) (fun _ _ h => h)
     ·
      replace hr5 := of_decide_eq_true hr5
      refine p_ rfl ?_
      refine aB_ ((b4, .cells #[.int .i64 (Fc.kind (at_ (Fc.a f) (Fc.r f) (max (Fc.lo f) (Fc.lo x1)) (min (Fc.hi f) (Fc.hi x1)))), str (Fc.a (at_ (Fc.a f) (Fc.r f) (max (Fc.lo f) (Fc.lo x1)) (min (Fc.hi f) (Fc.hi x1)))), str (Fc.b (at_ (Fc.a f) (Fc.r f) (max (Fc.lo f) (Fc.lo x1)) (min (Fc.hi f) (Fc.hi x1)))), str (Fc.r (at_ (Fc.a f) (Fc.r f) (max (Fc.lo f) (Fc.lo x1)) (min (Fc.hi f) (Fc.hi x1)))), .int .i64 (Fc.lo (at_ (Fc.a f) (Fc.r f) (max (Fc.lo f) (Fc.lo x1)) (min (Fc.hi f) (Fc.hi x1)))), .int .i64 (Fc.hi (at_ (Fc.a f) (Fc.r f) (max (Fc.lo f) (Fc.lo x1)) (min (Fc.hi f) (Fc.hi x1))))] 41 (0, 0)) :: ((b3, .cells (Fc.cells x1).toArray 41 (0, 0)) :: ((b1, .cells (Fc.cells f).toArray 41 (0, 0)) :: []))) (by kernel_rfl) ?_
      refine ag_ 1 [0, 1, 2, 3, 4] (by kernel_rfl) (fun _ a b => ⟨Vw.sat.sub (a.perm (j_ f_ (j_ f_ f_))), b⟩) (l_ rfl (g_ rfl) rfl (l_ rfl (ab_ rfl) rfl (l_ rfl (m_ w_ rfl rfl rfl aC_) rfl (l_ rfl (U_ bh_ rfl (fun v _ h => by exact h.1) rfl) rfl (l_ rfl (X_ 0 ac_ G_ rfl rfl rfl) rfl (af_ (N_ 5 rfl (by kernel_rfl) (aH_ (first := []) (cap := E.caps) (E.emit (at_ (Fc.a f) (Fc.r f) (max (Fc.lo f) (Fc.lo x1)) (min (Fc.hi f) (Fc.hi x1))) (emits E.stp (ei_ f (List.take i (lat x.firms ((Fc.a f), (Fc.r f))))) nw) fm Hs_i hS_i) rfl rfl (b_ (b_ S_)) (fun v _ h => by exact ⟨h.2.2.2.2.2.2.2.2.1, trivial⟩) rfl fun ⟨Hs2, hS2⟩ => ?_))))))))
      dsimp only
      refine e_ (v_ rfl (C_ (fun _ a b => ⟨Vw.sat.sub (a.perm (j_ (k_ f_) (j_ (k_ f_) aR_))), b⟩) (Y_ (by kernel_rfl) (c_ rfl (d_ (a_ (P_ rfl rfl rfl (an_ (by omega) (by omega))) rfl (a_ (g_ rfl) rfl (e_ (v_ rfl ?_)))))))))
      exact ai_ ⟨(i + 1, Hs2, e), hlx1, (by rw [db_ hx1]; first | (rw [if_pos (by rw [Bool.and_eq_true]; exact ⟨by simp only [cc_]; rw [decide_eq_false (by omega)]; rfl, decide_eq_true ⟨by assumption, by assumption⟩⟩), aw_]; exact hS2) | (rw [if_neg (by rw [Bool.and_eq_true]; intro q; first | exact absurd (of_decide_eq_true q.2).1 (by assumption) | exact absurd (of_decide_eq_true q.2).2 (by assumption) | (have q1 := q.1; simp only [cc_] at q1; rw [decide_eq_true (by omega)] at q1; cases q1)), List.append_nil]; exact hS2)), by rw [dK_ hx1, ← he]; simp only [cc_]; rw [decide_eq_false (by omega)]; simp⟩ (by dsimp only; omega) ⟨rfl, rfl, rfl, rfl, rfl, rfl, trivial⟩ (j_ (k_ (b_ (b_ f_))) q_) (fun _ _ h => h)
   ·
    replace hr3 := of_decide_eq_true hr3
    refine p_ rfl (d_ (a_ (i_ rfl) rfl (e_ (c_ rfl (d_ (a_ (P_ rfl rfl rfl (an_ (by omega) (by omega))) rfl (a_ (g_ rfl) rfl (e_ (v_ rfl ?_)))))))))
    exact ai_ ⟨(i + 1, Hs_i, true), hlx1, (by rw [db_ hx1]; first | (rw [if_pos (by rw [Bool.and_eq_true]; exact ⟨by simp only [cc_]; rw [decide_eq_false (by omega)]; rfl, decide_eq_true ⟨by assumption, by assumption⟩⟩), aw_]; exact hS_i) | (rw [if_neg (by rw [Bool.and_eq_true]; intro q; first | exact absurd (of_decide_eq_true q.2).1 (by assumption) | exact absurd (of_decide_eq_true q.2).2 (by assumption) | (have q1 := q.1; simp only [cc_] at q1; rw [decide_eq_true (by omega)] at q1; cases q1)), List.append_nil]; exact hS_i)), by rw [dK_ hx1, ← he]; simp only [cc_]; rw [decide_eq_true (by omega)]; simp⟩ (by dsimp only; omega) ⟨rfl, rfl, rfl, rfl, rfl, rfl, trivial⟩ (j_ (b_ f_) S_) (fun _ _ h => h)
 ·
  replace hr1 := of_decide_eq_true hr1
  refine p_ rfl ?_
  refine az_ (by kernel_rfl) ?_
  refine ag_ 0 [0, 1, 2, 3, 4, 5, 6] (by kernel_rfl) (fun _ a b => ⟨a, b⟩) (l_ rfl (g_ rfl) rfl (l_ rfl (ab_ rfl) rfl (l_ rfl (m_ w_ rfl rfl rfl oz_) rfl (l_ rfl (U_ Tryz.isAgg92 rfl (fun v _ h => by exact h.1) rfl) rfl (l_ rfl (X_ 0 cC_ aX_ rfl rfl rfl) rfl (l_ rfl (bI_ (k := ((Fc.a f), (Fc.r f))) (adr := A.r) ch_ mF_ jm_ rfl rfl (fun v _ h => by exact h.2.2.2.2.2.2.1)) rfl (l_ rfl (i_ rfl) rfl (af_ (Y_ (by kernel_rfl) ?_)))))))))
  refine c_ rfl (h_ (d_ (a_ (i_ rfl) rfl (e_ (c_ rfl (h_ (h_ (d_ (a_ (g_ rfl) rfl ?_)))))))))
  refine a_ (ae_ L_ rfl) rfl (a_ (g_ rfl) rfl (e_ (c_ rfl (K_ ?_))))
  refine ax_ (ι := {y : Nat × Hp × Bool // y.1 ≤ List.length (lat x.ranges ((Fc.a f), (Fc.r f))) ∧ E.St (emits E.stp (ei_ f (List.take y.1 (lat x.ranges ((Fc.a f), (Fc.r f))))) nw) fm y.2.1 ∧ y.2.2 = List.any (List.take y.1 (lat x.ranges ((Fc.a f), (Fc.r f)))) (cc_ f)}) (fun y => [(0, zp_ B.g 0), (3, zp_ b1 0), (6, .bool y.1.2.2), (35, .slice (Prod.fst (A.r ((Fc.a f), (Fc.r f)))) (List.length (lat x.ranges ((Fc.a f), (Fc.r f)))) (Prod.snd (A.r ((Fc.a f), (Fc.r f))))), (36, .int .i64 (List.length (lat x.ranges ((Fc.a f), (Fc.r f))) : Int)), (37, .int .i64 (y.1.1 : Int))]) (fun y => ((b1, .cells (Fc.cells f).toArray 41 (0, 0)) :: y.1.2.1)) (fun y => [gF B E, pF B pm A, aF B x A, uF B x A, oF B x A, iF B x A, rF B x A, sF B x A, E.ef]) (fun y => List.length (lat x.ranges ((Fc.a f), (Fc.r f))) - y.1.1) ⟨((0 : Nat), Hs, false), by simp, by exact hS, by simp⟩ ⟨rfl, rfl, rfl, rfl, rfl, rfl, trivial⟩ (j_ (b_ f_) S_) (fun _ _ h => h) ?_
  rintro ⟨⟨i, Hs_i, e⟩, hi_i, hS_i, he⟩
  dsimp only at hi_i hS_i he ⊢
  have hb_i := (hyl ((Fc.a f), (Fc.r f))).2.2.1
  refine h_ (d_ (x_ (ar_ rfl rfl) rfl fun r6 hr6 => ?_))
  refine e_ (c_ rfl (h_ ?_))
  cases r6
  ·
   replace hr6 := of_decide_eq_false hr6
   refine s_ rfl (au_ rfl (c_ rfl (h_ (d_ (a_ (g_ rfl) rfl (e_ (c_ rfl ?_)))))))
   cases e
   ·
    refine s_ rfl (B_ (aW_ rfl ?_))
    exact cw_ Tryz.results110 ⟨Hs_i, by have hL : (ds_ x f (decide (f ∈ fm))) = (lat x.ranges ((Fc.a f), (Fc.r f))) := (by unfold ds_; rw [decide_eq_true (by assumption)] <;> rfl); rw [hL, aw_]; have e9 : List.take i (lat x.ranges ((Fc.a f), (Fc.r f))) = (lat x.ranges ((Fc.a f), (Fc.r f))) := List.take_of_length_le (by omega); rw [e9] at he hS_i; unfold eZ_; rw [if_neg (by rw [← he]; decide)]; exact hS_i⟩ rfl S_ (fun _ _ _ => trivial)
   ·
    refine p_ rfl ?_
    refine aB_ ((b1, .cells (Fc.cells f).toArray 41 (0, 0)) :: []) (by kernel_rfl) ?_
    refine ag_ 2 [0, 1, 2, 3, 4, 5] (by kernel_rfl) (fun _ a b => ⟨Vw.sat.sub (a.perm f_), b⟩) (l_ rfl (g_ rfl) rfl (l_ rfl (ab_ rfl) rfl (l_ rfl (m_ w_ rfl rfl rfl aC_) rfl (l_ rfl (U_ bh_ rfl (fun v _ h => by exact h.1) rfl) rfl (l_ rfl (m_ n_ rfl rfl rfl o_) rfl (l_ rfl (t_ 0 u_ rfl rfl rfl) rfl (af_ (N_ 6 rfl (by kernel_rfl) (aa_ (eg_ (Fc.a f) [33]) rfl F_ (fun _ _ _ => by exact trivial) rfl fun _ => ?_)))))))))
    refine e_ (v_ rfl (C_ (fun _ a b => ⟨Vw.sat.sub (a.perm f_), b⟩) (N_ 7 rfl (by kernel_rfl) (aH_ (first := []) (cap := E.caps) (E.emit (aq_ (Fc.a f) [33]) (emits E.stp (ei_ f (List.take i (lat x.ranges ((Fc.a f), (Fc.r f))))) nw) fm Hs_i hS_i) rfl rfl S_ (fun v _ h => by exact ⟨h.2.2.2.2.2.2.2.2.1, trivial⟩) rfl fun ⟨Hs3, hS3⟩ => ?_))))
    dsimp only
    refine e_ (v_ rfl (C_ (fun _ a b => ⟨Vw.sat.sub (a.perm aR_), b⟩) (Y_ (by kernel_rfl) (aW_ rfl ?_))))
    exact cw_ Tryz.results110 ⟨Hs3, by have hL : (ds_ x f (decide (f ∈ fm))) = (lat x.ranges ((Fc.a f), (Fc.r f))) := (by unfold ds_; rw [decide_eq_true (by assumption)] <;> rfl); rw [hL, aw_]; have e9 : List.take i (lat x.ranges ((Fc.a f), (Fc.r f))) = (lat x.ranges ((Fc.a f), (Fc.r f))) := List.take_of_length_le (by omega); rw [e9] at he hS3; unfold eZ_; rw [if_pos he.symm]; exact hS3⟩ rfl q_ (fun _ _ _ => trivial)
  ·
   replace hr6 := of_decide_eq_true hr6
   have hlx1 : i < List.length (lat x.ranges ((Fc.a f), (Fc.r f))) := by omega
   obtain ⟨x1, hx1⟩ : ∃ e0, (lat x.ranges ((Fc.a f), (Fc.r f)))[i]? = some e0 := ⟨_, List.getElem?_eq_getElem hlx1⟩
   have hmx1 : x1 ∈ (lat x.ranges ((Fc.a f), (Fc.r f))) := List.mem_of_getElem? hx1
   refine p_ rfl (B_ (c_ rfl (h_ (K_ (h_ (d_ (a_ (al_ L_ G_ rfl rfl (fun v _ h => aG_ (n := 6) Fc.cells_len (by decide) (by exact (bl_ h.2.2.2.2.2.2.1 ((Fc.a f), (Fc.r f)))) hx1) (by omega) (by first | omega | (simp; done))) rfl (a_ (aK_ (ad := (Prod.fst (A.r ((Fc.a f), (Fc.r f))))) (us := Fc.cells x1) ac_ G_ rfl (fun v _ h => by exact (bl_ h.2.2.2.2.2.2.1 ((Fc.a f), (Fc.r f)))) (Fc.cells_len _) (ao_ Fc.cells_len hx1)) rfl (ah_ bb_ rfl fun b5 => ?_)))))))))
   refine R_ 0 G_ rfl rfl rfl rfl rfl rfl (e_ (c_ rfl (h_ ?_)))
   refine az_ (by kernel_rfl) ?_
   refine ag_ 0 [0, 1, 2, 3, 4, 5, 6, 7, 8, 9, 10, 11] (by kernel_rfl) (fun _ a b => ⟨a, b⟩) (l_ rfl (m_ n_ rfl rfl rfl T_) rfl (l_ rfl (t_ 1 O_ rfl rfl rfl) rfl (l_ rfl (m_ n_ rfl rfl rfl T_) rfl (l_ rfl (t_ 0 O_ rfl rfl rfl) rfl (l_ rfl (hh_ rfl rfl) rfl (l_ rfl (m_ n_ rfl rfl rfl T_) rfl (l_ rfl (t_ 1 O_ rfl rfl rfl) rfl (l_ rfl (m_ n_ rfl rfl rfl T_) rfl (l_ rfl (t_ 0 O_ rfl rfl rfl) rfl ?_)))))))))
   refine l_ rfl (gb_ rfl rfl) rfl (l_ rfl (i_ rfl) rfl (l_ rfl (i_ rfl) rfl (af_ (Y_ (by kernel_rfl) (c_ rfl (h_ (d_ (a_ (g_ rfl) rfl (a_ (g_ rfl) rfl ?_)))))))))
   refine x_ (bL_ rfl rfl) rfl fun r7 hr7 => ?_
   refine e_ (c_ rfl ?_)
   cases r7
   ·
    replace hr7 := of_decide_eq_false hr7
    refine s_ rfl (h_ (d_ (a_ (m_ n_ rfl rfl rfl o_) rfl (a_ (t_ 1 u_ rfl rfl rfl) rfl (a_ (m_ n_ rfl rfl rfl o_) rfl (a_ (t_ 1 u_ rfl rfl rfl) rfl (a_ (g_ rfl) rfl (a_ (g_ rfl) rfl (aa_ (ks_ (Fc.a f) (Fc.r f) (max (Fc.lo f) (Fc.lo x1)) (min (Fc.hi f) (Fc.hi x1))) rfl F_ (fun _ _ _ => by exact trivial) rfl fun _ => ?_)))))))))
    refine ah_ bb_ rfl fun b6 => ?_
    refine R_ 0 G_ rfl rfl rfl rfl rfl rfl (e_ (c_ rfl (h_ (d_ (a_ (X_ 0 ac_ G_ rfl rfl rfl) rfl (a_ (X_ 2 ac_ G_ rfl rfl rfl) rfl (x_ (dU_ (p := (at_ (Fc.a f) (Fc.r f) (max (Fc.lo f) (Fc.lo x1)) (min (Fc.hi f) (Fc.hi x1)))) (q := f) rfl rfl) rfl fun r8 hr8 => ?_)))))))
    refine a_ (g_ rfl) rfl ?_
    cases r8
    ·
     replace hr8 := of_decide_eq_false hr8
     refine y_ rfl rfl rfl rfl (y_ rfl rfl rfl rfl (y_ rfl rfl rfl rfl (a_ (M_ rfl rfl) rfl (e_ (c_ rfl (s_ rfl (B_ (c_ rfl (d_ ?_)))))))))
     refine a_ (P_ rfl rfl rfl (an_ (by omega) (by omega))) rfl (a_ (g_ rfl) rfl (e_ (v_ rfl ?_)))
     exact ai_ ⟨(i + 1, Hs_i, e), hlx1, (by rw [db_ hx1]; first | (rw [if_pos (by rw [Bool.and_eq_true]; exact ⟨by simp only [cc_]; rw [decide_eq_false (by omega)]; rfl, decide_eq_true ⟨by assumption, by assumption⟩⟩), aw_]; exact hS_i) | (rw [if_neg (by rw [Bool.and_eq_true]; intro q; first | exact absurd (of_decide_eq_true q.2).1 (by assumption) | exact absurd (of_decide_eq_true q.2).2 (by assumption) | (have q1 := q.1; simp only [cc_] at q1; rw [decide_eq_true (by omega)] at q1; cases q1)), List.append_nil]; exact hS_i)), by rw [dK_ hx1, ← he]; simp only [cc_]; rw [decide_eq_false (by omega)]; simp⟩ (by dsimp only; omega) ⟨rfl, rfl, rfl, rfl, rfl, rfl, trivial⟩ (j_ (b_ (b_ f_)) (b_ S_)) (fun _ _ h => h)
    ·
     replace hr8 := of_decide_eq_true hr8
     refine r_ rfl rfl (a_ (X_ 0 ac_ G_ rfl rfl rfl) rfl (r_ rfl rfl (a_ (X_ 1 ac_ G_ rfl rfl rfl) rfl (r_ rfl rfl (x_ (dU_ (p := (at_ (Fc.a f) (Fc.r f) (max (Fc.lo f) (Fc.lo x1)) (min (Fc.hi f) (Fc.hi x1)))) (q := x1) rfl rfl) rfl fun r9 hr9 => ?_)))))
     refine a_ (W_ rfl rfl) rfl (e_ (c_ rfl ?_))
     cases r9
     ·
      replace hr9 := of_decide_eq_false hr9
      refine s_ rfl (B_ (c_ rfl (d_ (a_ (P_ rfl rfl rfl (an_ (by omega) (by omega))) rfl (a_ (g_ rfl) rfl (e_ (v_ rfl ?_)))))))
      exact ai_ ⟨(i + 1, Hs_i, e), hlx1, (by rw [db_ hx1]; first | (rw [if_pos (by rw [Bool.and_eq_true]; exact ⟨by simp only [cc_]; rw [decide_eq_false (by omega)]; rfl, decide_eq_true ⟨by assumption, by assumption⟩⟩), aw_]; exact hS_i) | (rw [if_neg (by rw [Bool.and_eq_true]; intro q; first | exact absurd (of_decide_eq_true q.2).1 (by assumption) | exact absurd (of_decide_eq_true q.2).2 (by assumption) | (have q1 := q.1; simp only [cc_] at q1; rw [decide_eq_true (by omega)] at q1; cases q1)), List.append_nil]; exact hS_i)), by rw [dK_ hx1, ← he]; simp only [cc_]; rw [decide_eq_false (by omega)]; simp⟩ (by dsimp only; omega) ⟨rfl, rfl, rfl, rfl, rfl, rfl, trivial⟩ (j_ (b_ (b_ f_)) (b_ S_)) (fun _ _ h => h)
     ·
      replace hr9 := of_decide_eq_true hr9
      refine p_ rfl ?_
      refine aB_ ((b6, .cells #[.int .i64 (Fc.kind (at_ (Fc.a f) (Fc.r f) (max (Fc.lo f) (Fc.lo x1)) (min (Fc.hi f) (Fc.hi x1)))), str (Fc.a (at_ (Fc.a f) (Fc.r f) (max (Fc.lo f) (Fc.lo x1)) (min (Fc.hi f) (Fc.hi x1)))), str (Fc.b (at_ (Fc.a f) (Fc.r f) (max (Fc.lo f) (Fc.lo x1)) (min (Fc.hi f) (Fc.hi x1)))), str (Fc.r (at_ (Fc.a f) (Fc.r f) (max (Fc.lo f) (Fc.lo x1)) (min (Fc.hi f) (Fc.hi x1)))), .int .i64 (Fc.lo (at_ (Fc.a f) (Fc.r f) (max (Fc.lo f) (Fc.lo x1)) (min (Fc.hi f) (Fc.hi x1)))), .int .i64 (Fc.hi (at_ (Fc.a f) (Fc.r f) (max (Fc.lo f) (Fc.lo x1)) (min (Fc.hi f) (Fc.hi x1))))] 41 (0, 0)) :: ((b5, .cells (Fc.cells x1).toArray 41 (0, 0)) :: ((b1, .cells (Fc.cells f).toArray 41 (0, 0)) :: []))) (by kernel_rfl) ?_
      refine ag_ 1 [0, 1, 2, 3, 4] (by kernel_rfl) (fun _ a b => ⟨Vw.sat.sub (a.perm (j_ f_ (j_ f_ f_))), b⟩) (l_ rfl (g_ rfl) rfl (l_ rfl (ab_ rfl) rfl (l_ rfl (m_ w_ rfl rfl rfl aC_) rfl (l_ rfl (U_ bh_ rfl (fun v _ h => by exact h.1) rfl) rfl (l_ rfl (X_ 0 ac_ G_ rfl rfl rfl) rfl (af_ (N_ 5 rfl (by kernel_rfl) (aH_ (first := []) (cap := E.caps) (E.emit (at_ (Fc.a f) (Fc.r f) (max (Fc.lo f) (Fc.lo x1)) (min (Fc.hi f) (Fc.hi x1))) (emits E.stp (ei_ f (List.take i (lat x.ranges ((Fc.a f), (Fc.r f))))) nw) fm Hs_i hS_i) rfl rfl (b_ (b_ S_)) (fun v _ h => by exact ⟨h.2.2.2.2.2.2.2.2.1, trivial⟩) rfl fun ⟨Hs4, hS4⟩ => ?_))))))))
      dsimp only
      refine e_ (v_ rfl (C_ (fun _ a b => ⟨Vw.sat.sub (a.perm (j_ (k_ f_) (j_ (k_ f_) aR_))), b⟩) (Y_ (by kernel_rfl) (c_ rfl (d_ (a_ (P_ rfl rfl rfl (an_ (by omega) (by omega))) rfl (a_ (g_ rfl) rfl (e_ (v_ rfl ?_)))))))))
      exact ai_ ⟨(i + 1, Hs4, e), hlx1, (by rw [db_ hx1]; first | (rw [if_pos (by rw [Bool.and_eq_true]; exact ⟨by simp only [cc_]; rw [decide_eq_false (by omega)]; rfl, decide_eq_true ⟨by assumption, by assumption⟩⟩), aw_]; exact hS4) | (rw [if_neg (by rw [Bool.and_eq_true]; intro q; first | exact absurd (of_decide_eq_true q.2).1 (by assumption) | exact absurd (of_decide_eq_true q.2).2 (by assumption) | (have q1 := q.1; simp only [cc_] at q1; rw [decide_eq_true (by omega)] at q1; cases q1)), List.append_nil]; exact hS4)), by rw [dK_ hx1, ← he]; simp only [cc_]; rw [decide_eq_false (by omega)]; simp⟩ (by dsimp only; omega) ⟨rfl, rfl, rfl, rfl, rfl, rfl, trivial⟩ (j_ (k_ (b_ (b_ f_))) q_) (fun _ _ h => h)
   ·
    replace hr7 := of_decide_eq_true hr7
    refine p_ rfl (d_ (a_ (i_ rfl) rfl (e_ (c_ rfl (d_ (a_ (P_ rfl rfl rfl (an_ (by omega) (by omega))) rfl (a_ (g_ rfl) rfl (e_ (v_ rfl ?_)))))))))
    exact ai_ ⟨(i + 1, Hs_i, true), hlx1, (by rw [db_ hx1]; first | (rw [if_pos (by rw [Bool.and_eq_true]; exact ⟨by simp only [cc_]; rw [decide_eq_false (by omega)]; rfl, decide_eq_true ⟨by assumption, by assumption⟩⟩), aw_]; exact hS_i) | (rw [if_neg (by rw [Bool.and_eq_true]; intro q; first | exact absurd (of_decide_eq_true q.2).1 (by assumption) | exact absurd (of_decide_eq_true q.2).2 (by assumption) | (have q1 := q.1; simp only [cc_] at q1; rw [decide_eq_true (by omega)] at q1; cases q1)), List.append_nil]; exact hS_i)), by rw [dK_ hx1, ← he]; simp only [cc_]; rw [decide_eq_true (by omega)]; simp⟩ (by dsimp only; omega) ⟨rfl, rfl, rfl, rfl, rfl, rfl, trivial⟩ (j_ (b_ f_) S_) (fun _ _ h => h)
theorem op_ (B : EngB) (E : Emt Tryz.prog 41) (nw fm : List Fc) (Hs : Hp) (hS : E.St nw fm Hs) (al : List Str) (aad : Option Addr) (acap : Nat) (hal : al.length ≤ 1000000000) (hll : B.lps.length ≤ 1000000000) : Tri Tryz.prog 57 #[zp_ B.g 0, .slice aad (List.length al) acap] Hs [gF B E, ap_ B.lad (List.flatMap aL_ B.lps), ap_ aad (List.flatMap aL_ al), E.ef] (fun _ : {H' : Hp // E.St (emits E.stp (dG_ B.lps al) nw) fm H'} => .tuple #[]) (fun y => y.1) (fun _ => []) := by
 refine J_ Tryz.func57 rfl rfl Tryz.ntmps57 rfl fun v0 => ?_
 refine h_ (d_ (a_ (g_ rfl) rfl (a_ (ae_ H_ rfl) rfl (a_ (g_ rfl) rfl (e_ (c_ rfl (K_ ?_)))))))
 refine ax_ (ι := {y : Nat × Hp // y.1 ≤ List.length al ∧ E.St (emits E.stp (List.flatMap (fun a => aq_ a a :: aq_ a [42] :: List.map (fun r => av_ a r a) B.lps) (List.take y.1 al)) nw) fm y.2}) (fun y => [(0, zp_ B.g 0), (8, .slice aad (List.length al) acap), (9, .int .i64 (List.length al : Int)), (10, .int .i64 (y.1.1 : Int))]) (fun y => (y.1.2)) (fun y => [gF B E, ap_ B.lad (List.flatMap aL_ B.lps), ap_ aad (List.flatMap aL_ al), E.ef]) (fun y => List.length al - y.1.1) ⟨((0 : Nat), Hs), by simp, by exact hS⟩ ⟨rfl, rfl, rfl, rfl, trivial⟩ aO_ (fun _ _ h => h) ?_
 rintro ⟨⟨i, Hs_i⟩, hi_i, hS_i⟩
 dsimp only at hi_i hS_i ⊢
 have hb_i := hal
 refine h_ (d_ (x_ (ar_ rfl rfl) rfl fun r1 hr1 => ?_))
 refine e_ (c_ rfl (h_ ?_))
 cases r1
 ·
  replace hr1 := of_decide_eq_false hr1
  refine s_ rfl (au_ rfl (aW_ rfl ?_))
  exact cw_ Tryz.results57 ⟨Hs_i, by unfold dG_; rw [List.take_of_length_le (by omega)] at hS_i; exact hS_i⟩ rfl aO_ (fun _ _ _ => trivial)
 ·
  replace hr1 := of_decide_eq_true hr1
  have hlx1 : i < List.length al := by omega
  obtain ⟨x1, hx1⟩ : ∃ e0, al[i]? = some e0 := ⟨_, List.getElem?_eq_getElem hlx1⟩
  have hmx1 : x1 ∈ al := List.mem_of_getElem? hx1
  refine p_ rfl (B_ (c_ rfl (h_ (K_ (h_ (d_ (a_ (al_ H_ o_ rfl rfl (fun v _ h => aG_ (n := 1) ba_ (by decide) (by exact h.2.2.1) hx1) (by omega) (by first | omega | (simp; done))) rfl (a_ (bu_ (ad := aad) u_ rfl (fun v _ h => by exact h.2.2.1) (ao_ ba_ hx1 0 _ rfl)) rfl (a_ (i_ rfl) rfl ?_)))))))))
  refine e_ (c_ rfl (h_ ?_))
  refine aB_ ([]) (by kernel_rfl) ?_
  refine ag_ 2 [0, 1, 2, 3, 4, 5] (by kernel_rfl) (fun _ a b => ⟨dg_ a, b⟩) (l_ rfl (g_ rfl) rfl (l_ rfl (ab_ rfl) rfl (l_ rfl (m_ w_ rfl rfl rfl aC_) rfl (l_ rfl (U_ bh_ rfl (fun v _ h => by exact h.1) rfl) rfl (l_ rfl (g_ rfl) rfl (l_ rfl (g_ rfl) rfl (af_ (N_ 6 rfl (by kernel_rfl) (aa_ (eg_ x1 x1) rfl F_ (fun _ _ _ => by exact trivial) rfl fun _ => ?_)))))))))
  refine ay_ ld_ (e_ (v_ rfl (C_ (fun _ a b => ⟨dg_ a, b⟩) (N_ 7 rfl (by kernel_rfl) (aH_ (first := []) (cap := E.caps) (E.emit (aq_ x1 x1) (emits E.stp (List.flatMap (fun a => aq_ a a :: aq_ a [42] :: List.map (fun r => av_ a r a) B.lps) (List.take i al)) nw) fm Hs_i hS_i) rfl rfl aO_ (fun v _ h => by exact ⟨h.2.2.2.1, trivial⟩) rfl fun ⟨Hs1, hS1⟩ => ?_)))))
  dsimp only
  refine ay_ fA_ (e_ (v_ rfl (C_ (fun _ a b => ⟨dg_ a, b⟩) (Y_ (by kernel_rfl) (c_ rfl (h_ ?_))))))
  refine aB_ ([]) (by kernel_rfl) ?_
  refine ag_ 2 [0, 1, 2, 3, 4] (by kernel_rfl) (fun _ a b => ⟨dg_ a, b⟩) (l_ rfl (g_ rfl) rfl (l_ rfl (ab_ rfl) rfl (l_ rfl (m_ w_ rfl rfl rfl aC_) rfl (l_ rfl (U_ bh_ rfl (fun v _ h => by exact h.1) rfl) rfl (l_ rfl (g_ rfl) rfl (af_ (N_ 5 rfl (by kernel_rfl) (aa_ (eg_ x1 [42]) rfl F_ (fun _ _ _ => by exact trivial) rfl fun _ => ?_))))))))
  refine ay_ ld_ (e_ (v_ rfl (C_ (fun _ a b => ⟨dg_ a, b⟩) (N_ 6 rfl (by kernel_rfl) (aH_ (first := []) (cap := E.caps) (E.emit (aq_ x1 [42]) (E.stp (aq_ x1 x1) (emits E.stp (List.flatMap (fun a => aq_ a a :: aq_ a [42] :: List.map (fun r => av_ a r a) B.lps) (List.take i al)) nw)) fm Hs1 hS1) rfl rfl aO_ (fun v _ h => by exact ⟨h.2.2.2.1, trivial⟩) rfl fun ⟨Hs2, hS2⟩ => ?_)))))
  dsimp only
  refine ay_ fA_ (e_ (v_ rfl (C_ (fun _ a b => ⟨dg_ a, b⟩) (Y_ (by kernel_rfl) (c_ rfl (h_ (d_ (a_ (g_ rfl) rfl (a_ (ab_ rfl) rfl ?_)))))))))
  refine a_ (m_ w_ rfl rfl rfl cB_) rfl (a_ (U_ gV_ rfl (fun v _ h => by exact h.1) rfl) rfl (a_ (ae_ H_ rfl) rfl (a_ (g_ rfl) rfl (e_ (c_ rfl (K_ ?_))))))
  refine ax_ (ι := {y : Nat × Hp // y.1 ≤ List.length B.lps ∧ E.St (emits E.stp (List.map (fun r => av_ x1 r x1) (List.take y.1 B.lps)) (E.stp (aq_ x1 [42]) (E.stp (aq_ x1 x1) (emits E.stp (List.flatMap (fun a => aq_ a a :: aq_ a [42] :: List.map (fun r => av_ a r a) B.lps) (List.take i al)) nw)))) fm y.2}) (fun y => [(0, zp_ B.g 0), (8, .slice aad (List.length al) acap), (9, .int .i64 (List.length al : Int)), (10, .int .i64 (i : Int)), (5, str x1), (32, .slice B.lad (List.length B.lps) B.lcap), (33, .int .i64 (List.length B.lps : Int)), (34, .int .i64 (y.1.1 : Int))]) (fun y => (y.1.2)) (fun y => [gF B E, ap_ B.lad (List.flatMap aL_ B.lps), ap_ aad (List.flatMap aL_ al), E.ef]) (fun y => List.length B.lps - y.1.1) ⟨((0 : Nat), Hs2), by simp, by exact hS2⟩ ⟨rfl, rfl, rfl, rfl, rfl, rfl, rfl, rfl, trivial⟩ aO_ (fun _ _ h => h) ?_
  rintro ⟨⟨j, Hs_j⟩, hi_j, hS_j⟩
  dsimp only at hi_j hS_j ⊢
  have hb_j := hll
  refine h_ (d_ (x_ (ar_ rfl rfl) rfl fun r2 hr2 => ?_))
  refine e_ (c_ rfl (h_ ?_))
  cases r2
  ·
   replace hr2 := of_decide_eq_false hr2
   refine s_ rfl (au_ rfl (c_ rfl (d_ (a_ (P_ rfl rfl rfl (an_ (by omega) (by omega))) rfl (a_ (g_ rfl) rfl (e_ (v_ rfl ?_)))))))
   exact ai_ ⟨(i + 1, Hs_j), hlx1, (by rw [eE_ hx1, aw_]; have e9 : List.take j B.lps = B.lps := List.take_of_length_le (by omega); rw [e9] at hS_j; exact hS_j)⟩ (by dsimp only; omega) ⟨rfl, rfl, rfl, rfl, trivial⟩ aO_ (fun _ _ h => h)
  ·
   replace hr2 := of_decide_eq_true hr2
   have hlx2 : j < List.length B.lps := by omega
   obtain ⟨x2, hx2⟩ : ∃ e0, B.lps[j]? = some e0 := ⟨_, List.getElem?_eq_getElem hlx2⟩
   have hmx2 : x2 ∈ B.lps := List.mem_of_getElem? hx2
   refine p_ rfl (B_ (c_ rfl (h_ (K_ (h_ (d_ (a_ (al_ H_ o_ rfl rfl (fun v _ h => aG_ (n := 1) ba_ (by decide) (by exact h.2.1) hx2) (by omega) (by first | omega | (simp; done))) rfl (a_ (bu_ (ad := B.lad) u_ rfl (fun v _ h => by exact h.2.1) (ao_ ba_ hx2 0 _ rfl)) rfl (a_ (i_ rfl) rfl ?_)))))))))
   refine e_ (c_ rfl ?_)
   refine aB_ ([]) (by kernel_rfl) ?_
   refine ag_ 2 [0, 1, 2, 3, 4, 5, 6] (by kernel_rfl) (fun _ a b => ⟨dg_ a, b⟩) (l_ rfl (g_ rfl) rfl (l_ rfl (ab_ rfl) rfl (l_ rfl (m_ w_ rfl rfl rfl aC_) rfl (l_ rfl (U_ bh_ rfl (fun v _ h => by exact h.1) rfl) rfl (l_ rfl (g_ rfl) rfl (l_ rfl (g_ rfl) rfl (l_ rfl (g_ rfl) rfl (af_ (N_ 7 rfl (by kernel_rfl) ?_)))))))))
   refine aa_ (hF_ x1 x2 x1) rfl F_ (fun _ _ _ => by exact trivial) rfl fun _ => ?_
   refine ay_ ld_ (e_ (v_ rfl (C_ (fun _ a b => ⟨dg_ a, b⟩) (N_ 8 rfl (by kernel_rfl) (aH_ (first := []) (cap := E.caps) (E.emit (av_ x1 x2 x1) (emits E.stp (List.map (fun r => av_ x1 r x1) (List.take j B.lps)) (E.stp (aq_ x1 [42]) (E.stp (aq_ x1 x1) (emits E.stp (List.flatMap (fun a => aq_ a a :: aq_ a [42] :: List.map (fun r => av_ a r a) B.lps) (List.take i al)) nw)))) fm Hs_j hS_j) rfl rfl aO_ (fun v _ h => by exact ⟨h.2.2.2.1, trivial⟩) rfl fun ⟨Hs3, hS3⟩ => ?_)))))
   dsimp only
   refine ay_ fA_ (e_ (v_ rfl (C_ (fun _ a b => ⟨dg_ a, b⟩) (Y_ (by kernel_rfl) (c_ rfl (d_ (a_ (P_ rfl rfl rfl (an_ (by omega) (by omega))) rfl (a_ (g_ rfl) rfl (e_ ?_)))))))))
   refine v_ rfl ?_
   exact ai_ ⟨(j + 1, Hs3), hlx2, (by rw [dC_ hx2, aw_]; exact hS3)⟩ (by dsimp only; omega) ⟨rfl, rfl, rfl, rfl, rfl, rfl, rfl, rfl, trivial⟩ aO_ (fun _ _ h => h)
end Go.Proofs.YtpdbbglpbngeiaaGreatDoor
namespace Go.Proofs.YtpdbbglpbngeiaaGreatDoor
open Go Go.Sx Go.Proofs
attribute [local irreducible] Code.wp wpList wpAnyH
open Go.Vs
theorem oc_ (B : EngB) (E : Emt Tryz.prog 41) (x : Ix) (f : Fc) (nw fm : List Fc) (Hs : Hp) (hS : E.St nw fm Hs) (Ha Hu Ho Hi Hr Hm : Hp) (hI : IxO 9 41 B x ⟨Ha, Hu, Ho, Hi, Hr, Hm⟩) (hxl : ∀ k, (lat x.above k).length ≤ 1000000000 ∧ (lat x.under k).length ≤ 1000000000) (hyl : ∀ k, (lat x.frm k).length ≤ 1000000000 ∧ (lat x.into k).length ≤ 1000000000 ∧ (lat x.ranges k).length ≤ 1000000000 ∧ (lat x.firms k).length ≤ 1000000000) : Tri Tryz.prog 59 #[zp_ B.g 0, Fc.val f] (Ha ++ (Hu ++ (Ho ++ (Hi ++ (Hr ++ (Hm ++ Hs)))))) [gF B E] (fun _ : {y : IxH // IxO 9 41 B (x.add (decide (f ∈ fm)) f) y} => .tuple #[]) (fun y => y.1.a ++ (y.1.u ++ (y.1.o ++ (y.1.i ++ (y.1.r ++ (y.1.s ++ Hs)))))) (fun _ => []) := by
 refine J_ Tryz.func59 rfl rfl Tryz.ntmps59 rfl fun v0 => ?_
 obtain ⟨ha, hu, ho, hi, hr, hm⟩ := hI
 dsimp only at ha hu ho hi hr hm
 refine h_ (d_ (bd_ rfl rfl fun b1 => ?_))
 refine e_ (c_ rfl (h_ (d_ (a_ (m_ n_ rfl rfl rfl T_) rfl (a_ (t_ 0 O_ rfl rfl rfl) rfl (e_ (c_ rfl (K_ (h_ ?_)))))))))
 refine d_ (x_ (bk_ rfl rfl) rfl fun r1 hr1 => ?_)
 refine a_ (i_ rfl) rfl (e_ (c_ rfl ?_))
 cases r1
 ·
  replace hr1 := ne_of_beq_false hr1
  refine s_ rfl (h_ (d_ (x_ (bk_ rfl rfl) rfl fun r2 hr2 => ?_)))
  refine a_ (i_ rfl) rfl (e_ (c_ rfl ?_))
  cases r2
  ·
   replace hr2 := ne_of_beq_false hr2
   refine s_ rfl (h_ (d_ (x_ (bk_ rfl rfl) rfl fun r3 hr3 => ?_)))
   refine a_ (i_ rfl) rfl (e_ (c_ rfl ?_))
   cases r3
   ·
    replace hr3 := ne_of_beq_false hr3
    refine s_ rfl (B_ (aW_ rfl ?_))
    exact cw_ dA_ ⟨IxH.mk Ha Hu Ho Hi Hr Hm, by unfold Ix.add; rw [if_neg (by assumption), if_neg (by assumption), if_neg (by assumption)]; exact ⟨ha, hu, ho, hi, hr, hm⟩⟩ rfl (A_ (b_ q_) (A_ (b_ q_) (A_ (b_ q_) (A_ (b_ q_) (A_ (b_ q_) (A_ (b_ q_) S_)))))) (fun _ _ _ => trivial)
   ·
    replace hr3 := eq_of_beq hr3
    refine p_ rfl (h_ (d_ (a_ (m_ n_ rfl rfl rfl o_) rfl (a_ (t_ 0 u_ rfl rfl rfl) rfl (a_ (m_ n_ rfl rfl rfl o_) rfl (a_ (t_ 0 u_ rfl rfl rfl) rfl (a_ (aj_ dS_ rfl rfl) rfl (ah_ bW_ rfl fun b2 => ?_))))))))
    refine R_ 0 aX_ rfl rfl rfl rfl rfl rfl (e_ (c_ rfl (h_ ?_)))
    refine aB_ ((b2, .cells #[str (Fc.a f), str (Fc.r f)] 145 (0, 0)) :: ((b1, .cells (Fc.cells f).toArray 41 (0, 0)) :: [])) (by kernel_rfl) ?_
    refine ag_ 6 [0, 1, 2, 3, 4, 5] (by kernel_rfl) (fun _ a b => ⟨Vw.sat.sub (a.perm (j_ f_ f_)), b⟩) (l_ rfl (g_ rfl) rfl (l_ rfl (ab_ rfl) rfl (l_ rfl (m_ w_ rfl rfl rfl oz_) rfl (l_ rfl (U_ Tryz.isAgg92 rfl (fun v _ h => by exact h.1) rfl) rfl (l_ rfl (X_ 0 cC_ aX_ rfl rfl rfl) rfl (l_ rfl (X_ 1 ac_ G_ rfl rfl rfl) rfl (af_ (N_ 6 rfl (by kernel_rfl) (aY_ L_ G_ bb_ rfl rfl rfl rfl rfl rfl fun b3 => ?_)))))))))
    refine e_ (v_ rfl (C_ (fun _ a b => ⟨Vw.sat.sub (a.perm (j_ (b_ f_) (b_ f_))), b⟩) (N_ 7 rfl (by kernel_rfl) ?_)))
    have hbb1 := (hyl ((Fc.a f), (Fc.r f))).2.2.1
    refine cJ_ (k := ((Fc.a f), (Fc.r f))) ch_ hr mF_ jm_ rfl rfl (b_ (b_ (b_ (k_ (k_ (k_ (k_ q_))))))) rfl fun es1 ce1 ie1 se1 ve1 Hk1 Hx1 ho1 hw1 => ?_
    refine e_ (v_ rfl (C_ (fun _ a b => ⟨Vw.sat.sub (a.perm (j_ (b_ (k_ (k_ (b_ f_)))) (b_ (k_ (k_ (b_ f_)))))), b⟩) (ag_ 2 [8, 10] (by kernel_rfl) (fun _ a b => ⟨Vw.sat.sub (a.perm (j_ (b_ (k_ (k_ (b_ f_)))) (b_ (k_ (k_ (b_ f_)))))), b⟩) (l_ rfl (V_ rfl rfl) rfl (l_ rfl (V_ rfl rfl) rfl (af_ (N_ 9 rfl (by kernel_rfl) (aU_ (news := List.flatMap Fc.cells [f]) jb_ hw1 rfl rfl (b_ q_) rfl (cH_ (b_ (k_ (k_ f_)))) (fun u hu => bg_ Fc.cells_one hu) (by simp only [maxLen]; omega) (by omega) rfl fun sv1 Hr1 hr1 => ?_))))))))
    have hq1 : aS_ 41 6 sv1 (List.length ((lat x.ranges ((Fc.a f), (Fc.r f))) ++ [f])) (List.flatMap Fc.cells ((lat x.ranges ((Fc.a f), (Fc.r f))) ++ [f])) Hr1 := by rw [List.length_append, List.flatMap_append]; exact hr1
    refine e_ (v_ rfl (C_ (fun _ a b => ⟨Vw.sat.sub (a.perm (j_ (k_ (b_ (k_ (b_ f_)))) (k_ (b_ (k_ (b_ f_)))))), b⟩) (N_ 11 rfl (by kernel_rfl) (bz_ (k := ((Fc.a f), (Fc.r f))) (dd := f) ho1 (by rw [co_]; exact hq1) rfl rfl rfl (cm_ (j_ (k_ f_) (A_ q_ q_))) fun H2 hM2 => ?_))))
    refine e_ (v_ rfl (C_ (fun _ a b => ⟨Vw.sat.sub (a.perm (j_ (k_ (b_ f_)) (k_ (b_ f_)))), b⟩) (Y_ (by kernel_rfl) (c_ rfl (ay_ (aV_ (k_ f_) (aV_ (k_ f_) (cG_ (k_ f_)))) (h_ ?_))))))
    refine az_ (by kernel_rfl) ?_
    refine ag_ 0 [0, 1, 2, 3, 4, 5] (by kernel_rfl) (fun _ a b => ⟨a, b⟩) (l_ rfl (g_ rfl) rfl (l_ rfl (ab_ rfl) rfl (l_ rfl (m_ w_ rfl rfl rfl bw_) rfl (l_ rfl (U_ bJ_ rfl (fun v _ h => by exact h.1) rfl) rfl (l_ rfl (X_ 2 ac_ G_ rfl rfl rfl) rfl ?_)))))
    refine cq_ rfl (jo_ (f := f) hS fk_ aN_ cM_ rfl rfl (b_ (b_ (b_ (k_ (k_ (k_ (k_ (k_ aR_))))))))) rfl fun r4 hr4 => ?_
    refine af_ (Y_ (by kernel_rfl) (c_ rfl ?_))
    cases r4
    ·
     replace hr4 := of_decide_eq_false hr4
     refine s_ rfl (B_ (aW_ rfl ?_))
     exact cw_ dA_ ⟨IxH.mk Ha Hu Ho Hi H2 Hm, by have e0 : x.add (decide (f ∈ fm)) f = { x with ranges := (x.ranges ++ [(((Fc.a f), (Fc.r f)), f)]) } := (by unfold Ix.add; rw [if_neg (by omega), if_neg (by omega), if_pos (by assumption), decide_eq_false (by assumption)]; rfl); rw [e0]; exact ⟨ha, hu, ho, hi, hM2, hm⟩⟩ rfl (A_ (b_ (b_ (b_ (k_ q_)))) (A_ (b_ (b_ (b_ (k_ q_)))) (A_ (b_ (b_ (b_ (k_ q_)))) (A_ (b_ (b_ (b_ (k_ q_)))) (A_ (b_ (b_ (b_ q_))) (A_ (b_ (b_ (b_ q_))) (b_ (b_ S_)))))))) (fun _ _ _ => trivial)
    ·
     replace hr4 := of_decide_eq_true hr4
     refine p_ rfl ?_
     refine aB_ ((b3, .cells (Fc.cells f).toArray 41 (0, 0)) :: ((b2, .cells #[str (Fc.a f), str (Fc.r f)] 145 (0, 0)) :: ((b1, .cells (Fc.cells f).toArray 41 (0, 0)) :: []))) (by kernel_rfl) ?_
     refine ag_ 6 [0, 1, 2, 3, 4, 5] (by kernel_rfl) (fun _ a b => ⟨Vw.sat.sub (a.perm (j_ f_ (j_ f_ f_))), b⟩) (l_ rfl (g_ rfl) rfl (l_ rfl (ab_ rfl) rfl (l_ rfl (m_ w_ rfl rfl rfl oz_) rfl (l_ rfl (U_ Tryz.isAgg92 rfl (fun v _ h => by exact h.1) rfl) rfl (l_ rfl (X_ 1 cC_ aX_ rfl rfl rfl) rfl (l_ rfl (X_ 2 ac_ G_ rfl rfl rfl) rfl (af_ (N_ 6 rfl (by kernel_rfl) (aY_ L_ G_ bb_ rfl rfl rfl rfl rfl rfl fun b4 => ?_)))))))))
     refine e_ (v_ rfl (C_ (fun _ a b => ⟨Vw.sat.sub (a.perm (j_ (b_ f_) (j_ (b_ f_) (b_ f_)))), b⟩) (N_ 7 rfl (by kernel_rfl) ?_)))
     have hbb3 := (hyl ((Fc.a f), (Fc.r f))).2.2.2
     refine cJ_ (k := ((Fc.a f), (Fc.r f))) ch_ hm mF_ jm_ rfl rfl (b_ (b_ (b_ (b_ (k_ (k_ (k_ (k_ (k_ q_))))))))) rfl fun es3 ce3 ie3 se3 ve3 Hk3 Hx3 ho3 hw3 => ?_
     refine e_ (v_ rfl (C_ (fun _ a b => ⟨Vw.sat.sub (a.perm (j_ (b_ (k_ (k_ (b_ f_)))) (j_ (b_ (k_ (k_ (b_ f_)))) (b_ (k_ (k_ (b_ f_))))))), b⟩) (ag_ 2 [8, 10] (by kernel_rfl) (fun _ a b => ⟨Vw.sat.sub (a.perm (j_ (b_ (k_ (k_ (b_ f_)))) (j_ (b_ (k_ (k_ (b_ f_)))) (b_ (k_ (k_ (b_ f_))))))), b⟩) (l_ rfl (V_ rfl rfl) rfl (l_ rfl (V_ rfl rfl) rfl (af_ (N_ 9 rfl (by kernel_rfl) (aU_ (news := List.flatMap Fc.cells [f]) jb_ hw3 rfl rfl (b_ q_) rfl (cH_ (b_ (k_ (k_ f_)))) (fun u hu => bg_ Fc.cells_one hu) (by simp only [maxLen]; omega) (by omega) rfl fun sv2 Hr2 hr2 => ?_))))))))
     have hq2 : aS_ 41 6 sv2 (List.length ((lat x.firms ((Fc.a f), (Fc.r f))) ++ [f])) (List.flatMap Fc.cells ((lat x.firms ((Fc.a f), (Fc.r f))) ++ [f])) Hr2 := by rw [List.length_append, List.flatMap_append]; exact hr2
     refine e_ (v_ rfl (C_ (fun _ a b => ⟨Vw.sat.sub (a.perm (j_ (k_ (b_ (k_ (b_ f_)))) (j_ (k_ (b_ (k_ (b_ f_)))) (k_ (b_ (k_ (b_ f_))))))), b⟩) (N_ 11 rfl (by kernel_rfl) (bz_ (k := ((Fc.a f), (Fc.r f))) (dd := f) ho3 (by rw [co_]; exact hq2) rfl rfl rfl (cm_ (j_ (k_ f_) (A_ q_ q_))) fun H4 hM4 => ?_))))
     refine e_ (v_ rfl (C_ (fun _ a b => ⟨Vw.sat.sub (a.perm (j_ (k_ (b_ f_)) (j_ (k_ (b_ f_)) (k_ (b_ f_))))), b⟩) (Y_ (by kernel_rfl) (aW_ rfl ?_))))
     exact cw_ dA_ ⟨IxH.mk Ha Hu Ho Hi H2 H4, by have e0 : x.add (decide (f ∈ fm)) f = { x with ranges := (x.ranges ++ [(((Fc.a f), (Fc.r f)), f)]), firms := (x.firms ++ [(((Fc.a f), (Fc.r f)), f)]) } := (by unfold Ix.add; rw [if_neg (by omega), if_neg (by omega), if_pos (by assumption), decide_eq_true (by assumption)]; rfl); rw [e0]; exact ⟨ha, hu, ho, hi, hM2, hM4⟩⟩ rfl (A_ (k_ (b_ (b_ (b_ (b_ (k_ q_)))))) (A_ (k_ (b_ (b_ (b_ (b_ (k_ q_)))))) (A_ (k_ (b_ (b_ (b_ (b_ (k_ q_)))))) (A_ (k_ (b_ (b_ (b_ (b_ (k_ q_)))))) (A_ (k_ (b_ (b_ (b_ (b_ q_))))) (A_ q_ (b_ (b_ (b_ S_))))))))) (fun _ _ _ => trivial)
  ·
   replace hr2 := eq_of_beq hr2
   refine p_ rfl ?_
   have hbb5 := (hxl (Fc.b f)).2
   refine le_ go_ (Fc.b f) hu (b_ (k_ q_)) fun es5 ce5 ve5 Hk5 Hx5 hw5 ho5 => ?_
   refine ay_ (aV_ f_ (cG_ (k_ (k_ f_)))) (h_ ?_)
   refine aB_ ((b1, .cells (Fc.cells f).toArray 41 (0, 0)) :: []) (by kernel_rfl) ?_
   refine ag_ 4 [0, 1, 2, 3, 4, 5, 6, 7, 8, 9, 10, 11, 13, 14] (by kernel_rfl) (fun _ a b => ⟨Vw.sat.sub (a.perm (b_ f_)), b⟩) (l_ rfl (g_ rfl) rfl (l_ rfl (ab_ rfl) rfl (l_ rfl (m_ w_ rfl rfl rfl ga_) rfl (l_ rfl (U_ kG_ rfl (fun v _ h => by exact h.1) rfl) rfl (l_ rfl (m_ n_ rfl rfl rfl o_) rfl (l_ rfl (t_ 0 u_ rfl rfl rfl) rfl (l_ rfl (g_ rfl) rfl (l_ rfl (ab_ rfl) rfl (l_ rfl (m_ w_ rfl rfl rfl ga_) rfl ?_)))))))))
   refine l_ rfl (U_ kG_ rfl (fun v _ h => by exact h.1) rfl) rfl (l_ rfl (m_ n_ rfl rfl rfl o_) rfl (l_ rfl (t_ 0 u_ rfl rfl rfl) rfl (l_ rfl (m_ n_ rfl rfl rfl o_) rfl (l_ rfl (t_ 0 u_ rfl rfl rfl) rfl (af_ ?_)))))
   refine eo_ 12 15 rfl rfl (by kernel_rfl) ?_ ?_
   ·
    refine a_ (ft_ (k := (Fc.b f)) go_ ho5 bN_ bf_ rfl rfl 0 rfl) rfl (e_ (v_ rfl (C_ (fun _ a b => ⟨Vw.sat.sub (a.perm (b_ f_)), b⟩) (N_ 15 rfl (by kernel_rfl) (aY_ H_ o_ bn_ rfl rfl rfl rfl rfl rfl fun b5 => ?_)))))
    refine e_ (v_ rfl (C_ (fun _ a b => ⟨Vw.sat.sub (a.perm (b_ (b_ f_))), b⟩) (N_ 16 rfl (by kernel_rfl) (aU_ (news := List.flatMap aL_ [(Fc.a f)]) cE_ hw5 rfl rfl (b_ (b_ (b_ q_))) rfl (cn_ 0 rfl) (fun u hu => bg_ ce_ hu) (by simp only [maxLen]; omega) (by omega) rfl fun sv3 Hr3 hr3 => ?_))))
    have hq3 : aS_ 9 1 sv3 (List.length ((lat x.under (Fc.b f)) ++ [(Fc.a f)])) (List.flatMap aL_ ((lat x.under (Fc.b f)) ++ [(Fc.a f)])) Hr3 := by rw [List.length_append, List.flatMap_append]; exact hr3
    refine e_ (v_ rfl (C_ (fun _ a b => ⟨Vw.sat.sub (a.perm (k_ (b_ (b_ f_)))), b⟩) (N_ 17 rfl (by kernel_rfl) (eT_ (k := (Fc.b f)) (dd := (Fc.a f)) go_ ho5 (by rw [co_]; exact hq3) (.inr rfl) bN_ rfl rfl rfl (cm_ (j_ (k_ (b_ f_)) (A_ q_ (b_ (b_ q_))))) fun H6 hM6 => ?_))))
    refine e_ (v_ rfl (C_ (fun _ a b => ⟨Vw.sat.sub (a.perm (k_ (b_ f_))), b⟩) (Y_ (by kernel_rfl) (c_ rfl (ay_ (aV_ (k_ f_) (cG_ (k_ f_))) (h_ ?_))))))
    refine az_ (by kernel_rfl) ?_
    refine ag_ 4 [0, 1, 2, 3, 4, 5, 6, 7, 8, 9] (by kernel_rfl) (fun _ a b => ⟨a, b⟩) (l_ rfl (m_ n_ rfl rfl rfl o_) rfl (l_ rfl (t_ 1 u_ rfl rfl rfl) rfl (l_ rfl (m_ n_ rfl rfl rfl o_) rfl (l_ rfl (t_ 1 u_ rfl rfl rfl) rfl (l_ rfl (aj_ dS_ rfl rfl) rfl (l_ rfl (m_ n_ rfl rfl rfl o_) rfl (l_ rfl (t_ 1 u_ rfl rfl rfl) rfl (l_ rfl (m_ n_ rfl rfl rfl o_) rfl (l_ rfl (t_ 1 u_ rfl rfl rfl) rfl ?_)))))))))
    refine l_ rfl (aj_ dS_ rfl rfl) rfl (af_ ?_)
    refine eo_ 10 11 rfl rfl (by kernel_rfl) ?_ ?_
    ·
     refine ah_ bW_ rfl fun b6 => ?_
     refine e_ (v_ rfl (C_ (fun _ a b => ⟨a.tail, b⟩) (N_ 11 rfl (by kernel_rfl) (ah_ bW_ rfl fun b7 => ?_))))
     refine e_ (v_ rfl (C_ (fun _ a b => ⟨a.tail.tail, b⟩) (N_ 12 rfl (by kernel_rfl) (R_ 1 aX_ rfl rfl rfl rfl rfl rfl (e_ (v_ rfl (C_ (fun _ a b => ⟨a.tail.tail, b⟩) (N_ 13 rfl (by kernel_rfl) (R_ 0 aX_ rfl rfl rfl rfl rfl rfl ?_)))))))))
     refine e_ (v_ rfl (C_ (fun _ a b => ⟨a.tail.tail, b⟩) (Y_ (by kernel_rfl) (c_ rfl (h_ ?_)))))
     refine aB_ ((b7, .cells #[str (Fc.b f), str (Fc.r f)] 145 (0, 0)) :: ((b6, .cells #[str (Fc.a f), str (Fc.r f)] 145 (0, 0)) :: ((b5, .cells #[str (Fc.a f)] 9 (0, 0)) :: ((b1, .cells (Fc.cells f).toArray 41 (0, 0)) :: [])))) (by kernel_rfl) ?_
     refine ag_ 6 [0, 1, 2, 3, 4, 5, 6] (by kernel_rfl) (fun _ a b => ⟨Vw.sat.sub (a.perm (j_ f_ (j_ f_ (j_ f_ f_)))), b⟩) (l_ rfl (g_ rfl) rfl (l_ rfl (ab_ rfl) rfl (l_ rfl (m_ w_ rfl rfl rfl cy_) rfl (l_ rfl (U_ dj_ rfl (fun v _ h => by exact h.1) rfl) rfl (l_ rfl (X_ 1 cC_ aX_ rfl rfl rfl) rfl (l_ rfl (m_ n_ rfl rfl rfl o_) rfl (l_ rfl (t_ 3 u_ rfl rfl rfl) rfl (af_ (N_ 7 rfl (by kernel_rfl) ?_)))))))))
     refine aY_ H_ o_ bn_ rfl rfl rfl rfl rfl rfl fun b8 => ?_
     refine e_ (v_ rfl (C_ (fun _ a b => ⟨Vw.sat.sub (a.perm (j_ (b_ f_) (j_ (b_ f_) (j_ (b_ f_) (b_ f_))))), b⟩) (N_ 8 rfl (by kernel_rfl) ?_)))
     have hbb7 := (hyl ((Fc.a f), (Fc.r f))).1
     refine cJ_ (k := ((Fc.a f), (Fc.r f))) ch_ ho bA_ bf_ rfl rfl (b_ (b_ (b_ (b_ (b_ (k_ (k_ q_))))))) rfl fun es7 ce7 ie7 se7 ve7 Hk7 Hx7 ho7 hw7 => ?_
     refine e_ (v_ rfl (C_ (fun _ a b => ⟨Vw.sat.sub (a.perm (j_ (b_ (k_ (k_ (b_ f_)))) (j_ (b_ (k_ (k_ (b_ f_)))) (j_ (b_ (k_ (k_ (b_ f_)))) (b_ (k_ (k_ (b_ f_)))))))), b⟩) (ag_ 2 [9, 11] (by kernel_rfl) (fun _ a b => ⟨Vw.sat.sub (a.perm (j_ (b_ (k_ (k_ (b_ f_)))) (j_ (b_ (k_ (k_ (b_ f_)))) (j_ (b_ (k_ (k_ (b_ f_)))) (b_ (k_ (k_ (b_ f_)))))))), b⟩) (l_ rfl (V_ rfl rfl) rfl (l_ rfl (V_ rfl rfl) rfl (af_ (N_ 10 rfl (by kernel_rfl) (aU_ (news := List.flatMap aL_ [(Fc.b f)]) cE_ hw7 rfl rfl (b_ q_) rfl (cH_ (b_ (k_ (k_ f_)))) (fun u hu => bg_ ce_ hu) (by simp only [maxLen]; omega) (by omega) rfl fun sv4 Hr4 hr4 => ?_))))))))
     have hq4 : aS_ 9 1 sv4 (List.length ((lat x.frm ((Fc.a f), (Fc.r f))) ++ [(Fc.b f)])) (List.flatMap aL_ ((lat x.frm ((Fc.a f), (Fc.r f))) ++ [(Fc.b f)])) Hr4 := by rw [List.length_append, List.flatMap_append]; exact hr4
     refine e_ (v_ rfl (C_ (fun _ a b => ⟨Vw.sat.sub (a.perm (j_ (k_ (b_ (k_ (b_ f_)))) (j_ (k_ (b_ (k_ (b_ f_)))) (j_ (k_ (b_ (k_ (b_ f_)))) (k_ (b_ (k_ (b_ f_)))))))), b⟩) (N_ 12 rfl (by kernel_rfl) (bz_ (k := ((Fc.a f), (Fc.r f))) (dd := (Fc.b f)) ho7 (by rw [co_]; exact hq4) rfl rfl rfl (cm_ (j_ (k_ f_) (A_ q_ q_))) fun H8 hM8 => ?_))))
     refine e_ (v_ rfl (C_ (fun _ a b => ⟨Vw.sat.sub (a.perm (j_ (k_ (b_ f_)) (j_ (k_ (b_ f_)) (j_ (k_ (b_ f_)) (k_ (b_ f_)))))), b⟩) (Y_ (by kernel_rfl) (c_ rfl (ay_ (aV_ (k_ f_) (aV_ (k_ f_) (aV_ (k_ f_) (aV_ (k_ f_) (cG_ (k_ f_)))))) ?_)))))
     refine aB_ ((b8, .cells #[str (Fc.b f)] 9 (0, 0)) :: ((b7, .cells #[str (Fc.b f), str (Fc.r f)] 145 (0, 0)) :: ((b6, .cells #[str (Fc.a f), str (Fc.r f)] 145 (0, 0)) :: ((b5, .cells #[str (Fc.a f)] 9 (0, 0)) :: ((b1, .cells (Fc.cells f).toArray 41 (0, 0)) :: []))))) (by kernel_rfl) ?_
     refine ag_ 6 [0, 1, 2, 3, 4, 5, 6] (by kernel_rfl) (fun _ a b => ⟨Vw.sat.sub (a.perm (j_ f_ (j_ f_ (j_ f_ (j_ f_ f_))))), b⟩) (l_ rfl (g_ rfl) rfl (l_ rfl (ab_ rfl) rfl (l_ rfl (m_ w_ rfl rfl rfl cy_) rfl (l_ rfl (U_ dj_ rfl (fun v _ h => by exact h.1) rfl) rfl (l_ rfl (X_ 1 cC_ aX_ rfl rfl rfl) rfl (l_ rfl (m_ n_ rfl rfl rfl o_) rfl (l_ rfl (t_ 4 u_ rfl rfl rfl) rfl (af_ (N_ 7 rfl (by kernel_rfl) ?_)))))))))
     refine aY_ H_ o_ bn_ rfl rfl rfl rfl rfl rfl fun b9 => ?_
     refine e_ (v_ rfl (C_ (fun _ a b => ⟨Vw.sat.sub (a.perm (j_ (b_ f_) (j_ (b_ f_) (j_ (b_ f_) (j_ (b_ f_) (b_ f_)))))), b⟩) (N_ 8 rfl (by kernel_rfl) ?_)))
     have hbb9 := (hyl ((Fc.b f), (Fc.r f))).2.1
     refine cJ_ (k := ((Fc.b f), (Fc.r f))) ch_ hi bA_ bf_ rfl rfl (b_ (b_ (b_ (b_ (b_ (b_ (k_ (k_ (k_ q_))))))))) rfl fun es9 ce9 ie9 se9 ve9 Hk9 Hx9 ho9 hw9 => ?_
     refine e_ (v_ rfl (C_ (fun _ a b => ⟨Vw.sat.sub (a.perm (j_ (b_ (k_ (k_ (b_ f_)))) (j_ (b_ (k_ (k_ (b_ f_)))) (j_ (b_ (k_ (k_ (b_ f_)))) (j_ (b_ (k_ (k_ (b_ f_)))) (b_ (k_ (k_ (b_ f_))))))))), b⟩) (ag_ 2 [9, 11] (by kernel_rfl) (fun _ a b => ⟨Vw.sat.sub (a.perm (j_ (b_ (k_ (k_ (b_ f_)))) (j_ (b_ (k_ (k_ (b_ f_)))) (j_ (b_ (k_ (k_ (b_ f_)))) (j_ (b_ (k_ (k_ (b_ f_)))) (b_ (k_ (k_ (b_ f_))))))))), b⟩) (l_ rfl (V_ rfl rfl) rfl (l_ rfl (V_ rfl rfl) rfl (af_ (N_ 10 rfl (by kernel_rfl) (aU_ (news := List.flatMap aL_ [(Fc.a f)]) cE_ hw9 rfl rfl (b_ q_) rfl (cH_ (b_ (k_ (k_ f_)))) (fun u hu => bg_ ce_ hu) (by simp only [maxLen]; omega) (by omega) rfl fun sv5 Hr5 hr5 => ?_))))))))
     have hq5 : aS_ 9 1 sv5 (List.length ((lat x.into ((Fc.b f), (Fc.r f))) ++ [(Fc.a f)])) (List.flatMap aL_ ((lat x.into ((Fc.b f), (Fc.r f))) ++ [(Fc.a f)])) Hr5 := by rw [List.length_append, List.flatMap_append]; exact hr5
     refine e_ (v_ rfl (C_ (fun _ a b => ⟨Vw.sat.sub (a.perm (j_ (k_ (b_ (k_ (b_ f_)))) (j_ (k_ (b_ (k_ (b_ f_)))) (j_ (k_ (b_ (k_ (b_ f_)))) (j_ (k_ (b_ (k_ (b_ f_)))) (k_ (b_ (k_ (b_ f_))))))))), b⟩) (N_ 12 rfl (by kernel_rfl) (bz_ (k := ((Fc.b f), (Fc.r f))) (dd := (Fc.a f)) ho9 (by rw [co_]; exact hq5) rfl rfl rfl (cm_ (j_ (k_ f_) (A_ q_ q_))) fun H10 hM10 => ?_))))
     refine e_ (v_ rfl (C_ (fun _ a b => ⟨Vw.sat.sub (a.perm (j_ (k_ (b_ f_)) (j_ (k_ (b_ f_)) (j_ (k_ (b_ f_)) (j_ (k_ (b_ f_)) (k_ (b_ f_))))))), b⟩) (Y_ (by kernel_rfl) (aW_ rfl ?_))))
     exact cw_ dA_ ⟨IxH.mk Ha H6 H8 H10 Hr Hm, by have e0 : x.add (decide (f ∈ fm)) f = { x with under := (x.under ++ [((Fc.b f), (Fc.a f))]), frm := (x.frm ++ [(((Fc.a f), (Fc.r f)), (Fc.b f))]), into := (x.into ++ [(((Fc.b f), (Fc.r f)), (Fc.a f))]) } := (by unfold Ix.add; rw [if_neg (by omega), if_pos (by assumption)]); rw [e0]; exact ⟨ha, hM6, hM8, hM10, hr, hm⟩⟩ rfl (A_ (k_ (b_ (b_ (b_ (b_ (b_ (b_ (k_ (k_ q_))))))))) (A_ (k_ (b_ (b_ (b_ (b_ (b_ (b_ (k_ q_)))))))) (A_ (k_ (b_ (b_ (b_ (b_ (b_ (b_ q_))))))) (A_ q_ (A_ (b_ (b_ (b_ (b_ (b_ (b_ q_)))))) (A_ (b_ (b_ (b_ (b_ (b_ (b_ q_)))))) (b_ (b_ (b_ (b_ (b_ S_))))))))))) (fun _ _ _ => trivial)
    ·
     refine ah_ bW_ rfl fun b10 => ?_
     refine e_ (v_ rfl (C_ (fun _ a b => ⟨a.tail, b⟩) (N_ 10 rfl (by kernel_rfl) (ah_ bW_ rfl fun b11 => ?_))))
     refine e_ (v_ rfl (C_ (fun _ a b => ⟨a.tail.tail, b⟩) (N_ 12 rfl (by kernel_rfl) (R_ 0 aX_ rfl rfl rfl rfl rfl rfl (e_ (v_ rfl (C_ (fun _ a b => ⟨a.tail.tail, b⟩) (N_ 13 rfl (by kernel_rfl) (R_ 1 aX_ rfl rfl rfl rfl rfl rfl ?_)))))))))
     refine e_ (v_ rfl (C_ (fun _ a b => ⟨a.tail.tail, b⟩) (Y_ (by kernel_rfl) (c_ rfl (h_ ?_)))))
     refine aB_ ((b11, .cells #[str (Fc.a f), str (Fc.r f)] 145 (0, 0)) :: ((b10, .cells #[str (Fc.b f), str (Fc.r f)] 145 (0, 0)) :: ((b5, .cells #[str (Fc.a f)] 9 (0, 0)) :: ((b1, .cells (Fc.cells f).toArray 41 (0, 0)) :: [])))) (by kernel_rfl) ?_
     refine ag_ 6 [0, 1, 2, 3, 4, 5, 6] (by kernel_rfl) (fun _ a b => ⟨Vw.sat.sub (a.perm (j_ f_ (j_ f_ (j_ f_ f_)))), b⟩) (l_ rfl (g_ rfl) rfl (l_ rfl (ab_ rfl) rfl (l_ rfl (m_ w_ rfl rfl rfl cy_) rfl (l_ rfl (U_ dj_ rfl (fun v _ h => by exact h.1) rfl) rfl (l_ rfl (X_ 0 cC_ aX_ rfl rfl rfl) rfl (l_ rfl (m_ n_ rfl rfl rfl o_) rfl (l_ rfl (t_ 3 u_ rfl rfl rfl) rfl (af_ (N_ 7 rfl (by kernel_rfl) ?_)))))))))
     refine aY_ H_ o_ bn_ rfl rfl rfl rfl rfl rfl fun b12 => ?_
     refine e_ (v_ rfl (C_ (fun _ a b => ⟨Vw.sat.sub (a.perm (j_ (b_ f_) (j_ (b_ f_) (j_ (b_ f_) (b_ f_))))), b⟩) (N_ 8 rfl (by kernel_rfl) ?_)))
     have hbb11 := (hyl ((Fc.a f), (Fc.r f))).1
     refine cJ_ (k := ((Fc.a f), (Fc.r f))) ch_ ho bA_ bf_ rfl rfl (b_ (b_ (b_ (b_ (b_ (k_ (k_ q_))))))) rfl fun es11 ce11 ie11 se11 ve11 Hk11 Hx11 ho11 hw11 => ?_
     refine e_ (v_ rfl (C_ (fun _ a b => ⟨Vw.sat.sub (a.perm (j_ (b_ (k_ (k_ (b_ f_)))) (j_ (b_ (k_ (k_ (b_ f_)))) (j_ (b_ (k_ (k_ (b_ f_)))) (b_ (k_ (k_ (b_ f_)))))))), b⟩) (ag_ 2 [9, 11] (by kernel_rfl) (fun _ a b => ⟨Vw.sat.sub (a.perm (j_ (b_ (k_ (k_ (b_ f_)))) (j_ (b_ (k_ (k_ (b_ f_)))) (j_ (b_ (k_ (k_ (b_ f_)))) (b_ (k_ (k_ (b_ f_)))))))), b⟩) (l_ rfl (V_ rfl rfl) rfl (l_ rfl (V_ rfl rfl) rfl (af_ (N_ 10 rfl (by kernel_rfl) (aU_ (news := List.flatMap aL_ [(Fc.b f)]) cE_ hw11 rfl rfl (b_ q_) rfl (cH_ (b_ (k_ (k_ f_)))) (fun u hu => bg_ ce_ hu) (by simp only [maxLen]; omega) (by omega) rfl fun sv6 Hr6 hr6 => ?_))))))))
     have hq6 : aS_ 9 1 sv6 (List.length ((lat x.frm ((Fc.a f), (Fc.r f))) ++ [(Fc.b f)])) (List.flatMap aL_ ((lat x.frm ((Fc.a f), (Fc.r f))) ++ [(Fc.b f)])) Hr6 := by rw [List.length_append, List.flatMap_append]; exact hr6
     refine e_ (v_ rfl (C_ (fun _ a b => ⟨Vw.sat.sub (a.perm (j_ (k_ (b_ (k_ (b_ f_)))) (j_ (k_ (b_ (k_ (b_ f_)))) (j_ (k_ (b_ (k_ (b_ f_)))) (k_ (b_ (k_ (b_ f_)))))))), b⟩) (N_ 12 rfl (by kernel_rfl) (bz_ (k := ((Fc.a f), (Fc.r f))) (dd := (Fc.b f)) ho11 (by rw [co_]; exact hq6) rfl rfl rfl (cm_ (j_ (k_ f_) (A_ q_ q_))) fun H12 hM12 => ?_))))
     refine e_ (v_ rfl (C_ (fun _ a b => ⟨Vw.sat.sub (a.perm (j_ (k_ (b_ f_)) (j_ (k_ (b_ f_)) (j_ (k_ (b_ f_)) (k_ (b_ f_)))))), b⟩) (Y_ (by kernel_rfl) (c_ rfl (ay_ (aV_ (k_ f_) (aV_ (k_ f_) (aV_ (k_ f_) (aV_ (k_ f_) (cG_ (k_ f_)))))) ?_)))))
     refine aB_ ((b12, .cells #[str (Fc.b f)] 9 (0, 0)) :: ((b11, .cells #[str (Fc.a f), str (Fc.r f)] 145 (0, 0)) :: ((b10, .cells #[str (Fc.b f), str (Fc.r f)] 145 (0, 0)) :: ((b5, .cells #[str (Fc.a f)] 9 (0, 0)) :: ((b1, .cells (Fc.cells f).toArray 41 (0, 0)) :: []))))) (by kernel_rfl) ?_
     refine ag_ 6 [0, 1, 2, 3, 4, 5, 6] (by kernel_rfl) (fun _ a b => ⟨Vw.sat.sub (a.perm (j_ f_ (j_ f_ (j_ f_ (j_ f_ f_))))), b⟩) (l_ rfl (g_ rfl) rfl (l_ rfl (ab_ rfl) rfl (l_ rfl (m_ w_ rfl rfl rfl cy_) rfl (l_ rfl (U_ dj_ rfl (fun v _ h => by exact h.1) rfl) rfl (l_ rfl (X_ 2 cC_ aX_ rfl rfl rfl) rfl (l_ rfl (m_ n_ rfl rfl rfl o_) rfl (l_ rfl (t_ 4 u_ rfl rfl rfl) rfl (af_ (N_ 7 rfl (by kernel_rfl) ?_)))))))))
     refine aY_ H_ o_ bn_ rfl rfl rfl rfl rfl rfl fun b13 => ?_
     refine e_ (v_ rfl (C_ (fun _ a b => ⟨Vw.sat.sub (a.perm (j_ (b_ f_) (j_ (b_ f_) (j_ (b_ f_) (j_ (b_ f_) (b_ f_)))))), b⟩) (N_ 8 rfl (by kernel_rfl) ?_)))
     have hbb13 := (hyl ((Fc.b f), (Fc.r f))).2.1
     refine cJ_ (k := ((Fc.b f), (Fc.r f))) ch_ hi bA_ bf_ rfl rfl (b_ (b_ (b_ (b_ (b_ (b_ (k_ (k_ (k_ q_))))))))) rfl fun es13 ce13 ie13 se13 ve13 Hk13 Hx13 ho13 hw13 => ?_
     refine e_ (v_ rfl (C_ (fun _ a b => ⟨Vw.sat.sub (a.perm (j_ (b_ (k_ (k_ (b_ f_)))) (j_ (b_ (k_ (k_ (b_ f_)))) (j_ (b_ (k_ (k_ (b_ f_)))) (j_ (b_ (k_ (k_ (b_ f_)))) (b_ (k_ (k_ (b_ f_))))))))), b⟩) (ag_ 2 [9, 11] (by kernel_rfl) (fun _ a b => ⟨Vw.sat.sub (a.perm (j_ (b_ (k_ (k_ (b_ f_)))) (j_ (b_ (k_ (k_ (b_ f_)))) (j_ (b_ (k_ (k_ (b_ f_)))) (j_ (b_ (k_ (k_ (b_ f_)))) (b_ (k_ (k_ (b_ f_))))))))), b⟩) (l_ rfl (V_ rfl rfl) rfl (l_ rfl (V_ rfl rfl) rfl (af_ (N_ 10 rfl (by kernel_rfl) (aU_ (news := List.flatMap aL_ [(Fc.a f)]) cE_ hw13 rfl rfl (b_ q_) rfl (cH_ (b_ (k_ (k_ f_)))) (fun u hu => bg_ ce_ hu) (by simp only [maxLen]; omega) (by omega) rfl fun sv7 Hr7 hr7 => ?_))))))))
     have hq7 : aS_ 9 1 sv7 (List.length ((lat x.into ((Fc.b f), (Fc.r f))) ++ [(Fc.a f)])) (List.flatMap aL_ ((lat x.into ((Fc.b f), (Fc.r f))) ++ [(Fc.a f)])) Hr7 := by rw [List.length_append, List.flatMap_append]; exact hr7
     refine e_ (v_ rfl (C_ (fun _ a b => ⟨Vw.sat.sub (a.perm (j_ (k_ (b_ (k_ (b_ f_)))) (j_ (k_ (b_ (k_ (b_ f_)))) (j_ (k_ (b_ (k_ (b_ f_)))) (j_ (k_ (b_ (k_ (b_ f_)))) (k_ (b_ (k_ (b_ f_))))))))), b⟩) (N_ 12 rfl (by kernel_rfl) (bz_ (k := ((Fc.b f), (Fc.r f))) (dd := (Fc.a f)) ho13 (by rw [co_]; exact hq7) rfl rfl rfl (cm_ (j_ (k_ f_) (A_ q_ q_))) fun H14 hM14 => ?_))))
     refine e_ (v_ rfl (C_ (fun _ a b => ⟨Vw.sat.sub (a.perm (j_ (k_ (b_ f_)) (j_ (k_ (b_ f_)) (j_ (k_ (b_ f_)) (j_ (k_ (b_ f_)) (k_ (b_ f_))))))), b⟩) (Y_ (by kernel_rfl) (aW_ rfl ?_))))
     exact cw_ dA_ ⟨IxH.mk Ha H6 H12 H14 Hr Hm, by have e0 : x.add (decide (f ∈ fm)) f = { x with under := (x.under ++ [((Fc.b f), (Fc.a f))]), frm := (x.frm ++ [(((Fc.a f), (Fc.r f)), (Fc.b f))]), into := (x.into ++ [(((Fc.b f), (Fc.r f)), (Fc.a f))]) } := (by unfold Ix.add; rw [if_neg (by omega), if_pos (by assumption)]); rw [e0]; exact ⟨ha, hM6, hM12, hM14, hr, hm⟩⟩ rfl (A_ (k_ (b_ (b_ (b_ (b_ (b_ (b_ (k_ (k_ q_))))))))) (A_ (k_ (b_ (b_ (b_ (b_ (b_ (b_ (k_ q_)))))))) (A_ (k_ (b_ (b_ (b_ (b_ (b_ (b_ q_))))))) (A_ q_ (A_ (b_ (b_ (b_ (b_ (b_ (b_ q_)))))) (A_ (b_ (b_ (b_ (b_ (b_ (b_ q_)))))) (b_ (b_ (b_ (b_ (b_ S_))))))))))) (fun _ _ _ => trivial)
   ·
    refine aY_ H_ o_ bn_ rfl rfl rfl rfl rfl rfl fun b14 => ?_
    refine e_ (v_ rfl (C_ (fun _ a b => ⟨Vw.sat.sub (a.perm (b_ (b_ f_))), b⟩) (N_ 12 rfl (by kernel_rfl) (a_ (ft_ (k := (Fc.b f)) go_ ho5 bN_ bf_ rfl rfl 1 rfl) rfl (e_ (v_ rfl (C_ (fun _ a b => ⟨Vw.sat.sub (a.perm (b_ (b_ f_))), b⟩) (N_ 16 rfl (by kernel_rfl) (aU_ (news := List.flatMap aL_ [(Fc.a f)]) cE_ hw5 rfl rfl (b_ (b_ (b_ q_))) rfl (cn_ 0 rfl) (fun u hu => bg_ ce_ hu) (by simp only [maxLen]; omega) (by omega) rfl fun sv8 Hr8 hr8 => ?_)))))))))
    have hq8 : aS_ 9 1 sv8 (List.length ((lat x.under (Fc.b f)) ++ [(Fc.a f)])) (List.flatMap aL_ ((lat x.under (Fc.b f)) ++ [(Fc.a f)])) Hr8 := by rw [List.length_append, List.flatMap_append]; exact hr8
    refine e_ (v_ rfl (C_ (fun _ a b => ⟨Vw.sat.sub (a.perm (k_ (b_ (b_ f_)))), b⟩) (N_ 17 rfl (by kernel_rfl) (eT_ (k := (Fc.b f)) (dd := (Fc.a f)) go_ ho5 (by rw [co_]; exact hq8) (.inr rfl) bN_ rfl rfl rfl (cm_ (j_ (k_ (b_ f_)) (A_ q_ (b_ (b_ q_))))) fun H15 hM15 => ?_))))
    refine e_ (v_ rfl (C_ (fun _ a b => ⟨Vw.sat.sub (a.perm (k_ (b_ f_))), b⟩) (Y_ (by kernel_rfl) (c_ rfl (ay_ (aV_ (k_ f_) (cG_ (k_ f_))) (h_ ?_))))))
    refine az_ (by kernel_rfl) ?_
    refine ag_ 4 [0, 1, 2, 3, 4, 5, 6, 7, 8, 9] (by kernel_rfl) (fun _ a b => ⟨a, b⟩) (l_ rfl (m_ n_ rfl rfl rfl o_) rfl (l_ rfl (t_ 1 u_ rfl rfl rfl) rfl (l_ rfl (m_ n_ rfl rfl rfl o_) rfl (l_ rfl (t_ 1 u_ rfl rfl rfl) rfl (l_ rfl (aj_ dS_ rfl rfl) rfl (l_ rfl (m_ n_ rfl rfl rfl o_) rfl (l_ rfl (t_ 1 u_ rfl rfl rfl) rfl (l_ rfl (m_ n_ rfl rfl rfl o_) rfl (l_ rfl (t_ 1 u_ rfl rfl rfl) rfl ?_)))))))))
    refine l_ rfl (aj_ dS_ rfl rfl) rfl (af_ ?_)
    refine eo_ 10 11 rfl rfl (by kernel_rfl) ?_ ?_
    ·
     refine ah_ bW_ rfl fun b15 => ?_
     refine e_ (v_ rfl (C_ (fun _ a b => ⟨a.tail, b⟩) (N_ 11 rfl (by kernel_rfl) (ah_ bW_ rfl fun b16 => ?_))))
     refine e_ (v_ rfl (C_ (fun _ a b => ⟨a.tail.tail, b⟩) (N_ 12 rfl (by kernel_rfl) (R_ 1 aX_ rfl rfl rfl rfl rfl rfl (e_ (v_ rfl (C_ (fun _ a b => ⟨a.tail.tail, b⟩) (N_ 13 rfl (by kernel_rfl) (R_ 0 aX_ rfl rfl rfl rfl rfl rfl ?_)))))))))
     refine e_ (v_ rfl (C_ (fun _ a b => ⟨a.tail.tail, b⟩) (Y_ (by kernel_rfl) (c_ rfl (h_ ?_)))))
     refine aB_ ((b16, .cells #[str (Fc.b f), str (Fc.r f)] 145 (0, 0)) :: ((b15, .cells #[str (Fc.a f), str (Fc.r f)] 145 (0, 0)) :: ((b14, .cells #[str (Fc.a f)] 9 (0, 0)) :: ((b1, .cells (Fc.cells f).toArray 41 (0, 0)) :: [])))) (by kernel_rfl) ?_
     refine ag_ 6 [0, 1, 2, 3, 4, 5, 6] (by kernel_rfl) (fun _ a b => ⟨Vw.sat.sub (a.perm (j_ f_ (j_ f_ (j_ f_ f_)))), b⟩) (l_ rfl (g_ rfl) rfl (l_ rfl (ab_ rfl) rfl (l_ rfl (m_ w_ rfl rfl rfl cy_) rfl (l_ rfl (U_ dj_ rfl (fun v _ h => by exact h.1) rfl) rfl (l_ rfl (X_ 1 cC_ aX_ rfl rfl rfl) rfl (l_ rfl (m_ n_ rfl rfl rfl o_) rfl (l_ rfl (t_ 3 u_ rfl rfl rfl) rfl (af_ (N_ 7 rfl (by kernel_rfl) ?_)))))))))
     refine aY_ H_ o_ bn_ rfl rfl rfl rfl rfl rfl fun b17 => ?_
     refine e_ (v_ rfl (C_ (fun _ a b => ⟨Vw.sat.sub (a.perm (j_ (b_ f_) (j_ (b_ f_) (j_ (b_ f_) (b_ f_))))), b⟩) (N_ 8 rfl (by kernel_rfl) ?_)))
     have hbb16 := (hyl ((Fc.a f), (Fc.r f))).1
     refine cJ_ (k := ((Fc.a f), (Fc.r f))) ch_ ho bA_ bf_ rfl rfl (b_ (b_ (b_ (b_ (b_ (k_ (k_ q_))))))) rfl fun es16 ce16 ie16 se16 ve16 Hk16 Hx16 ho16 hw16 => ?_
     refine e_ (v_ rfl (C_ (fun _ a b => ⟨Vw.sat.sub (a.perm (j_ (b_ (k_ (k_ (b_ f_)))) (j_ (b_ (k_ (k_ (b_ f_)))) (j_ (b_ (k_ (k_ (b_ f_)))) (b_ (k_ (k_ (b_ f_)))))))), b⟩) (ag_ 2 [9, 11] (by kernel_rfl) (fun _ a b => ⟨Vw.sat.sub (a.perm (j_ (b_ (k_ (k_ (b_ f_)))) (j_ (b_ (k_ (k_ (b_ f_)))) (j_ (b_ (k_ (k_ (b_ f_)))) (b_ (k_ (k_ (b_ f_)))))))), b⟩) (l_ rfl (V_ rfl rfl) rfl (l_ rfl (V_ rfl rfl) rfl (af_ (N_ 10 rfl (by kernel_rfl) (aU_ (news := List.flatMap aL_ [(Fc.b f)]) cE_ hw16 rfl rfl (b_ q_) rfl (cH_ (b_ (k_ (k_ f_)))) (fun u hu => bg_ ce_ hu) (by simp only [maxLen]; omega) (by omega) rfl fun sv9 Hr9 hr9 => ?_))))))))
     have hq9 : aS_ 9 1 sv9 (List.length ((lat x.frm ((Fc.a f), (Fc.r f))) ++ [(Fc.b f)])) (List.flatMap aL_ ((lat x.frm ((Fc.a f), (Fc.r f))) ++ [(Fc.b f)])) Hr9 := by rw [List.length_append, List.flatMap_append]; exact hr9
     refine e_ (v_ rfl (C_ (fun _ a b => ⟨Vw.sat.sub (a.perm (j_ (k_ (b_ (k_ (b_ f_)))) (j_ (k_ (b_ (k_ (b_ f_)))) (j_ (k_ (b_ (k_ (b_ f_)))) (k_ (b_ (k_ (b_ f_)))))))), b⟩) (N_ 12 rfl (by kernel_rfl) (bz_ (k := ((Fc.a f), (Fc.r f))) (dd := (Fc.b f)) ho16 (by rw [co_]; exact hq9) rfl rfl rfl (cm_ (j_ (k_ f_) (A_ q_ q_))) fun H17 hM17 => ?_))))
     refine e_ (v_ rfl (C_ (fun _ a b => ⟨Vw.sat.sub (a.perm (j_ (k_ (b_ f_)) (j_ (k_ (b_ f_)) (j_ (k_ (b_ f_)) (k_ (b_ f_)))))), b⟩) (Y_ (by kernel_rfl) (c_ rfl (ay_ (aV_ (k_ f_) (aV_ (k_ f_) (aV_ (k_ f_) (aV_ (k_ f_) (cG_ (k_ f_)))))) ?_)))))
     refine aB_ ((b17, .cells #[str (Fc.b f)] 9 (0, 0)) :: ((b16, .cells #[str (Fc.b f), str (Fc.r f)] 145 (0, 0)) :: ((b15, .cells #[str (Fc.a f), str (Fc.r f)] 145 (0, 0)) :: ((b14, .cells #[str (Fc.a f)] 9 (0, 0)) :: ((b1, .cells (Fc.cells f).toArray 41 (0, 0)) :: []))))) (by kernel_rfl) ?_
     refine ag_ 6 [0, 1, 2, 3, 4, 5, 6] (by kernel_rfl) (fun _ a b => ⟨Vw.sat.sub (a.perm (j_ f_ (j_ f_ (j_ f_ (j_ f_ f_))))), b⟩) (l_ rfl (g_ rfl) rfl (l_ rfl (ab_ rfl) rfl (l_ rfl (m_ w_ rfl rfl rfl cy_) rfl (l_ rfl (U_ dj_ rfl (fun v _ h => by exact h.1) rfl) rfl (l_ rfl (X_ 1 cC_ aX_ rfl rfl rfl) rfl (l_ rfl (m_ n_ rfl rfl rfl o_) rfl (l_ rfl (t_ 4 u_ rfl rfl rfl) rfl (af_ (N_ 7 rfl (by kernel_rfl) ?_)))))))))
     refine aY_ H_ o_ bn_ rfl rfl rfl rfl rfl rfl fun b18 => ?_
     refine e_ (v_ rfl (C_ (fun _ a b => ⟨Vw.sat.sub (a.perm (j_ (b_ f_) (j_ (b_ f_) (j_ (b_ f_) (j_ (b_ f_) (b_ f_)))))), b⟩) (N_ 8 rfl (by kernel_rfl) ?_)))
     have hbb18 := (hyl ((Fc.b f), (Fc.r f))).2.1
     refine cJ_ (k := ((Fc.b f), (Fc.r f))) ch_ hi bA_ bf_ rfl rfl (b_ (b_ (b_ (b_ (b_ (b_ (k_ (k_ (k_ q_))))))))) rfl fun es18 ce18 ie18 se18 ve18 Hk18 Hx18 ho18 hw18 => ?_
     refine e_ (v_ rfl (C_ (fun _ a b => ⟨Vw.sat.sub (a.perm (j_ (b_ (k_ (k_ (b_ f_)))) (j_ (b_ (k_ (k_ (b_ f_)))) (j_ (b_ (k_ (k_ (b_ f_)))) (j_ (b_ (k_ (k_ (b_ f_)))) (b_ (k_ (k_ (b_ f_))))))))), b⟩) (ag_ 2 [9, 11] (by kernel_rfl) (fun _ a b => ⟨Vw.sat.sub (a.perm (j_ (b_ (k_ (k_ (b_ f_)))) (j_ (b_ (k_ (k_ (b_ f_)))) (j_ (b_ (k_ (k_ (b_ f_)))) (j_ (b_ (k_ (k_ (b_ f_)))) (b_ (k_ (k_ (b_ f_))))))))), b⟩) (l_ rfl (V_ rfl rfl) rfl (l_ rfl (V_ rfl rfl) rfl (af_ (N_ 10 rfl (by kernel_rfl) (aU_ (news := List.flatMap aL_ [(Fc.a f)]) cE_ hw18 rfl rfl (b_ q_) rfl (cH_ (b_ (k_ (k_ f_)))) (fun u hu => bg_ ce_ hu) (by simp only [maxLen]; omega) (by omega) rfl fun sv10 Hr10 hr10 => ?_))))))))
     have hq10 : aS_ 9 1 sv10 (List.length ((lat x.into ((Fc.b f), (Fc.r f))) ++ [(Fc.a f)])) (List.flatMap aL_ ((lat x.into ((Fc.b f), (Fc.r f))) ++ [(Fc.a f)])) Hr10 := by rw [List.length_append, List.flatMap_append]; exact hr10
     refine e_ (v_ rfl (C_ (fun _ a b => ⟨Vw.sat.sub (a.perm (j_ (k_ (b_ (k_ (b_ f_)))) (j_ (k_ (b_ (k_ (b_ f_)))) (j_ (k_ (b_ (k_ (b_ f_)))) (j_ (k_ (b_ (k_ (b_ f_)))) (k_ (b_ (k_ (b_ f_))))))))), b⟩) (N_ 12 rfl (by kernel_rfl) (bz_ (k := ((Fc.b f), (Fc.r f))) (dd := (Fc.a f)) ho18 (by rw [co_]; exact hq10) rfl rfl rfl (cm_ (j_ (k_ f_) (A_ q_ q_))) fun H19 hM19 => ?_))))
     refine e_ (v_ rfl (C_ (fun _ a b => ⟨Vw.sat.sub (a.perm (j_ (k_ (b_ f_)) (j_ (k_ (b_ f_)) (j_ (k_ (b_ f_)) (j_ (k_ (b_ f_)) (k_ (b_ f_))))))), b⟩) (Y_ (by kernel_rfl) (aW_ rfl ?_))))
     exact cw_ dA_ ⟨IxH.mk Ha H15 H17 H19 Hr Hm, by have e0 : x.add (decide (f ∈ fm)) f = { x with under := (x.under ++ [((Fc.b f), (Fc.a f))]), frm := (x.frm ++ [(((Fc.a f), (Fc.r f)), (Fc.b f))]), into := (x.into ++ [(((Fc.b f), (Fc.r f)), (Fc.a f))]) } := (by unfold Ix.add; rw [if_neg (by omega), if_pos (by assumption)]); rw [e0]; exact ⟨ha, hM15, hM17, hM19, hr, hm⟩⟩ rfl (A_ (k_ (b_ (b_ (b_ (b_ (b_ (b_ (k_ (k_ q_))))))))) (A_ (k_ (b_ (b_ (b_ (b_ (b_ (b_ (k_ q_)))))))) (A_ (k_ (b_ (b_ (b_ (b_ (b_ (b_ q_))))))) (A_ q_ (A_ (b_ (b_ (b_ (b_ (b_ (b_ q_)))))) (A_ (b_ (b_ (b_ (b_ (b_ (b_ q_)))))) (b_ (b_ (b_ (b_ (b_ S_))))))))))) (fun _ _ _ => trivial)
    ·
     refine ah_ bW_ rfl fun b19 => ?_
     refine e_ (v_ rfl (C_ (fun _ a b => ⟨a.tail, b⟩) (N_ 10 rfl (by kernel_rfl) (ah_ bW_ rfl fun b20 => ?_))))
     refine e_ (v_ rfl (C_ (fun _ a b => ⟨a.tail.tail, b⟩) (N_ 12 rfl (by kernel_rfl) (R_ 0 aX_ rfl rfl rfl rfl rfl rfl (e_ (v_ rfl (C_ (fun _ a b => ⟨a.tail.tail, b⟩) (N_ 13 rfl (by kernel_rfl) (R_ 1 aX_ rfl rfl rfl rfl rfl rfl ?_)))))))))
     refine e_ (v_ rfl (C_ (fun _ a b => ⟨a.tail.tail, b⟩) (Y_ (by kernel_rfl) (c_ rfl (h_ ?_)))))
     refine aB_ ((b20, .cells #[str (Fc.a f), str (Fc.r f)] 145 (0, 0)) :: ((b19, .cells #[str (Fc.b f), str (Fc.r f)] 145 (0, 0)) :: ((b14, .cells #[str (Fc.a f)] 9 (0, 0)) :: ((b1, .cells (Fc.cells f).toArray 41 (0, 0)) :: [])))) (by kernel_rfl) ?_
     refine ag_ 6 [0, 1, 2, 3, 4, 5, 6] (by kernel_rfl) (fun _ a b => ⟨Vw.sat.sub (a.perm (j_ f_ (j_ f_ (j_ f_ f_)))), b⟩) (l_ rfl (g_ rfl) rfl (l_ rfl (ab_ rfl) rfl (l_ rfl (m_ w_ rfl rfl rfl cy_) rfl (l_ rfl (U_ dj_ rfl (fun v _ h => by exact h.1) rfl) rfl (l_ rfl (X_ 0 cC_ aX_ rfl rfl rfl) rfl (l_ rfl (m_ n_ rfl rfl rfl o_) rfl (l_ rfl (t_ 3 u_ rfl rfl rfl) rfl (af_ (N_ 7 rfl (by kernel_rfl) ?_)))))))))
     refine aY_ H_ o_ bn_ rfl rfl rfl rfl rfl rfl fun b21 => ?_
     refine e_ (v_ rfl (C_ (fun _ a b => ⟨Vw.sat.sub (a.perm (j_ (b_ f_) (j_ (b_ f_) (j_ (b_ f_) (b_ f_))))), b⟩) (N_ 8 rfl (by kernel_rfl) ?_)))
     have hbb20 := (hyl ((Fc.a f), (Fc.r f))).1
     refine cJ_ (k := ((Fc.a f), (Fc.r f))) ch_ ho bA_ bf_ rfl rfl (b_ (b_ (b_ (b_ (b_ (k_ (k_ q_))))))) rfl fun es20 ce20 ie20 se20 ve20 Hk20 Hx20 ho20 hw20 => ?_
     refine e_ (v_ rfl (C_ (fun _ a b => ⟨Vw.sat.sub (a.perm (j_ (b_ (k_ (k_ (b_ f_)))) (j_ (b_ (k_ (k_ (b_ f_)))) (j_ (b_ (k_ (k_ (b_ f_)))) (b_ (k_ (k_ (b_ f_)))))))), b⟩) (ag_ 2 [9, 11] (by kernel_rfl) (fun _ a b => ⟨Vw.sat.sub (a.perm (j_ (b_ (k_ (k_ (b_ f_)))) (j_ (b_ (k_ (k_ (b_ f_)))) (j_ (b_ (k_ (k_ (b_ f_)))) (b_ (k_ (k_ (b_ f_)))))))), b⟩) (l_ rfl (V_ rfl rfl) rfl (l_ rfl (V_ rfl rfl) rfl (af_ (N_ 10 rfl (by kernel_rfl) (aU_ (news := List.flatMap aL_ [(Fc.b f)]) cE_ hw20 rfl rfl (b_ q_) rfl (cH_ (b_ (k_ (k_ f_)))) (fun u hu => bg_ ce_ hu) (by simp only [maxLen]; omega) (by omega) rfl fun sv11 Hr11 hr11 => ?_))))))))
     have hq11 : aS_ 9 1 sv11 (List.length ((lat x.frm ((Fc.a f), (Fc.r f))) ++ [(Fc.b f)])) (List.flatMap aL_ ((lat x.frm ((Fc.a f), (Fc.r f))) ++ [(Fc.b f)])) Hr11 := by rw [List.length_append, List.flatMap_append]; exact hr11
     refine e_ (v_ rfl (C_ (fun _ a b => ⟨Vw.sat.sub (a.perm (j_ (k_ (b_ (k_ (b_ f_)))) (j_ (k_ (b_ (k_ (b_ f_)))) (j_ (k_ (b_ (k_ (b_ f_)))) (k_ (b_ (k_ (b_ f_)))))))), b⟩) (N_ 12 rfl (by kernel_rfl) (bz_ (k := ((Fc.a f), (Fc.r f))) (dd := (Fc.b f)) ho20 (by rw [co_]; exact hq11) rfl rfl rfl (cm_ (j_ (k_ f_) (A_ q_ q_))) fun H21 hM21 => ?_))))
     refine e_ (v_ rfl (C_ (fun _ a b => ⟨Vw.sat.sub (a.perm (j_ (k_ (b_ f_)) (j_ (k_ (b_ f_)) (j_ (k_ (b_ f_)) (k_ (b_ f_)))))), b⟩) (Y_ (by kernel_rfl) (c_ rfl (ay_ (aV_ (k_ f_) (aV_ (k_ f_) (aV_ (k_ f_) (aV_ (k_ f_) (cG_ (k_ f_)))))) ?_)))))
     refine aB_ ((b21, .cells #[str (Fc.b f)] 9 (0, 0)) :: ((b20, .cells #[str (Fc.a f), str (Fc.r f)] 145 (0, 0)) :: ((b19, .cells #[str (Fc.b f), str (Fc.r f)] 145 (0, 0)) :: ((b14, .cells #[str (Fc.a f)] 9 (0, 0)) :: ((b1, .cells (Fc.cells f).toArray 41 (0, 0)) :: []))))) (by kernel_rfl) ?_
     refine ag_ 6 [0, 1, 2, 3, 4, 5, 6] (by kernel_rfl) (fun _ a b => ⟨Vw.sat.sub (a.perm (j_ f_ (j_ f_ (j_ f_ (j_ f_ f_))))), b⟩) (l_ rfl (g_ rfl) rfl (l_ rfl (ab_ rfl) rfl (l_ rfl (m_ w_ rfl rfl rfl cy_) rfl (l_ rfl (U_ dj_ rfl (fun v _ h => by exact h.1) rfl) rfl (l_ rfl (X_ 2 cC_ aX_ rfl rfl rfl) rfl (l_ rfl (m_ n_ rfl rfl rfl o_) rfl (l_ rfl (t_ 4 u_ rfl rfl rfl) rfl (af_ (N_ 7 rfl (by kernel_rfl) ?_)))))))))
     refine aY_ H_ o_ bn_ rfl rfl rfl rfl rfl rfl fun b22 => ?_
     refine e_ (v_ rfl (C_ (fun _ a b => ⟨Vw.sat.sub (a.perm (j_ (b_ f_) (j_ (b_ f_) (j_ (b_ f_) (j_ (b_ f_) (b_ f_)))))), b⟩) (N_ 8 rfl (by kernel_rfl) ?_)))
     have hbb22 := (hyl ((Fc.b f), (Fc.r f))).2.1
     refine cJ_ (k := ((Fc.b f), (Fc.r f))) ch_ hi bA_ bf_ rfl rfl (b_ (b_ (b_ (b_ (b_ (b_ (k_ (k_ (k_ q_))))))))) rfl fun es22 ce22 ie22 se22 ve22 Hk22 Hx22 ho22 hw22 => ?_
     refine e_ (v_ rfl (C_ (fun _ a b => ⟨Vw.sat.sub (a.perm (j_ (b_ (k_ (k_ (b_ f_)))) (j_ (b_ (k_ (k_ (b_ f_)))) (j_ (b_ (k_ (k_ (b_ f_)))) (j_ (b_ (k_ (k_ (b_ f_)))) (b_ (k_ (k_ (b_ f_))))))))), b⟩) (ag_ 2 [9, 11] (by kernel_rfl) (fun _ a b => ⟨Vw.sat.sub (a.perm (j_ (b_ (k_ (k_ (b_ f_)))) (j_ (b_ (k_ (k_ (b_ f_)))) (j_ (b_ (k_ (k_ (b_ f_)))) (j_ (b_ (k_ (k_ (b_ f_)))) (b_ (k_ (k_ (b_ f_))))))))), b⟩) (l_ rfl (V_ rfl rfl) rfl (l_ rfl (V_ rfl rfl) rfl (af_ (N_ 10 rfl (by kernel_rfl) (aU_ (news := List.flatMap aL_ [(Fc.a f)]) cE_ hw22 rfl rfl (b_ q_) rfl (cH_ (b_ (k_ (k_ f_)))) (fun u hu => bg_ ce_ hu) (by simp only [maxLen]; omega) (by omega) rfl fun sv12 Hr12 hr12 => ?_))))))))
     have hq12 : aS_ 9 1 sv12 (List.length ((lat x.into ((Fc.b f), (Fc.r f))) ++ [(Fc.a f)])) (List.flatMap aL_ ((lat x.into ((Fc.b f), (Fc.r f))) ++ [(Fc.a f)])) Hr12 := by rw [List.length_append, List.flatMap_append]; exact hr12
     refine e_ (v_ rfl (C_ (fun _ a b => ⟨Vw.sat.sub (a.perm (j_ (k_ (b_ (k_ (b_ f_)))) (j_ (k_ (b_ (k_ (b_ f_)))) (j_ (k_ (b_ (k_ (b_ f_)))) (j_ (k_ (b_ (k_ (b_ f_)))) (k_ (b_ (k_ (b_ f_))))))))), b⟩) (N_ 12 rfl (by kernel_rfl) (bz_ (k := ((Fc.b f), (Fc.r f))) (dd := (Fc.a f)) ho22 (by rw [co_]; exact hq12) rfl rfl rfl (cm_ (j_ (k_ f_) (A_ q_ q_))) fun H23 hM23 => ?_))))
     refine e_ (v_ rfl (C_ (fun _ a b => ⟨Vw.sat.sub (a.perm (j_ (k_ (b_ f_)) (j_ (k_ (b_ f_)) (j_ (k_ (b_ f_)) (j_ (k_ (b_ f_)) (k_ (b_ f_))))))), b⟩) (Y_ (by kernel_rfl) (aW_ rfl ?_))))
     exact cw_ dA_ ⟨IxH.mk Ha H15 H21 H23 Hr Hm, by have e0 : x.add (decide (f ∈ fm)) f = { x with under := (x.under ++ [((Fc.b f), (Fc.a f))]), frm := (x.frm ++ [(((Fc.a f), (Fc.r f)), (Fc.b f))]), into := (x.into ++ [(((Fc.b f), (Fc.r f)), (Fc.a f))]) } := (by unfold Ix.add; rw [if_neg (by omega), if_pos (by assumption)]); rw [e0]; exact ⟨ha, hM15, hM21, hM23, hr, hm⟩⟩ rfl (A_ (k_ (b_ (b_ (b_ (b_ (b_ (b_ (k_ (k_ q_))))))))) (A_ (k_ (b_ (b_ (b_ (b_ (b_ (b_ (k_ q_)))))))) (A_ (k_ (b_ (b_ (b_ (b_ (b_ (b_ q_))))))) (A_ q_ (A_ (b_ (b_ (b_ (b_ (b_ (b_ q_)))))) (A_ (b_ (b_ (b_ (b_ (b_ (b_ q_)))))) (b_ (b_ (b_ (b_ (b_ S_))))))))))) (fun _ _ _ => trivial)
 ·
  replace hr1 := eq_of_beq hr1
  refine p_ rfl ?_
  have hbb24 := (hxl (Fc.a f)).1
  refine le_ go_ (Fc.a f) ha (b_ q_) fun es24 ce24 ve24 Hk24 Hx24 hw24 ho24 => ?_
  refine ay_ (aV_ f_ (cG_ (k_ (k_ f_)))) ?_
  refine aB_ ((b1, .cells (Fc.cells f).toArray 41 (0, 0)) :: []) (by kernel_rfl) ?_
  refine ag_ 4 [0, 1, 2, 3, 4, 5, 6, 7, 8, 9, 10, 11, 13, 14] (by kernel_rfl) (fun _ a b => ⟨Vw.sat.sub (a.perm (b_ f_)), b⟩) (l_ rfl (g_ rfl) rfl (l_ rfl (ab_ rfl) rfl (l_ rfl (m_ w_ rfl rfl rfl ga_) rfl (l_ rfl (U_ kG_ rfl (fun v _ h => by exact h.1) rfl) rfl (l_ rfl (m_ n_ rfl rfl rfl o_) rfl (l_ rfl (t_ 0 u_ rfl rfl rfl) rfl (l_ rfl (g_ rfl) rfl (l_ rfl (ab_ rfl) rfl (l_ rfl (m_ w_ rfl rfl rfl ga_) rfl ?_)))))))))
  refine l_ rfl (U_ kG_ rfl (fun v _ h => by exact h.1) rfl) rfl (l_ rfl (m_ n_ rfl rfl rfl o_) rfl (l_ rfl (t_ 0 u_ rfl rfl rfl) rfl (l_ rfl (m_ n_ rfl rfl rfl o_) rfl (l_ rfl (t_ 0 u_ rfl rfl rfl) rfl (af_ ?_)))))
  refine eo_ 12 15 rfl rfl (by kernel_rfl) ?_ ?_
  ·
   refine a_ (ft_ (k := (Fc.a f)) go_ ho24 bN_ bf_ rfl rfl 0 rfl) rfl (e_ (v_ rfl (C_ (fun _ a b => ⟨Vw.sat.sub (a.perm (b_ f_)), b⟩) (N_ 15 rfl (by kernel_rfl) (aY_ H_ o_ bn_ rfl rfl rfl rfl rfl rfl fun b23 => ?_)))))
   refine e_ (v_ rfl (C_ (fun _ a b => ⟨Vw.sat.sub (a.perm (b_ (b_ f_))), b⟩) (N_ 16 rfl (by kernel_rfl) (aU_ (news := List.flatMap aL_ [(Fc.b f)]) cE_ hw24 rfl rfl (b_ (b_ (b_ q_))) rfl (cn_ 0 rfl) (fun u hu => bg_ ce_ hu) (by simp only [maxLen]; omega) (by omega) rfl fun sv13 Hr13 hr13 => ?_))))
   have hq13 : aS_ 9 1 sv13 (List.length ((lat x.above (Fc.a f)) ++ [(Fc.b f)])) (List.flatMap aL_ ((lat x.above (Fc.a f)) ++ [(Fc.b f)])) Hr13 := by rw [List.length_append, List.flatMap_append]; exact hr13
   refine e_ (v_ rfl (C_ (fun _ a b => ⟨Vw.sat.sub (a.perm (k_ (b_ (b_ f_)))), b⟩) (N_ 17 rfl (by kernel_rfl) (eT_ (k := (Fc.a f)) (dd := (Fc.b f)) go_ ho24 (by rw [co_]; exact hq13) (.inr rfl) bN_ rfl rfl rfl (cm_ (j_ (k_ (b_ f_)) (A_ q_ (b_ (b_ q_))))) fun H25 hM25 => ?_))))
   refine e_ (v_ rfl (C_ (fun _ a b => ⟨Vw.sat.sub (a.perm (k_ (b_ f_))), b⟩) (Y_ (by kernel_rfl) (aW_ rfl ?_))))
   exact cw_ dA_ ⟨IxH.mk H25 Hu Ho Hi Hr Hm, by have e0 : x.add (decide (f ∈ fm)) f = { x with above := (x.above ++ [((Fc.a f), (Fc.b f))]) } := (by unfold Ix.add; rw [if_pos (by assumption)]); rw [e0]; exact ⟨hM25, hu, ho, hi, hr, hm⟩⟩ rfl (A_ q_ (A_ (b_ (b_ q_)) (A_ (b_ (b_ q_)) (A_ (b_ (b_ q_)) (A_ (b_ (b_ q_)) (A_ (b_ (b_ q_)) (b_ S_))))))) (fun _ _ _ => trivial)
  ·
   refine aY_ H_ o_ bn_ rfl rfl rfl rfl rfl rfl fun b24 => ?_
   refine e_ (v_ rfl (C_ (fun _ a b => ⟨Vw.sat.sub (a.perm (b_ (b_ f_))), b⟩) (N_ 12 rfl (by kernel_rfl) (a_ (ft_ (k := (Fc.a f)) go_ ho24 bN_ bf_ rfl rfl 1 rfl) rfl (e_ (v_ rfl (C_ (fun _ a b => ⟨Vw.sat.sub (a.perm (b_ (b_ f_))), b⟩) (N_ 16 rfl (by kernel_rfl) (aU_ (news := List.flatMap aL_ [(Fc.b f)]) cE_ hw24 rfl rfl (b_ (b_ (b_ q_))) rfl (cn_ 0 rfl) (fun u hu => bg_ ce_ hu) (by simp only [maxLen]; omega) (by omega) rfl fun sv14 Hr14 hr14 => ?_)))))))))
   have hq14 : aS_ 9 1 sv14 (List.length ((lat x.above (Fc.a f)) ++ [(Fc.b f)])) (List.flatMap aL_ ((lat x.above (Fc.a f)) ++ [(Fc.b f)])) Hr14 := by rw [List.length_append, List.flatMap_append]; exact hr14
   refine e_ (v_ rfl (C_ (fun _ a b => ⟨Vw.sat.sub (a.perm (k_ (b_ (b_ f_)))), b⟩) (N_ 17 rfl (by kernel_rfl) (eT_ (k := (Fc.a f)) (dd := (Fc.b f)) go_ ho24 (by rw [co_]; exact hq14) (.inr rfl) bN_ rfl rfl rfl (cm_ (j_ (k_ (b_ f_)) (A_ q_ (b_ (b_ q_))))) fun H26 hM26 => ?_))))
   refine e_ (v_ rfl (C_ (fun _ a b => ⟨Vw.sat.sub (a.perm (k_ (b_ f_))), b⟩) (Y_ (by kernel_rfl) (aW_ rfl ?_))))
   exact cw_ dA_ ⟨IxH.mk H26 Hu Ho Hi Hr Hm, by have e0 : x.add (decide (f ∈ fm)) f = { x with above := (x.above ++ [((Fc.a f), (Fc.b f))]) } := (by unfold Ix.add; rw [if_pos (by assumption)]); rw [e0]; exact ⟨hM26, hu, ho, hi, hr, hm⟩⟩ rfl (A_ q_ (A_ (b_ (b_ q_)) (A_ (b_ (b_ q_)) (A_ (b_ (b_ q_)) (A_ (b_ (b_ q_)) (A_ (b_ (b_ q_)) (b_ S_))))))) (fun _ _ _ => trivial)
end Go.Proofs.YtpdbbglpbngeiaaGreatDoor
