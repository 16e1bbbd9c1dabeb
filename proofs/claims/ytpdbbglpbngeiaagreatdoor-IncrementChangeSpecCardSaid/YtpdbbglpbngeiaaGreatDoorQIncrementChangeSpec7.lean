/-
  Part of the proof of the law IncrementChangeSpec over this seat: the small logic, the data, the contracts of functions (no condition).
-/
import Derived.Test.YtpdbbglpbngeiaaGreatDoorQIncrementChangeSpec6
import Derived.Test.YtpdbbglpbngeiaaGreatDoorQIncrementChangeSpec3
set_option linter.unusedVariables false
set_option linter.unusedSimpArgs false
set_option linter.unusedSectionVars false
namespace Go.Proofs.YtpdbbglpbngeiaaGreatDoor
open Go Go.Sx Go.Proofs
attribute [local irreducible] Code.wp wpList wpAnyH
open Go.Vs
theorem qf_ (p : List Pc) (pad : Option Addr) (pcap : Nat) (l : List Fc) (lad : Option Addr) (lcap : Nat) (f : Fc) (hp : p.length ≤ 100) (hl : l.length ≤ 65536) (hs : Srt l) : Tri Tryz.prog 118 #[.slice pad (List.length p) pcap, .slice lad (List.length l) lcap, Fc.val f] [] [az_ pad (List.flatMap Pc.cells p), az_ lad (List.flatMap Fc.cells l)] (fun y : {y : Option Addr × Nat // ((kn_ p l f)).length ≤ y.2 ∧ y.2 ≤ maxLen ∧ (y.1 = none → y.2 = 0)} => .slice y.1.1 ((kn_ p l f)).length y.1.2) (fun _ => []) (fun y => [az_ y.1.1 (((kn_ p l f)).flatMap Fc.cells)]) := by
 refine T_ Tryz.func118 rfl rfl Tryz.ntmps118 rfl fun v0 => ?_
 refine h_ (c_ (bs_ rfl rfl fun b1 => ?_))
 refine a_ (g_ rfl) rfl (e_ (b_ rfl (h_ (c_ (cF_ G_ B_ rfl fun b2 => ?_)))))
 refine aj_ i_ (a_ (g_ rfl) rfl (e_ (b_ rfl (h_ (aj_ (df_ bj_) (h_ (c_ (a_ (g_ rfl) rfl (e_ ?_)))))))))
 refine b_ rfl (R_ ?_)
 refine aL_ (ι := {y : Nat × Value × Hp // y.1 ≤ List.length p ∧ aQ_ 41 6 y.2.1 (List.length (List.flatMap (cu_ l f) (List.take y.1 p))) (List.flatMap Fc.cells (List.flatMap (cu_ l f) (List.take y.1 p))) y.2.2}) (fun y => [(0, .slice pad (List.length p) pcap), (1, .slice lad (List.length l) lcap), (5, zp_ b1 0), (6, .slice none 0 0), (7, y.1.2.1), (8, .int .i64 (y.1.1 : Int))]) (fun y => ((b1, .cells (Fc.cells f).toArray 41 (0, 0)) :: y.1.2.2)) (fun y => [az_ pad (List.flatMap Pc.cells p), az_ lad (List.flatMap Fc.cells l)]) (fun y => List.length p - y.1.1) ⟨((0 : Nat), (.slice (some ⟨b2, 0, none⟩) 0 0), [(b2, .cells #[] 41 (0, 0))]), by simp, (do_ b2 41 6)⟩ ⟨rfl, rfl, rfl, rfl, rfl, rfl, trivial⟩ (m_ i_ aD_) (fun _ _ h => h) ?_
 rintro ⟨⟨i, sv_Rfc, H_Rfc⟩, hi_i, hr_Rfc⟩
 dsimp only at hi_i hr_Rfc ⊢
 have hb1 := dG_ (g := cu_ l f) (n := 1) (List.take i p) (fun x _ => jP_ l f x)
 rw [List.length_take] at hb1
 refine h_ (h_ (c_ (a_ (d_ rfl) rfl (a_ (d_ rfl) rfl (a_ (am_ A_ rfl) rfl (x_ (av_ rfl rfl) rfl fun r1 hr1 => ?_))))))
 refine e_ (b_ rfl ?_)
 cases r1
 ·
  replace hr1 := of_decide_eq_false hr1
  rw [show List.take i p = p from List.take_of_length_le (by omega)] at hr_Rfc
  refine v_ rfl (au_ rfl (b_ rfl (h_ (h_ (c_ (a_ (g_ rfl) rfl (e_ (b_ rfl (R_ ?_)))))))))
  have hw1 : aQ_ 41 6 sv_Rfc (List.length (List.flatMap (cu_ l f) p ++ List.flatMap (subB p f) (List.take 0 l))) (List.flatMap Fc.cells (List.flatMap (cu_ l f) p ++ List.flatMap (subB p f) (List.take 0 l))) H_Rfc := by have q := hr_Rfc; simpa only [List.take_zero, List.flatMap_nil, List.append_nil, List.length_nil] using q
  refine aL_ (ι := {y : Nat × Value × Hp // y.1 ≤ List.length l ∧ aQ_ 41 6 y.2.1 (List.length (List.flatMap (cu_ l f) p ++ List.flatMap (subB p f) (List.take y.1 l))) (List.flatMap Fc.cells (List.flatMap (cu_ l f) p ++ List.flatMap (subB p f) (List.take y.1 l))) y.2.2}) (fun y => [(0, .slice pad (List.length p) pcap), (1, .slice lad (List.length l) lcap), (5, zp_ b1 0), (6, .slice none 0 0), (7, y.1.2.1), (8, .int .i64 (i : Int)), (10, .int .i64 (y.1.1 : Int))]) (fun y => ((b1, .cells (Fc.cells f).toArray 41 (0, 0)) :: y.1.2.2)) (fun y => [az_ pad (List.flatMap Pc.cells p), az_ lad (List.flatMap Fc.cells l)]) (fun y => List.length l - y.1.1) ⟨((0 : Nat), sv_Rfc, H_Rfc), by simp, hw1⟩ ⟨rfl, rfl, rfl, rfl, rfl, rfl, rfl, trivial⟩ (m_ i_ aD_) (fun _ _ h => h) ?_
  rintro ⟨⟨j, sv_Rfc, H_Rfc⟩, hi_j, hr_Rfc⟩
  dsimp only at hi_j hr_Rfc ⊢
  have hb0 := dG_ (g := cu_ l f) (n := 1) p (fun x _ => jP_ l f x)
  have hb2 := dG_ (g := subB p f) (n := 101) (List.take j l) (fun x _ => on_ hp f x)
  rw [List.length_take] at hb2
  refine h_ (h_ (c_ (a_ (d_ rfl) rfl (a_ (d_ rfl) rfl (a_ (am_ G_ rfl) rfl (x_ (av_ rfl rfl) rfl fun r2 hr2 => ?_))))))
  refine e_ (b_ rfl ?_)
  cases r2
  ·
   replace hr2 := of_decide_eq_false hr2
   rw [show List.take j l = l from List.take_of_length_le (by omega)] at hr_Rfc
   refine v_ rfl (au_ rfl (b_ rfl (h_ (c_ (a_ (d_ rfl) rfl (a_ (g_ rfl) rfl (e_ (b_ rfl (F_ ?_)))))))))
   have hw2 : aQ_ 41 6 sv_Rfc (List.length (kn_ p l f)) (List.flatMap Fc.cells (kn_ p l f)) H_Rfc := by have q := hr_Rfc; exact q
   refine bk_ hw2 S_ fun ad2 cp2 had2 hcad2 hmad2 hzad2 => ?_
   exact aw_ Tryz.results118 ⟨(ad2, cp2), hcad2, hmad2, hzad2⟩ (bU_ rfl had2) I_ (fun v _ h => ⟨h.1, trivial⟩)
  ·
   replace hr2 := of_decide_eq_true hr2
   have hlx2 : j < List.length l := by omega
   obtain ⟨x2, hx2⟩ : ∃ e0, l[j]? = some e0 := ⟨_, List.getElem?_eq_getElem hlx2⟩
   have hmx2 : x2 ∈ l := List.mem_of_getElem? hx2
   refine t_ rfl (z_ (b_ rfl (h_ (R_ (h_ (c_ (a_ (d_ rfl) rfl (a_ (d_ rfl) rfl (a_ (aa_ G_ B_ rfl rfl (fun v _ h => ay_ (n := 6) Fc.cells_len (by decide) (by exact h.2.1) hx2) (by omega) (by first | omega | (simp; done))) rfl ?_)))))))))
   refine a_ (aU_ (ad := lad) (us := Fc.cells x2) ai_ B_ rfl (fun v _ h => by exact h.2.1) (Fc.cells_len _) (ad_ Fc.cells_len hx2)) rfl (ao_ ak_ rfl fun b3 => ?_)
   refine Q_ 0 B_ rfl rfl rfl rfl rfl rfl (e_ (b_ rfl (h_ (h_ (c_ (a_ (l_ o_ rfl rfl rfl L_) rfl (a_ (u_ 0 P_ rfl rfl rfl) rfl (x_ (bN_ rfl rfl) rfl fun r3 hr3 => ?_))))))))
   refine a_ (d_ rfl) rfl ?_
   refine aT_ 6 (((Fc.kind x2) != 2) || ((Fc.b x2) != (Fc.a f))) (fun r => [(0, .slice pad (List.length p) pcap), (1, .slice lad (List.length l) lcap), (5, zp_ b1 0), (6, .slice none 0 0), (7, sv_Rfc), (8, .int .i64 (i : Int)), (10, .int .i64 (j : Int)), (11, zp_ b3 0), (150, .bool r)]) ?_ fun r4 hr4 => ?_
   ·
    cases r3
    ·
     have qr4 := hr3
     replace hr3 := bb_ hr3
     refine p_ rfl rfl (a_ (l_ o_ rfl rfl rfl j_) rfl (p_ rfl rfl (a_ (u_ 0 q_ rfl rfl rfl) rfl (p_ rfl rfl (a_ (l_ o_ rfl rfl rfl j_) rfl (p_ rfl rfl (a_ (u_ 1 q_ rfl rfl rfl) rfl (p_ rfl rfl (x_ (dL_ rfl rfl) rfl fun r5 hr5 => ?_)))))))))
     refine a_ (C_ rfl rfl) rfl (e_ (w_ rfl ?_))
     exact met ⟨rfl, rfl, rfl, rfl, rfl, rfl, rfl, rfl, (y_ rfl (jof qr4 hr5)), trivial⟩
    ·
     have qr4 := hr3
     replace hr3 := ba_ hr3
     refine r_ rfl rfl rfl rfl (r_ rfl rfl rfl rfl (r_ rfl rfl rfl rfl (r_ rfl rfl rfl rfl (r_ rfl rfl rfl rfl (a_ (H_ rfl rfl) rfl (e_ (w_ rfl ?_)))))))
     exact met ⟨rfl, rfl, rfl, rfl, rfl, rfl, rfl, rfl, (y_ rfl (jot qr4)), trivial⟩
   ·
    refine e_ (b_ rfl ?_)
    cases r4
    ·
     simp at hr4
     refine v_ rfl (z_ (b_ rfl (h_ (h_ (c_ (a_ (l_ o_ rfl rfl rfl j_) rfl (a_ (u_ 1 q_ rfl rfl rfl) rfl (x_ (aq_ rfl rfl) rfl fun r6 hr6 => ?_))))))))
     refine e_ (b_ rfl ?_)
     cases r6
     ·
      replace hr6 := ne_of_beq_false hr6
      refine v_ rfl (z_ (b_ rfl (h_ (c_ (a_ (g_ rfl) rfl (e_ (b_ rfl (R_ ?_))))))))
      have hw3 : aQ_ 41 6 sv_Rfc (List.length ((List.flatMap (cu_ l f) p ++ List.flatMap (subB p f) (List.take j l)) ++ List.flatMap (cL_ f x2) (List.take 0 p))) (List.flatMap Fc.cells ((List.flatMap (cu_ l f) p ++ List.flatMap (subB p f) (List.take j l)) ++ List.flatMap (cL_ f x2) (List.take 0 p))) H_Rfc := by have q := hr_Rfc; simpa only [List.take_zero, List.flatMap_nil, List.append_nil, List.length_nil] using q
      refine aL_ (ι := {y : Nat × Value × Hp // y.1 ≤ List.length p ∧ aQ_ 41 6 y.2.1 (List.length ((List.flatMap (cu_ l f) p ++ List.flatMap (subB p f) (List.take j l)) ++ List.flatMap (cL_ f x2) (List.take y.1 p))) (List.flatMap Fc.cells ((List.flatMap (cu_ l f) p ++ List.flatMap (subB p f) (List.take j l)) ++ List.flatMap (cL_ f x2) (List.take y.1 p))) y.2.2}) (fun y => [(0, .slice pad (List.length p) pcap), (1, .slice lad (List.length l) lcap), (5, zp_ b1 0), (6, .slice none 0 0), (7, y.1.2.1), (8, .int .i64 (i : Int)), (10, .int .i64 (j : Int)), (11, zp_ b3 0), (12, .int .i64 (y.1.1 : Int))]) (fun y => ((b3, .cells (Fc.cells x2).toArray 41 (0, 0)) :: ((b1, .cells (Fc.cells f).toArray 41 (0, 0)) :: y.1.2.2))) (fun y => [az_ pad (List.flatMap Pc.cells p), az_ lad (List.flatMap Fc.cells l)]) (fun y => List.length p - y.1.1) ⟨((0 : Nat), sv_Rfc, H_Rfc), by simp, hw3⟩ ⟨rfl, rfl, rfl, rfl, rfl, rfl, rfl, rfl, rfl, trivial⟩ (m_ i_ (m_ i_ aD_)) (fun _ _ h => h) ?_
      rintro ⟨⟨k, sv_Rfc, H_Rfc⟩, hi_k, hr_Rfc⟩
      dsimp only at hi_k hr_Rfc ⊢
      have hb3 := dG_ (g := cL_ f x2) (n := 1) (List.take k p) (fun x _ => hK_ f x2 x)
      rw [List.length_take] at hb3
      refine h_ (h_ (c_ (a_ (d_ rfl) rfl (a_ (d_ rfl) rfl (a_ (am_ A_ rfl) rfl (x_ (av_ rfl rfl) rfl fun r7 hr7 => ?_))))))
      refine e_ (b_ rfl ?_)
      cases r7
      ·
       replace hr7 := of_decide_eq_false hr7
       rw [show List.take k p = p from List.take_of_length_le (by omega)] at hr_Rfc
       refine v_ rfl (au_ rfl (b_ rfl (c_ (a_ (d_ rfl) rfl (a_ (M_ rfl rfl rfl (af_ (by omega) (by omega))) rfl (a_ (g_ rfl) rfl (e_ (w_ rfl ?_))))))))
       exact Z_ ⟨(j + 1, sv_Rfc, H_Rfc), hlx2, (by have q := hr_Rfc; rw [br_ hx2, show (subB p f) x2 = List.flatMap (cL_ f x2) p from (by rw [im_, if_neg (by first | assumption | simpa using hr4), if_neg (by assumption)]; rfl)]; simpa only [List.append_assoc, List.append_nil] using q)⟩ (by dsimp only; omega) ⟨rfl, rfl, rfl, rfl, rfl, rfl, rfl, trivial⟩ (m_ (f_ i_) S_) (fun _ _ h => h)
      ·
       replace hr7 := of_decide_eq_true hr7
       have hlx3 : k < List.length p := by omega
       obtain ⟨x3, hx3⟩ : ∃ e0, p[k]? = some e0 := ⟨_, List.getElem?_eq_getElem hlx3⟩
       have hmx3 : x3 ∈ p := List.mem_of_getElem? hx3
       refine t_ rfl (z_ (b_ rfl (h_ (R_ (h_ ?_)))))
       refine aS_ (by kernel_rfl) ?_
       refine ah_ 19 [0, 1, 2, 3, 4, 5, 6] (by kernel_rfl) (fun _ a b => ⟨a, b⟩) (n_ rfl (d_ rfl) rfl (n_ rfl (d_ rfl) rfl (n_ rfl (aa_ A_ K_ rfl rfl (fun v _ h => ay_ (n := 10) Pc.cells_len (by decide) (by exact h.1) hx3) (by omega) (by first | omega | (simp; done))) rfl (n_ rfl (bV_ k_ rfl rfl rfl L_) rfl (n_ rfl (aN_ (ad := pad) P_ rfl (fun v _ h => by exact h.1) (ad_ Pc.cells_len hx3 0 _ rfl)) rfl ?_)))))
       refine cl_ rfl (aM_ rfl rfl) rfl fun r8 hr8 => ?_
       refine n_ rfl (d_ rfl) rfl (ag_ ?_)
       cases r8
       ·
        replace hr8 := ne_of_beq_false hr8
        refine ah_ 0 [7, 8, 9, 10, 11, 12, 13, 14, 15, 16, 17, 18, 19, 20, 21, 22, 23, 24, 25] (by kernel_rfl) (fun _ a b => ⟨a, b⟩) (aE_ rfl rfl rfl rfl rfl (aE_ rfl rfl rfl rfl rfl (aE_ rfl rfl rfl rfl rfl (aE_ rfl rfl rfl rfl rfl (aE_ rfl rfl rfl rfl rfl (aE_ rfl rfl rfl rfl rfl (aE_ rfl rfl rfl rfl rfl (aE_ rfl rfl rfl rfl rfl (n_ rfl (C_ rfl rfl) rfl ?_)))))))))
        refine n_ rfl (d_ rfl) rfl (aE_ rfl rfl rfl rfl rfl (aE_ rfl rfl rfl rfl rfl (aE_ rfl rfl rfl rfl rfl (aE_ rfl rfl rfl rfl rfl (aE_ rfl rfl rfl rfl rfl (aE_ rfl rfl rfl rfl rfl (aE_ rfl rfl rfl rfl rfl (aE_ rfl rfl rfl rfl rfl (n_ rfl (C_ rfl rfl) rfl ?_)))))))))
        refine ag_ (ac_ (by kernel_rfl) (b_ rfl (v_ rfl (z_ (b_ rfl (c_ (a_ (d_ rfl) rfl (a_ (M_ rfl rfl rfl (af_ (by omega) (by omega))) rfl (a_ (g_ rfl) rfl ?_)))))))))
        refine e_ (w_ rfl ?_)
        exact Z_ ⟨(k + 1, sv_Rfc, H_Rfc), hlx3, (by have q := hr_Rfc; rw [br_ hx3, show (cL_ f x2) x3 = [] from (by unfold cL_; rw [if_neg (fun q => by first | exact absurd q.1 (by assumption) | exact absurd q.2.1 (by assumption) | exact absurd q.2.2 (by assumption))])]; simpa only [List.append_assoc, List.append_nil] using q)⟩ (by dsimp only; omega) ⟨rfl, rfl, rfl, rfl, rfl, rfl, rfl, rfl, rfl, trivial⟩ (m_ i_ (m_ i_ aD_)) (fun _ _ h => h)
       ·
        replace hr8 := eq_of_beq hr8
        refine ah_ 9 [7, 8, 9, 10, 11, 12, 13, 14, 15, 16] (by kernel_rfl) (fun _ a b => ⟨a, b⟩) (aC_ rfl rfl rfl (d_ rfl) rfl (aC_ rfl rfl rfl (d_ rfl) rfl (aC_ rfl rfl rfl (aa_ A_ K_ rfl rfl (fun v _ h => ay_ (n := 10) Pc.cells_len (by decide) (by exact h.1) hx3) (by omega) (by first | omega | (simp; done))) rfl (aC_ rfl rfl rfl (bV_ k_ rfl rfl rfl j_) rfl (aC_ rfl rfl rfl (aN_ (ad := pad) q_ rfl (fun v _ h => by exact h.1) (ad_ Pc.cells_len hx3 4 _ rfl)) rfl (aC_ rfl rfl rfl (l_ o_ rfl rfl rfl j_) rfl (aC_ rfl rfl rfl (u_ 0 q_ rfl rfl rfl) rfl ?_)))))))
        refine dB_ rfl rfl rfl (aq_ rfl rfl) rfl fun r9 hr9 => ?_
        refine n_ rfl (H_ rfl rfl) rfl (n_ rfl (d_ rfl) rfl (ag_ ?_))
        cases r9
        ·
         replace hr9 := ne_of_beq_false hr9
         refine ah_ 0 [17, 18, 19, 20, 21, 22, 23, 24, 25] (by kernel_rfl) (fun _ a b => ⟨a, b⟩) (aE_ rfl rfl rfl rfl rfl (aE_ rfl rfl rfl rfl rfl (aE_ rfl rfl rfl rfl rfl (aE_ rfl rfl rfl rfl rfl (aE_ rfl rfl rfl rfl rfl (aE_ rfl rfl rfl rfl rfl (aE_ rfl rfl rfl rfl rfl (aE_ rfl rfl rfl rfl rfl (n_ rfl (C_ rfl rfl) rfl ?_)))))))))
         refine ag_ (ac_ (by kernel_rfl) (b_ rfl (v_ rfl (z_ (b_ rfl (c_ (a_ (d_ rfl) rfl (a_ (M_ rfl rfl rfl (af_ (by omega) (by omega))) rfl (a_ (g_ rfl) rfl ?_)))))))))
         refine e_ (w_ rfl ?_)
         exact Z_ ⟨(k + 1, sv_Rfc, H_Rfc), hlx3, (by have q := hr_Rfc; rw [br_ hx3, show (cL_ f x2) x3 = [] from (by unfold cL_; rw [if_neg (fun q => by first | exact absurd q.1 (by assumption) | exact absurd q.2.1 (by assumption) | exact absurd q.2.2 (by assumption))])]; simpa only [List.append_assoc, List.append_nil] using q)⟩ (by dsimp only; omega) ⟨rfl, rfl, rfl, rfl, rfl, rfl, rfl, rfl, rfl, trivial⟩ (m_ i_ (m_ i_ aD_)) (fun _ _ h => h)
        ·
         replace hr9 := eq_of_beq hr9
         refine ah_ 0 [17, 18, 19, 20, 21, 22, 23, 24, 25] (by kernel_rfl) (fun _ a b => ⟨a, b⟩) (aC_ rfl rfl rfl (d_ rfl) rfl (aC_ rfl rfl rfl (d_ rfl) rfl (aC_ rfl rfl rfl (aa_ A_ K_ rfl rfl (fun v _ h => ay_ (n := 10) Pc.cells_len (by decide) (by exact h.1) hx3) (by omega) (by first | omega | (simp; done))) rfl (aC_ rfl rfl rfl (bV_ k_ rfl rfl rfl j_) rfl (aC_ rfl rfl rfl (aN_ (ad := pad) q_ rfl (fun v _ h => by exact h.1) (ad_ Pc.cells_len hx3 1 _ rfl)) rfl (aC_ rfl rfl rfl (l_ o_ rfl rfl rfl j_) rfl (aC_ rfl rfl rfl (u_ 1 q_ rfl rfl rfl) rfl ?_)))))))
         refine dB_ rfl rfl rfl (aq_ rfl rfl) rfl fun r10 hr10 => ?_
         refine n_ rfl (H_ rfl rfl) rfl (ag_ (ac_ (by kernel_rfl) (b_ rfl ?_)))
         cases r10
         ·
          replace hr10 := ne_of_beq_false hr10
          refine v_ rfl (z_ (b_ rfl (c_ (a_ (d_ rfl) rfl (a_ (M_ rfl rfl rfl (af_ (by omega) (by omega))) rfl (a_ (g_ rfl) rfl (e_ (w_ rfl ?_))))))))
          exact Z_ ⟨(k + 1, sv_Rfc, H_Rfc), hlx3, (by have q := hr_Rfc; rw [br_ hx3, show (cL_ f x2) x3 = [] from (by unfold cL_; rw [if_neg (fun q => by first | exact absurd q.1 (by assumption) | exact absurd q.2.1 (by assumption) | exact absurd q.2.2 (by assumption))])]; simpa only [List.append_assoc, List.append_nil] using q)⟩ (by dsimp only; omega) ⟨rfl, rfl, rfl, rfl, rfl, rfl, rfl, rfl, rfl, trivial⟩ (m_ i_ (m_ i_ aD_)) (fun _ _ h => h)
         ·
          replace hr10 := eq_of_beq hr10
          refine t_ rfl ?_
          refine aR_ ((b3, .cells (Fc.cells x2).toArray 41 (0, 0)) :: ((b1, .cells (Fc.cells f).toArray 41 (0, 0)) :: [])) (by kernel_rfl) ?_
          refine ah_ 4 [0, 1, 2, 3, 4, 5, 6, 7] (by kernel_rfl) (fun _ a b => ⟨Vw.sat.sub (a.perm (m_ i_ i_)), b⟩) (n_ rfl (d_ rfl) rfl (n_ rfl (l_ o_ rfl rfl rfl j_) rfl (n_ rfl (u_ 0 q_ rfl rfl rfl) rfl (n_ rfl (d_ rfl) rfl (n_ rfl (d_ rfl) rfl (n_ rfl (aa_ A_ K_ rfl rfl (fun v _ h => ay_ (n := 10) Pc.cells_len (by decide) (by exact h.1) hx3) (by omega) (by first | omega | (simp; done))) rfl (n_ rfl (bV_ k_ rfl rfl rfl j_) rfl (n_ rfl (aN_ (ad := pad) q_ rfl (fun v _ h => by exact h.1) (ad_ Pc.cells_len hx3 3 _ rfl)) rfl (ag_ ?_)))))))))
          refine X_ 8 rfl (by kernel_rfl) (W_ (dS_ (Fc.a x2) (Pc.c x3)) rfl I_ (fun _ _ _ => by exact trivial) rfl fun _ => ?_)
          refine e_ (w_ rfl (N_ (fun _ a b => ⟨Vw.sat.sub (a.perm (m_ i_ i_)), b⟩) (X_ 9 rfl (by kernel_rfl) (aJ_ G_ B_ ak_ rfl rfl rfl rfl rfl rfl fun b4 => ?_))))
          refine bz_ (List.flatMap Fc.cells [(an_ (Fc.a x2) (Pc.c x3))]) i_ rfl ?_
          refine e_ (w_ rfl (N_ (fun _ a b => ⟨Vw.sat.sub (a.perm (m_ i_ i_)), b.2⟩) (X_ 10 rfl (by kernel_rfl) (aI_ (news := List.flatMap Fc.cells [(an_ (Fc.a x2) (Pc.c x3))]) ca_ hr_Rfc rfl rfl (fun q => by cases q) (by simp) (f_ S_) (by rw [bp_ Fc.cells 6 Fc.cells_len]; rfl) (fun v _ h => by exact h.1) (fun u hu => aK_ Fc.cells_one hu) (by simp only [maxLen]; ((try simp only [List.length_append, List.length_cons, List.length_nil]); omega)) (by ((try simp only [List.length_append, List.length_cons, List.length_nil]); omega)) rfl fun sv4 Hr4 hr4 => ?_))))
          refine aj_ List.perm_append_comm ?_
          have hq4 : aQ_ 41 6 sv4 (List.length (((List.flatMap (cu_ l f) p ++ List.flatMap (subB p f) (List.take j l)) ++ List.flatMap (cL_ f x2) (List.take k p)) ++ [(an_ (Fc.a x2) (Pc.c x3))])) (List.flatMap Fc.cells (((List.flatMap (cu_ l f) p ++ List.flatMap (subB p f) (List.take j l)) ++ List.flatMap (cL_ f x2) (List.take k p)) ++ [(an_ (Fc.a x2) (Pc.c x3))])) Hr4 := by rw [List.length_append, List.flatMap_append]; exact hr4
          refine e_ (w_ rfl (N_ (fun _ a b => ⟨Vw.sat.sub (a.perm (m_ i_ i_)), b.2⟩) (ah_ 0 [11] (by kernel_rfl) (fun _ a b => ⟨Vw.sat.sub (a.perm (m_ i_ i_)), b.2⟩) (n_ rfl (g_ rfl) rfl (ag_ (ac_ (by kernel_rfl) (b_ rfl (c_ (a_ (d_ rfl) rfl ?_)))))))))
          refine a_ (M_ rfl rfl rfl (af_ (by omega) (by omega))) rfl (a_ (g_ rfl) rfl (e_ (w_ rfl ?_)))
          exact Z_ ⟨(k + 1, sv4, Hr4), hlx3, (by have q := hq4; rw [br_ hx3, show (cL_ f x2) x3 = [(an_ (Fc.a x2) (Pc.c x3))] from (by unfold cL_; rw [if_pos ⟨by assumption, by assumption, by assumption⟩])]; simpa only [List.append_assoc, List.append_nil] using q)⟩ (by dsimp only; omega) ⟨rfl, rfl, rfl, rfl, rfl, rfl, rfl, rfl, rfl, trivial⟩ (m_ i_ (m_ i_ aD_)) (fun _ _ h => h.2)
     ·
      replace hr6 := eq_of_beq hr6
      refine t_ rfl (c_ (a_ (d_ rfl) rfl (a_ (l_ o_ rfl rfl rfl j_) rfl (a_ (u_ 0 q_ rfl rfl rfl) rfl (W_ (dS_ (Fc.a x2) [33]) rfl I_ (fun _ _ _ => by exact trivial) rfl fun _ => ?_)))))
      refine aJ_ G_ B_ ak_ rfl rfl rfl rfl rfl rfl fun b5 => ?_
      refine bz_ (List.flatMap Fc.cells [(an_ (Fc.a x2) [33])]) i_ rfl ?_
      refine aI_ (news := List.flatMap Fc.cells [(an_ (Fc.a x2) [33])]) ca_ hr_Rfc rfl rfl (fun q => by cases q) (by simp) (f_ S_) (by rw [bp_ Fc.cells 6 Fc.cells_len]; rfl) (fun v _ h => by exact h.1) (fun u hu => aK_ Fc.cells_one hu) (by simp only [maxLen]; ((try simp only [List.length_append, List.length_cons, List.length_nil]); omega)) (by ((try simp only [List.length_append, List.length_cons, List.length_nil]); omega)) rfl fun sv5 Hr5 hr5 => ?_
      refine aj_ List.perm_append_comm ?_
      have hq5 : aQ_ 41 6 sv5 (List.length ((List.flatMap (cu_ l f) p ++ List.flatMap (subB p f) (List.take j l)) ++ [(an_ (Fc.a x2) [33])])) (List.flatMap Fc.cells ((List.flatMap (cu_ l f) p ++ List.flatMap (subB p f) (List.take j l)) ++ [(an_ (Fc.a x2) [33])])) Hr5 := by rw [List.length_append, List.flatMap_append]; exact hr5
      refine a_ (g_ rfl) rfl (e_ (b_ rfl (h_ (c_ (a_ (g_ rfl) rfl (e_ (b_ rfl (R_ ?_))))))))
      have hw6 : aQ_ 41 6 sv5 (List.length (((List.flatMap (cu_ l f) p ++ List.flatMap (subB p f) (List.take j l)) ++ [(an_ (Fc.a x2) [33])]) ++ List.flatMap (cL_ f x2) (List.take 0 p))) (List.flatMap Fc.cells (((List.flatMap (cu_ l f) p ++ List.flatMap (subB p f) (List.take j l)) ++ [(an_ (Fc.a x2) [33])]) ++ List.flatMap (cL_ f x2) (List.take 0 p))) Hr5 := by have q := hq5; simpa only [List.take_zero, List.flatMap_nil, List.append_nil, List.length_nil] using q
      refine aL_ (ι := {y : Nat × Value × Hp // y.1 ≤ List.length p ∧ aQ_ 41 6 y.2.1 (List.length (((List.flatMap (cu_ l f) p ++ List.flatMap (subB p f) (List.take j l)) ++ [(an_ (Fc.a x2) [33])]) ++ List.flatMap (cL_ f x2) (List.take y.1 p))) (List.flatMap Fc.cells (((List.flatMap (cu_ l f) p ++ List.flatMap (subB p f) (List.take j l)) ++ [(an_ (Fc.a x2) [33])]) ++ List.flatMap (cL_ f x2) (List.take y.1 p))) y.2.2}) (fun y => [(0, .slice pad (List.length p) pcap), (1, .slice lad (List.length l) lcap), (5, zp_ b1 0), (6, .slice none 0 0), (7, y.1.2.1), (8, .int .i64 (i : Int)), (10, .int .i64 (j : Int)), (11, zp_ b3 0), (12, .int .i64 (y.1.1 : Int))]) (fun y => ((b3, .cells (Fc.cells x2).toArray 41 (0, 0)) :: ((b1, .cells (Fc.cells f).toArray 41 (0, 0)) :: y.1.2.2))) (fun y => [az_ (some ⟨b5, 0, none⟩) (List.flatMap Fc.cells [(an_ (Fc.a x2) [33])]), az_ pad (List.flatMap Pc.cells p), az_ lad (List.flatMap Fc.cells l)]) (fun y => List.length p - y.1.1) ⟨((0 : Nat), sv5, Hr5), by simp, hw6⟩ ⟨rfl, rfl, rfl, rfl, rfl, rfl, rfl, rfl, rfl, trivial⟩ (m_ i_ (m_ i_ aD_)) (fun _ _ h => h) ?_
      rintro ⟨⟨k, sv_Rfc, H_Rfc⟩, hi_k, hr_Rfc⟩
      dsimp only at hi_k hr_Rfc ⊢
      have hb3 := dG_ (g := cL_ f x2) (n := 1) (List.take k p) (fun x _ => hK_ f x2 x)
      rw [List.length_take] at hb3
      refine h_ (h_ (c_ (a_ (d_ rfl) rfl (a_ (d_ rfl) rfl (a_ (am_ A_ rfl) rfl (x_ (av_ rfl rfl) rfl fun r11 hr11 => ?_))))))
      refine e_ (b_ rfl ?_)
      cases r11
      ·
       replace hr11 := of_decide_eq_false hr11
       rw [show List.take k p = p from List.take_of_length_le (by omega)] at hr_Rfc
       refine v_ rfl (au_ rfl (b_ rfl (c_ (a_ (d_ rfl) rfl (a_ (M_ rfl rfl rfl (af_ (by omega) (by omega))) rfl (a_ (g_ rfl) rfl (e_ (w_ rfl ?_))))))))
       exact Z_ ⟨(j + 1, sv_Rfc, H_Rfc), hlx2, (by have q := hr_Rfc; rw [br_ hx2, show (subB p f) x2 = [(an_ (Fc.a x2) [33])] ++ List.flatMap (cL_ f x2) p from (by rw [im_, if_neg (by first | assumption | simpa using hr4), if_pos (by assumption)])]; simpa only [List.append_assoc, List.append_nil] using q)⟩ (by dsimp only; omega) ⟨rfl, rfl, rfl, rfl, rfl, rfl, rfl, trivial⟩ (m_ (f_ i_) S_) (fun _ _ h => h.2)
      ·
       replace hr11 := of_decide_eq_true hr11
       have hlx3 : k < List.length p := by omega
       obtain ⟨x3, hx3⟩ : ∃ e0, p[k]? = some e0 := ⟨_, List.getElem?_eq_getElem hlx3⟩
       have hmx3 : x3 ∈ p := List.mem_of_getElem? hx3
       refine t_ rfl (z_ (b_ rfl (h_ (R_ (h_ ?_)))))
       refine aS_ (by kernel_rfl) ?_
       refine ah_ 19 [0, 1, 2, 3, 4, 5, 6] (by kernel_rfl) (fun _ a b => ⟨a, b⟩) (n_ rfl (d_ rfl) rfl (n_ rfl (d_ rfl) rfl (n_ rfl (aa_ A_ K_ rfl rfl (fun v _ h => ay_ (n := 10) Pc.cells_len (by decide) (by exact h.2.1) hx3) (by omega) (by first | omega | (simp; done))) rfl (n_ rfl (bV_ k_ rfl rfl rfl L_) rfl (n_ rfl (aN_ (ad := pad) P_ rfl (fun v _ h => by exact h.2.1) (ad_ Pc.cells_len hx3 0 _ rfl)) rfl ?_)))))
       refine cl_ rfl (aM_ rfl rfl) rfl fun r12 hr12 => ?_
       refine n_ rfl (d_ rfl) rfl (ag_ ?_)
       cases r12
       ·
        replace hr12 := ne_of_beq_false hr12
        refine ah_ 0 [7, 8, 9, 10, 11, 12, 13, 14, 15, 16, 17, 18, 19, 20, 21, 22, 23, 24, 25] (by kernel_rfl) (fun _ a b => ⟨a, b⟩) (aE_ rfl rfl rfl rfl rfl (aE_ rfl rfl rfl rfl rfl (aE_ rfl rfl rfl rfl rfl (aE_ rfl rfl rfl rfl rfl (aE_ rfl rfl rfl rfl rfl (aE_ rfl rfl rfl rfl rfl (aE_ rfl rfl rfl rfl rfl (aE_ rfl rfl rfl rfl rfl (n_ rfl (C_ rfl rfl) rfl ?_)))))))))
        refine n_ rfl (d_ rfl) rfl (aE_ rfl rfl rfl rfl rfl (aE_ rfl rfl rfl rfl rfl (aE_ rfl rfl rfl rfl rfl (aE_ rfl rfl rfl rfl rfl (aE_ rfl rfl rfl rfl rfl (aE_ rfl rfl rfl rfl rfl (aE_ rfl rfl rfl rfl rfl (aE_ rfl rfl rfl rfl rfl (n_ rfl (C_ rfl rfl) rfl ?_)))))))))
        refine ag_ (ac_ (by kernel_rfl) (b_ rfl (v_ rfl (z_ (b_ rfl (c_ (a_ (d_ rfl) rfl (a_ (M_ rfl rfl rfl (af_ (by omega) (by omega))) rfl (a_ (g_ rfl) rfl ?_)))))))))
        refine e_ (w_ rfl ?_)
        exact Z_ ⟨(k + 1, sv_Rfc, H_Rfc), hlx3, (by have q := hr_Rfc; rw [br_ hx3, show (cL_ f x2) x3 = [] from (by unfold cL_; rw [if_neg (fun q => by first | exact absurd q.1 (by assumption) | exact absurd q.2.1 (by assumption) | exact absurd q.2.2 (by assumption))])]; simpa only [List.append_assoc, List.append_nil] using q)⟩ (by dsimp only; omega) ⟨rfl, rfl, rfl, rfl, rfl, rfl, rfl, rfl, rfl, trivial⟩ (m_ i_ (m_ i_ aD_)) (fun _ _ h => h)
       ·
        replace hr12 := eq_of_beq hr12
        refine ah_ 9 [7, 8, 9, 10, 11, 12, 13, 14, 15, 16] (by kernel_rfl) (fun _ a b => ⟨a, b⟩) (aC_ rfl rfl rfl (d_ rfl) rfl (aC_ rfl rfl rfl (d_ rfl) rfl (aC_ rfl rfl rfl (aa_ A_ K_ rfl rfl (fun v _ h => ay_ (n := 10) Pc.cells_len (by decide) (by exact h.2.1) hx3) (by omega) (by first | omega | (simp; done))) rfl (aC_ rfl rfl rfl (bV_ k_ rfl rfl rfl j_) rfl (aC_ rfl rfl rfl (aN_ (ad := pad) q_ rfl (fun v _ h => by exact h.2.1) (ad_ Pc.cells_len hx3 4 _ rfl)) rfl (aC_ rfl rfl rfl (l_ o_ rfl rfl rfl j_) rfl (aC_ rfl rfl rfl (u_ 0 q_ rfl rfl rfl) rfl ?_)))))))
        refine dB_ rfl rfl rfl (aq_ rfl rfl) rfl fun r13 hr13 => ?_
        refine n_ rfl (H_ rfl rfl) rfl (n_ rfl (d_ rfl) rfl (ag_ ?_))
        cases r13
        ·
         replace hr13 := ne_of_beq_false hr13
         refine ah_ 0 [17, 18, 19, 20, 21, 22, 23, 24, 25] (by kernel_rfl) (fun _ a b => ⟨a, b⟩) (aE_ rfl rfl rfl rfl rfl (aE_ rfl rfl rfl rfl rfl (aE_ rfl rfl rfl rfl rfl (aE_ rfl rfl rfl rfl rfl (aE_ rfl rfl rfl rfl rfl (aE_ rfl rfl rfl rfl rfl (aE_ rfl rfl rfl rfl rfl (aE_ rfl rfl rfl rfl rfl (n_ rfl (C_ rfl rfl) rfl ?_)))))))))
         refine ag_ (ac_ (by kernel_rfl) (b_ rfl (v_ rfl (z_ (b_ rfl (c_ (a_ (d_ rfl) rfl (a_ (M_ rfl rfl rfl (af_ (by omega) (by omega))) rfl (a_ (g_ rfl) rfl ?_)))))))))
         refine e_ (w_ rfl ?_)
         exact Z_ ⟨(k + 1, sv_Rfc, H_Rfc), hlx3, (by have q := hr_Rfc; rw [br_ hx3, show (cL_ f x2) x3 = [] from (by unfold cL_; rw [if_neg (fun q => by first | exact absurd q.1 (by assumption) | exact absurd q.2.1 (by assumption) | exact absurd q.2.2 (by assumption))])]; simpa only [List.append_assoc, List.append_nil] using q)⟩ (by dsimp only; omega) ⟨rfl, rfl, rfl, rfl, rfl, rfl, rfl, rfl, rfl, trivial⟩ (m_ i_ (m_ i_ aD_)) (fun _ _ h => h)
        ·
         replace hr13 := eq_of_beq hr13
         refine ah_ 0 [17, 18, 19, 20, 21, 22, 23, 24, 25] (by kernel_rfl) (fun _ a b => ⟨a, b⟩) (aC_ rfl rfl rfl (d_ rfl) rfl (aC_ rfl rfl rfl (d_ rfl) rfl (aC_ rfl rfl rfl (aa_ A_ K_ rfl rfl (fun v _ h => ay_ (n := 10) Pc.cells_len (by decide) (by exact h.2.1) hx3) (by omega) (by first | omega | (simp; done))) rfl (aC_ rfl rfl rfl (bV_ k_ rfl rfl rfl j_) rfl (aC_ rfl rfl rfl (aN_ (ad := pad) q_ rfl (fun v _ h => by exact h.2.1) (ad_ Pc.cells_len hx3 1 _ rfl)) rfl (aC_ rfl rfl rfl (l_ o_ rfl rfl rfl j_) rfl (aC_ rfl rfl rfl (u_ 1 q_ rfl rfl rfl) rfl ?_)))))))
         refine dB_ rfl rfl rfl (aq_ rfl rfl) rfl fun r14 hr14 => ?_
         refine n_ rfl (H_ rfl rfl) rfl (ag_ (ac_ (by kernel_rfl) (b_ rfl ?_)))
         cases r14
         ·
          replace hr14 := ne_of_beq_false hr14
          refine v_ rfl (z_ (b_ rfl (c_ (a_ (d_ rfl) rfl (a_ (M_ rfl rfl rfl (af_ (by omega) (by omega))) rfl (a_ (g_ rfl) rfl (e_ (w_ rfl ?_))))))))
          exact Z_ ⟨(k + 1, sv_Rfc, H_Rfc), hlx3, (by have q := hr_Rfc; rw [br_ hx3, show (cL_ f x2) x3 = [] from (by unfold cL_; rw [if_neg (fun q => by first | exact absurd q.1 (by assumption) | exact absurd q.2.1 (by assumption) | exact absurd q.2.2 (by assumption))])]; simpa only [List.append_assoc, List.append_nil] using q)⟩ (by dsimp only; omega) ⟨rfl, rfl, rfl, rfl, rfl, rfl, rfl, rfl, rfl, trivial⟩ (m_ i_ (m_ i_ aD_)) (fun _ _ h => h)
         ·
          replace hr14 := eq_of_beq hr14
          refine t_ rfl ?_
          refine aR_ ((b3, .cells (Fc.cells x2).toArray 41 (0, 0)) :: ((b1, .cells (Fc.cells f).toArray 41 (0, 0)) :: [])) (by kernel_rfl) ?_
          refine ah_ 4 [0, 1, 2, 3, 4, 5, 6, 7] (by kernel_rfl) (fun _ a b => ⟨Vw.sat.sub (a.perm (m_ i_ i_)), b⟩) (n_ rfl (d_ rfl) rfl (n_ rfl (l_ o_ rfl rfl rfl j_) rfl (n_ rfl (u_ 0 q_ rfl rfl rfl) rfl (n_ rfl (d_ rfl) rfl (n_ rfl (d_ rfl) rfl (n_ rfl (aa_ A_ K_ rfl rfl (fun v _ h => ay_ (n := 10) Pc.cells_len (by decide) (by exact h.2.1) hx3) (by omega) (by first | omega | (simp; done))) rfl (n_ rfl (bV_ k_ rfl rfl rfl j_) rfl (n_ rfl (aN_ (ad := pad) q_ rfl (fun v _ h => by exact h.2.1) (ad_ Pc.cells_len hx3 3 _ rfl)) rfl (ag_ ?_)))))))))
          refine X_ 8 rfl (by kernel_rfl) (W_ (dS_ (Fc.a x2) (Pc.c x3)) rfl I_ (fun _ _ _ => by exact trivial) rfl fun _ => ?_)
          refine e_ (w_ rfl (N_ (fun _ a b => ⟨Vw.sat.sub (a.perm (m_ i_ i_)), b⟩) (X_ 9 rfl (by kernel_rfl) (aJ_ G_ B_ ak_ rfl rfl rfl rfl rfl rfl fun b6 => ?_))))
          refine bz_ (List.flatMap Fc.cells [(an_ (Fc.a x2) (Pc.c x3))]) i_ rfl ?_
          refine e_ (w_ rfl (N_ (fun _ a b => ⟨Vw.sat.sub (a.perm (m_ i_ i_)), b.2⟩) (X_ 10 rfl (by kernel_rfl) (aI_ (news := List.flatMap Fc.cells [(an_ (Fc.a x2) (Pc.c x3))]) ca_ hr_Rfc rfl rfl (fun q => by cases q) (by simp) (f_ S_) (by rw [bp_ Fc.cells 6 Fc.cells_len]; rfl) (fun v _ h => by exact h.1) (fun u hu => aK_ Fc.cells_one hu) (by simp only [maxLen]; ((try simp only [List.length_append, List.length_cons, List.length_nil]); omega)) (by ((try simp only [List.length_append, List.length_cons, List.length_nil]); omega)) rfl fun sv7 Hr7 hr7 => ?_))))
          refine aj_ List.perm_append_comm ?_
          have hq7 : aQ_ 41 6 sv7 (List.length ((((List.flatMap (cu_ l f) p ++ List.flatMap (subB p f) (List.take j l)) ++ [(an_ (Fc.a x2) [33])]) ++ List.flatMap (cL_ f x2) (List.take k p)) ++ [(an_ (Fc.a x2) (Pc.c x3))])) (List.flatMap Fc.cells ((((List.flatMap (cu_ l f) p ++ List.flatMap (subB p f) (List.take j l)) ++ [(an_ (Fc.a x2) [33])]) ++ List.flatMap (cL_ f x2) (List.take k p)) ++ [(an_ (Fc.a x2) (Pc.c x3))])) Hr7 := by rw [List.length_append, List.flatMap_append]; exact hr7
          refine e_ (w_ rfl (N_ (fun _ a b => ⟨Vw.sat.sub (a.perm (m_ i_ i_)), b.2⟩) (ah_ 0 [11] (by kernel_rfl) (fun _ a b => ⟨Vw.sat.sub (a.perm (m_ i_ i_)), b.2⟩) (n_ rfl (g_ rfl) rfl (ag_ (ac_ (by kernel_rfl) (b_ rfl (c_ (a_ (d_ rfl) rfl ?_)))))))))
          refine a_ (M_ rfl rfl rfl (af_ (by omega) (by omega))) rfl (a_ (g_ rfl) rfl (e_ (w_ rfl ?_)))
          exact Z_ ⟨(k + 1, sv7, Hr7), hlx3, (by have q := hq7; rw [br_ hx3, show (cL_ f x2) x3 = [(an_ (Fc.a x2) (Pc.c x3))] from (by unfold cL_; rw [if_pos ⟨by assumption, by assumption, by assumption⟩])]; simpa only [List.append_assoc, List.append_nil] using q)⟩ (by dsimp only; omega) ⟨rfl, rfl, rfl, rfl, rfl, rfl, rfl, rfl, rfl, trivial⟩ (m_ i_ (m_ i_ aD_)) (fun _ _ h => h.2)
    ·
     simp at hr4
     refine t_ rfl (au_ rfl (b_ rfl (c_ (a_ (d_ rfl) rfl (a_ (M_ rfl rfl rfl (af_ (by omega) (by omega))) rfl (a_ (g_ rfl) rfl (e_ (w_ rfl ?_))))))))
     exact Z_ ⟨(j + 1, sv_Rfc, H_Rfc), hlx2, (by have q := hr_Rfc; rw [br_ hx2, show (subB p f) x2 = [] from (by rw [im_, if_pos (by first | assumption | simpa using hr4)])]; simpa only [List.append_assoc, List.append_nil] using q)⟩ (by dsimp only; omega) ⟨rfl, rfl, rfl, rfl, rfl, rfl, rfl, trivial⟩ (m_ (f_ i_) S_) (fun _ _ h => h)
 ·
  replace hr1 := of_decide_eq_true hr1
  have hlx1 : i < List.length p := by omega
  obtain ⟨x1, hx1⟩ : ∃ e0, p[i]? = some e0 := ⟨_, List.getElem?_eq_getElem hlx1⟩
  have hmx1 : x1 ∈ p := List.mem_of_getElem? hx1
  refine t_ rfl (z_ (b_ rfl (h_ (R_ (h_ (c_ (a_ (d_ rfl) rfl (a_ (d_ rfl) rfl (a_ (aa_ A_ K_ rfl rfl (fun v _ h => ay_ (n := 10) Pc.cells_len (by decide) (by exact h.1) hx1) (by omega) (by first | omega | (simp; done))) rfl ?_)))))))))
  refine a_ (aU_ (ad := pad) (us := Pc.cells x1) aG_ K_ rfl (fun v _ h => by exact h.1) (Pc.cells_len _) (ad_ Pc.cells_len hx1)) rfl (ao_ aX_ rfl fun b7 => ?_)
  refine Q_ 0 K_ rfl rfl rfl rfl rfl rfl (e_ (b_ rfl (R_ (h_ (c_ (a_ (l_ k_ rfl rfl rfl L_) rfl (a_ (u_ 0 P_ rfl rfl rfl) rfl (x_ (aM_ rfl rfl) rfl fun r15 hr15 => ?_))))))))
  refine a_ (d_ rfl) rfl ?_
  refine aT_ 6 (((Pc.kind x1) == 1) && ((Pc.a x1) == (Fc.b f))) (fun r => [(0, .slice pad (List.length p) pcap), (1, .slice lad (List.length l) lcap), (5, zp_ b1 0), (6, .slice none 0 0), (7, sv_Rfc), (8, .int .i64 (i : Int)), (9, zp_ b7 0), (34, .bool r)]) ?_ fun r16 hr16 => ?_
  ·
   cases r15
   ·
    have qr16 := hr15
    replace hr15 := ne_of_beq_false hr15
    refine r_ rfl rfl rfl rfl (r_ rfl rfl rfl rfl (r_ rfl rfl rfl rfl (r_ rfl rfl rfl rfl (r_ rfl rfl rfl rfl (a_ (C_ rfl rfl) rfl (e_ (w_ rfl ?_)))))))
    exact met ⟨rfl, rfl, rfl, rfl, rfl, rfl, rfl, (y_ rfl (jaf qr16)), trivial⟩
   ·
    have qr16 := hr15
    replace hr15 := eq_of_beq hr15
    refine p_ rfl rfl (a_ (l_ k_ rfl rfl rfl j_) rfl (p_ rfl rfl (a_ (u_ 0 q_ rfl rfl rfl) rfl (p_ rfl rfl (a_ (l_ o_ rfl rfl rfl j_) rfl (p_ rfl rfl (a_ (u_ 1 q_ rfl rfl rfl) rfl (p_ rfl rfl (x_ (aq_ rfl rfl) rfl fun r17 hr17 => ?_)))))))))
    refine a_ (H_ rfl rfl) rfl (e_ (w_ rfl ?_))
    exact met ⟨rfl, rfl, rfl, rfl, rfl, rfl, rfl, (y_ rfl (jat qr16 hr17)), trivial⟩
  ·
   refine a_ (g_ rfl) rfl (e_ (b_ rfl ?_))
   cases r16
   ·
    simp at hr16
    refine v_ rfl (h_ (c_ (a_ (l_ k_ rfl rfl rfl L_) rfl (a_ (u_ 0 P_ rfl rfl rfl) rfl (x_ (aM_ rfl rfl) rfl fun r18 hr18 => ?_)))))
    refine a_ (d_ rfl) rfl ?_
    refine aT_ 31 (((Pc.kind x1) == 2) && ((((((Pc.a x1) == (Fc.b f)) && (decide ((an_ (Fc.a f) (Pc.b x1)) ∈ l)))) || ((((Pc.b x1) == (Fc.b f)) && (decide ((an_ (Fc.a f) (Pc.a x1)) ∈ l))))))) (fun r => [(0, .slice pad (List.length p) pcap), (1, .slice lad (List.length l) lcap), (5, zp_ b1 0), (6, .slice none 0 0), (7, sv_Rfc), (8, .int .i64 (i : Int)), (9, zp_ b7 0), (78, .bool r)]) ?_ fun r19 hr19 => ?_
    ·
     cases r18
     ·
      have qr19 := hr18
      replace hr18 := ne_of_beq_false hr18
      refine r_ rfl rfl rfl rfl (r_ rfl rfl rfl rfl (r_ rfl rfl rfl rfl (r_ rfl rfl rfl rfl (r_ rfl rfl rfl rfl (r_ rfl rfl rfl rfl (r_ rfl rfl rfl rfl (r_ rfl rfl rfl rfl (r_ rfl rfl rfl rfl (r_ rfl rfl rfl rfl ?_)))))))))
      refine r_ rfl rfl rfl rfl (r_ rfl rfl rfl rfl (r_ rfl rfl rfl rfl (r_ rfl rfl rfl rfl (r_ rfl rfl rfl rfl (r_ rfl rfl rfl rfl (r_ rfl rfl rfl rfl (r_ rfl rfl rfl rfl (r_ rfl rfl rfl rfl (r_ rfl rfl rfl rfl ?_)))))))))
      refine r_ rfl rfl rfl rfl (r_ rfl rfl rfl rfl (r_ rfl rfl rfl rfl (r_ rfl rfl rfl rfl (r_ rfl rfl rfl rfl (r_ rfl rfl rfl rfl (r_ rfl rfl rfl rfl (r_ rfl rfl rfl rfl (r_ rfl rfl rfl rfl (r_ rfl rfl rfl rfl ?_)))))))))
      refine a_ (C_ rfl rfl) rfl (e_ (w_ rfl ?_))
      exact met ⟨rfl, rfl, rfl, rfl, rfl, rfl, rfl, (y_ rfl (jaf qr19)), trivial⟩
     ·
      have qr19 := hr18
      replace hr18 := eq_of_beq hr18
      refine p_ rfl rfl (a_ (l_ k_ rfl rfl rfl j_) rfl (p_ rfl rfl (a_ (u_ 0 q_ rfl rfl rfl) rfl (p_ rfl rfl (a_ (l_ o_ rfl rfl rfl j_) rfl (p_ rfl rfl (a_ (u_ 1 q_ rfl rfl rfl) rfl (p_ rfl rfl (x_ (aq_ rfl rfl) rfl fun r20 hr20 => ?_)))))))))
      refine p_ rfl rfl (a_ (d_ rfl) rfl ?_)
      refine aT_ 8 (((Pc.a x1) == (Fc.b f)) && (decide ((an_ (Fc.a f) (Pc.b x1)) ∈ l))) (fun r => [(0, .slice pad (List.length p) pcap), (1, .slice lad (List.length l) lcap), (5, zp_ b1 0), (6, .slice none 0 0), (7, sv_Rfc), (8, .int .i64 (i : Int)), (9, zp_ b7 0), (47, .bool true), (61, .bool r)]) ?_ fun r21 hr21 => ?_
      ·
       cases r20
       ·
        have qr21 := hr20
        replace hr20 := ne_of_beq_false hr20
        refine r_ rfl rfl rfl rfl (r_ rfl rfl rfl rfl (r_ rfl rfl rfl rfl (r_ rfl rfl rfl rfl (r_ rfl rfl rfl rfl (r_ rfl rfl rfl rfl (r_ rfl rfl rfl rfl (p_ rfl rfl (a_ (C_ rfl rfl) rfl (e_ ?_)))))))))
        refine w_ rfl ?_
        exact met ⟨rfl, rfl, rfl, rfl, rfl, rfl, rfl, rfl, (y_ rfl (jaf qr21)), trivial⟩
       ·
        have qr21 := hr20
        replace hr20 := eq_of_beq hr20
        refine p_ rfl rfl (a_ (d_ rfl) rfl (p_ rfl rfl (a_ (l_ o_ rfl rfl rfl j_) rfl (p_ rfl rfl (a_ (u_ 1 q_ rfl rfl rfl) rfl (p_ rfl rfl (a_ (l_ k_ rfl rfl rfl j_) rfl (p_ rfl rfl (a_ (u_ 0 q_ rfl rfl rfl) rfl ?_)))))))))
        refine p_ rfl rfl (W_ (dS_ (Fc.a f) (Pc.b x1)) rfl I_ (fun _ _ _ => by exact trivial) rfl fun _ => ?_)
        refine p_ rfl rfl (as_ (jj_ l lad lcap (an_ (Fc.a f) (Pc.b x1)) (by omega) hs) rfl I_ (fun v _ h => by exact ⟨h.2.1, trivial⟩) rfl fun r22 hr22 => ?_)
        refine p_ rfl rfl (a_ (H_ rfl rfl) rfl (e_ (w_ rfl ?_)))
        exact met ⟨rfl, rfl, rfl, rfl, rfl, rfl, rfl, rfl, (y_ rfl (jat qr21 hr22)), trivial⟩
      ·
       refine p_ rfl rfl (a_ (d_ rfl) rfl ?_)
       refine aT_ 15 (((((Pc.a x1) == (Fc.b f)) && (decide ((an_ (Fc.a f) (Pc.b x1)) ∈ l)))) || ((((Pc.b x1) == (Fc.b f)) && (decide ((an_ (Fc.a f) (Pc.a x1)) ∈ l))))) (fun r => [(0, .slice pad (List.length p) pcap), (1, .slice lad (List.length l) lcap), (5, zp_ b1 0), (6, .slice none 0 0), (7, sv_Rfc), (8, .int .i64 (i : Int)), (9, zp_ b7 0), (47, .bool true), (77, .bool r)]) ?_ fun r23 hr23 => ?_
       ·
        cases r21
        ·
         have qr23 := hr21
         simp at hr21
         refine p_ rfl rfl (a_ (l_ k_ rfl rfl rfl j_) rfl (p_ rfl rfl (a_ (u_ 0 q_ rfl rfl rfl) rfl (p_ rfl rfl (a_ (l_ o_ rfl rfl rfl j_) rfl (p_ rfl rfl (a_ (u_ 1 q_ rfl rfl rfl) rfl (p_ rfl rfl (x_ (aq_ rfl rfl) rfl fun r24 hr24 => ?_)))))))))
         refine p_ rfl rfl (a_ (d_ rfl) rfl ?_)
         refine aT_ 8 (((Pc.b x1) == (Fc.b f)) && (decide ((an_ (Fc.a f) (Pc.a x1)) ∈ l))) (fun r => [(0, .slice pad (List.length p) pcap), (1, .slice lad (List.length l) lcap), (5, zp_ b1 0), (6, .slice none 0 0), (7, sv_Rfc), (8, .int .i64 (i : Int)), (9, zp_ b7 0), (47, .bool true), (62, .bool false), (76, .bool r)]) ?_ fun r25 hr25 => ?_
         ·
          cases r24
          ·
           have qr25 := hr24
           replace hr24 := ne_of_beq_false hr24
           refine r_ rfl rfl rfl rfl (r_ rfl rfl rfl rfl (r_ rfl rfl rfl rfl (r_ rfl rfl rfl rfl (r_ rfl rfl rfl rfl (r_ rfl rfl rfl rfl (r_ rfl rfl rfl rfl (p_ rfl rfl (a_ (C_ rfl rfl) rfl (e_ ?_)))))))))
           refine w_ rfl ?_
           exact met ⟨rfl, rfl, rfl, rfl, rfl, rfl, rfl, rfl, rfl, (y_ rfl (jaf qr25)), trivial⟩
          ·
           have qr25 := hr24
           replace hr24 := eq_of_beq hr24
           refine p_ rfl rfl (a_ (d_ rfl) rfl (p_ rfl rfl (a_ (l_ o_ rfl rfl rfl j_) rfl (p_ rfl rfl (a_ (u_ 1 q_ rfl rfl rfl) rfl (p_ rfl rfl (a_ (l_ k_ rfl rfl rfl j_) rfl (p_ rfl rfl (a_ (u_ 0 q_ rfl rfl rfl) rfl ?_)))))))))
           refine p_ rfl rfl (W_ (dS_ (Fc.a f) (Pc.a x1)) rfl I_ (fun _ _ _ => by exact trivial) rfl fun _ => ?_)
           refine p_ rfl rfl (as_ (jj_ l lad lcap (an_ (Fc.a f) (Pc.a x1)) (by omega) hs) rfl I_ (fun v _ h => by exact ⟨h.2.1, trivial⟩) rfl fun r26 hr26 => ?_)
           refine p_ rfl rfl (a_ (H_ rfl rfl) rfl (e_ (w_ rfl ?_)))
           exact met ⟨rfl, rfl, rfl, rfl, rfl, rfl, rfl, rfl, rfl, (y_ rfl (jat qr25 hr26)), trivial⟩
         ·
          refine p_ rfl rfl (a_ (C_ rfl rfl) rfl (e_ (w_ rfl ?_)))
          exact met ⟨rfl, rfl, rfl, rfl, rfl, rfl, rfl, rfl, (y_ rfl (jof qr23 hr25)), trivial⟩
        ·
         have qr23 := hr21
         simp at hr21
         refine r_ rfl rfl rfl rfl (r_ rfl rfl rfl rfl (r_ rfl rfl rfl rfl (r_ rfl rfl rfl rfl (r_ rfl rfl rfl rfl (r_ rfl rfl rfl rfl (r_ rfl rfl rfl rfl (r_ rfl rfl rfl rfl (r_ rfl rfl rfl rfl (r_ rfl rfl rfl rfl ?_)))))))))
         refine r_ rfl rfl rfl rfl (r_ rfl rfl rfl rfl (r_ rfl rfl rfl rfl (r_ rfl rfl rfl rfl (p_ rfl rfl (a_ (H_ rfl rfl) rfl (e_ (w_ rfl ?_)))))))
         exact met ⟨rfl, rfl, rfl, rfl, rfl, rfl, rfl, rfl, (y_ rfl (jot qr23)), trivial⟩
       ·
        refine a_ (H_ rfl rfl) rfl (e_ (w_ rfl ?_))
        exact met ⟨rfl, rfl, rfl, rfl, rfl, rfl, rfl, (y_ rfl (jat qr19 hr23)), trivial⟩
    ·
     refine a_ (g_ rfl) rfl (e_ (b_ rfl ?_))
     cases r19
     ·
      simp at hr19
      refine v_ rfl (h_ (c_ (a_ (l_ k_ rfl rfl rfl L_) rfl (a_ (u_ 0 P_ rfl rfl rfl) rfl (x_ (aM_ rfl rfl) rfl fun r27 hr27 => ?_)))))
      refine a_ (d_ rfl) rfl ?_
      refine aT_ 6 (((Pc.kind x1) == 3) && ((Pc.a x1) == (Fc.b f))) (fun r => [(0, .slice pad (List.length p) pcap), (1, .slice lad (List.length l) lcap), (5, zp_ b1 0), (6, .slice none 0 0), (7, sv_Rfc), (8, .int .i64 (i : Int)), (9, zp_ b7 0), (97, .bool r)]) ?_ fun r28 hr28 => ?_
      ·
       cases r27
       ·
        have qr28 := hr27
        replace hr27 := ne_of_beq_false hr27
        refine r_ rfl rfl rfl rfl (r_ rfl rfl rfl rfl (r_ rfl rfl rfl rfl (r_ rfl rfl rfl rfl (r_ rfl rfl rfl rfl (a_ (C_ rfl rfl) rfl (e_ (w_ rfl ?_)))))))
        exact met ⟨rfl, rfl, rfl, rfl, rfl, rfl, rfl, (y_ rfl (jaf qr28)), trivial⟩
       ·
        have qr28 := hr27
        replace hr27 := eq_of_beq hr27
        refine p_ rfl rfl (a_ (l_ k_ rfl rfl rfl j_) rfl (p_ rfl rfl (a_ (u_ 0 q_ rfl rfl rfl) rfl (p_ rfl rfl (a_ (l_ o_ rfl rfl rfl j_) rfl (p_ rfl rfl (a_ (u_ 1 q_ rfl rfl rfl) rfl (p_ rfl rfl (x_ (aq_ rfl rfl) rfl fun r29 hr29 => ?_)))))))))
        refine a_ (H_ rfl rfl) rfl (e_ (w_ rfl ?_))
        exact met ⟨rfl, rfl, rfl, rfl, rfl, rfl, rfl, (y_ rfl (jat qr28 hr29)), trivial⟩
      ·
       refine a_ (g_ rfl) rfl (e_ (b_ rfl ?_))
       cases r28
       ·
        simp at hr28
        refine v_ rfl (h_ (c_ (a_ (l_ k_ rfl rfl rfl L_) rfl (a_ (u_ 0 P_ rfl rfl rfl) rfl (x_ (aM_ rfl rfl) rfl fun r30 hr30 => ?_)))))
        refine a_ (d_ rfl) rfl ?_
        refine aT_ 6 (((Pc.kind x1) == 8) && ((Pc.a x1) == (Fc.b f))) (fun r => [(0, .slice pad (List.length p) pcap), (1, .slice lad (List.length l) lcap), (5, zp_ b1 0), (6, .slice none 0 0), (7, sv_Rfc), (8, .int .i64 (i : Int)), (9, zp_ b7 0), (118, .bool r)]) ?_ fun r31 hr31 => ?_
        ·
         cases r30
         ·
          have qr31 := hr30
          replace hr30 := ne_of_beq_false hr30
          refine r_ rfl rfl rfl rfl (r_ rfl rfl rfl rfl (r_ rfl rfl rfl rfl (r_ rfl rfl rfl rfl (r_ rfl rfl rfl rfl (a_ (C_ rfl rfl) rfl (e_ (w_ rfl ?_)))))))
          exact met ⟨rfl, rfl, rfl, rfl, rfl, rfl, rfl, (y_ rfl (jaf qr31)), trivial⟩
         ·
          have qr31 := hr30
          replace hr30 := eq_of_beq hr30
          refine p_ rfl rfl (a_ (l_ k_ rfl rfl rfl j_) rfl (p_ rfl rfl (a_ (u_ 0 q_ rfl rfl rfl) rfl (p_ rfl rfl (a_ (l_ o_ rfl rfl rfl j_) rfl (p_ rfl rfl (a_ (u_ 1 q_ rfl rfl rfl) rfl (p_ rfl rfl (x_ (aq_ rfl rfl) rfl fun r32 hr32 => ?_)))))))))
          refine a_ (H_ rfl rfl) rfl (e_ (w_ rfl ?_))
          exact met ⟨rfl, rfl, rfl, rfl, rfl, rfl, rfl, (y_ rfl (jat qr31 hr32)), trivial⟩
        ·
         refine a_ (g_ rfl) rfl (e_ (b_ rfl ?_))
         cases r31
         ·
          simp at hr31
          refine v_ rfl (z_ (b_ rfl (c_ (a_ (d_ rfl) rfl (a_ (M_ rfl rfl rfl (af_ (by omega) (by omega))) rfl (a_ (g_ rfl) rfl (e_ (w_ rfl ?_))))))))
          exact Z_ ⟨(i + 1, sv_Rfc, H_Rfc), hlx1, (by have q := hr_Rfc; rw [br_ hx1, show (cu_ l f) x1 = [] from (by unfold cu_; rw [if_neg (by first | assumption | simpa using hr16 | simp [*]), if_neg (by first | assumption | simpa using hr19 | simp [*]), if_neg (by first | assumption | simpa using hr28 | simp [*]), if_neg (by first | assumption | simpa using hr31 | simp [*])])]; simpa only [List.append_assoc, List.append_nil] using q)⟩ (by dsimp only; omega) ⟨rfl, rfl, rfl, rfl, rfl, rfl, trivial⟩ (m_ (f_ i_) S_) (fun _ _ h => h)
         ·
          simp at hr31
          refine t_ rfl (c_ (a_ (d_ rfl) rfl (a_ (l_ o_ rfl rfl rfl j_) rfl (a_ (u_ 1 q_ rfl rfl rfl) rfl (a_ (l_ k_ rfl rfl rfl j_) rfl (a_ (u_ 0 q_ rfl rfl rfl) rfl (a_ (l_ k_ rfl rfl rfl L_) rfl (a_ (u_ 0 P_ rfl rfl rfl) rfl (a_ (l_ k_ rfl rfl rfl L_) rfl ?_)))))))))
          refine a_ (u_ 0 P_ rfl rfl rfl) rfl (W_ (mM_ (Fc.a f) (Pc.r x1) (Pc.lo x1) (Pc.hi x1)) rfl I_ (fun _ _ _ => by exact trivial) rfl fun _ => ?_)
          refine aJ_ G_ B_ ak_ rfl rfl rfl rfl rfl rfl fun b8 => ?_
          refine bz_ (List.flatMap Fc.cells [(aP_ (Fc.a f) (Pc.r x1) (Pc.lo x1) (Pc.hi x1))]) i_ rfl ?_
          refine aI_ (news := List.flatMap Fc.cells [(aP_ (Fc.a f) (Pc.r x1) (Pc.lo x1) (Pc.hi x1))]) ca_ hr_Rfc rfl rfl (fun q => by cases q) (by simp) (f_ S_) (by rw [bp_ Fc.cells 6 Fc.cells_len]; rfl) (fun v _ h => by exact h.1) (fun u hu => aK_ Fc.cells_one hu) (by simp only [maxLen]; ((try simp only [List.length_append, List.length_cons, List.length_nil]); omega)) (by ((try simp only [List.length_append, List.length_cons, List.length_nil]); omega)) rfl fun sv8 Hr8 hr8 => ?_
          refine aj_ List.perm_append_comm ?_
          have hq8 : aQ_ 41 6 sv8 (List.length ((List.flatMap (cu_ l f) (List.take i p)) ++ [(aP_ (Fc.a f) (Pc.r x1) (Pc.lo x1) (Pc.hi x1))])) (List.flatMap Fc.cells ((List.flatMap (cu_ l f) (List.take i p)) ++ [(aP_ (Fc.a f) (Pc.r x1) (Pc.lo x1) (Pc.hi x1))])) Hr8 := by rw [List.length_append, List.flatMap_append]; exact hr8
          refine a_ (g_ rfl) rfl (e_ (b_ rfl (c_ (a_ (d_ rfl) rfl (a_ (M_ rfl rfl rfl (af_ (by omega) (by omega))) rfl (a_ (g_ rfl) rfl (e_ (w_ rfl ?_))))))))
          exact Z_ ⟨(i + 1, sv8, Hr8), hlx1, (by have q := hq8; rw [br_ hx1, show (cu_ l f) x1 = [(aP_ (Fc.a f) (Pc.r x1) (Pc.lo x1) (Pc.hi x1))] from (by unfold cu_; rw [if_neg (by first | assumption | simpa using hr16 | simp [*]), if_neg (by first | assumption | simpa using hr19 | simp [*]), if_neg (by first | assumption | simpa using hr28 | simp [*]), if_pos (by first | assumption | simpa using hr31 | simp [*])])]; simpa only [List.append_assoc, List.append_nil] using q)⟩ (by dsimp only; omega) ⟨rfl, rfl, rfl, rfl, rfl, rfl, trivial⟩ (m_ (f_ i_) S_) (fun _ _ h => h.2)
       ·
        simp at hr28
        refine t_ rfl (c_ (a_ (d_ rfl) rfl (a_ (l_ o_ rfl rfl rfl j_) rfl (a_ (u_ 1 q_ rfl rfl rfl) rfl (a_ (l_ k_ rfl rfl rfl j_) rfl (a_ (u_ 0 q_ rfl rfl rfl) rfl (a_ (l_ k_ rfl rfl rfl j_) rfl (a_ (u_ 0 q_ rfl rfl rfl) rfl (W_ (eI_ (Fc.a f) (Pc.r x1) (Pc.c x1)) rfl I_ (fun _ _ _ => by exact trivial) rfl fun _ => ?_)))))))))
        refine aJ_ G_ B_ ak_ rfl rfl rfl rfl rfl rfl fun b9 => ?_
        refine bz_ (List.flatMap Fc.cells [(ax_ (Fc.a f) (Pc.r x1) (Pc.c x1))]) i_ rfl ?_
        refine aI_ (news := List.flatMap Fc.cells [(ax_ (Fc.a f) (Pc.r x1) (Pc.c x1))]) ca_ hr_Rfc rfl rfl (fun q => by cases q) (by simp) (f_ S_) (by rw [bp_ Fc.cells 6 Fc.cells_len]; rfl) (fun v _ h => by exact h.1) (fun u hu => aK_ Fc.cells_one hu) (by simp only [maxLen]; ((try simp only [List.length_append, List.length_cons, List.length_nil]); omega)) (by ((try simp only [List.length_append, List.length_cons, List.length_nil]); omega)) rfl fun sv9 Hr9 hr9 => ?_
        refine aj_ List.perm_append_comm ?_
        have hq9 : aQ_ 41 6 sv9 (List.length ((List.flatMap (cu_ l f) (List.take i p)) ++ [(ax_ (Fc.a f) (Pc.r x1) (Pc.c x1))])) (List.flatMap Fc.cells ((List.flatMap (cu_ l f) (List.take i p)) ++ [(ax_ (Fc.a f) (Pc.r x1) (Pc.c x1))])) Hr9 := by rw [List.length_append, List.flatMap_append]; exact hr9
        refine a_ (g_ rfl) rfl (e_ (b_ rfl (c_ (a_ (d_ rfl) rfl (a_ (M_ rfl rfl rfl (af_ (by omega) (by omega))) rfl (a_ (g_ rfl) rfl (e_ (w_ rfl ?_))))))))
        exact Z_ ⟨(i + 1, sv9, Hr9), hlx1, (by have q := hq9; rw [br_ hx1, show (cu_ l f) x1 = [(ax_ (Fc.a f) (Pc.r x1) (Pc.c x1))] from (by unfold cu_; rw [if_neg (by first | assumption | simpa using hr16 | simp [*]), if_neg (by first | assumption | simpa using hr19 | simp [*]), if_pos (by first | assumption | simpa using hr28 | simp [*])])]; simpa only [List.append_assoc, List.append_nil] using q)⟩ (by dsimp only; omega) ⟨rfl, rfl, rfl, rfl, rfl, rfl, trivial⟩ (m_ (f_ i_) S_) (fun _ _ h => h.2)
     ·
      simp at hr19
      refine t_ rfl (c_ (a_ (d_ rfl) rfl (a_ (l_ o_ rfl rfl rfl j_) rfl (a_ (u_ 1 q_ rfl rfl rfl) rfl (a_ (l_ k_ rfl rfl rfl j_) rfl (a_ (u_ 0 q_ rfl rfl rfl) rfl (W_ (dS_ (Fc.a f) (Pc.c x1)) rfl I_ (fun _ _ _ => by exact trivial) rfl fun _ => ?_)))))))
      refine aJ_ G_ B_ ak_ rfl rfl rfl rfl rfl rfl fun b10 => ?_
      refine bz_ (List.flatMap Fc.cells [(an_ (Fc.a f) (Pc.c x1))]) i_ rfl ?_
      refine aI_ (news := List.flatMap Fc.cells [(an_ (Fc.a f) (Pc.c x1))]) ca_ hr_Rfc rfl rfl (fun q => by cases q) (by simp) (f_ S_) (by rw [bp_ Fc.cells 6 Fc.cells_len]; rfl) (fun v _ h => by exact h.1) (fun u hu => aK_ Fc.cells_one hu) (by simp only [maxLen]; ((try simp only [List.length_append, List.length_cons, List.length_nil]); omega)) (by ((try simp only [List.length_append, List.length_cons, List.length_nil]); omega)) rfl fun sv10 Hr10 hr10 => ?_
      refine aj_ List.perm_append_comm ?_
      have hq10 : aQ_ 41 6 sv10 (List.length ((List.flatMap (cu_ l f) (List.take i p)) ++ [(an_ (Fc.a f) (Pc.c x1))])) (List.flatMap Fc.cells ((List.flatMap (cu_ l f) (List.take i p)) ++ [(an_ (Fc.a f) (Pc.c x1))])) Hr10 := by rw [List.length_append, List.flatMap_append]; exact hr10
      refine a_ (g_ rfl) rfl (e_ (b_ rfl (c_ (a_ (d_ rfl) rfl (a_ (M_ rfl rfl rfl (af_ (by omega) (by omega))) rfl (a_ (g_ rfl) rfl (e_ (w_ rfl ?_))))))))
      exact Z_ ⟨(i + 1, sv10, Hr10), hlx1, (by have q := hq10; rw [br_ hx1, show (cu_ l f) x1 = [(an_ (Fc.a f) (Pc.c x1))] from (by unfold cu_; rw [if_neg (by first | assumption | simpa using hr16 | simp [*]), if_pos (by first | assumption | simpa using hr19 | simp [*])])]; simpa only [List.append_assoc, List.append_nil] using q)⟩ (by dsimp only; omega) ⟨rfl, rfl, rfl, rfl, rfl, rfl, trivial⟩ (m_ (f_ i_) S_) (fun _ _ h => h.2)
   ·
    simp at hr16
    refine t_ rfl (c_ (a_ (d_ rfl) rfl (a_ (l_ o_ rfl rfl rfl j_) rfl (a_ (u_ 1 q_ rfl rfl rfl) rfl (a_ (l_ k_ rfl rfl rfl j_) rfl (a_ (u_ 0 q_ rfl rfl rfl) rfl (W_ (dS_ (Fc.a f) (Pc.c x1)) rfl I_ (fun _ _ _ => by exact trivial) rfl fun _ => ?_)))))))
    refine aJ_ G_ B_ ak_ rfl rfl rfl rfl rfl rfl fun b11 => ?_
    refine bz_ (List.flatMap Fc.cells [(an_ (Fc.a f) (Pc.c x1))]) i_ rfl ?_
    refine aI_ (news := List.flatMap Fc.cells [(an_ (Fc.a f) (Pc.c x1))]) ca_ hr_Rfc rfl rfl (fun q => by cases q) (by simp) (f_ S_) (by rw [bp_ Fc.cells 6 Fc.cells_len]; rfl) (fun v _ h => by exact h.1) (fun u hu => aK_ Fc.cells_one hu) (by simp only [maxLen]; ((try simp only [List.length_append, List.length_cons, List.length_nil]); omega)) (by ((try simp only [List.length_append, List.length_cons, List.length_nil]); omega)) rfl fun sv11 Hr11 hr11 => ?_
    refine aj_ List.perm_append_comm ?_
    have hq11 : aQ_ 41 6 sv11 (List.length ((List.flatMap (cu_ l f) (List.take i p)) ++ [(an_ (Fc.a f) (Pc.c x1))])) (List.flatMap Fc.cells ((List.flatMap (cu_ l f) (List.take i p)) ++ [(an_ (Fc.a f) (Pc.c x1))])) Hr11 := by rw [List.length_append, List.flatMap_append]; exact hr11
    refine a_ (g_ rfl) rfl (e_ (b_ rfl (c_ (a_ (d_ rfl) rfl (a_ (M_ rfl rfl rfl (af_ (by omega) (by omega))) rfl (a_ (g_ rfl) rfl (e_ (w_ rfl ?_))))))))
    exact Z_ ⟨(i + 1, sv11, Hr11), hlx1, (by have q := hq11; rw [br_ hx1, show (cu_ l f) x1 = [(an_ (Fc.a f) (Pc.c x1))] from (by unfold cu_; rw [if_pos (by first | assumption | simpa using hr16 | simp [*])])]; simpa only [List.append_assoc, List.append_nil] using q)⟩ (by dsimp only; omega) ⟨rfl, rfl, rfl, rfl, rfl, rfl, trivial⟩ (m_ (f_ i_) S_) (fun _ _ h => h.2)
theorem oS_ (p : List Pc) (pad : Option Addr) (pcap : Nat) (l : List Fc) (lad : Option Addr) (lcap : Nat) (f : Fc) (hp : p.length ≤ 100) (hl : l.length ≤ 65536) (hs : Srt l) : Tri Tryz.prog 119 #[.slice pad (List.length p) pcap, .slice lad (List.length l) lcap, Fc.val f] [] [az_ pad (List.flatMap Pc.cells p), az_ lad (List.flatMap Fc.cells l)] (fun y : {y : Option Addr × Nat // ((fB_ p l f)).length ≤ y.2 ∧ y.2 ≤ maxLen ∧ (y.1 = none → y.2 = 0)} => .slice y.1.1 ((fB_ p l f)).length y.1.2) (fun _ => []) (fun y => [az_ y.1.1 (((fB_ p l f)).flatMap Fc.cells)]) := by
 refine T_ Tryz.func119 rfl rfl Tryz.ntmps119 rfl fun v0 => ?_
 refine h_ (c_ (bs_ rfl rfl fun b1 => ?_))
 refine a_ (g_ rfl) rfl (e_ (b_ rfl (h_ (c_ (cF_ G_ B_ rfl fun b2 => ?_)))))
 refine aj_ i_ (a_ (g_ rfl) rfl (e_ (b_ rfl (h_ (aj_ (df_ bj_) (h_ (c_ (a_ (d_ rfl) rfl (a_ (l_ o_ rfl rfl rfl j_) rfl ?_)))))))))
 refine a_ (u_ 0 q_ rfl rfl rfl) rfl (W_ (dS_ (Fc.b f) [33]) rfl I_ (fun _ _ _ => by exact trivial) rfl fun _ => ?_)
 refine as_ (jj_ l lad lcap (an_ (Fc.b f) [33]) (by omega) hs) rfl I_ (fun v _ h => by exact ⟨h.2.1, trivial⟩) rfl fun r1 hr1 => ?_
 refine e_ (b_ rfl ?_)
 cases r1
 ·
  replace hr1 := dF hr1
  refine v_ rfl (z_ (b_ rfl (h_ (h_ (c_ (a_ (g_ rfl) rfl (e_ (b_ rfl (R_ ?_)))))))))
  have hw1 : aQ_ 41 6 (.slice (some ⟨b2, 0, none⟩) 0 0) (List.length (([] : List Fc) ++ List.flatMap (bF_ l f) (List.take 0 p))) (List.flatMap Fc.cells (([] : List Fc) ++ List.flatMap (bF_ l f) (List.take 0 p))) [(b2, .cells #[] 41 (0, 0))] := by have q := (do_ b2 41 6); simpa only [List.take_zero, List.flatMap_nil, List.append_nil, List.length_nil] using q
  refine aL_ (ι := {y : Nat × Value × Hp // y.1 ≤ List.length p ∧ aQ_ 41 6 y.2.1 (List.length (([] : List Fc) ++ List.flatMap (bF_ l f) (List.take y.1 p))) (List.flatMap Fc.cells (([] : List Fc) ++ List.flatMap (bF_ l f) (List.take y.1 p))) y.2.2}) (fun y => [(0, .slice pad (List.length p) pcap), (1, .slice lad (List.length l) lcap), (5, zp_ b1 0), (6, .slice none 0 0), (7, y.1.2.1), (8, .int .i64 (y.1.1 : Int))]) (fun y => ((b1, .cells (Fc.cells f).toArray 41 (0, 0)) :: y.1.2.2)) (fun y => [az_ pad (List.flatMap Pc.cells p), az_ lad (List.flatMap Fc.cells l)]) (fun y => List.length p - y.1.1) ⟨((0 : Nat), (.slice (some ⟨b2, 0, none⟩) 0 0), [(b2, .cells #[] 41 (0, 0))]), by simp, hw1⟩ ⟨rfl, rfl, rfl, rfl, rfl, rfl, trivial⟩ (m_ i_ aD_) (fun _ _ h => h) ?_
  rintro ⟨⟨i, sv_Rfc, H_Rfc⟩, hi_i, hr_Rfc⟩
  dsimp only at hi_i hr_Rfc ⊢
  have hb1 := dG_ (g := bF_ l f) (n := 131072) (List.take i p) (fun x _ => kg_ hl f x)
  rw [List.length_take] at hb1
  refine h_ (h_ (c_ (a_ (d_ rfl) rfl (a_ (d_ rfl) rfl (a_ (am_ A_ rfl) rfl (x_ (av_ rfl rfl) rfl fun r2 hr2 => ?_))))))
  refine e_ (b_ rfl ?_)
  cases r2
  ·
   replace hr2 := of_decide_eq_false hr2
   rw [show List.take i p = p from List.take_of_length_le (by omega)] at hr_Rfc
   refine v_ rfl (au_ rfl (b_ rfl (h_ (c_ (a_ (d_ rfl) rfl (a_ (g_ rfl) rfl (e_ (b_ rfl (F_ ?_)))))))))
   have hw2 : aQ_ 41 6 sv_Rfc (List.length (fB_ p l f)) (List.flatMap Fc.cells (fB_ p l f)) H_Rfc := by have q := hr_Rfc; unfold fB_; first | (rw [if_pos (by assumption)]; simpa only [List.nil_append] using q) | (rw [if_neg (by assumption)]; simpa only [List.nil_append] using q)
   refine bk_ hw2 S_ fun ad2 cp2 had2 hcad2 hmad2 hzad2 => ?_
   exact aw_ Tryz.results119 ⟨(ad2, cp2), hcad2, hmad2, hzad2⟩ (bU_ rfl had2) I_ (fun v _ h => ⟨h.1, trivial⟩)
  ·
   replace hr2 := of_decide_eq_true hr2
   have hlx1 : i < List.length p := by omega
   obtain ⟨x1, hx1⟩ : ∃ e0, p[i]? = some e0 := ⟨_, List.getElem?_eq_getElem hlx1⟩
   have hmx1 : x1 ∈ p := List.mem_of_getElem? hx1
   refine t_ rfl (z_ (b_ rfl (h_ (R_ (h_ (c_ (a_ (d_ rfl) rfl (a_ (d_ rfl) rfl (a_ (aa_ A_ K_ rfl rfl (fun v _ h => ay_ (n := 10) Pc.cells_len (by decide) (by exact h.1) hx1) (by omega) (by first | omega | (simp; done))) rfl ?_)))))))))
   refine a_ (aU_ (ad := pad) (us := Pc.cells x1) aG_ K_ rfl (fun v _ h => by exact h.1) (Pc.cells_len _) (ad_ Pc.cells_len hx1)) rfl (ao_ aX_ rfl fun b3 => ?_)
   refine Q_ 0 K_ rfl rfl rfl rfl rfl rfl (e_ (b_ rfl (R_ (h_ (c_ (a_ (l_ k_ rfl rfl rfl L_) rfl (a_ (u_ 0 P_ rfl rfl rfl) rfl (x_ (aM_ rfl rfl) rfl fun r3 hr3 => ?_))))))))
   refine a_ (d_ rfl) rfl ?_
   refine aT_ 6 (((Pc.kind x1) == 5) && ((Pc.r x1) == (Fc.r f))) (fun r => [(0, .slice pad (List.length p) pcap), (1, .slice lad (List.length l) lcap), (5, zp_ b1 0), (6, .slice none 0 0), (7, sv_Rfc), (8, .int .i64 (i : Int)), (9, zp_ b3 0), (44, .bool r)]) ?_ fun r4 hr4 => ?_
   ·
    cases r3
    ·
     have qr4 := hr3
     replace hr3 := ne_of_beq_false hr3
     refine r_ rfl rfl rfl rfl (r_ rfl rfl rfl rfl (r_ rfl rfl rfl rfl (r_ rfl rfl rfl rfl (r_ rfl rfl rfl rfl (a_ (C_ rfl rfl) rfl (e_ (w_ rfl ?_)))))))
     exact met ⟨rfl, rfl, rfl, rfl, rfl, rfl, rfl, (y_ rfl (jaf qr4)), trivial⟩
    ·
     have qr4 := hr3
     replace hr3 := eq_of_beq hr3
     refine p_ rfl rfl (a_ (l_ k_ rfl rfl rfl j_) rfl (p_ rfl rfl (a_ (u_ 0 q_ rfl rfl rfl) rfl (p_ rfl rfl (a_ (l_ o_ rfl rfl rfl j_) rfl (p_ rfl rfl (a_ (u_ 1 q_ rfl rfl rfl) rfl (p_ rfl rfl (x_ (aq_ rfl rfl) rfl fun r5 hr5 => ?_)))))))))
     refine a_ (H_ rfl rfl) rfl (e_ (w_ rfl ?_))
     exact met ⟨rfl, rfl, rfl, rfl, rfl, rfl, rfl, (y_ rfl (jat qr4 hr5)), trivial⟩
   ·
    refine a_ (g_ rfl) rfl (e_ (b_ rfl ?_))
    cases r4
    ·
     simp at hr4
     refine v_ rfl (h_ (c_ (a_ (l_ k_ rfl rfl rfl L_) rfl (a_ (u_ 0 P_ rfl rfl rfl) rfl (x_ (aM_ rfl rfl) rfl fun r6 hr6 => ?_)))))
     refine a_ (d_ rfl) rfl ?_
     refine aT_ 6 (((Pc.kind x1) == 4) && ((Pc.r x1) == (Fc.r f))) (fun r => [(0, .slice pad (List.length p) pcap), (1, .slice lad (List.length l) lcap), (5, zp_ b1 0), (6, .slice none 0 0), (7, sv_Rfc), (8, .int .i64 (i : Int)), (9, zp_ b3 0), (65, .bool r)]) ?_ fun r7 hr7 => ?_
     ·
      cases r6
      ·
       have qr7 := hr6
       replace hr6 := ne_of_beq_false hr6
       refine r_ rfl rfl rfl rfl (r_ rfl rfl rfl rfl (r_ rfl rfl rfl rfl (r_ rfl rfl rfl rfl (r_ rfl rfl rfl rfl (a_ (C_ rfl rfl) rfl (e_ (w_ rfl ?_)))))))
       exact met ⟨rfl, rfl, rfl, rfl, rfl, rfl, rfl, (y_ rfl (jaf qr7)), trivial⟩
      ·
       have qr7 := hr6
       replace hr6 := eq_of_beq hr6
       refine p_ rfl rfl (a_ (l_ k_ rfl rfl rfl j_) rfl (p_ rfl rfl (a_ (u_ 0 q_ rfl rfl rfl) rfl (p_ rfl rfl (a_ (l_ o_ rfl rfl rfl j_) rfl (p_ rfl rfl (a_ (u_ 1 q_ rfl rfl rfl) rfl (p_ rfl rfl (x_ (aq_ rfl rfl) rfl fun r8 hr8 => ?_)))))))))
       refine a_ (H_ rfl rfl) rfl (e_ (w_ rfl ?_))
       exact met ⟨rfl, rfl, rfl, rfl, rfl, rfl, rfl, (y_ rfl (jat qr7 hr8)), trivial⟩
     ·
      refine a_ (d_ rfl) rfl ?_
      refine aT_ 8 (((((Pc.kind x1) == 4) && ((Pc.r x1) == (Fc.r f)))) && (decide ((an_ (Fc.b f) (Pc.a x1)) ∈ l))) (fun r => [(0, .slice pad (List.length p) pcap), (1, .slice lad (List.length l) lcap), (5, zp_ b1 0), (6, .slice none 0 0), (7, sv_Rfc), (8, .int .i64 (i : Int)), (9, zp_ b3 0), (74, .bool r)]) ?_ fun r9 hr9 => ?_
      ·
       cases r7
       ·
        have qr9 := hr7
        simp at hr7
        refine r_ rfl rfl rfl rfl (r_ rfl rfl rfl rfl (r_ rfl rfl rfl rfl (r_ rfl rfl rfl rfl (r_ rfl rfl rfl rfl (r_ rfl rfl rfl rfl (r_ rfl rfl rfl rfl (a_ (C_ rfl rfl) rfl (e_ (w_ rfl ?_)))))))))
        exact met ⟨rfl, rfl, rfl, rfl, rfl, rfl, rfl, (y_ rfl (jaf qr9)), trivial⟩
       ·
        have qr9 := hr7
        simp at hr7
        refine p_ rfl rfl (a_ (d_ rfl) rfl (p_ rfl rfl (a_ (l_ o_ rfl rfl rfl j_) rfl (p_ rfl rfl (a_ (u_ 1 q_ rfl rfl rfl) rfl (p_ rfl rfl (a_ (l_ k_ rfl rfl rfl j_) rfl (p_ rfl rfl (a_ (u_ 0 q_ rfl rfl rfl) rfl ?_)))))))))
        refine p_ rfl rfl (W_ (dS_ (Fc.b f) (Pc.a x1)) rfl I_ (fun _ _ _ => by exact trivial) rfl fun _ => ?_)
        refine p_ rfl rfl (as_ (jj_ l lad lcap (an_ (Fc.b f) (Pc.a x1)) (by omega) hs) rfl I_ (fun v _ h => by exact ⟨h.2.1, trivial⟩) rfl fun r10 hr10 => ?_)
        refine a_ (H_ rfl rfl) rfl (e_ (w_ rfl ?_))
        exact met ⟨rfl, rfl, rfl, rfl, rfl, rfl, rfl, (y_ rfl (jat qr9 hr10)), trivial⟩
      ·
       refine a_ (g_ rfl) rfl (e_ (b_ rfl ?_))
       cases r9
       ·
        simp at hr9
        refine v_ rfl (h_ (c_ (a_ (l_ k_ rfl rfl rfl L_) rfl (a_ (u_ 0 P_ rfl rfl rfl) rfl (x_ (aM_ rfl rfl) rfl fun r11 hr11 => ?_)))))
        refine a_ (g_ rfl) rfl (e_ (b_ rfl ?_))
        cases r11
        ·
         replace hr11 := ne_of_beq_false hr11
         refine v_ rfl (z_ (b_ rfl (c_ (a_ (d_ rfl) rfl (a_ (M_ rfl rfl rfl (af_ (by omega) (by omega))) rfl (a_ (g_ rfl) rfl (e_ (w_ rfl ?_))))))))
         exact Z_ ⟨(i + 1, sv_Rfc, H_Rfc), hlx1, (by have q := hr_Rfc; rw [br_ hx1, show (bF_ l f) x1 = [] from (by unfold bF_; rw [if_neg (by first | assumption | simpa using hr4 | simp [*]), if_neg (by first | assumption | simpa using hr9 | simp [*]), if_neg (by first | assumption | simpa using hr11 | simp [*])])]; simpa only [List.append_assoc, List.append_nil] using q)⟩ (by dsimp only; omega) ⟨rfl, rfl, rfl, rfl, rfl, rfl, trivial⟩ (m_ (f_ i_) S_) (fun _ _ h => h)
        ·
         replace hr11 := eq_of_beq hr11
         refine t_ rfl (h_ (c_ (a_ (g_ rfl) rfl (e_ (b_ rfl (R_ ?_))))))
         have hw3 : aQ_ 41 6 sv_Rfc (List.length ((([] : List Fc) ++ List.flatMap (bF_ l f) (List.take i p)) ++ List.flatMap (bQ_ x1 f) (List.take 0 l))) (List.flatMap Fc.cells ((([] : List Fc) ++ List.flatMap (bF_ l f) (List.take i p)) ++ List.flatMap (bQ_ x1 f) (List.take 0 l))) H_Rfc := by have q := hr_Rfc; simpa only [List.take_zero, List.flatMap_nil, List.append_nil, List.length_nil] using q
         refine aL_ (ι := {y : Nat × Value × Hp // y.1 ≤ List.length l ∧ aQ_ 41 6 y.2.1 (List.length ((([] : List Fc) ++ List.flatMap (bF_ l f) (List.take i p)) ++ List.flatMap (bQ_ x1 f) (List.take y.1 l))) (List.flatMap Fc.cells ((([] : List Fc) ++ List.flatMap (bF_ l f) (List.take i p)) ++ List.flatMap (bQ_ x1 f) (List.take y.1 l))) y.2.2}) (fun y => [(0, .slice pad (List.length p) pcap), (1, .slice lad (List.length l) lcap), (5, zp_ b1 0), (6, .slice none 0 0), (7, y.1.2.1), (8, .int .i64 (i : Int)), (9, zp_ b3 0), (10, .int .i64 (y.1.1 : Int))]) (fun y => ((b3, .cells (Pc.cells x1).toArray 47 (0, 0)) :: ((b1, .cells (Fc.cells f).toArray 41 (0, 0)) :: y.1.2.2))) (fun y => [az_ pad (List.flatMap Pc.cells p), az_ lad (List.flatMap Fc.cells l)]) (fun y => List.length l - y.1.1) ⟨((0 : Nat), sv_Rfc, H_Rfc), by simp, hw3⟩ ⟨rfl, rfl, rfl, rfl, rfl, rfl, rfl, rfl, trivial⟩ (m_ i_ (m_ i_ aD_)) (fun _ _ h => h) ?_
         rintro ⟨⟨j, sv_Rfc, H_Rfc⟩, hi_j, hr_Rfc⟩
         dsimp only at hi_j hr_Rfc ⊢
         have hb2 := dG_ (g := bQ_ x1 f) (n := 2) (List.take j l) (fun x _ => hS_ x1 f x)
         rw [List.length_take] at hb2
         refine h_ (h_ (c_ (a_ (d_ rfl) rfl (a_ (d_ rfl) rfl (a_ (am_ G_ rfl) rfl (x_ (av_ rfl rfl) rfl fun r12 hr12 => ?_))))))
         refine e_ (b_ rfl ?_)
         cases r12
         ·
          replace hr12 := of_decide_eq_false hr12
          rw [show List.take j l = l from List.take_of_length_le (by omega)] at hr_Rfc
          refine v_ rfl (au_ rfl (b_ rfl (c_ (a_ (d_ rfl) rfl (a_ (M_ rfl rfl rfl (af_ (by omega) (by omega))) rfl (a_ (g_ rfl) rfl (e_ (w_ rfl ?_))))))))
          exact Z_ ⟨(i + 1, sv_Rfc, H_Rfc), hlx1, (by have q := hr_Rfc; rw [br_ hx1, show (bF_ l f) x1 = List.flatMap (bQ_ x1 f) l from (by unfold bF_; rw [if_neg (by first | assumption | simpa using hr4 | simp [*]), if_neg (by first | assumption | simpa using hr9 | simp [*]), if_pos (by first | assumption | simpa using hr11 | simp [*])])]; simpa only [List.append_assoc, List.append_nil] using q)⟩ (by dsimp only; omega) ⟨rfl, rfl, rfl, rfl, rfl, rfl, trivial⟩ (m_ (f_ i_) S_) (fun _ _ h => h)
         ·
          replace hr12 := of_decide_eq_true hr12
          have hlx2 : j < List.length l := by omega
          obtain ⟨x2, hx2⟩ : ∃ e0, l[j]? = some e0 := ⟨_, List.getElem?_eq_getElem hlx2⟩
          have hmx2 : x2 ∈ l := List.mem_of_getElem? hx2
          refine t_ rfl (z_ (b_ rfl (h_ (R_ (h_ (c_ (a_ (d_ rfl) rfl (a_ (d_ rfl) rfl (a_ (aa_ G_ B_ rfl rfl (fun v _ h => ay_ (n := 6) Fc.cells_len (by decide) (by exact h.2.1) hx2) (by omega) (by first | omega | (simp; done))) rfl ?_)))))))))
          refine a_ (aU_ (ad := lad) (us := Fc.cells x2) ai_ B_ rfl (fun v _ h => by exact h.2.1) (Fc.cells_len _) (ad_ Fc.cells_len hx2)) rfl (ao_ ak_ rfl fun b4 => ?_)
          refine Q_ 0 B_ rfl rfl rfl rfl rfl rfl (e_ (b_ rfl (h_ (h_ (c_ (a_ (l_ o_ rfl rfl rfl L_) rfl (a_ (u_ 0 P_ rfl rfl rfl) rfl (x_ (bN_ rfl rfl) rfl fun r13 hr13 => ?_))))))))
          refine e_ (b_ rfl ?_)
          cases r13
          ·
           replace hr13 := bb_ hr13
           refine v_ rfl (z_ (b_ rfl (h_ (h_ (c_ (a_ (l_ k_ rfl rfl rfl j_) rfl (a_ (u_ 1 q_ rfl rfl rfl) rfl (a_ (l_ o_ rfl rfl rfl j_) rfl (a_ (u_ 2 q_ rfl rfl rfl) rfl ?_)))))))))
           refine x_ (aq_ rfl rfl) rfl fun r14 hr14 => ?_
           refine a_ (d_ rfl) rfl ?_
           refine aT_ 6 (((Pc.r x1) == (Fc.r f)) && ((Fc.a x2) == (Fc.b f))) (fun r => [(0, .slice pad (List.length p) pcap), (1, .slice lad (List.length l) lcap), (5, zp_ b1 0), (6, .slice none 0 0), (7, sv_Rfc), (8, .int .i64 (i : Int)), (9, zp_ b3 0), (10, .int .i64 (j : Int)), (11, zp_ b4 0), (111, .bool r)]) ?_ fun r15 hr15 => ?_
           ·
            cases r14
            ·
             have qr15 := hr14
             replace hr14 := ne_of_beq_false hr14
             refine r_ rfl rfl rfl rfl (r_ rfl rfl rfl rfl (r_ rfl rfl rfl rfl (r_ rfl rfl rfl rfl (r_ rfl rfl rfl rfl (a_ (C_ rfl rfl) rfl (e_ (w_ rfl ?_)))))))
             exact met ⟨rfl, rfl, rfl, rfl, rfl, rfl, rfl, rfl, rfl, (y_ rfl (jaf qr15)), trivial⟩
            ·
             have qr15 := hr14
             replace hr14 := eq_of_beq hr14
             refine p_ rfl rfl (a_ (l_ o_ rfl rfl rfl j_) rfl (p_ rfl rfl (a_ (u_ 0 q_ rfl rfl rfl) rfl (p_ rfl rfl (a_ (l_ o_ rfl rfl rfl j_) rfl (p_ rfl rfl (a_ (u_ 2 q_ rfl rfl rfl) rfl (p_ rfl rfl (x_ (aq_ rfl rfl) rfl fun r16 hr16 => ?_)))))))))
             refine a_ (H_ rfl rfl) rfl (e_ (w_ rfl ?_))
             exact met ⟨rfl, rfl, rfl, rfl, rfl, rfl, rfl, rfl, rfl, (y_ rfl (jat qr15 hr16)), trivial⟩
           ·
            refine a_ (d_ rfl) rfl ?_
            refine aT_ 6 (((((Pc.r x1) == (Fc.r f)) && ((Fc.a x2) == (Fc.b f)))) && ((Fc.r x2) == (Pc.s x1))) (fun r => [(0, .slice pad (List.length p) pcap), (1, .slice lad (List.length l) lcap), (5, zp_ b1 0), (6, .slice none 0 0), (7, sv_Rfc), (8, .int .i64 (i : Int)), (9, zp_ b3 0), (10, .int .i64 (j : Int)), (11, zp_ b4 0), (118, .bool r)]) ?_ fun r17 hr17 => ?_
            ·
             cases r15
             ·
              have qr17 := hr15
              simp at hr15
              refine r_ rfl rfl rfl rfl (r_ rfl rfl rfl rfl (r_ rfl rfl rfl rfl (r_ rfl rfl rfl rfl (r_ rfl rfl rfl rfl (a_ (C_ rfl rfl) rfl (e_ (w_ rfl ?_)))))))
              exact met ⟨rfl, rfl, rfl, rfl, rfl, rfl, rfl, rfl, rfl, (y_ rfl (jaf qr17)), trivial⟩
             ·
              have qr17 := hr15
              simp at hr15
              refine p_ rfl rfl (a_ (l_ o_ rfl rfl rfl j_) rfl (p_ rfl rfl (a_ (u_ 0 q_ rfl rfl rfl) rfl (p_ rfl rfl (a_ (l_ k_ rfl rfl rfl j_) rfl (p_ rfl rfl (a_ (u_ 1 q_ rfl rfl rfl) rfl (p_ rfl rfl (x_ (aq_ rfl rfl) rfl fun r18 hr18 => ?_)))))))))
              refine a_ (H_ rfl rfl) rfl (e_ (w_ rfl ?_))
              exact met ⟨rfl, rfl, rfl, rfl, rfl, rfl, rfl, rfl, rfl, (y_ rfl (jat qr17 hr18)), trivial⟩
            ·
             refine e_ (b_ rfl ?_)
             cases r17
             ·
              simp at hr17
              refine v_ rfl (z_ (b_ rfl (h_ (c_ (a_ (l_ k_ rfl rfl rfl j_) rfl (a_ (u_ 1 q_ rfl rfl rfl) rfl (a_ (l_ o_ rfl rfl rfl j_) rfl (a_ (u_ 2 q_ rfl rfl rfl) rfl (x_ (aq_ rfl rfl) rfl fun r19 hr19 => ?_)))))))))
              refine a_ (d_ rfl) rfl ?_
              refine aT_ 6 (((Pc.s x1) == (Fc.r f)) && ((Fc.b x2) == (Fc.a f))) (fun r => [(0, .slice pad (List.length p) pcap), (1, .slice lad (List.length l) lcap), (5, zp_ b1 0), (6, .slice none 0 0), (7, sv_Rfc), (8, .int .i64 (i : Int)), (9, zp_ b3 0), (10, .int .i64 (j : Int)), (11, zp_ b4 0), (140, .bool r)]) ?_ fun r20 hr20 => ?_
              ·
               cases r19
               ·
                have qr20 := hr19
                replace hr19 := ne_of_beq_false hr19
                refine r_ rfl rfl rfl rfl (r_ rfl rfl rfl rfl (r_ rfl rfl rfl rfl (r_ rfl rfl rfl rfl (r_ rfl rfl rfl rfl (a_ (C_ rfl rfl) rfl (e_ (w_ rfl ?_)))))))
                exact met ⟨rfl, rfl, rfl, rfl, rfl, rfl, rfl, rfl, rfl, (y_ rfl (jaf qr20)), trivial⟩
               ·
                have qr20 := hr19
                replace hr19 := eq_of_beq hr19
                refine p_ rfl rfl (a_ (l_ o_ rfl rfl rfl j_) rfl (p_ rfl rfl (a_ (u_ 0 q_ rfl rfl rfl) rfl (p_ rfl rfl (a_ (l_ o_ rfl rfl rfl j_) rfl (p_ rfl rfl (a_ (u_ 2 q_ rfl rfl rfl) rfl (p_ rfl rfl (x_ (aq_ rfl rfl) rfl fun r21 hr21 => ?_)))))))))
                refine a_ (H_ rfl rfl) rfl (e_ (w_ rfl ?_))
                exact met ⟨rfl, rfl, rfl, rfl, rfl, rfl, rfl, rfl, rfl, (y_ rfl (jat qr20 hr21)), trivial⟩
              ·
               refine a_ (d_ rfl) rfl ?_
               refine aT_ 6 (((((Pc.s x1) == (Fc.r f)) && ((Fc.b x2) == (Fc.a f)))) && ((Fc.r x2) == (Pc.r x1))) (fun r => [(0, .slice pad (List.length p) pcap), (1, .slice lad (List.length l) lcap), (5, zp_ b1 0), (6, .slice none 0 0), (7, sv_Rfc), (8, .int .i64 (i : Int)), (9, zp_ b3 0), (10, .int .i64 (j : Int)), (11, zp_ b4 0), (147, .bool r)]) ?_ fun r22 hr22 => ?_
               ·
                cases r20
                ·
                 have qr22 := hr20
                 simp at hr20
                 refine r_ rfl rfl rfl rfl (r_ rfl rfl rfl rfl (r_ rfl rfl rfl rfl (r_ rfl rfl rfl rfl (r_ rfl rfl rfl rfl (a_ (C_ rfl rfl) rfl (e_ (w_ rfl ?_)))))))
                 exact met ⟨rfl, rfl, rfl, rfl, rfl, rfl, rfl, rfl, rfl, (y_ rfl (jaf qr22)), trivial⟩
                ·
                 have qr22 := hr20
                 simp at hr20
                 refine p_ rfl rfl (a_ (l_ o_ rfl rfl rfl j_) rfl (p_ rfl rfl (a_ (u_ 0 q_ rfl rfl rfl) rfl (p_ rfl rfl (a_ (l_ k_ rfl rfl rfl j_) rfl (p_ rfl rfl (a_ (u_ 1 q_ rfl rfl rfl) rfl (p_ rfl rfl (x_ (aq_ rfl rfl) rfl fun r23 hr23 => ?_)))))))))
                 refine a_ (H_ rfl rfl) rfl (e_ (w_ rfl ?_))
                 exact met ⟨rfl, rfl, rfl, rfl, rfl, rfl, rfl, rfl, rfl, (y_ rfl (jat qr22 hr23)), trivial⟩
               ·
                refine e_ (b_ rfl ?_)
                cases r22
                ·
                 simp at hr22
                 refine v_ rfl (z_ (b_ rfl (c_ (a_ (d_ rfl) rfl (a_ (M_ rfl rfl rfl (af_ (by omega) (by omega))) rfl (a_ (g_ rfl) rfl (e_ (w_ rfl ?_))))))))
                 exact Z_ ⟨(j + 1, sv_Rfc, H_Rfc), hlx2, (by have q := hr_Rfc; rw [br_ hx2, show (bQ_ x1 f) x2 = [] from (by unfold bQ_; rw [if_neg (by simp [*]), if_neg (by first | assumption | simpa using hr17 | simp [*]), if_neg (by first | assumption | simpa using hr22 | simp [*])]; try rfl)]; simpa only [List.append_assoc, List.append_nil] using q)⟩ (by dsimp only; omega) ⟨rfl, rfl, rfl, rfl, rfl, rfl, rfl, rfl, trivial⟩ (m_ (f_ i_) (m_ (f_ i_) S_)) (fun _ _ h => h)
                ·
                 simp at hr22
                 refine t_ rfl (c_ (a_ (d_ rfl) rfl (a_ (l_ o_ rfl rfl rfl j_) rfl (a_ (u_ 0 q_ rfl rfl rfl) rfl (a_ (l_ k_ rfl rfl rfl j_) rfl (a_ (u_ 1 q_ rfl rfl rfl) rfl (a_ (l_ o_ rfl rfl rfl j_) rfl (a_ (u_ 2 q_ rfl rfl rfl) rfl (W_ (eI_ (Fc.a x2) (Pc.t x1) (Fc.b f)) rfl I_ (fun _ _ _ => by exact trivial) rfl fun _ => ?_)))))))))
                 refine aJ_ G_ B_ ak_ rfl rfl rfl rfl rfl rfl fun b5 => ?_
                 refine bz_ (List.flatMap Fc.cells [(ax_ (Fc.a x2) (Pc.t x1) (Fc.b f))]) i_ rfl ?_
                 refine aI_ (news := List.flatMap Fc.cells [(ax_ (Fc.a x2) (Pc.t x1) (Fc.b f))]) ca_ hr_Rfc rfl rfl (fun q => by cases q) (by simp) (f_ (f_ S_)) (by rw [bp_ Fc.cells 6 Fc.cells_len]; rfl) (fun v _ h => by exact h.1) (fun u hu => aK_ Fc.cells_one hu) (by simp only [maxLen]; ((try simp only [List.length_append, List.length_cons, List.length_nil]); omega)) (by ((try simp only [List.length_append, List.length_cons, List.length_nil]); omega)) rfl fun sv4 Hr4 hr4 => ?_
                 refine aj_ List.perm_append_comm ?_
                 have hq4 : aQ_ 41 6 sv4 (List.length (((([] : List Fc) ++ List.flatMap (bF_ l f) (List.take i p)) ++ List.flatMap (bQ_ x1 f) (List.take j l)) ++ [(ax_ (Fc.a x2) (Pc.t x1) (Fc.b f))])) (List.flatMap Fc.cells (((([] : List Fc) ++ List.flatMap (bF_ l f) (List.take i p)) ++ List.flatMap (bQ_ x1 f) (List.take j l)) ++ [(ax_ (Fc.a x2) (Pc.t x1) (Fc.b f))])) Hr4 := by rw [List.length_append, List.flatMap_append]; exact hr4
                 refine a_ (g_ rfl) rfl (e_ (b_ rfl (c_ (a_ (d_ rfl) rfl (a_ (M_ rfl rfl rfl (af_ (by omega) (by omega))) rfl (a_ (g_ rfl) rfl (e_ (w_ rfl ?_))))))))
                 exact Z_ ⟨(j + 1, sv4, Hr4), hlx2, (by have q := hq4; rw [br_ hx2, show (bQ_ x1 f) x2 = [(ax_ (Fc.a x2) (Pc.t x1) (Fc.b f))] from (by unfold bQ_; rw [if_neg (by simp [*]), if_neg (by first | assumption | simpa using hr17 | simp [*]), if_pos (by first | assumption | simpa using hr22 | simp [*])]; try rfl)]; simpa only [List.append_assoc, List.append_nil] using q)⟩ (by dsimp only; omega) ⟨rfl, rfl, rfl, rfl, rfl, rfl, rfl, rfl, trivial⟩ (m_ (f_ i_) (m_ (f_ i_) S_)) (fun _ _ h => h.2)
             ·
              simp at hr17
              refine t_ rfl (c_ (a_ (d_ rfl) rfl (a_ (l_ o_ rfl rfl rfl j_) rfl (a_ (u_ 2 q_ rfl rfl rfl) rfl (a_ (l_ k_ rfl rfl rfl j_) rfl (a_ (u_ 1 q_ rfl rfl rfl) rfl (a_ (l_ o_ rfl rfl rfl j_) rfl (a_ (u_ 0 q_ rfl rfl rfl) rfl (W_ (eI_ (Fc.a f) (Pc.t x1) (Fc.b x2)) rfl I_ (fun _ _ _ => by exact trivial) rfl fun _ => ?_)))))))))
              refine aJ_ G_ B_ ak_ rfl rfl rfl rfl rfl rfl fun b6 => ?_
              refine bz_ (List.flatMap Fc.cells [(ax_ (Fc.a f) (Pc.t x1) (Fc.b x2))]) i_ rfl ?_
              refine aI_ (news := List.flatMap Fc.cells [(ax_ (Fc.a f) (Pc.t x1) (Fc.b x2))]) ca_ hr_Rfc rfl rfl (fun q => by cases q) (by simp) (f_ (f_ S_)) (by rw [bp_ Fc.cells 6 Fc.cells_len]; rfl) (fun v _ h => by exact h.1) (fun u hu => aK_ Fc.cells_one hu) (by simp only [maxLen]; ((try simp only [List.length_append, List.length_cons, List.length_nil]); omega)) (by ((try simp only [List.length_append, List.length_cons, List.length_nil]); omega)) rfl fun sv5 Hr5 hr5 => ?_
              refine aj_ List.perm_append_comm ?_
              have hq5 : aQ_ 41 6 sv5 (List.length (((([] : List Fc) ++ List.flatMap (bF_ l f) (List.take i p)) ++ List.flatMap (bQ_ x1 f) (List.take j l)) ++ [(ax_ (Fc.a f) (Pc.t x1) (Fc.b x2))])) (List.flatMap Fc.cells (((([] : List Fc) ++ List.flatMap (bF_ l f) (List.take i p)) ++ List.flatMap (bQ_ x1 f) (List.take j l)) ++ [(ax_ (Fc.a f) (Pc.t x1) (Fc.b x2))])) Hr5 := by rw [List.length_append, List.flatMap_append]; exact hr5
              refine a_ (g_ rfl) rfl (e_ (b_ rfl (h_ (c_ (a_ (l_ k_ rfl rfl rfl j_) rfl (a_ (u_ 1 q_ rfl rfl rfl) rfl (a_ (l_ o_ rfl rfl rfl j_) rfl (a_ (u_ 2 q_ rfl rfl rfl) rfl (x_ (aq_ rfl rfl) rfl fun r24 hr24 => ?_)))))))))
              refine a_ (d_ rfl) rfl ?_
              refine aT_ 6 (((Pc.s x1) == (Fc.r f)) && ((Fc.b x2) == (Fc.a f))) (fun r => [(0, .slice pad (List.length p) pcap), (1, .slice lad (List.length l) lcap), (5, zp_ b1 0), (6, .slice none 0 0), (7, sv5), (8, .int .i64 (i : Int)), (9, zp_ b3 0), (10, .int .i64 (j : Int)), (11, zp_ b4 0), (140, .bool r)]) ?_ fun r25 hr25 => ?_
              ·
               cases r24
               ·
                have qr25 := hr24
                replace hr24 := ne_of_beq_false hr24
                refine r_ rfl rfl rfl rfl (r_ rfl rfl rfl rfl (r_ rfl rfl rfl rfl (r_ rfl rfl rfl rfl (r_ rfl rfl rfl rfl (a_ (C_ rfl rfl) rfl (e_ (w_ rfl ?_)))))))
                exact met ⟨rfl, rfl, rfl, rfl, rfl, rfl, rfl, rfl, rfl, (y_ rfl (jaf qr25)), trivial⟩
               ·
                have qr25 := hr24
                replace hr24 := eq_of_beq hr24
                refine p_ rfl rfl (a_ (l_ o_ rfl rfl rfl j_) rfl (p_ rfl rfl (a_ (u_ 0 q_ rfl rfl rfl) rfl (p_ rfl rfl (a_ (l_ o_ rfl rfl rfl j_) rfl (p_ rfl rfl (a_ (u_ 2 q_ rfl rfl rfl) rfl (p_ rfl rfl (x_ (aq_ rfl rfl) rfl fun r26 hr26 => ?_)))))))))
                refine a_ (H_ rfl rfl) rfl (e_ (w_ rfl ?_))
                exact met ⟨rfl, rfl, rfl, rfl, rfl, rfl, rfl, rfl, rfl, (y_ rfl (jat qr25 hr26)), trivial⟩
              ·
               refine a_ (d_ rfl) rfl ?_
               refine aT_ 6 (((((Pc.s x1) == (Fc.r f)) && ((Fc.b x2) == (Fc.a f)))) && ((Fc.r x2) == (Pc.r x1))) (fun r => [(0, .slice pad (List.length p) pcap), (1, .slice lad (List.length l) lcap), (5, zp_ b1 0), (6, .slice none 0 0), (7, sv5), (8, .int .i64 (i : Int)), (9, zp_ b3 0), (10, .int .i64 (j : Int)), (11, zp_ b4 0), (147, .bool r)]) ?_ fun r27 hr27 => ?_
               ·
                cases r25
                ·
                 have qr27 := hr25
                 simp at hr25
                 refine r_ rfl rfl rfl rfl (r_ rfl rfl rfl rfl (r_ rfl rfl rfl rfl (r_ rfl rfl rfl rfl (r_ rfl rfl rfl rfl (a_ (C_ rfl rfl) rfl (e_ (w_ rfl ?_)))))))
                 exact met ⟨rfl, rfl, rfl, rfl, rfl, rfl, rfl, rfl, rfl, (y_ rfl (jaf qr27)), trivial⟩
                ·
                 have qr27 := hr25
                 simp at hr25
                 refine p_ rfl rfl (a_ (l_ o_ rfl rfl rfl j_) rfl (p_ rfl rfl (a_ (u_ 0 q_ rfl rfl rfl) rfl (p_ rfl rfl (a_ (l_ k_ rfl rfl rfl j_) rfl (p_ rfl rfl (a_ (u_ 1 q_ rfl rfl rfl) rfl (p_ rfl rfl (x_ (aq_ rfl rfl) rfl fun r28 hr28 => ?_)))))))))
                 refine a_ (H_ rfl rfl) rfl (e_ (w_ rfl ?_))
                 exact met ⟨rfl, rfl, rfl, rfl, rfl, rfl, rfl, rfl, rfl, (y_ rfl (jat qr27 hr28)), trivial⟩
               ·
                refine e_ (b_ rfl ?_)
                cases r27
                ·
                 simp at hr27
                 refine v_ rfl (z_ (b_ rfl (c_ (a_ (d_ rfl) rfl (a_ (M_ rfl rfl rfl (af_ (by omega) (by omega))) rfl (a_ (g_ rfl) rfl (e_ (w_ rfl ?_))))))))
                 exact Z_ ⟨(j + 1, sv5, Hr5), hlx2, (by have q := hq5; rw [br_ hx2, show (bQ_ x1 f) x2 = [(ax_ (Fc.a f) (Pc.t x1) (Fc.b x2))] from (by unfold bQ_; rw [if_neg (by simp [*]), if_pos (by first | assumption | simpa using hr17 | simp [*]), if_neg (by first | assumption | simpa using hr27 | simp [*])]; try rfl)]; simpa only [List.append_assoc, List.append_nil] using q)⟩ (by dsimp only; omega) ⟨rfl, rfl, rfl, rfl, rfl, rfl, rfl, rfl, trivial⟩ (m_ (f_ i_) (m_ (f_ i_) S_)) (fun _ _ h => h.2)
                ·
                 simp at hr27
                 refine t_ rfl (c_ (a_ (d_ rfl) rfl (a_ (l_ o_ rfl rfl rfl j_) rfl (a_ (u_ 0 q_ rfl rfl rfl) rfl (a_ (l_ k_ rfl rfl rfl j_) rfl (a_ (u_ 1 q_ rfl rfl rfl) rfl (a_ (l_ o_ rfl rfl rfl j_) rfl (a_ (u_ 2 q_ rfl rfl rfl) rfl (W_ (eI_ (Fc.a x2) (Pc.t x1) (Fc.b f)) rfl I_ (fun _ _ _ => by exact trivial) rfl fun _ => ?_)))))))))
                 refine aJ_ G_ B_ ak_ rfl rfl rfl rfl rfl rfl fun b7 => ?_
                 refine bz_ (List.flatMap Fc.cells [(ax_ (Fc.a x2) (Pc.t x1) (Fc.b f))]) i_ rfl ?_
                 refine aI_ (news := List.flatMap Fc.cells [(ax_ (Fc.a x2) (Pc.t x1) (Fc.b f))]) ca_ hq5 rfl rfl (fun q => by cases q) (by simp) (f_ (f_ S_)) (by rw [bp_ Fc.cells 6 Fc.cells_len]; rfl) (fun v _ h => by exact h.1) (fun u hu => aK_ Fc.cells_one hu) (by simp only [maxLen]; ((try simp only [List.length_append, List.length_cons, List.length_nil]); omega)) (by ((try simp only [List.length_append, List.length_cons, List.length_nil]); omega)) rfl fun sv6 Hr6 hr6 => ?_
                 refine aj_ List.perm_append_comm ?_
                 have hq6 : aQ_ 41 6 sv6 (List.length ((((([] : List Fc) ++ List.flatMap (bF_ l f) (List.take i p)) ++ List.flatMap (bQ_ x1 f) (List.take j l)) ++ [(ax_ (Fc.a f) (Pc.t x1) (Fc.b x2))]) ++ [(ax_ (Fc.a x2) (Pc.t x1) (Fc.b f))])) (List.flatMap Fc.cells ((((([] : List Fc) ++ List.flatMap (bF_ l f) (List.take i p)) ++ List.flatMap (bQ_ x1 f) (List.take j l)) ++ [(ax_ (Fc.a f) (Pc.t x1) (Fc.b x2))]) ++ [(ax_ (Fc.a x2) (Pc.t x1) (Fc.b f))])) Hr6 := by rw [List.length_append, List.flatMap_append]; exact hr6
                 refine a_ (g_ rfl) rfl (e_ (b_ rfl (c_ (a_ (d_ rfl) rfl (a_ (M_ rfl rfl rfl (af_ (by omega) (by omega))) rfl (a_ (g_ rfl) rfl (e_ (w_ rfl ?_))))))))
                 exact Z_ ⟨(j + 1, sv6, Hr6), hlx2, (by have q := hq6; rw [br_ hx2, show (bQ_ x1 f) x2 = [(ax_ (Fc.a f) (Pc.t x1) (Fc.b x2))] ++ [(ax_ (Fc.a x2) (Pc.t x1) (Fc.b f))] from (by unfold bQ_; rw [if_neg (by simp [*]), if_pos (by first | assumption | simpa using hr17 | simp [*]), if_pos (by first | assumption | simpa using hr27 | simp [*])]; try rfl)]; simpa only [List.append_assoc, List.append_nil] using q)⟩ (by dsimp only; omega) ⟨rfl, rfl, rfl, rfl, rfl, rfl, rfl, rfl, trivial⟩ (m_ (f_ i_) (m_ (f_ i_) S_)) (fun _ _ h => h.2.2)
          ·
           replace hr13 := ba_ hr13
           refine t_ rfl (au_ rfl (b_ rfl (c_ (a_ (d_ rfl) rfl (a_ (M_ rfl rfl rfl (af_ (by omega) (by omega))) rfl (a_ (g_ rfl) rfl (e_ (w_ rfl ?_))))))))
           exact Z_ ⟨(j + 1, sv_Rfc, H_Rfc), hlx2, (by have q := hr_Rfc; rw [br_ hx2, show (bQ_ x1 f) x2 = [] from (by unfold bQ_; rw [if_pos (by assumption)])]; simpa only [List.append_assoc, List.append_nil] using q)⟩ (by dsimp only; omega) ⟨rfl, rfl, rfl, rfl, rfl, rfl, rfl, rfl, trivial⟩ (m_ (f_ i_) (m_ (f_ i_) S_)) (fun _ _ h => h)
       ·
        simp at hr9
        refine t_ rfl (c_ (a_ (d_ rfl) rfl (a_ (l_ o_ rfl rfl rfl j_) rfl (a_ (u_ 1 q_ rfl rfl rfl) rfl (a_ (l_ k_ rfl rfl rfl j_) rfl (a_ (u_ 0 q_ rfl rfl rfl) rfl (W_ (dS_ (Fc.a f) (Pc.c x1)) rfl I_ (fun _ _ _ => by exact trivial) rfl fun _ => ?_)))))))
        refine aJ_ G_ B_ ak_ rfl rfl rfl rfl rfl rfl fun b8 => ?_
        refine bz_ (List.flatMap Fc.cells [(an_ (Fc.a f) (Pc.c x1))]) i_ rfl ?_
        refine aI_ (news := List.flatMap Fc.cells [(an_ (Fc.a f) (Pc.c x1))]) ca_ hr_Rfc rfl rfl (fun q => by cases q) (by simp) (f_ S_) (by rw [bp_ Fc.cells 6 Fc.cells_len]; rfl) (fun v _ h => by exact h.1) (fun u hu => aK_ Fc.cells_one hu) (by simp only [maxLen]; ((try simp only [List.length_append, List.length_cons, List.length_nil]); omega)) (by ((try simp only [List.length_append, List.length_cons, List.length_nil]); omega)) rfl fun sv7 Hr7 hr7 => ?_
        refine aj_ List.perm_append_comm ?_
        have hq7 : aQ_ 41 6 sv7 (List.length ((([] : List Fc) ++ List.flatMap (bF_ l f) (List.take i p)) ++ [(an_ (Fc.a f) (Pc.c x1))])) (List.flatMap Fc.cells ((([] : List Fc) ++ List.flatMap (bF_ l f) (List.take i p)) ++ [(an_ (Fc.a f) (Pc.c x1))])) Hr7 := by rw [List.length_append, List.flatMap_append]; exact hr7
        refine a_ (g_ rfl) rfl (e_ (b_ rfl (c_ (a_ (d_ rfl) rfl (a_ (M_ rfl rfl rfl (af_ (by omega) (by omega))) rfl (a_ (g_ rfl) rfl (e_ (w_ rfl ?_))))))))
        exact Z_ ⟨(i + 1, sv7, Hr7), hlx1, (by have q := hq7; rw [br_ hx1, show (bF_ l f) x1 = [(an_ (Fc.a f) (Pc.c x1))] from (by unfold bF_; rw [if_neg (by first | assumption | simpa using hr4 | simp [*]), if_pos (by first | assumption | simpa using hr9 | simp [*])])]; simpa only [List.append_assoc, List.append_nil] using q)⟩ (by dsimp only; omega) ⟨rfl, rfl, rfl, rfl, rfl, rfl, trivial⟩ (m_ (f_ i_) S_) (fun _ _ h => h.2)
    ·
     simp at hr4
     refine t_ rfl (c_ (a_ (d_ rfl) rfl (a_ (l_ o_ rfl rfl rfl j_) rfl (a_ (u_ 1 q_ rfl rfl rfl) rfl (a_ (l_ k_ rfl rfl rfl j_) rfl (a_ (u_ 0 q_ rfl rfl rfl) rfl (a_ (l_ o_ rfl rfl rfl j_) rfl (a_ (u_ 1 q_ rfl rfl rfl) rfl (W_ (eI_ (Fc.a f) (Pc.t x1) (Fc.b f)) rfl I_ (fun _ _ _ => by exact trivial) rfl fun _ => ?_)))))))))
     refine aJ_ G_ B_ ak_ rfl rfl rfl rfl rfl rfl fun b9 => ?_
     refine bz_ (List.flatMap Fc.cells [(ax_ (Fc.a f) (Pc.t x1) (Fc.b f))]) i_ rfl ?_
     refine aI_ (news := List.flatMap Fc.cells [(ax_ (Fc.a f) (Pc.t x1) (Fc.b f))]) ca_ hr_Rfc rfl rfl (fun q => by cases q) (by simp) (f_ S_) (by rw [bp_ Fc.cells 6 Fc.cells_len]; rfl) (fun v _ h => by exact h.1) (fun u hu => aK_ Fc.cells_one hu) (by simp only [maxLen]; ((try simp only [List.length_append, List.length_cons, List.length_nil]); omega)) (by ((try simp only [List.length_append, List.length_cons, List.length_nil]); omega)) rfl fun sv8 Hr8 hr8 => ?_
     refine aj_ List.perm_append_comm ?_
     have hq8 : aQ_ 41 6 sv8 (List.length ((([] : List Fc) ++ List.flatMap (bF_ l f) (List.take i p)) ++ [(ax_ (Fc.a f) (Pc.t x1) (Fc.b f))])) (List.flatMap Fc.cells ((([] : List Fc) ++ List.flatMap (bF_ l f) (List.take i p)) ++ [(ax_ (Fc.a f) (Pc.t x1) (Fc.b f))])) Hr8 := by rw [List.length_append, List.flatMap_append]; exact hr8
     refine a_ (g_ rfl) rfl (e_ (b_ rfl (c_ (a_ (d_ rfl) rfl (a_ (M_ rfl rfl rfl (af_ (by omega) (by omega))) rfl (a_ (g_ rfl) rfl (e_ (w_ rfl ?_))))))))
     exact Z_ ⟨(i + 1, sv8, Hr8), hlx1, (by have q := hq8; rw [br_ hx1, show (bF_ l f) x1 = [(ax_ (Fc.a f) (Pc.t x1) (Fc.b f))] from (by unfold bF_; rw [if_pos (by first | assumption | simpa using hr4 | simp [*])])]; simpa only [List.append_assoc, List.append_nil] using q)⟩ (by dsimp only; omega) ⟨rfl, rfl, rfl, rfl, rfl, rfl, trivial⟩ (m_ (f_ i_) S_) (fun _ _ h => h.2)
 ·
  replace hr1 := dT hr1
  refine t_ rfl (c_ (a_ (d_ rfl) rfl (a_ (l_ o_ rfl rfl rfl j_) rfl (a_ (u_ 0 q_ rfl rfl rfl) rfl (W_ (dS_ (Fc.a f) [33]) rfl I_ (fun _ _ _ => by exact trivial) rfl fun _ => ?_)))))
  refine aJ_ G_ B_ ak_ rfl rfl rfl rfl rfl rfl fun b10 => ?_
  refine bz_ (List.flatMap Fc.cells [(an_ (Fc.a f) [33])]) i_ rfl ?_
  refine aI_ (news := List.flatMap Fc.cells [(an_ (Fc.a f) [33])]) ca_ (do_ b2 41 6) rfl rfl (fun q => by cases q) (by simp) S_ (by rw [bp_ Fc.cells 6 Fc.cells_len]; rfl) (fun v _ h => by exact h.1) (fun u hu => aK_ Fc.cells_one hu) (by simp only [maxLen]; ((try simp only [List.length_append, List.length_cons, List.length_nil]); omega)) (by ((try simp only [List.length_append, List.length_cons, List.length_nil]); omega)) rfl fun sv9 Hr9 hr9 => ?_
  refine aj_ List.perm_append_comm ?_
  have hq9 : aQ_ 41 6 sv9 (List.length (([] : List Fc) ++ [(an_ (Fc.a f) [33])])) (List.flatMap Fc.cells (([] : List Fc) ++ [(an_ (Fc.a f) [33])])) Hr9 := by rw [List.length_append, List.flatMap_append]; exact hr9
  refine a_ (g_ rfl) rfl (e_ (b_ rfl (h_ (h_ (c_ (a_ (g_ rfl) rfl (e_ (b_ rfl (R_ ?_)))))))))
  have hw10 : aQ_ 41 6 sv9 (List.length ((([] : List Fc) ++ [(an_ (Fc.a f) [33])]) ++ List.flatMap (bF_ l f) (List.take 0 p))) (List.flatMap Fc.cells ((([] : List Fc) ++ [(an_ (Fc.a f) [33])]) ++ List.flatMap (bF_ l f) (List.take 0 p))) Hr9 := by have q := hq9; simpa only [List.take_zero, List.flatMap_nil, List.append_nil, List.length_nil] using q
  refine aL_ (ι := {y : Nat × Value × Hp // y.1 ≤ List.length p ∧ aQ_ 41 6 y.2.1 (List.length ((([] : List Fc) ++ [(an_ (Fc.a f) [33])]) ++ List.flatMap (bF_ l f) (List.take y.1 p))) (List.flatMap Fc.cells ((([] : List Fc) ++ [(an_ (Fc.a f) [33])]) ++ List.flatMap (bF_ l f) (List.take y.1 p))) y.2.2}) (fun y => [(0, .slice pad (List.length p) pcap), (1, .slice lad (List.length l) lcap), (5, zp_ b1 0), (6, .slice none 0 0), (7, y.1.2.1), (8, .int .i64 (y.1.1 : Int))]) (fun y => ((b1, .cells (Fc.cells f).toArray 41 (0, 0)) :: y.1.2.2)) (fun y => [az_ (some ⟨b10, 0, none⟩) (List.flatMap Fc.cells [(an_ (Fc.a f) [33])]), az_ pad (List.flatMap Pc.cells p), az_ lad (List.flatMap Fc.cells l)]) (fun y => List.length p - y.1.1) ⟨((0 : Nat), sv9, Hr9), by simp, hw10⟩ ⟨rfl, rfl, rfl, rfl, rfl, rfl, trivial⟩ (m_ i_ aD_) (fun _ _ h => h) ?_
  rintro ⟨⟨i, sv_Rfc, H_Rfc⟩, hi_i, hr_Rfc⟩
  dsimp only at hi_i hr_Rfc ⊢
  have hb1 := dG_ (g := bF_ l f) (n := 131072) (List.take i p) (fun x _ => kg_ hl f x)
  rw [List.length_take] at hb1
  refine h_ (h_ (c_ (a_ (d_ rfl) rfl (a_ (d_ rfl) rfl (a_ (am_ A_ rfl) rfl (x_ (av_ rfl rfl) rfl fun r29 hr29 => ?_))))))
  refine e_ (b_ rfl ?_)
  cases r29
  ·
   replace hr29 := of_decide_eq_false hr29
   rw [show List.take i p = p from List.take_of_length_le (by omega)] at hr_Rfc
   refine v_ rfl (au_ rfl (b_ rfl (h_ (c_ (a_ (d_ rfl) rfl (a_ (g_ rfl) rfl (e_ (b_ rfl (F_ ?_)))))))))
   have hw11 : aQ_ 41 6 sv_Rfc (List.length (fB_ p l f)) (List.flatMap Fc.cells (fB_ p l f)) H_Rfc := by have q := hr_Rfc; unfold fB_; first | (rw [if_pos (by assumption)]; simpa only [List.nil_append] using q) | (rw [if_neg (by assumption)]; simpa only [List.nil_append] using q)
   refine bk_ hw11 S_ fun ad2 cp2 had2 hcad2 hmad2 hzad2 => ?_
   exact aw_ Tryz.results119 ⟨(ad2, cp2), hcad2, hmad2, hzad2⟩ (bU_ rfl had2) I_ (fun v _ h => ⟨h.1, trivial⟩)
  ·
   replace hr29 := of_decide_eq_true hr29
   have hlx1 : i < List.length p := by omega
   obtain ⟨x1, hx1⟩ : ∃ e0, p[i]? = some e0 := ⟨_, List.getElem?_eq_getElem hlx1⟩
   have hmx1 : x1 ∈ p := List.mem_of_getElem? hx1
   refine t_ rfl (z_ (b_ rfl (h_ (R_ (h_ (c_ (a_ (d_ rfl) rfl (a_ (d_ rfl) rfl (a_ (aa_ A_ K_ rfl rfl (fun v _ h => ay_ (n := 10) Pc.cells_len (by decide) (by exact h.2.1) hx1) (by omega) (by first | omega | (simp; done))) rfl ?_)))))))))
   refine a_ (aU_ (ad := pad) (us := Pc.cells x1) aG_ K_ rfl (fun v _ h => by exact h.2.1) (Pc.cells_len _) (ad_ Pc.cells_len hx1)) rfl (ao_ aX_ rfl fun b11 => ?_)
   refine Q_ 0 K_ rfl rfl rfl rfl rfl rfl (e_ (b_ rfl (R_ (h_ (c_ (a_ (l_ k_ rfl rfl rfl L_) rfl (a_ (u_ 0 P_ rfl rfl rfl) rfl (x_ (aM_ rfl rfl) rfl fun r30 hr30 => ?_))))))))
   refine a_ (d_ rfl) rfl ?_
   refine aT_ 6 (((Pc.kind x1) == 5) && ((Pc.r x1) == (Fc.r f))) (fun r => [(0, .slice pad (List.length p) pcap), (1, .slice lad (List.length l) lcap), (5, zp_ b1 0), (6, .slice none 0 0), (7, sv_Rfc), (8, .int .i64 (i : Int)), (9, zp_ b11 0), (44, .bool r)]) ?_ fun r31 hr31 => ?_
   ·
    cases r30
    ·
     have qr31 := hr30
     replace hr30 := ne_of_beq_false hr30
     refine r_ rfl rfl rfl rfl (r_ rfl rfl rfl rfl (r_ rfl rfl rfl rfl (r_ rfl rfl rfl rfl (r_ rfl rfl rfl rfl (a_ (C_ rfl rfl) rfl (e_ (w_ rfl ?_)))))))
     exact met ⟨rfl, rfl, rfl, rfl, rfl, rfl, rfl, (y_ rfl (jaf qr31)), trivial⟩
    ·
     have qr31 := hr30
     replace hr30 := eq_of_beq hr30
     refine p_ rfl rfl (a_ (l_ k_ rfl rfl rfl j_) rfl (p_ rfl rfl (a_ (u_ 0 q_ rfl rfl rfl) rfl (p_ rfl rfl (a_ (l_ o_ rfl rfl rfl j_) rfl (p_ rfl rfl (a_ (u_ 1 q_ rfl rfl rfl) rfl (p_ rfl rfl (x_ (aq_ rfl rfl) rfl fun r32 hr32 => ?_)))))))))
     refine a_ (H_ rfl rfl) rfl (e_ (w_ rfl ?_))
     exact met ⟨rfl, rfl, rfl, rfl, rfl, rfl, rfl, (y_ rfl (jat qr31 hr32)), trivial⟩
   ·
    refine a_ (g_ rfl) rfl (e_ (b_ rfl ?_))
    cases r31
    ·
     simp at hr31
     refine v_ rfl (h_ (c_ (a_ (l_ k_ rfl rfl rfl L_) rfl (a_ (u_ 0 P_ rfl rfl rfl) rfl (x_ (aM_ rfl rfl) rfl fun r33 hr33 => ?_)))))
     refine a_ (d_ rfl) rfl ?_
     refine aT_ 6 (((Pc.kind x1) == 4) && ((Pc.r x1) == (Fc.r f))) (fun r => [(0, .slice pad (List.length p) pcap), (1, .slice lad (List.length l) lcap), (5, zp_ b1 0), (6, .slice none 0 0), (7, sv_Rfc), (8, .int .i64 (i : Int)), (9, zp_ b11 0), (65, .bool r)]) ?_ fun r34 hr34 => ?_
     ·
      cases r33
      ·
       have qr34 := hr33
       replace hr33 := ne_of_beq_false hr33
       refine r_ rfl rfl rfl rfl (r_ rfl rfl rfl rfl (r_ rfl rfl rfl rfl (r_ rfl rfl rfl rfl (r_ rfl rfl rfl rfl (a_ (C_ rfl rfl) rfl (e_ (w_ rfl ?_)))))))
       exact met ⟨rfl, rfl, rfl, rfl, rfl, rfl, rfl, (y_ rfl (jaf qr34)), trivial⟩
      ·
       have qr34 := hr33
       replace hr33 := eq_of_beq hr33
       refine p_ rfl rfl (a_ (l_ k_ rfl rfl rfl j_) rfl (p_ rfl rfl (a_ (u_ 0 q_ rfl rfl rfl) rfl (p_ rfl rfl (a_ (l_ o_ rfl rfl rfl j_) rfl (p_ rfl rfl (a_ (u_ 1 q_ rfl rfl rfl) rfl (p_ rfl rfl (x_ (aq_ rfl rfl) rfl fun r35 hr35 => ?_)))))))))
       refine a_ (H_ rfl rfl) rfl (e_ (w_ rfl ?_))
       exact met ⟨rfl, rfl, rfl, rfl, rfl, rfl, rfl, (y_ rfl (jat qr34 hr35)), trivial⟩
     ·
      refine a_ (d_ rfl) rfl ?_
      refine aT_ 8 (((((Pc.kind x1) == 4) && ((Pc.r x1) == (Fc.r f)))) && (decide ((an_ (Fc.b f) (Pc.a x1)) ∈ l))) (fun r => [(0, .slice pad (List.length p) pcap), (1, .slice lad (List.length l) lcap), (5, zp_ b1 0), (6, .slice none 0 0), (7, sv_Rfc), (8, .int .i64 (i : Int)), (9, zp_ b11 0), (74, .bool r)]) ?_ fun r36 hr36 => ?_
      ·
       cases r34
       ·
        have qr36 := hr34
        simp at hr34
        refine r_ rfl rfl rfl rfl (r_ rfl rfl rfl rfl (r_ rfl rfl rfl rfl (r_ rfl rfl rfl rfl (r_ rfl rfl rfl rfl (r_ rfl rfl rfl rfl (r_ rfl rfl rfl rfl (a_ (C_ rfl rfl) rfl (e_ (w_ rfl ?_)))))))))
        exact met ⟨rfl, rfl, rfl, rfl, rfl, rfl, rfl, (y_ rfl (jaf qr36)), trivial⟩
       ·
        have qr36 := hr34
        simp at hr34
        refine p_ rfl rfl (a_ (d_ rfl) rfl (p_ rfl rfl (a_ (l_ o_ rfl rfl rfl j_) rfl (p_ rfl rfl (a_ (u_ 1 q_ rfl rfl rfl) rfl (p_ rfl rfl (a_ (l_ k_ rfl rfl rfl j_) rfl (p_ rfl rfl (a_ (u_ 0 q_ rfl rfl rfl) rfl ?_)))))))))
        refine p_ rfl rfl (W_ (dS_ (Fc.b f) (Pc.a x1)) rfl I_ (fun _ _ _ => by exact trivial) rfl fun _ => ?_)
        refine p_ rfl rfl (as_ (jj_ l lad lcap (an_ (Fc.b f) (Pc.a x1)) (by omega) hs) rfl I_ (fun v _ h => by exact ⟨h.2.2.1, trivial⟩) rfl fun r37 hr37 => ?_)
        refine a_ (H_ rfl rfl) rfl (e_ (w_ rfl ?_))
        exact met ⟨rfl, rfl, rfl, rfl, rfl, rfl, rfl, (y_ rfl (jat qr36 hr37)), trivial⟩
      ·
       refine a_ (g_ rfl) rfl (e_ (b_ rfl ?_))
       cases r36
       ·
        simp at hr36
        refine v_ rfl (h_ (c_ (a_ (l_ k_ rfl rfl rfl L_) rfl (a_ (u_ 0 P_ rfl rfl rfl) rfl (x_ (aM_ rfl rfl) rfl fun r38 hr38 => ?_)))))
        refine a_ (g_ rfl) rfl (e_ (b_ rfl ?_))
        cases r38
        ·
         replace hr38 := ne_of_beq_false hr38
         refine v_ rfl (z_ (b_ rfl (c_ (a_ (d_ rfl) rfl (a_ (M_ rfl rfl rfl (af_ (by omega) (by omega))) rfl (a_ (g_ rfl) rfl (e_ (w_ rfl ?_))))))))
         exact Z_ ⟨(i + 1, sv_Rfc, H_Rfc), hlx1, (by have q := hr_Rfc; rw [br_ hx1, show (bF_ l f) x1 = [] from (by unfold bF_; rw [if_neg (by first | assumption | simpa using hr31 | simp [*]), if_neg (by first | assumption | simpa using hr36 | simp [*]), if_neg (by first | assumption | simpa using hr38 | simp [*])])]; simpa only [List.append_assoc, List.append_nil] using q)⟩ (by dsimp only; omega) ⟨rfl, rfl, rfl, rfl, rfl, rfl, trivial⟩ (m_ (f_ i_) S_) (fun _ _ h => h)
        ·
         replace hr38 := eq_of_beq hr38
         refine t_ rfl (h_ (c_ (a_ (g_ rfl) rfl (e_ (b_ rfl (R_ ?_))))))
         have hw12 : aQ_ 41 6 sv_Rfc (List.length (((([] : List Fc) ++ [(an_ (Fc.a f) [33])]) ++ List.flatMap (bF_ l f) (List.take i p)) ++ List.flatMap (bQ_ x1 f) (List.take 0 l))) (List.flatMap Fc.cells (((([] : List Fc) ++ [(an_ (Fc.a f) [33])]) ++ List.flatMap (bF_ l f) (List.take i p)) ++ List.flatMap (bQ_ x1 f) (List.take 0 l))) H_Rfc := by have q := hr_Rfc; simpa only [List.take_zero, List.flatMap_nil, List.append_nil, List.length_nil] using q
         refine aL_ (ι := {y : Nat × Value × Hp // y.1 ≤ List.length l ∧ aQ_ 41 6 y.2.1 (List.length (((([] : List Fc) ++ [(an_ (Fc.a f) [33])]) ++ List.flatMap (bF_ l f) (List.take i p)) ++ List.flatMap (bQ_ x1 f) (List.take y.1 l))) (List.flatMap Fc.cells (((([] : List Fc) ++ [(an_ (Fc.a f) [33])]) ++ List.flatMap (bF_ l f) (List.take i p)) ++ List.flatMap (bQ_ x1 f) (List.take y.1 l))) y.2.2}) (fun y => [(0, .slice pad (List.length p) pcap), (1, .slice lad (List.length l) lcap), (5, zp_ b1 0), (6, .slice none 0 0), (7, y.1.2.1), (8, .int .i64 (i : Int)), (9, zp_ b11 0), (10, .int .i64 (y.1.1 : Int))]) (fun y => ((b11, .cells (Pc.cells x1).toArray 47 (0, 0)) :: ((b1, .cells (Fc.cells f).toArray 41 (0, 0)) :: y.1.2.2))) (fun y => [az_ (some ⟨b10, 0, none⟩) (List.flatMap Fc.cells [(an_ (Fc.a f) [33])]), az_ pad (List.flatMap Pc.cells p), az_ lad (List.flatMap Fc.cells l)]) (fun y => List.length l - y.1.1) ⟨((0 : Nat), sv_Rfc, H_Rfc), by simp, hw12⟩ ⟨rfl, rfl, rfl, rfl, rfl, rfl, rfl, rfl, trivial⟩ (m_ i_ (m_ i_ aD_)) (fun _ _ h => h) ?_
         rintro ⟨⟨j, sv_Rfc, H_Rfc⟩, hi_j, hr_Rfc⟩
         dsimp only at hi_j hr_Rfc ⊢
         have hb2 := dG_ (g := bQ_ x1 f) (n := 2) (List.take j l) (fun x _ => hS_ x1 f x)
         rw [List.length_take] at hb2
         refine h_ (h_ (c_ (a_ (d_ rfl) rfl (a_ (d_ rfl) rfl (a_ (am_ G_ rfl) rfl (x_ (av_ rfl rfl) rfl fun r39 hr39 => ?_))))))
         refine e_ (b_ rfl ?_)
         cases r39
         ·
          replace hr39 := of_decide_eq_false hr39
          rw [show List.take j l = l from List.take_of_length_le (by omega)] at hr_Rfc
          refine v_ rfl (au_ rfl (b_ rfl (c_ (a_ (d_ rfl) rfl (a_ (M_ rfl rfl rfl (af_ (by omega) (by omega))) rfl (a_ (g_ rfl) rfl (e_ (w_ rfl ?_))))))))
          exact Z_ ⟨(i + 1, sv_Rfc, H_Rfc), hlx1, (by have q := hr_Rfc; rw [br_ hx1, show (bF_ l f) x1 = List.flatMap (bQ_ x1 f) l from (by unfold bF_; rw [if_neg (by first | assumption | simpa using hr31 | simp [*]), if_neg (by first | assumption | simpa using hr36 | simp [*]), if_pos (by first | assumption | simpa using hr38 | simp [*])])]; simpa only [List.append_assoc, List.append_nil] using q)⟩ (by dsimp only; omega) ⟨rfl, rfl, rfl, rfl, rfl, rfl, trivial⟩ (m_ (f_ i_) S_) (fun _ _ h => h)
         ·
          replace hr39 := of_decide_eq_true hr39
          have hlx2 : j < List.length l := by omega
          obtain ⟨x2, hx2⟩ : ∃ e0, l[j]? = some e0 := ⟨_, List.getElem?_eq_getElem hlx2⟩
          have hmx2 : x2 ∈ l := List.mem_of_getElem? hx2
          refine t_ rfl (z_ (b_ rfl (h_ (R_ (h_ (c_ (a_ (d_ rfl) rfl (a_ (d_ rfl) rfl (a_ (aa_ G_ B_ rfl rfl (fun v _ h => ay_ (n := 6) Fc.cells_len (by decide) (by exact h.2.2.1) hx2) (by omega) (by first | omega | (simp; done))) rfl ?_)))))))))
          refine a_ (aU_ (ad := lad) (us := Fc.cells x2) ai_ B_ rfl (fun v _ h => by exact h.2.2.1) (Fc.cells_len _) (ad_ Fc.cells_len hx2)) rfl (ao_ ak_ rfl fun b12 => ?_)
          refine Q_ 0 B_ rfl rfl rfl rfl rfl rfl (e_ (b_ rfl (h_ (h_ (c_ (a_ (l_ o_ rfl rfl rfl L_) rfl (a_ (u_ 0 P_ rfl rfl rfl) rfl (x_ (bN_ rfl rfl) rfl fun r40 hr40 => ?_))))))))
          refine e_ (b_ rfl ?_)
          cases r40
          ·
           replace hr40 := bb_ hr40
           refine v_ rfl (z_ (b_ rfl (h_ (h_ (c_ (a_ (l_ k_ rfl rfl rfl j_) rfl (a_ (u_ 1 q_ rfl rfl rfl) rfl (a_ (l_ o_ rfl rfl rfl j_) rfl (a_ (u_ 2 q_ rfl rfl rfl) rfl ?_)))))))))
           refine x_ (aq_ rfl rfl) rfl fun r41 hr41 => ?_
           refine a_ (d_ rfl) rfl ?_
           refine aT_ 6 (((Pc.r x1) == (Fc.r f)) && ((Fc.a x2) == (Fc.b f))) (fun r => [(0, .slice pad (List.length p) pcap), (1, .slice lad (List.length l) lcap), (5, zp_ b1 0), (6, .slice none 0 0), (7, sv_Rfc), (8, .int .i64 (i : Int)), (9, zp_ b11 0), (10, .int .i64 (j : Int)), (11, zp_ b12 0), (111, .bool r)]) ?_ fun r42 hr42 => ?_
           ·
            cases r41
            ·
             have qr42 := hr41
             replace hr41 := ne_of_beq_false hr41
             refine r_ rfl rfl rfl rfl (r_ rfl rfl rfl rfl (r_ rfl rfl rfl rfl (r_ rfl rfl rfl rfl (r_ rfl rfl rfl rfl (a_ (C_ rfl rfl) rfl (e_ (w_ rfl ?_)))))))
             exact met ⟨rfl, rfl, rfl, rfl, rfl, rfl, rfl, rfl, rfl, (y_ rfl (jaf qr42)), trivial⟩
            ·
             have qr42 := hr41
             replace hr41 := eq_of_beq hr41
             refine p_ rfl rfl (a_ (l_ o_ rfl rfl rfl j_) rfl (p_ rfl rfl (a_ (u_ 0 q_ rfl rfl rfl) rfl (p_ rfl rfl (a_ (l_ o_ rfl rfl rfl j_) rfl (p_ rfl rfl (a_ (u_ 2 q_ rfl rfl rfl) rfl (p_ rfl rfl (x_ (aq_ rfl rfl) rfl fun r43 hr43 => ?_)))))))))
             refine a_ (H_ rfl rfl) rfl (e_ (w_ rfl ?_))
             exact met ⟨rfl, rfl, rfl, rfl, rfl, rfl, rfl, rfl, rfl, (y_ rfl (jat qr42 hr43)), trivial⟩
           ·
            refine a_ (d_ rfl) rfl ?_
            refine aT_ 6 (((((Pc.r x1) == (Fc.r f)) && ((Fc.a x2) == (Fc.b f)))) && ((Fc.r x2) == (Pc.s x1))) (fun r => [(0, .slice pad (List.length p) pcap), (1, .slice lad (List.length l) lcap), (5, zp_ b1 0), (6, .slice none 0 0), (7, sv_Rfc), (8, .int .i64 (i : Int)), (9, zp_ b11 0), (10, .int .i64 (j : Int)), (11, zp_ b12 0), (118, .bool r)]) ?_ fun r44 hr44 => ?_
            ·
             cases r42
             ·
              have qr44 := hr42
              simp at hr42
              refine r_ rfl rfl rfl rfl (r_ rfl rfl rfl rfl (r_ rfl rfl rfl rfl (r_ rfl rfl rfl rfl (r_ rfl rfl rfl rfl (a_ (C_ rfl rfl) rfl (e_ (w_ rfl ?_)))))))
              exact met ⟨rfl, rfl, rfl, rfl, rfl, rfl, rfl, rfl, rfl, (y_ rfl (jaf qr44)), trivial⟩
             ·
              have qr44 := hr42
              simp at hr42
              refine p_ rfl rfl (a_ (l_ o_ rfl rfl rfl j_) rfl (p_ rfl rfl (a_ (u_ 0 q_ rfl rfl rfl) rfl (p_ rfl rfl (a_ (l_ k_ rfl rfl rfl j_) rfl (p_ rfl rfl (a_ (u_ 1 q_ rfl rfl rfl) rfl (p_ rfl rfl (x_ (aq_ rfl rfl) rfl fun r45 hr45 => ?_)))))))))
              refine a_ (H_ rfl rfl) rfl (e_ (w_ rfl ?_))
              exact met ⟨rfl, rfl, rfl, rfl, rfl, rfl, rfl, rfl, rfl, (y_ rfl (jat qr44 hr45)), trivial⟩
            ·
             refine e_ (b_ rfl ?_)
             cases r44
             ·
              simp at hr44
              refine v_ rfl (z_ (b_ rfl (h_ (c_ (a_ (l_ k_ rfl rfl rfl j_) rfl (a_ (u_ 1 q_ rfl rfl rfl) rfl (a_ (l_ o_ rfl rfl rfl j_) rfl (a_ (u_ 2 q_ rfl rfl rfl) rfl (x_ (aq_ rfl rfl) rfl fun r46 hr46 => ?_)))))))))
              refine a_ (d_ rfl) rfl ?_
              refine aT_ 6 (((Pc.s x1) == (Fc.r f)) && ((Fc.b x2) == (Fc.a f))) (fun r => [(0, .slice pad (List.length p) pcap), (1, .slice lad (List.length l) lcap), (5, zp_ b1 0), (6, .slice none 0 0), (7, sv_Rfc), (8, .int .i64 (i : Int)), (9, zp_ b11 0), (10, .int .i64 (j : Int)), (11, zp_ b12 0), (140, .bool r)]) ?_ fun r47 hr47 => ?_
              ·
               cases r46
               ·
                have qr47 := hr46
                replace hr46 := ne_of_beq_false hr46
                refine r_ rfl rfl rfl rfl (r_ rfl rfl rfl rfl (r_ rfl rfl rfl rfl (r_ rfl rfl rfl rfl (r_ rfl rfl rfl rfl (a_ (C_ rfl rfl) rfl (e_ (w_ rfl ?_)))))))
                exact met ⟨rfl, rfl, rfl, rfl, rfl, rfl, rfl, rfl, rfl, (y_ rfl (jaf qr47)), trivial⟩
               ·
                have qr47 := hr46
                replace hr46 := eq_of_beq hr46
                refine p_ rfl rfl (a_ (l_ o_ rfl rfl rfl j_) rfl (p_ rfl rfl (a_ (u_ 0 q_ rfl rfl rfl) rfl (p_ rfl rfl (a_ (l_ o_ rfl rfl rfl j_) rfl (p_ rfl rfl (a_ (u_ 2 q_ rfl rfl rfl) rfl (p_ rfl rfl (x_ (aq_ rfl rfl) rfl fun r48 hr48 => ?_)))))))))
                refine a_ (H_ rfl rfl) rfl (e_ (w_ rfl ?_))
                exact met ⟨rfl, rfl, rfl, rfl, rfl, rfl, rfl, rfl, rfl, (y_ rfl (jat qr47 hr48)), trivial⟩
              ·
               refine a_ (d_ rfl) rfl ?_
               refine aT_ 6 (((((Pc.s x1) == (Fc.r f)) && ((Fc.b x2) == (Fc.a f)))) && ((Fc.r x2) == (Pc.r x1))) (fun r => [(0, .slice pad (List.length p) pcap), (1, .slice lad (List.length l) lcap), (5, zp_ b1 0), (6, .slice none 0 0), (7, sv_Rfc), (8, .int .i64 (i : Int)), (9, zp_ b11 0), (10, .int .i64 (j : Int)), (11, zp_ b12 0), (147, .bool r)]) ?_ fun r49 hr49 => ?_
               ·
                cases r47
                ·
                 have qr49 := hr47
                 simp at hr47
                 refine r_ rfl rfl rfl rfl (r_ rfl rfl rfl rfl (r_ rfl rfl rfl rfl (r_ rfl rfl rfl rfl (r_ rfl rfl rfl rfl (a_ (C_ rfl rfl) rfl (e_ (w_ rfl ?_)))))))
                 exact met ⟨rfl, rfl, rfl, rfl, rfl, rfl, rfl, rfl, rfl, (y_ rfl (jaf qr49)), trivial⟩
                ·
                 have qr49 := hr47
                 simp at hr47
                 refine p_ rfl rfl (a_ (l_ o_ rfl rfl rfl j_) rfl (p_ rfl rfl (a_ (u_ 0 q_ rfl rfl rfl) rfl (p_ rfl rfl (a_ (l_ k_ rfl rfl rfl j_) rfl (p_ rfl rfl (a_ (u_ 1 q_ rfl rfl rfl) rfl (p_ rfl rfl (x_ (aq_ rfl rfl) rfl fun r50 hr50 => ?_)))))))))
                 refine a_ (H_ rfl rfl) rfl (e_ (w_ rfl ?_))
                 exact met ⟨rfl, rfl, rfl, rfl, rfl, rfl, rfl, rfl, rfl, (y_ rfl (jat qr49 hr50)), trivial⟩
               ·
                refine e_ (b_ rfl ?_)
                cases r49
                ·
                 simp at hr49
                 refine v_ rfl (z_ (b_ rfl (c_ (a_ (d_ rfl) rfl (a_ (M_ rfl rfl rfl (af_ (by omega) (by omega))) rfl (a_ (g_ rfl) rfl (e_ (w_ rfl ?_))))))))
                 exact Z_ ⟨(j + 1, sv_Rfc, H_Rfc), hlx2, (by have q := hr_Rfc; rw [br_ hx2, show (bQ_ x1 f) x2 = [] from (by unfold bQ_; rw [if_neg (by simp [*]), if_neg (by first | assumption | simpa using hr44 | simp [*]), if_neg (by first | assumption | simpa using hr49 | simp [*])]; try rfl)]; simpa only [List.append_assoc, List.append_nil] using q)⟩ (by dsimp only; omega) ⟨rfl, rfl, rfl, rfl, rfl, rfl, rfl, rfl, trivial⟩ (m_ (f_ i_) (m_ (f_ i_) S_)) (fun _ _ h => h)
                ·
                 simp at hr49
                 refine t_ rfl (c_ (a_ (d_ rfl) rfl (a_ (l_ o_ rfl rfl rfl j_) rfl (a_ (u_ 0 q_ rfl rfl rfl) rfl (a_ (l_ k_ rfl rfl rfl j_) rfl (a_ (u_ 1 q_ rfl rfl rfl) rfl (a_ (l_ o_ rfl rfl rfl j_) rfl (a_ (u_ 2 q_ rfl rfl rfl) rfl (W_ (eI_ (Fc.a x2) (Pc.t x1) (Fc.b f)) rfl I_ (fun _ _ _ => by exact trivial) rfl fun _ => ?_)))))))))
                 refine aJ_ G_ B_ ak_ rfl rfl rfl rfl rfl rfl fun b13 => ?_
                 refine bz_ (List.flatMap Fc.cells [(ax_ (Fc.a x2) (Pc.t x1) (Fc.b f))]) i_ rfl ?_
                 refine aI_ (news := List.flatMap Fc.cells [(ax_ (Fc.a x2) (Pc.t x1) (Fc.b f))]) ca_ hr_Rfc rfl rfl (fun q => by cases q) (by simp) (f_ (f_ S_)) (by rw [bp_ Fc.cells 6 Fc.cells_len]; rfl) (fun v _ h => by exact h.1) (fun u hu => aK_ Fc.cells_one hu) (by simp only [maxLen]; ((try simp only [List.length_append, List.length_cons, List.length_nil]); omega)) (by ((try simp only [List.length_append, List.length_cons, List.length_nil]); omega)) rfl fun sv13 Hr13 hr13 => ?_
                 refine aj_ List.perm_append_comm ?_
                 have hq13 : aQ_ 41 6 sv13 (List.length ((((([] : List Fc) ++ [(an_ (Fc.a f) [33])]) ++ List.flatMap (bF_ l f) (List.take i p)) ++ List.flatMap (bQ_ x1 f) (List.take j l)) ++ [(ax_ (Fc.a x2) (Pc.t x1) (Fc.b f))])) (List.flatMap Fc.cells ((((([] : List Fc) ++ [(an_ (Fc.a f) [33])]) ++ List.flatMap (bF_ l f) (List.take i p)) ++ List.flatMap (bQ_ x1 f) (List.take j l)) ++ [(ax_ (Fc.a x2) (Pc.t x1) (Fc.b f))])) Hr13 := by rw [List.length_append, List.flatMap_append]; exact hr13
                 refine a_ (g_ rfl) rfl (e_ (b_ rfl (c_ (a_ (d_ rfl) rfl (a_ (M_ rfl rfl rfl (af_ (by omega) (by omega))) rfl (a_ (g_ rfl) rfl (e_ (w_ rfl ?_))))))))
                 exact Z_ ⟨(j + 1, sv13, Hr13), hlx2, (by have q := hq13; rw [br_ hx2, show (bQ_ x1 f) x2 = [(ax_ (Fc.a x2) (Pc.t x1) (Fc.b f))] from (by unfold bQ_; rw [if_neg (by simp [*]), if_neg (by first | assumption | simpa using hr44 | simp [*]), if_pos (by first | assumption | simpa using hr49 | simp [*])]; try rfl)]; simpa only [List.append_assoc, List.append_nil] using q)⟩ (by dsimp only; omega) ⟨rfl, rfl, rfl, rfl, rfl, rfl, rfl, rfl, trivial⟩ (m_ (f_ i_) (m_ (f_ i_) S_)) (fun _ _ h => h.2)
             ·
              simp at hr44
              refine t_ rfl (c_ (a_ (d_ rfl) rfl (a_ (l_ o_ rfl rfl rfl j_) rfl (a_ (u_ 2 q_ rfl rfl rfl) rfl (a_ (l_ k_ rfl rfl rfl j_) rfl (a_ (u_ 1 q_ rfl rfl rfl) rfl (a_ (l_ o_ rfl rfl rfl j_) rfl (a_ (u_ 0 q_ rfl rfl rfl) rfl (W_ (eI_ (Fc.a f) (Pc.t x1) (Fc.b x2)) rfl I_ (fun _ _ _ => by exact trivial) rfl fun _ => ?_)))))))))
              refine aJ_ G_ B_ ak_ rfl rfl rfl rfl rfl rfl fun b14 => ?_
              refine bz_ (List.flatMap Fc.cells [(ax_ (Fc.a f) (Pc.t x1) (Fc.b x2))]) i_ rfl ?_
              refine aI_ (news := List.flatMap Fc.cells [(ax_ (Fc.a f) (Pc.t x1) (Fc.b x2))]) ca_ hr_Rfc rfl rfl (fun q => by cases q) (by simp) (f_ (f_ S_)) (by rw [bp_ Fc.cells 6 Fc.cells_len]; rfl) (fun v _ h => by exact h.1) (fun u hu => aK_ Fc.cells_one hu) (by simp only [maxLen]; ((try simp only [List.length_append, List.length_cons, List.length_nil]); omega)) (by ((try simp only [List.length_append, List.length_cons, List.length_nil]); omega)) rfl fun sv14 Hr14 hr14 => ?_
              refine aj_ List.perm_append_comm ?_
              have hq14 : aQ_ 41 6 sv14 (List.length ((((([] : List Fc) ++ [(an_ (Fc.a f) [33])]) ++ List.flatMap (bF_ l f) (List.take i p)) ++ List.flatMap (bQ_ x1 f) (List.take j l)) ++ [(ax_ (Fc.a f) (Pc.t x1) (Fc.b x2))])) (List.flatMap Fc.cells ((((([] : List Fc) ++ [(an_ (Fc.a f) [33])]) ++ List.flatMap (bF_ l f) (List.take i p)) ++ List.flatMap (bQ_ x1 f) (List.take j l)) ++ [(ax_ (Fc.a f) (Pc.t x1) (Fc.b x2))])) Hr14 := by rw [List.length_append, List.flatMap_append]; exact hr14
              refine a_ (g_ rfl) rfl (e_ (b_ rfl (h_ (c_ (a_ (l_ k_ rfl rfl rfl j_) rfl (a_ (u_ 1 q_ rfl rfl rfl) rfl (a_ (l_ o_ rfl rfl rfl j_) rfl (a_ (u_ 2 q_ rfl rfl rfl) rfl (x_ (aq_ rfl rfl) rfl fun r51 hr51 => ?_)))))))))
              refine a_ (d_ rfl) rfl ?_
              refine aT_ 6 (((Pc.s x1) == (Fc.r f)) && ((Fc.b x2) == (Fc.a f))) (fun r => [(0, .slice pad (List.length p) pcap), (1, .slice lad (List.length l) lcap), (5, zp_ b1 0), (6, .slice none 0 0), (7, sv14), (8, .int .i64 (i : Int)), (9, zp_ b11 0), (10, .int .i64 (j : Int)), (11, zp_ b12 0), (140, .bool r)]) ?_ fun r52 hr52 => ?_
              ·
               cases r51
               ·
                have qr52 := hr51
                replace hr51 := ne_of_beq_false hr51
                refine r_ rfl rfl rfl rfl (r_ rfl rfl rfl rfl (r_ rfl rfl rfl rfl (r_ rfl rfl rfl rfl (r_ rfl rfl rfl rfl (a_ (C_ rfl rfl) rfl (e_ (w_ rfl ?_)))))))
                exact met ⟨rfl, rfl, rfl, rfl, rfl, rfl, rfl, rfl, rfl, (y_ rfl (jaf qr52)), trivial⟩
               ·
                have qr52 := hr51
                replace hr51 := eq_of_beq hr51
                refine p_ rfl rfl (a_ (l_ o_ rfl rfl rfl j_) rfl (p_ rfl rfl (a_ (u_ 0 q_ rfl rfl rfl) rfl (p_ rfl rfl (a_ (l_ o_ rfl rfl rfl j_) rfl (p_ rfl rfl (a_ (u_ 2 q_ rfl rfl rfl) rfl (p_ rfl rfl (x_ (aq_ rfl rfl) rfl fun r53 hr53 => ?_)))))))))
                refine a_ (H_ rfl rfl) rfl (e_ (w_ rfl ?_))
                exact met ⟨rfl, rfl, rfl, rfl, rfl, rfl, rfl, rfl, rfl, (y_ rfl (jat qr52 hr53)), trivial⟩
              ·
               refine a_ (d_ rfl) rfl ?_
               refine aT_ 6 (((((Pc.s x1) == (Fc.r f)) && ((Fc.b x2) == (Fc.a f)))) && ((Fc.r x2) == (Pc.r x1))) (fun r => [(0, .slice pad (List.length p) pcap), (1, .slice lad (List.length l) lcap), (5, zp_ b1 0), (6, .slice none 0 0), (7, sv14), (8, .int .i64 (i : Int)), (9, zp_ b11 0), (10, .int .i64 (j : Int)), (11, zp_ b12 0), (147, .bool r)]) ?_ fun r54 hr54 => ?_
               ·
                cases r52
                ·
                 have qr54 := hr52
                 simp at hr52
                 refine r_ rfl rfl rfl rfl (r_ rfl rfl rfl rfl (r_ rfl rfl rfl rfl (r_ rfl rfl rfl rfl (r_ rfl rfl rfl rfl (a_ (C_ rfl rfl) rfl (e_ (w_ rfl ?_)))))))
                 exact met ⟨rfl, rfl, rfl, rfl, rfl, rfl, rfl, rfl, rfl, (y_ rfl (jaf qr54)), trivial⟩
                ·
                 have qr54 := hr52
                 simp at hr52
                 refine p_ rfl rfl (a_ (l_ o_ rfl rfl rfl j_) rfl (p_ rfl rfl (a_ (u_ 0 q_ rfl rfl rfl) rfl (p_ rfl rfl (a_ (l_ k_ rfl rfl rfl j_) rfl (p_ rfl rfl (a_ (u_ 1 q_ rfl rfl rfl) rfl (p_ rfl rfl (x_ (aq_ rfl rfl) rfl fun r55 hr55 => ?_)))))))))
                 refine a_ (H_ rfl rfl) rfl (e_ (w_ rfl ?_))
                 exact met ⟨rfl, rfl, rfl, rfl, rfl, rfl, rfl, rfl, rfl, (y_ rfl (jat qr54 hr55)), trivial⟩
               ·
                refine e_ (b_ rfl ?_)
                cases r54
                ·
                 simp at hr54
                 refine v_ rfl (z_ (b_ rfl (c_ (a_ (d_ rfl) rfl (a_ (M_ rfl rfl rfl (af_ (by omega) (by omega))) rfl (a_ (g_ rfl) rfl (e_ (w_ rfl ?_))))))))
                 exact Z_ ⟨(j + 1, sv14, Hr14), hlx2, (by have q := hq14; rw [br_ hx2, show (bQ_ x1 f) x2 = [(ax_ (Fc.a f) (Pc.t x1) (Fc.b x2))] from (by unfold bQ_; rw [if_neg (by simp [*]), if_pos (by first | assumption | simpa using hr44 | simp [*]), if_neg (by first | assumption | simpa using hr54 | simp [*])]; try rfl)]; simpa only [List.append_assoc, List.append_nil] using q)⟩ (by dsimp only; omega) ⟨rfl, rfl, rfl, rfl, rfl, rfl, rfl, rfl, trivial⟩ (m_ (f_ i_) (m_ (f_ i_) S_)) (fun _ _ h => h.2)
                ·
                 simp at hr54
                 refine t_ rfl (c_ (a_ (d_ rfl) rfl (a_ (l_ o_ rfl rfl rfl j_) rfl (a_ (u_ 0 q_ rfl rfl rfl) rfl (a_ (l_ k_ rfl rfl rfl j_) rfl (a_ (u_ 1 q_ rfl rfl rfl) rfl (a_ (l_ o_ rfl rfl rfl j_) rfl (a_ (u_ 2 q_ rfl rfl rfl) rfl (W_ (eI_ (Fc.a x2) (Pc.t x1) (Fc.b f)) rfl I_ (fun _ _ _ => by exact trivial) rfl fun _ => ?_)))))))))
                 refine aJ_ G_ B_ ak_ rfl rfl rfl rfl rfl rfl fun b15 => ?_
                 refine bz_ (List.flatMap Fc.cells [(ax_ (Fc.a x2) (Pc.t x1) (Fc.b f))]) i_ rfl ?_
                 refine aI_ (news := List.flatMap Fc.cells [(ax_ (Fc.a x2) (Pc.t x1) (Fc.b f))]) ca_ hq14 rfl rfl (fun q => by cases q) (by simp) (f_ (f_ S_)) (by rw [bp_ Fc.cells 6 Fc.cells_len]; rfl) (fun v _ h => by exact h.1) (fun u hu => aK_ Fc.cells_one hu) (by simp only [maxLen]; ((try simp only [List.length_append, List.length_cons, List.length_nil]); omega)) (by ((try simp only [List.length_append, List.length_cons, List.length_nil]); omega)) rfl fun sv15 Hr15 hr15 => ?_
                 refine aj_ List.perm_append_comm ?_
                 have hq15 : aQ_ 41 6 sv15 (List.length (((((([] : List Fc) ++ [(an_ (Fc.a f) [33])]) ++ List.flatMap (bF_ l f) (List.take i p)) ++ List.flatMap (bQ_ x1 f) (List.take j l)) ++ [(ax_ (Fc.a f) (Pc.t x1) (Fc.b x2))]) ++ [(ax_ (Fc.a x2) (Pc.t x1) (Fc.b f))])) (List.flatMap Fc.cells (((((([] : List Fc) ++ [(an_ (Fc.a f) [33])]) ++ List.flatMap (bF_ l f) (List.take i p)) ++ List.flatMap (bQ_ x1 f) (List.take j l)) ++ [(ax_ (Fc.a f) (Pc.t x1) (Fc.b x2))]) ++ [(ax_ (Fc.a x2) (Pc.t x1) (Fc.b f))])) Hr15 := by rw [List.length_append, List.flatMap_append]; exact hr15
                 refine a_ (g_ rfl) rfl (e_ (b_ rfl (c_ (a_ (d_ rfl) rfl (a_ (M_ rfl rfl rfl (af_ (by omega) (by omega))) rfl (a_ (g_ rfl) rfl (e_ (w_ rfl ?_))))))))
                 exact Z_ ⟨(j + 1, sv15, Hr15), hlx2, (by have q := hq15; rw [br_ hx2, show (bQ_ x1 f) x2 = [(ax_ (Fc.a f) (Pc.t x1) (Fc.b x2))] ++ [(ax_ (Fc.a x2) (Pc.t x1) (Fc.b f))] from (by unfold bQ_; rw [if_neg (by simp [*]), if_pos (by first | assumption | simpa using hr44 | simp [*]), if_pos (by first | assumption | simpa using hr54 | simp [*])]; try rfl)]; simpa only [List.append_assoc, List.append_nil] using q)⟩ (by dsimp only; omega) ⟨rfl, rfl, rfl, rfl, rfl, rfl, rfl, rfl, trivial⟩ (m_ (f_ i_) (m_ (f_ i_) S_)) (fun _ _ h => h.2.2)
          ·
           replace hr40 := ba_ hr40
           refine t_ rfl (au_ rfl (b_ rfl (c_ (a_ (d_ rfl) rfl (a_ (M_ rfl rfl rfl (af_ (by omega) (by omega))) rfl (a_ (g_ rfl) rfl (e_ (w_ rfl ?_))))))))
           exact Z_ ⟨(j + 1, sv_Rfc, H_Rfc), hlx2, (by have q := hr_Rfc; rw [br_ hx2, show (bQ_ x1 f) x2 = [] from (by unfold bQ_; rw [if_pos (by assumption)])]; simpa only [List.append_assoc, List.append_nil] using q)⟩ (by dsimp only; omega) ⟨rfl, rfl, rfl, rfl, rfl, rfl, rfl, rfl, trivial⟩ (m_ (f_ i_) (m_ (f_ i_) S_)) (fun _ _ h => h)
       ·
        simp at hr36
        refine t_ rfl (c_ (a_ (d_ rfl) rfl (a_ (l_ o_ rfl rfl rfl j_) rfl (a_ (u_ 1 q_ rfl rfl rfl) rfl (a_ (l_ k_ rfl rfl rfl j_) rfl (a_ (u_ 0 q_ rfl rfl rfl) rfl (W_ (dS_ (Fc.a f) (Pc.c x1)) rfl I_ (fun _ _ _ => by exact trivial) rfl fun _ => ?_)))))))
        refine aJ_ G_ B_ ak_ rfl rfl rfl rfl rfl rfl fun b16 => ?_
        refine bz_ (List.flatMap Fc.cells [(an_ (Fc.a f) (Pc.c x1))]) i_ rfl ?_
        refine aI_ (news := List.flatMap Fc.cells [(an_ (Fc.a f) (Pc.c x1))]) ca_ hr_Rfc rfl rfl (fun q => by cases q) (by simp) (f_ S_) (by rw [bp_ Fc.cells 6 Fc.cells_len]; rfl) (fun v _ h => by exact h.1) (fun u hu => aK_ Fc.cells_one hu) (by simp only [maxLen]; ((try simp only [List.length_append, List.length_cons, List.length_nil]); omega)) (by ((try simp only [List.length_append, List.length_cons, List.length_nil]); omega)) rfl fun sv16 Hr16 hr16 => ?_
        refine aj_ List.perm_append_comm ?_
        have hq16 : aQ_ 41 6 sv16 (List.length (((([] : List Fc) ++ [(an_ (Fc.a f) [33])]) ++ List.flatMap (bF_ l f) (List.take i p)) ++ [(an_ (Fc.a f) (Pc.c x1))])) (List.flatMap Fc.cells (((([] : List Fc) ++ [(an_ (Fc.a f) [33])]) ++ List.flatMap (bF_ l f) (List.take i p)) ++ [(an_ (Fc.a f) (Pc.c x1))])) Hr16 := by rw [List.length_append, List.flatMap_append]; exact hr16
        refine a_ (g_ rfl) rfl (e_ (b_ rfl (c_ (a_ (d_ rfl) rfl (a_ (M_ rfl rfl rfl (af_ (by omega) (by omega))) rfl (a_ (g_ rfl) rfl (e_ (w_ rfl ?_))))))))
        exact Z_ ⟨(i + 1, sv16, Hr16), hlx1, (by have q := hq16; rw [br_ hx1, show (bF_ l f) x1 = [(an_ (Fc.a f) (Pc.c x1))] from (by unfold bF_; rw [if_neg (by first | assumption | simpa using hr31 | simp [*]), if_pos (by first | assumption | simpa using hr36 | simp [*])])]; simpa only [List.append_assoc, List.append_nil] using q)⟩ (by dsimp only; omega) ⟨rfl, rfl, rfl, rfl, rfl, rfl, trivial⟩ (m_ (f_ i_) S_) (fun _ _ h => h.2)
    ·
     simp at hr31
     refine t_ rfl (c_ (a_ (d_ rfl) rfl (a_ (l_ o_ rfl rfl rfl j_) rfl (a_ (u_ 1 q_ rfl rfl rfl) rfl (a_ (l_ k_ rfl rfl rfl j_) rfl (a_ (u_ 0 q_ rfl rfl rfl) rfl (a_ (l_ o_ rfl rfl rfl j_) rfl (a_ (u_ 1 q_ rfl rfl rfl) rfl (W_ (eI_ (Fc.a f) (Pc.t x1) (Fc.b f)) rfl I_ (fun _ _ _ => by exact trivial) rfl fun _ => ?_)))))))))
     refine aJ_ G_ B_ ak_ rfl rfl rfl rfl rfl rfl fun b17 => ?_
     refine bz_ (List.flatMap Fc.cells [(ax_ (Fc.a f) (Pc.t x1) (Fc.b f))]) i_ rfl ?_
     refine aI_ (news := List.flatMap Fc.cells [(ax_ (Fc.a f) (Pc.t x1) (Fc.b f))]) ca_ hr_Rfc rfl rfl (fun q => by cases q) (by simp) (f_ S_) (by rw [bp_ Fc.cells 6 Fc.cells_len]; rfl) (fun v _ h => by exact h.1) (fun u hu => aK_ Fc.cells_one hu) (by simp only [maxLen]; ((try simp only [List.length_append, List.length_cons, List.length_nil]); omega)) (by ((try simp only [List.length_append, List.length_cons, List.length_nil]); omega)) rfl fun sv17 Hr17 hr17 => ?_
     refine aj_ List.perm_append_comm ?_
     have hq17 : aQ_ 41 6 sv17 (List.length (((([] : List Fc) ++ [(an_ (Fc.a f) [33])]) ++ List.flatMap (bF_ l f) (List.take i p)) ++ [(ax_ (Fc.a f) (Pc.t x1) (Fc.b f))])) (List.flatMap Fc.cells (((([] : List Fc) ++ [(an_ (Fc.a f) [33])]) ++ List.flatMap (bF_ l f) (List.take i p)) ++ [(ax_ (Fc.a f) (Pc.t x1) (Fc.b f))])) Hr17 := by rw [List.length_append, List.flatMap_append]; exact hr17
     refine a_ (g_ rfl) rfl (e_ (b_ rfl (c_ (a_ (d_ rfl) rfl (a_ (M_ rfl rfl rfl (af_ (by omega) (by omega))) rfl (a_ (g_ rfl) rfl (e_ (w_ rfl ?_))))))))
     exact Z_ ⟨(i + 1, sv17, Hr17), hlx1, (by have q := hq17; rw [br_ hx1, show (bF_ l f) x1 = [(ax_ (Fc.a f) (Pc.t x1) (Fc.b f))] from (by unfold bF_; rw [if_pos (by first | assumption | simpa using hr31 | simp [*])])]; simpa only [List.append_assoc, List.append_nil] using q)⟩ (by dsimp only; omega) ⟨rfl, rfl, rfl, rfl, rfl, rfl, trivial⟩ (m_ (f_ i_) S_) (fun _ _ h => h.2)
theorem nG_ (p : List Pc) (pad : Option Addr) (pcap : Nat) (l : List Fc) (lad : Option Addr) (lcap : Nat) (f : Fc) (hp : p.length ≤ 100) (hl : l.length ≤ 65536) (hs : Srt l) : Tri Tryz.prog 120 #[.slice pad (List.length p) pcap, .slice lad (List.length l) lcap, Fc.val f] [] [az_ pad (List.flatMap Pc.cells p), az_ lad (List.flatMap Fc.cells l)] (fun y : {y : Option Addr × Nat // ((fU_ p l f)).length ≤ y.2 ∧ y.2 ≤ maxLen ∧ (y.1 = none → y.2 = 0)} => .slice y.1.1 ((fU_ p l f)).length y.1.2) (fun _ => []) (fun y => [az_ y.1.1 (((fU_ p l f)).flatMap Fc.cells)]) := by
 refine T_ Tryz.func120 rfl rfl Tryz.ntmps120 rfl fun v0 => ?_
 refine h_ (c_ (bs_ rfl rfl fun b1 => ?_))
 refine a_ (g_ rfl) rfl (e_ (b_ rfl (h_ (c_ (cF_ G_ B_ rfl fun b2 => ?_)))))
 refine aj_ i_ (a_ (g_ rfl) rfl (e_ (b_ rfl (h_ (aj_ (df_ bj_) (h_ (c_ (a_ (g_ rfl) rfl (e_ ?_)))))))))
 refine b_ rfl (R_ ?_)
 refine aL_ (ι := {y : Nat × Value × Hp // y.1 ≤ List.length l ∧ aQ_ 41 6 y.2.1 (List.length (List.flatMap (co_ f) (List.take y.1 l))) (List.flatMap Fc.cells (List.flatMap (co_ f) (List.take y.1 l))) y.2.2}) (fun y => [(0, .slice pad (List.length p) pcap), (1, .slice lad (List.length l) lcap), (5, zp_ b1 0), (6, .slice none 0 0), (7, y.1.2.1), (8, .int .i64 (y.1.1 : Int))]) (fun y => ((b1, .cells (Fc.cells f).toArray 41 (0, 0)) :: y.1.2.2)) (fun y => [az_ pad (List.flatMap Pc.cells p), az_ lad (List.flatMap Fc.cells l)]) (fun y => List.length l - y.1.1) ⟨((0 : Nat), (.slice (some ⟨b2, 0, none⟩) 0 0), [(b2, .cells #[] 41 (0, 0))]), by simp, (do_ b2 41 6)⟩ ⟨rfl, rfl, rfl, rfl, rfl, rfl, trivial⟩ (m_ i_ aD_) (fun _ _ h => h) ?_
 rintro ⟨⟨j, sv_Rfc, H_Rfc⟩, hi_j, hr_Rfc⟩
 dsimp only at hi_j hr_Rfc ⊢
 have hb1 := dG_ (g := co_ f) (n := 1) (List.take j l) (fun x _ => iJ_ f x)
 rw [List.length_take] at hb1
 refine h_ (h_ (c_ (a_ (d_ rfl) rfl (a_ (d_ rfl) rfl (a_ (am_ G_ rfl) rfl (x_ (av_ rfl rfl) rfl fun r1 hr1 => ?_))))))
 refine e_ (b_ rfl ?_)
 cases r1
 ·
  replace hr1 := of_decide_eq_false hr1
  rw [show List.take j l = l from List.take_of_length_le (by omega)] at hr_Rfc
  refine v_ rfl (au_ rfl (b_ rfl (h_ (h_ (c_ (a_ (g_ rfl) rfl (e_ (b_ rfl (R_ ?_)))))))))
  have hw1 : aQ_ 41 6 sv_Rfc (List.length (List.flatMap (co_ f) l ++ List.flatMap (cV_ f) (List.take 0 p))) (List.flatMap Fc.cells (List.flatMap (co_ f) l ++ List.flatMap (cV_ f) (List.take 0 p))) H_Rfc := by have q := hr_Rfc; simpa only [List.take_zero, List.flatMap_nil, List.append_nil, List.length_nil] using q
  refine aL_ (ι := {y : Nat × Value × Hp // y.1 ≤ List.length p ∧ aQ_ 41 6 y.2.1 (List.length (List.flatMap (co_ f) l ++ List.flatMap (cV_ f) (List.take y.1 p))) (List.flatMap Fc.cells (List.flatMap (co_ f) l ++ List.flatMap (cV_ f) (List.take y.1 p))) y.2.2}) (fun y => [(0, .slice pad (List.length p) pcap), (1, .slice lad (List.length l) lcap), (5, zp_ b1 0), (6, .slice none 0 0), (7, y.1.2.1), (8, .int .i64 (j : Int)), (12, .int .i64 (y.1.1 : Int))]) (fun y => ((b1, .cells (Fc.cells f).toArray 41 (0, 0)) :: y.1.2.2)) (fun y => [az_ pad (List.flatMap Pc.cells p), az_ lad (List.flatMap Fc.cells l)]) (fun y => List.length p - y.1.1) ⟨((0 : Nat), sv_Rfc, H_Rfc), by simp, hw1⟩ ⟨rfl, rfl, rfl, rfl, rfl, rfl, rfl, trivial⟩ (m_ i_ aD_) (fun _ _ h => h) ?_
  rintro ⟨⟨i, sv_Rfc, H_Rfc⟩, hi_i, hr_Rfc⟩
  dsimp only at hi_i hr_Rfc ⊢
  have hb0 := dG_ (g := co_ f) (n := 1) l (fun x _ => iJ_ f x)
  have hb2 := dG_ (g := cV_ f) (n := 1) (List.take i p) (fun x _ => mj_ f x)
  rw [List.length_take] at hb2
  refine h_ (h_ (c_ (a_ (d_ rfl) rfl (a_ (d_ rfl) rfl (a_ (am_ A_ rfl) rfl (x_ (av_ rfl rfl) rfl fun r2 hr2 => ?_))))))
  refine e_ (b_ rfl ?_)
  cases r2
  ·
   replace hr2 := of_decide_eq_false hr2
   rw [show List.take i p = p from List.take_of_length_le (by omega)] at hr_Rfc
   refine v_ rfl (au_ rfl (b_ rfl (h_ (c_ (a_ (d_ rfl) rfl (a_ (g_ rfl) rfl (e_ (b_ rfl (F_ ?_)))))))))
   have hw2 : aQ_ 41 6 sv_Rfc (List.length (fU_ p l f)) (List.flatMap Fc.cells (fU_ p l f)) H_Rfc := by have q := hr_Rfc; exact q
   refine bk_ hw2 S_ fun ad2 cp2 had2 hcad2 hmad2 hzad2 => ?_
   exact aw_ Tryz.results120 ⟨(ad2, cp2), hcad2, hmad2, hzad2⟩ (bU_ rfl had2) I_ (fun v _ h => ⟨h.1, trivial⟩)
  ·
   replace hr2 := of_decide_eq_true hr2
   have hlx1 : i < List.length p := by omega
   obtain ⟨x1, hx1⟩ : ∃ e0, p[i]? = some e0 := ⟨_, List.getElem?_eq_getElem hlx1⟩
   have hmx1 : x1 ∈ p := List.mem_of_getElem? hx1
   refine t_ rfl (z_ (b_ rfl (h_ (R_ (h_ ?_)))))
   refine aS_ (by kernel_rfl) ?_
   refine ah_ 29 [0, 1, 2, 3, 4, 5, 6] (by kernel_rfl) (fun _ a b => ⟨a, b⟩) (n_ rfl (d_ rfl) rfl (n_ rfl (d_ rfl) rfl (n_ rfl (aa_ A_ K_ rfl rfl (fun v _ h => ay_ (n := 10) Pc.cells_len (by decide) (by exact h.1) hx1) (by omega) (by first | omega | (simp; done))) rfl (n_ rfl (bV_ k_ rfl rfl rfl L_) rfl (n_ rfl (aN_ (ad := pad) P_ rfl (fun v _ h => by exact h.1) (ad_ Pc.cells_len hx1 0 _ rfl)) rfl ?_)))))
   refine cl_ rfl (aM_ rfl rfl) rfl fun r3 hr3 => ?_
   refine n_ rfl (d_ rfl) rfl (ag_ ?_)
   cases r3
   ·
    replace hr3 := ne_of_beq_false hr3
    refine ah_ 0 [7, 8, 9, 10, 11, 12, 13, 14, 15, 16, 17, 18, 19, 20, 21, 22, 23, 24, 25, 26, 27, 28, 29, 30, 31, 32, 33, 34, 35] (by kernel_rfl) (fun _ a b => ⟨a, b⟩) (aE_ rfl rfl rfl rfl rfl (aE_ rfl rfl rfl rfl rfl (aE_ rfl rfl rfl rfl rfl (aE_ rfl rfl rfl rfl rfl (aE_ rfl rfl rfl rfl rfl (aE_ rfl rfl rfl rfl rfl (aE_ rfl rfl rfl rfl rfl (aE_ rfl rfl rfl rfl rfl (n_ rfl (C_ rfl rfl) rfl ?_)))))))))
    refine n_ rfl (d_ rfl) rfl (aE_ rfl rfl rfl rfl rfl (aE_ rfl rfl rfl rfl rfl (aE_ rfl rfl rfl rfl rfl (aE_ rfl rfl rfl rfl rfl (aE_ rfl rfl rfl rfl rfl (aE_ rfl rfl rfl rfl rfl (aE_ rfl rfl rfl rfl rfl (aE_ rfl rfl rfl rfl rfl (n_ rfl (C_ rfl rfl) rfl ?_)))))))))
    refine n_ rfl (d_ rfl) rfl (aE_ rfl rfl rfl rfl rfl (aE_ rfl rfl rfl rfl rfl (aE_ rfl rfl rfl rfl rfl (aE_ rfl rfl rfl rfl rfl (aE_ rfl rfl rfl rfl rfl (aE_ rfl rfl rfl rfl rfl (aE_ rfl rfl rfl rfl rfl (aE_ rfl rfl rfl rfl rfl (n_ rfl (C_ rfl rfl) rfl ?_)))))))))
    refine ag_ (ac_ (by kernel_rfl) (b_ rfl (v_ rfl (z_ (b_ rfl (c_ (a_ (d_ rfl) rfl (a_ (M_ rfl rfl rfl (af_ (by omega) (by omega))) rfl (a_ (g_ rfl) rfl ?_)))))))))
    refine e_ (w_ rfl ?_)
    exact Z_ ⟨(i + 1, sv_Rfc, H_Rfc), hlx1, (by have q := hr_Rfc; rw [br_ hx1, show (cV_ f) x1 = [] from (by unfold cV_; rw [if_neg (fun q => by first | exact absurd q.1 (by assumption) | exact absurd q.2.1 (by assumption) | exact absurd q.2.2.1 (by assumption) | exact absurd q.2.2.2 (by assumption))])]; simpa only [List.append_assoc, List.append_nil] using q)⟩ (by dsimp only; omega) ⟨rfl, rfl, rfl, rfl, rfl, rfl, rfl, trivial⟩ (m_ i_ aD_) (fun _ _ h => h)
   ·
    replace hr3 := eq_of_beq hr3
    refine ah_ 19 [7, 8, 9, 10, 11, 12, 13, 14, 15, 16] (by kernel_rfl) (fun _ a b => ⟨a, b⟩) (aC_ rfl rfl rfl (d_ rfl) rfl (aC_ rfl rfl rfl (d_ rfl) rfl (aC_ rfl rfl rfl (aa_ A_ K_ rfl rfl (fun v _ h => ay_ (n := 10) Pc.cells_len (by decide) (by exact h.1) hx1) (by omega) (by first | omega | (simp; done))) rfl (aC_ rfl rfl rfl (bV_ k_ rfl rfl rfl j_) rfl (aC_ rfl rfl rfl (aN_ (ad := pad) q_ rfl (fun v _ h => by exact h.1) (ad_ Pc.cells_len hx1 4 _ rfl)) rfl (aC_ rfl rfl rfl (l_ o_ rfl rfl rfl j_) rfl (aC_ rfl rfl rfl (u_ 0 q_ rfl rfl rfl) rfl ?_)))))))
    refine dB_ rfl rfl rfl (aq_ rfl rfl) rfl fun r4 hr4 => ?_
    refine n_ rfl (H_ rfl rfl) rfl (n_ rfl (d_ rfl) rfl (ag_ ?_))
    cases r4
    ·
     replace hr4 := ne_of_beq_false hr4
     refine ah_ 0 [17, 18, 19, 20, 21, 22, 23, 24, 25, 26, 27, 28, 29, 30, 31, 32, 33, 34, 35] (by kernel_rfl) (fun _ a b => ⟨a, b⟩) (aE_ rfl rfl rfl rfl rfl (aE_ rfl rfl rfl rfl rfl (aE_ rfl rfl rfl rfl rfl (aE_ rfl rfl rfl rfl rfl (aE_ rfl rfl rfl rfl rfl (aE_ rfl rfl rfl rfl rfl (aE_ rfl rfl rfl rfl rfl (aE_ rfl rfl rfl rfl rfl (n_ rfl (C_ rfl rfl) rfl ?_)))))))))
     refine n_ rfl (d_ rfl) rfl (aE_ rfl rfl rfl rfl rfl (aE_ rfl rfl rfl rfl rfl (aE_ rfl rfl rfl rfl rfl (aE_ rfl rfl rfl rfl rfl (aE_ rfl rfl rfl rfl rfl (aE_ rfl rfl rfl rfl rfl (aE_ rfl rfl rfl rfl rfl (aE_ rfl rfl rfl rfl rfl (n_ rfl (C_ rfl rfl) rfl ?_)))))))))
     refine ag_ (ac_ (by kernel_rfl) (b_ rfl (v_ rfl (z_ (b_ rfl (c_ (a_ (d_ rfl) rfl (a_ (M_ rfl rfl rfl (af_ (by omega) (by omega))) rfl (a_ (g_ rfl) rfl ?_)))))))))
     refine e_ (w_ rfl ?_)
     exact Z_ ⟨(i + 1, sv_Rfc, H_Rfc), hlx1, (by have q := hr_Rfc; rw [br_ hx1, show (cV_ f) x1 = [] from (by unfold cV_; rw [if_neg (fun q => by first | exact absurd q.1 (by assumption) | exact absurd q.2.1 (by assumption) | exact absurd q.2.2.1 (by assumption) | exact absurd q.2.2.2 (by assumption))])]; simpa only [List.append_assoc, List.append_nil] using q)⟩ (by dsimp only; omega) ⟨rfl, rfl, rfl, rfl, rfl, rfl, rfl, trivial⟩ (m_ i_ aD_) (fun _ _ h => h)
    ·
     replace hr4 := eq_of_beq hr4
     refine ah_ 9 [17, 18, 19, 20, 21, 22, 23, 24, 25, 26] (by kernel_rfl) (fun _ a b => ⟨a, b⟩) (aC_ rfl rfl rfl (d_ rfl) rfl (aC_ rfl rfl rfl (d_ rfl) rfl (aC_ rfl rfl rfl (aa_ A_ K_ rfl rfl (fun v _ h => ay_ (n := 10) Pc.cells_len (by decide) (by exact h.1) hx1) (by omega) (by first | omega | (simp; done))) rfl (aC_ rfl rfl rfl (bV_ k_ rfl rfl rfl L_) rfl (aC_ rfl rfl rfl (aN_ (ad := pad) P_ rfl (fun v _ h => by exact h.1) (ad_ Pc.cells_len hx1 7 _ rfl)) rfl (aC_ rfl rfl rfl (l_ o_ rfl rfl rfl L_) rfl (aC_ rfl rfl rfl (u_ 0 P_ rfl rfl rfl) rfl ?_)))))))
     refine dB_ rfl rfl rfl (cf_ rfl rfl) rfl fun r5 hr5 => ?_
     refine n_ rfl (H_ rfl rfl) rfl (n_ rfl (d_ rfl) rfl (ag_ ?_))
     cases r5
     ·
      replace hr5 := of_decide_eq_false hr5
      refine ah_ 0 [27, 28, 29, 30, 31, 32, 33, 34, 35] (by kernel_rfl) (fun _ a b => ⟨a, b⟩) (aE_ rfl rfl rfl rfl rfl (aE_ rfl rfl rfl rfl rfl (aE_ rfl rfl rfl rfl rfl (aE_ rfl rfl rfl rfl rfl (aE_ rfl rfl rfl rfl rfl (aE_ rfl rfl rfl rfl rfl (aE_ rfl rfl rfl rfl rfl (aE_ rfl rfl rfl rfl rfl (n_ rfl (C_ rfl rfl) rfl ?_)))))))))
      refine ag_ (ac_ (by kernel_rfl) (b_ rfl (v_ rfl (z_ (b_ rfl (c_ (a_ (d_ rfl) rfl (a_ (M_ rfl rfl rfl (af_ (by omega) (by omega))) rfl (a_ (g_ rfl) rfl ?_)))))))))
      refine e_ (w_ rfl ?_)
      exact Z_ ⟨(i + 1, sv_Rfc, H_Rfc), hlx1, (by have q := hr_Rfc; rw [br_ hx1, show (cV_ f) x1 = [] from (by unfold cV_; rw [if_neg (fun q => by first | exact absurd q.1 (by assumption) | exact absurd q.2.1 (by assumption) | exact absurd q.2.2.1 (by assumption) | exact absurd q.2.2.2 (by assumption))])]; simpa only [List.append_assoc, List.append_nil] using q)⟩ (by dsimp only; omega) ⟨rfl, rfl, rfl, rfl, rfl, rfl, rfl, trivial⟩ (m_ i_ aD_) (fun _ _ h => h)
     ·
      replace hr5 := of_decide_eq_true hr5
      refine ah_ 0 [27, 28, 29, 30, 31, 32, 33, 34, 35] (by kernel_rfl) (fun _ a b => ⟨a, b⟩) (aC_ rfl rfl rfl (l_ o_ rfl rfl rfl L_) rfl (aC_ rfl rfl rfl (u_ 0 P_ rfl rfl rfl) rfl (aC_ rfl rfl rfl (d_ rfl) rfl (aC_ rfl rfl rfl (d_ rfl) rfl (aC_ rfl rfl rfl (aa_ A_ K_ rfl rfl (fun v _ h => ay_ (n := 10) Pc.cells_len (by decide) (by exact h.1) hx1) (by omega) (by first | omega | (simp; done))) rfl (aC_ rfl rfl rfl (bV_ k_ rfl rfl rfl L_) rfl (aC_ rfl rfl rfl (aN_ (ad := pad) P_ rfl (fun v _ h => by exact h.1) (ad_ Pc.cells_len hx1 8 _ rfl)) rfl ?_)))))))
      refine dB_ rfl rfl rfl (cf_ rfl rfl) rfl fun r6 hr6 => ?_
      refine n_ rfl (H_ rfl rfl) rfl (ag_ (ac_ (by kernel_rfl) (b_ rfl ?_)))
      cases r6
      ·
       replace hr6 := of_decide_eq_false hr6
       refine v_ rfl (z_ (b_ rfl (c_ (a_ (d_ rfl) rfl (a_ (M_ rfl rfl rfl (af_ (by omega) (by omega))) rfl (a_ (g_ rfl) rfl (e_ (w_ rfl ?_))))))))
       exact Z_ ⟨(i + 1, sv_Rfc, H_Rfc), hlx1, (by have q := hr_Rfc; rw [br_ hx1, show (cV_ f) x1 = [] from (by unfold cV_; rw [if_neg (fun q => by first | exact absurd q.1 (by assumption) | exact absurd q.2.1 (by assumption) | exact absurd q.2.2.1 (by assumption) | exact absurd q.2.2.2 (by assumption))])]; simpa only [List.append_assoc, List.append_nil] using q)⟩ (by dsimp only; omega) ⟨rfl, rfl, rfl, rfl, rfl, rfl, rfl, trivial⟩ (m_ i_ aD_) (fun _ _ h => h)
      ·
       replace hr6 := of_decide_eq_true hr6
       refine t_ rfl ?_
       refine aR_ ((b1, .cells (Fc.cells f).toArray 41 (0, 0)) :: []) (by kernel_rfl) ?_
       refine ah_ 4 [0, 1, 2, 3, 4, 5, 6, 7] (by kernel_rfl) (fun _ a b => ⟨Vw.sat.sub (a.perm i_), b⟩) (n_ rfl (d_ rfl) rfl (n_ rfl (l_ o_ rfl rfl rfl j_) rfl (n_ rfl (u_ 0 q_ rfl rfl rfl) rfl (n_ rfl (d_ rfl) rfl (n_ rfl (d_ rfl) rfl (n_ rfl (aa_ A_ K_ rfl rfl (fun v _ h => ay_ (n := 10) Pc.cells_len (by decide) (by exact h.1) hx1) (by omega) (by first | omega | (simp; done))) rfl (n_ rfl (bV_ k_ rfl rfl rfl j_) rfl (n_ rfl (aN_ (ad := pad) q_ rfl (fun v _ h => by exact h.1) (ad_ Pc.cells_len hx1 3 _ rfl)) rfl (ag_ ?_)))))))))
       refine X_ 8 rfl (by kernel_rfl) (W_ (dS_ (Fc.a f) (Pc.c x1)) rfl I_ (fun _ _ _ => by exact trivial) rfl fun _ => ?_)
       refine e_ (w_ rfl (N_ (fun _ a b => ⟨Vw.sat.sub (a.perm i_), b⟩) (X_ 9 rfl (by kernel_rfl) (aJ_ G_ B_ ak_ rfl rfl rfl rfl rfl rfl fun b3 => ?_))))
       refine bz_ (List.flatMap Fc.cells [(an_ (Fc.a f) (Pc.c x1))]) i_ rfl ?_
       refine e_ (w_ rfl (N_ (fun _ a b => ⟨Vw.sat.sub (a.perm i_), b.2⟩) (X_ 10 rfl (by kernel_rfl) (aI_ (news := List.flatMap Fc.cells [(an_ (Fc.a f) (Pc.c x1))]) ca_ hr_Rfc rfl rfl (fun q => by cases q) (by simp) S_ (by rw [bp_ Fc.cells 6 Fc.cells_len]; rfl) (fun v _ h => by exact h.1) (fun u hu => aK_ Fc.cells_one hu) (by simp only [maxLen]; ((try simp only [List.length_append, List.length_cons, List.length_nil]); omega)) (by ((try simp only [List.length_append, List.length_cons, List.length_nil]); omega)) rfl fun sv3 Hr3 hr3 => ?_))))
       refine aj_ List.perm_append_comm ?_
       have hq3 : aQ_ 41 6 sv3 (List.length ((List.flatMap (co_ f) l ++ List.flatMap (cV_ f) (List.take i p)) ++ [(an_ (Fc.a f) (Pc.c x1))])) (List.flatMap Fc.cells ((List.flatMap (co_ f) l ++ List.flatMap (cV_ f) (List.take i p)) ++ [(an_ (Fc.a f) (Pc.c x1))])) Hr3 := by rw [List.length_append, List.flatMap_append]; exact hr3
       refine e_ (w_ rfl (N_ (fun _ a b => ⟨Vw.sat.sub (a.perm i_), b.2⟩) (ah_ 0 [11] (by kernel_rfl) (fun _ a b => ⟨Vw.sat.sub (a.perm i_), b.2⟩) (n_ rfl (g_ rfl) rfl (ag_ (ac_ (by kernel_rfl) (b_ rfl (c_ (a_ (d_ rfl) rfl ?_)))))))))
       refine a_ (M_ rfl rfl rfl (af_ (by omega) (by omega))) rfl (a_ (g_ rfl) rfl (e_ (w_ rfl ?_)))
       exact Z_ ⟨(i + 1, sv3, Hr3), hlx1, (by have q := hq3; rw [br_ hx1, show (cV_ f) x1 = [(an_ (Fc.a f) (Pc.c x1))] from (by unfold cV_; rw [if_pos ⟨by assumption, by assumption, by assumption, by assumption⟩])]; simpa only [List.append_assoc, List.append_nil] using q)⟩ (by dsimp only; omega) ⟨rfl, rfl, rfl, rfl, rfl, rfl, rfl, trivial⟩ (m_ i_ aD_) (fun _ _ h => h.2)
 ·
  replace hr1 := of_decide_eq_true hr1
  have hlx2 : j < List.length l := by omega
  obtain ⟨x2, hx2⟩ : ∃ e0, l[j]? = some e0 := ⟨_, List.getElem?_eq_getElem hlx2⟩
  have hmx2 : x2 ∈ l := List.mem_of_getElem? hx2
  refine t_ rfl (z_ (b_ rfl (h_ (R_ (h_ (c_ (a_ (d_ rfl) rfl (a_ (d_ rfl) rfl (a_ (aa_ G_ B_ rfl rfl (fun v _ h => ay_ (n := 6) Fc.cells_len (by decide) (by exact h.2.1) hx2) (by omega) (by first | omega | (simp; done))) rfl ?_)))))))))
  refine a_ (aU_ (ad := lad) (us := Fc.cells x2) ai_ B_ rfl (fun v _ h => by exact h.2.1) (Fc.cells_len _) (ad_ Fc.cells_len hx2)) rfl (ao_ ak_ rfl fun b4 => ?_)
  refine Q_ 0 B_ rfl rfl rfl rfl rfl rfl (e_ (b_ rfl (h_ (h_ (c_ (a_ (l_ o_ rfl rfl rfl L_) rfl (a_ (u_ 0 P_ rfl rfl rfl) rfl (x_ (bN_ rfl rfl) rfl fun r7 hr7 => ?_))))))))
  refine a_ (d_ rfl) rfl ?_
  cases r7
  ·
   replace hr7 := bb_ hr7
   refine p_ rfl rfl (a_ (l_ o_ rfl rfl rfl j_) rfl (p_ rfl rfl (a_ (u_ 0 q_ rfl rfl rfl) rfl (p_ rfl rfl (a_ (l_ o_ rfl rfl rfl j_) rfl (p_ rfl rfl (a_ (u_ 1 q_ rfl rfl rfl) rfl (p_ rfl rfl (x_ (dL_ rfl rfl) rfl fun r8 hr8 => ?_)))))))))
   refine a_ (C_ rfl rfl) rfl (a_ (d_ rfl) rfl ?_)
   cases r8
   ·
    replace hr8 := bb_ hr8
    refine p_ rfl rfl (a_ (l_ o_ rfl rfl rfl j_) rfl (p_ rfl rfl (a_ (u_ 0 q_ rfl rfl rfl) rfl (p_ rfl rfl (a_ (l_ o_ rfl rfl rfl j_) rfl (p_ rfl rfl (a_ (u_ 1 q_ rfl rfl rfl) rfl (p_ rfl rfl (x_ (dL_ rfl rfl) rfl fun r9 hr9 => ?_)))))))))
    refine a_ (C_ rfl rfl) rfl (e_ (b_ rfl ?_))
    cases r9
    ·
     replace hr9 := bb_ hr9
     refine v_ rfl (z_ (b_ rfl (h_ (c_ (a_ (l_ o_ rfl rfl rfl L_) rfl (a_ (u_ 1 P_ rfl rfl rfl) rfl (a_ (l_ o_ rfl rfl rfl L_) rfl (a_ (u_ 0 P_ rfl rfl rfl) rfl (a_ (hg_ rfl rfl) rfl ?_)))))))))
     refine a_ (g_ rfl) rfl (e_ (b_ rfl (h_ (c_ (a_ (l_ o_ rfl rfl rfl L_) rfl (a_ (u_ 1 P_ rfl rfl rfl) rfl (a_ (l_ o_ rfl rfl rfl L_) rfl (a_ (u_ 0 P_ rfl rfl rfl) rfl (a_ (gj_ rfl rfl) rfl ?_)))))))))
     refine a_ (g_ rfl) rfl (e_ (b_ rfl (h_ (c_ (a_ (d_ rfl) rfl (a_ (d_ rfl) rfl (x_ (cf_ rfl rfl) rfl fun r10 hr10 => ?_)))))))
     refine e_ (b_ rfl ?_)
     cases r10
     ·
      replace hr10 := of_decide_eq_false hr10
      refine v_ rfl (c_ (a_ (d_ rfl) rfl (a_ (l_ o_ rfl rfl rfl j_) rfl (a_ (u_ 1 q_ rfl rfl rfl) rfl (W_ (dS_ (Fc.a f) [33]) rfl I_ (fun _ _ _ => by exact trivial) rfl fun _ => ?_)))))
      refine aJ_ G_ B_ ak_ rfl rfl rfl rfl rfl rfl fun b5 => ?_
      refine bz_ (List.flatMap Fc.cells [(an_ (Fc.a f) [33])]) i_ rfl ?_
      refine aI_ (news := List.flatMap Fc.cells [(an_ (Fc.a f) [33])]) ca_ hr_Rfc rfl rfl (fun q => by cases q) (by simp) (f_ S_) (by rw [bp_ Fc.cells 6 Fc.cells_len]; rfl) (fun v _ h => by exact h.1) (fun u hu => aK_ Fc.cells_one hu) (by simp only [maxLen]; ((try simp only [List.length_append, List.length_cons, List.length_nil]); omega)) (by ((try simp only [List.length_append, List.length_cons, List.length_nil]); omega)) rfl fun sv4 Hr4 hr4 => ?_
      refine aj_ List.perm_append_comm ?_
      have hq4 : aQ_ 41 6 sv4 (List.length ((List.flatMap (co_ f) (List.take j l)) ++ [(an_ (Fc.a f) [33])])) (List.flatMap Fc.cells ((List.flatMap (co_ f) (List.take j l)) ++ [(an_ (Fc.a f) [33])])) Hr4 := by rw [List.length_append, List.flatMap_append]; exact hr4
      refine a_ (g_ rfl) rfl (e_ (b_ rfl (c_ (a_ (d_ rfl) rfl (a_ (M_ rfl rfl rfl (af_ (by omega) (by omega))) rfl (a_ (g_ rfl) rfl (e_ (w_ rfl ?_))))))))
      exact Z_ ⟨(j + 1, sv4, Hr4), hlx2, (by have q := hq4; rw [br_ hx2, show (co_ f) x2 = [(an_ (Fc.a f) [33])] from (by unfold co_; rw [if_neg (by simp [*]), if_neg (by assumption)])]; simpa only [List.append_assoc, List.append_nil] using q)⟩ (by dsimp only; omega) ⟨rfl, rfl, rfl, rfl, rfl, rfl, trivial⟩ (m_ (f_ i_) S_) (fun _ _ h => h.2)
     ·
      replace hr10 := of_decide_eq_true hr10
      refine t_ rfl (c_ (a_ (d_ rfl) rfl (a_ (l_ o_ rfl rfl rfl j_) rfl (a_ (u_ 1 q_ rfl rfl rfl) rfl (a_ (l_ o_ rfl rfl rfl j_) rfl (a_ (u_ 1 q_ rfl rfl rfl) rfl (a_ (d_ rfl) rfl (a_ (d_ rfl) rfl (W_ (mM_ (Fc.a f) (Fc.r f) (max (Fc.lo f) (Fc.lo x2)) (min (Fc.hi f) (Fc.hi x2))) rfl I_ (fun _ _ _ => by exact trivial) rfl fun _ => ?_)))))))))
      refine aJ_ G_ B_ ak_ rfl rfl rfl rfl rfl rfl fun b6 => ?_
      refine bz_ (List.flatMap Fc.cells [(aP_ (Fc.a f) (Fc.r f) (max (Fc.lo f) (Fc.lo x2)) (min (Fc.hi f) (Fc.hi x2)))]) i_ rfl ?_
      refine aI_ (news := List.flatMap Fc.cells [(aP_ (Fc.a f) (Fc.r f) (max (Fc.lo f) (Fc.lo x2)) (min (Fc.hi f) (Fc.hi x2)))]) ca_ hr_Rfc rfl rfl (fun q => by cases q) (by simp) (f_ S_) (by rw [bp_ Fc.cells 6 Fc.cells_len]; rfl) (fun v _ h => by exact h.1) (fun u hu => aK_ Fc.cells_one hu) (by simp only [maxLen]; ((try simp only [List.length_append, List.length_cons, List.length_nil]); omega)) (by ((try simp only [List.length_append, List.length_cons, List.length_nil]); omega)) rfl fun sv5 Hr5 hr5 => ?_
      refine aj_ List.perm_append_comm ?_
      have hq5 : aQ_ 41 6 sv5 (List.length ((List.flatMap (co_ f) (List.take j l)) ++ [(aP_ (Fc.a f) (Fc.r f) (max (Fc.lo f) (Fc.lo x2)) (min (Fc.hi f) (Fc.hi x2)))])) (List.flatMap Fc.cells ((List.flatMap (co_ f) (List.take j l)) ++ [(aP_ (Fc.a f) (Fc.r f) (max (Fc.lo f) (Fc.lo x2)) (min (Fc.hi f) (Fc.hi x2)))])) Hr5 := by rw [List.length_append, List.flatMap_append]; exact hr5
      refine a_ (g_ rfl) rfl (e_ (b_ rfl (c_ (a_ (d_ rfl) rfl (a_ (M_ rfl rfl rfl (af_ (by omega) (by omega))) rfl (a_ (g_ rfl) rfl (e_ (w_ rfl ?_))))))))
      exact Z_ ⟨(j + 1, sv5, Hr5), hlx2, (by have q := hq5; rw [br_ hx2, show (co_ f) x2 = [(aP_ (Fc.a f) (Fc.r f) (max (Fc.lo f) (Fc.lo x2)) (min (Fc.hi f) (Fc.hi x2)))] from (by unfold co_; rw [if_neg (by simp [*]), if_pos (by assumption)]; try rfl)]; simpa only [List.append_assoc, List.append_nil] using q)⟩ (by dsimp only; omega) ⟨rfl, rfl, rfl, rfl, rfl, rfl, trivial⟩ (m_ (f_ i_) S_) (fun _ _ h => h.2)
    ·
     replace hr9 := ba_ hr9
     refine t_ rfl (au_ rfl (b_ rfl (c_ (a_ (d_ rfl) rfl (a_ (M_ rfl rfl rfl (af_ (by omega) (by omega))) rfl (a_ (g_ rfl) rfl (e_ (w_ rfl ?_))))))))
     exact Z_ ⟨(j + 1, sv_Rfc, H_Rfc), hlx2, (by have q := hr_Rfc; rw [br_ hx2, show (co_ f) x2 = [] from (by unfold co_; rw [if_pos (by simp [*])])]; simpa only [List.append_assoc, List.append_nil] using q)⟩ (by dsimp only; omega) ⟨rfl, rfl, rfl, rfl, rfl, rfl, trivial⟩ (m_ (f_ i_) S_) (fun _ _ h => h)
   ·
    replace hr8 := ba_ hr8
    refine r_ rfl rfl rfl rfl (r_ rfl rfl rfl rfl (r_ rfl rfl rfl rfl (r_ rfl rfl rfl rfl (r_ rfl rfl rfl rfl (a_ (H_ rfl rfl) rfl (e_ (b_ rfl (t_ rfl (au_ rfl ?_)))))))))
    refine b_ rfl (c_ (a_ (d_ rfl) rfl (a_ (M_ rfl rfl rfl (af_ (by omega) (by omega))) rfl (a_ (g_ rfl) rfl (e_ (w_ rfl ?_))))))
    exact Z_ ⟨(j + 1, sv_Rfc, H_Rfc), hlx2, (by have q := hr_Rfc; rw [br_ hx2, show (co_ f) x2 = [] from (by unfold co_; rw [if_pos (by simp [*])])]; simpa only [List.append_assoc, List.append_nil] using q)⟩ (by dsimp only; omega) ⟨rfl, rfl, rfl, rfl, rfl, rfl, trivial⟩ (m_ (f_ i_) S_) (fun _ _ h => h)
  ·
   replace hr7 := ba_ hr7
   refine r_ rfl rfl rfl rfl (r_ rfl rfl rfl rfl (r_ rfl rfl rfl rfl (r_ rfl rfl rfl rfl (r_ rfl rfl rfl rfl (a_ (H_ rfl rfl) rfl (a_ (d_ rfl) rfl (r_ rfl rfl rfl rfl (r_ rfl rfl rfl rfl (r_ rfl rfl rfl rfl ?_)))))))))
   refine r_ rfl rfl rfl rfl (r_ rfl rfl rfl rfl (a_ (H_ rfl rfl) rfl (e_ (b_ rfl (t_ rfl (au_ rfl (b_ rfl (c_ (a_ (d_ rfl) rfl ?_)))))))))
   refine a_ (M_ rfl rfl rfl (af_ (by omega) (by omega))) rfl (a_ (g_ rfl) rfl (e_ (w_ rfl ?_)))
   exact Z_ ⟨(j + 1, sv_Rfc, H_Rfc), hlx2, (by have q := hr_Rfc; rw [br_ hx2, show (co_ f) x2 = [] from (by unfold co_; rw [if_pos (by simp [*])])]; simpa only [List.append_assoc, List.append_nil] using q)⟩ (by dsimp only; omega) ⟨rfl, rfl, rfl, rfl, rfl, rfl, trivial⟩ (m_ (f_ i_) S_) (fun _ _ h => h)
theorem oo_ (p : List Pc) (pad : Option Addr) (pcap : Nat) (l : List Fc) (lad : Option Addr) (lcap : Nat) (f : Fc) (hp : p.length ≤ 100) (hl : l.length ≤ 65536) (hs : Srt l) : Tri Tryz.prog 65 #[.slice pad (List.length p) pcap, .slice lad (List.length l) lcap, Fc.val f] [] [az_ pad (List.flatMap Pc.cells p), az_ lad (List.flatMap Fc.cells l)] (fun y : {y : Option Addr × Nat // ((cC_ p l f)).length ≤ y.2 ∧ y.2 ≤ maxLen ∧ (y.1 = none → y.2 = 0)} => .slice y.1.1 ((cC_ p l f)).length y.1.2) (fun _ => []) (fun y => [az_ y.1.1 (((cC_ p l f)).flatMap Fc.cells)]) := by
  refine T_ Tryz.func65 rfl rfl Tryz.ntmps65 rfl fun v0 => ?_
  refine h_ (c_ (bs_ rfl rfl fun b1 => ?_))
  refine a_ (g_ rfl) rfl (e_ (b_ rfl (h_ (h_ (c_ (a_ (l_ o_ rfl rfl rfl L_) rfl (a_ (u_ 0 P_ rfl rfl rfl) rfl (e_ (b_ rfl ?_)))))))))
  refine R_ (h_ (c_ (x_ (aM_ rfl rfl) rfl fun r1 hr1 => ?_)))
  refine a_ (g_ rfl) rfl (e_ (b_ rfl ?_))
  cases r1
  · skip
    replace hr1 := ne_of_beq_false hr1
    refine v_ rfl (h_ (c_ (x_ (aM_ rfl rfl) rfl fun r2 hr2 => ?_)))
    refine a_ (g_ rfl) rfl (e_ (b_ rfl ?_))
    cases r2
    · skip
      replace hr2 := ne_of_beq_false hr2
      refine v_ rfl (z_ (b_ rfl (h_ (c_ (a_ (d_ rfl) rfl (a_ (d_ rfl) rfl (a_ (Y_ 0 ai_ B_ rfl rfl rfl) rfl (W_ (nG_ p pad pcap l lad lcap f hp hl hs) rfl I_ (fun v _ h => by exact ⟨h.1, h.2.1, trivial⟩) rfl fun ⟨⟨sad1, scap1⟩, hsc⟩ => ?_))))))))
      dsimp only
      dsimp only at hsc
      refine a_ (g_ rfl) rfl (e_ (b_ rfl (F_ ?_)))
      have e0 : cC_ p l f = (fU_ p l f) := by unfold cC_; rw [if_neg (by omega), if_neg (by omega)]
      rw [← e0] at hsc
      exact aw_ Tryz.results65 ⟨(sad1, scap1), hsc⟩ (bU_ rfl (by dsimp only; rw [e0])) I_ (fun v _ h => ⟨by show bv_ v sad1 (List.flatMap Fc.cells (cC_ p l f)); rw [e0]; exact h.1, trivial⟩)
    · skip
      replace hr2 := eq_of_beq hr2
      refine t_ rfl (h_ (c_ (a_ (d_ rfl) rfl (a_ (d_ rfl) rfl (a_ (Y_ 0 ai_ B_ rfl rfl rfl) rfl (W_ (oS_ p pad pcap l lad lcap f hp hl hs) rfl I_ (fun v _ h => by exact ⟨h.1, h.2.1, trivial⟩) rfl fun ⟨⟨sad1, scap1⟩, hsc⟩ => ?_))))))
      dsimp only
      dsimp only at hsc
      refine a_ (g_ rfl) rfl (e_ (b_ rfl (F_ ?_)))
      have e0 : cC_ p l f = (fB_ p l f) := by unfold cC_; rw [if_neg (by omega), if_pos (by assumption)]
      rw [← e0] at hsc
      exact aw_ Tryz.results65 ⟨(sad1, scap1), hsc⟩ (bU_ rfl (by dsimp only; rw [e0])) I_ (fun v _ h => ⟨by show bv_ v sad1 (List.flatMap Fc.cells (cC_ p l f)); rw [e0]; exact h.1, trivial⟩)
  · skip
    replace hr1 := eq_of_beq hr1
    refine t_ rfl (h_ (c_ (a_ (d_ rfl) rfl (a_ (d_ rfl) rfl (a_ (Y_ 0 ai_ B_ rfl rfl rfl) rfl (W_ (qf_ p pad pcap l lad lcap f hp hl hs) rfl I_ (fun v _ h => by exact ⟨h.1, h.2.1, trivial⟩) rfl fun ⟨⟨sad1, scap1⟩, hsc⟩ => ?_))))))
    dsimp only
    dsimp only at hsc
    refine a_ (g_ rfl) rfl (e_ (b_ rfl (F_ ?_)))
    have e0 : cC_ p l f = (kn_ p l f) := by unfold cC_; rw [if_pos (by assumption)]
    rw [← e0] at hsc
    exact aw_ Tryz.results65 ⟨(sad1, scap1), hsc⟩ (bU_ rfl (by dsimp only; rw [e0])) I_ (fun v _ h => ⟨by show bv_ v sad1 (List.flatMap Fc.cells (cC_ p l f)); rw [e0]; exact h.1, trivial⟩)
end Go.Proofs.YtpdbbglpbngeiaaGreatDoor
namespace Go.Proofs.YtpdbbglpbngeiaaGreatDoor
open Go Go.Sx Go.Proofs
attribute [local irreducible] Code.wp wpList wpAnyH
open Go.Vs
theorem iC_ {e : TypeId} {sz n b : Nat} {xs : List Value} (h : xs.length = n * sz) (hn : n ≤ maxLen) : aQ_ e sz (.slice (some ⟨b, 0, none⟩) n n) n xs [(b, .cells xs.toArray e (0, 0))] :=
  ⟨h, .inr ⟨b, n, xs.toArray, rfl, rfl, Nat.le_refl _, hn, by simpa using h, by rw [List.toList_toArray]; exact List.take_of_length_le (by omega)⟩⟩
def bZ_ (p : List Pc) : List Str := [[33], [42]] ++ cQ_ p
def cB_ (L : List Str) : List Str := L.foldl bw_ []
theorem dZ_ {L : List Str} {i : Nat} {x : Str} (h : L[i]? = some x) : cB_ (L.take (i + 1)) = bw_ (cB_ (L.take i)) x := by
  unfold cB_; rw [List.take_add_one, h, Option.toList_some, List.foldl_append]; rfl
theorem na_ : ∀ (L A : List Str), mF_ A → mF_ (L.foldl bw_ A) ∧ (∀ x, x ∈ L.foldl bw_ A ↔ x ∈ A ∨ (x ∈ L ∧ x ≠ [])) ∧ (L.foldl bw_ A).length ≤ A.length + L.length
  | [], A, h => ⟨h, by simp, by simp⟩
  | y :: L, A, h => by
    obtain ⟨h1, h2, h3⟩ := na_ L (bw_ A y) (hi_ h)
    refine ⟨h1, fun x => ?_, ?_⟩
    · rw [List.foldl_cons, h2, gC_]
      simp only [List.mem_cons]
      constructor
      · rintro ((h | ⟨rfl, h⟩) | ⟨h, h'⟩)
        · exact .inl h
        · exact .inr ⟨.inl rfl, h⟩
        · exact .inr ⟨.inr h, h'⟩
      · rintro (h | ⟨rfl | h, h'⟩)
        · exact .inl (.inl h)
        · exact .inl (.inr ⟨rfl, h'⟩)
        · exact .inr ⟨h, h'⟩
    · have := ey_ A y
      simp only [List.foldl_cons, List.length_cons]
      omega
theorem pk_ (L : List Str) : (cB_ L).length ≤ L.length := by have := (na_ L [] List.Pairwise.nil).2.2; unfold cB_; simpa using this
theorem pj_ (L : List Str) : mF_ (cB_ L) := (na_ L [] List.Pairwise.nil).1
theorem kN_ {p : List Pc} : ∀ x ∈ bZ_ p, x ≠ [] := fun x hx => by
  unfold bZ_ at hx
  rcases List.mem_append.1 hx with h | h
  · simp at h; rcases h with rfl | rfl <;> simp
  · rw [← jy_] at h; exact nX_ h
theorem qx_ (p : List Pc) : cB_ (bZ_ p) = atS p :=
  eA_ eh_ List.lt_trans (pj_ _) (jz_ p) fun x => by
    rw [it_, cB_, (na_ _ [] List.Pairwise.nil).2.1]
    constructor
    · rintro (h | ⟨h, _⟩)
      · simp at h
      · unfold bZ_ at h
        rcases List.mem_append.1 h with h | h
        · simp at h; exact .inr h.symm
        · rw [← jy_] at h; exact .inl h
    · intro h
      refine .inr ?_
      have hm : x ∈ bZ_ p := by
        unfold bZ_
        rcases h with h | h
        · rw [jy_] at h; exact List.mem_append_right _ h
        · exact List.mem_append_left _ (by simp; exact h.symm)
      exact ⟨hm, kN_ x hm⟩
theorem pw_ (p : List Pc) : (bZ_ p).length ≤ 3 * p.length + 2 := by
  have := hb_ p
  unfold bZ_; rw [List.length_append]; simp only [List.length_cons, List.length_nil]; omega
theorem kW_yes {l : List Str} {s : Str} {k : Nat} (hk : kS l s = k) (h : l[k]? = some s) : bw_ l s = l := by unfold bw_; rw [hk, if_pos (.inr h)]
theorem qF_ {l : List Str} {s : Str} {k : Nat} (hs : s ≠ []) (hk : kS l s = k) (h : l[k]? ≠ some s) : bw_ l s = l.take k ++ ([s] ++ l.drop k) := by unfold bw_; rw [hk, if_neg (by rintro (q | q); exact hs q; exact h q), List.append_assoc]
theorem bv_.pre {α : Type} {f : α → List Value} {n : Nat} (hf : ∀ x, (f x).length = n) {l : List α} {v : Vw} {ad : Option Addr} (h : bv_ v ad (l.flatMap f)) (j : Nat) : bv_ v ad ((l.take j).flatMap f) :=
  h.part fun k x hx => by
    have e : l.flatMap f = (l.take j).flatMap f ++ (l.drop j).flatMap f := by rw [← List.flatMap_append, List.take_append_drop]
    rw [e, List.getElem?_append_left (List.getElem?_eq_some_iff.1 hx).1]
    exact hx
theorem pZ_ (p : List Pc) (pad : Option Addr) (pcap : Nat) (hp : p.length ≤ 1000) : Tri Tryz.prog 63 #[.slice pad (List.length p) pcap] [] [az_ pad (List.flatMap Pc.cells p)] (fun y : {y : Option Addr × Nat // ((atS p)).length ≤ y.2 ∧ y.2 ≤ maxLen ∧ (y.1 = none → y.2 = 0)} => .slice y.1.1 ((atS p)).length y.1.2) (fun _ => []) (fun y => [az_ y.1.1 (((atS p)).flatMap aO_)]) := by
 refine T_ Tryz.func63 rfl rfl Tryz.ntmps63 rfl fun v0 => ?_
 refine h_ (c_ (a_ (g_ rfl) rfl (e_ (b_ rfl (h_ (c_ (cF_ D_ j_ rfl fun b1 => ?_)))))))
 refine aj_ i_ (a_ (g_ rfl) rfl (e_ (b_ rfl (h_ (c_ (aJ_ D_ j_ bm_ rfl rfl rfl rfl rfl rfl fun b2 => ?_))))))
 have hL1 : aQ_ 9 1 (.slice (some ⟨b2, 0, none⟩) 2 2) (List.length [[33], [42]]) (List.flatMap aO_ [[33], [42]]) [(b2, .cells (List.flatMap aO_ [[33], [42]]).toArray 9 (0, 0))] := iC_ rfl (by simp [maxLen])
 refine aj_ i_ (a_ (d_ rfl) rfl (W_ (oG_ p pad pcap (by omega)) rfl I_ (fun v _ h => by exact ⟨h.1, trivial⟩) rfl fun ⟨⟨aad1, acap1⟩, hca1, hcm1, hcz1⟩ => ?_))
 dsimp only
 refine aj_ ht_ ?_
 dsimp only at hca1 hcm1 hcz1
 have hfl := hb_ p
 refine aI_ (news := List.flatMap aO_ (cQ_ p)) cN_ hL1 rfl rfl hcz1 hca1 E_ (by rw [bp_ aO_ 1 at_]) (fun v _ h => by exact h.1) (fun u hu => aK_ cn_ hu) (by simp only [maxLen]; (simp only [List.length_append, List.length_cons, List.length_nil, List.length_take, List.length_drop]; omega)) (by (simp only [List.length_append, List.length_cons, List.length_nil, List.length_take, List.length_drop]; omega)) rfl fun sv2 Hr2 hr2 => ?_
 have hq2 : aQ_ 9 1 sv2 (List.length ([[33], [42]] ++ (cQ_ p))) (List.flatMap aO_ ([[33], [42]] ++ (cQ_ p))) Hr2 := by rw [List.length_append, List.flatMap_append]; exact hr2
 refine a_ (g_ rfl) rfl (e_ (b_ rfl (h_ (h_ (c_ (a_ (g_ rfl) rfl (e_ (b_ rfl (R_ ?_)))))))))
 refine bk_ hq2 E_ fun bad bcap hbad hcbad hmbad hzbad => ?_
 subst hbad
 refine gq_ (Γ' := [az_ bad (List.flatMap aO_ (bZ_ p)), az_ pad (List.flatMap Pc.cells p)]) (fun v _ h => by exact ⟨h.1, h.2.2.1, trivial⟩) ?_
 refine bk_ (do_ b1 9 1) aD_ fun oad0 ocap0 hoad0 hcoad0 hmoad0 hzoad0 => ?_
 obtain ⟨rfl, _, rfl⟩ := Value.slice.inj hoad0
 have hll := pw_ p
 refine gq_ (Γ' := [az_ (some ⟨b1, 0, none⟩) (List.flatMap aO_ (cB_ (List.take (0 : Nat) (bZ_ p)))), az_ bad (List.flatMap aO_ (bZ_ p)), az_ pad (List.flatMap Pc.cells p)]) (fun _ _ h => h) ?_
 refine aL_ (ι := {y : Nat × Option Addr × Nat // y.1 ≤ List.length (bZ_ p) ∧ ((cB_ (List.take y.1 (bZ_ p))).length ≤ y.2.2 ∧ y.2.2 ≤ maxLen ∧ (y.2.1 = none → y.2.2 = 0))}) (fun y => [(0, .slice pad (List.length p) pcap), (2, .slice none 0 0), (3, .slice y.1.2.1 (List.length (cB_ (List.take y.1.1 (bZ_ p)))) y.1.2.2), (4, .slice bad (List.length (bZ_ p)) bcap), (5, .int .i64 (y.1.1 : Int))]) (fun y => ([])) (fun y => [az_ bad (List.flatMap aO_ (bZ_ p)), az_ pad (List.flatMap Pc.cells p), az_ y.1.2.1 (List.flatMap aO_ (cB_ (List.take y.1.1 (bZ_ p))))]) (fun y => List.length (bZ_ p) - y.1.1) ⟨((0 : Nat), (some ⟨b1, 0, none⟩), 0), Nat.zero_le _, ⟨hcoad0, hmoad0, hzoad0⟩⟩ ⟨rfl, rfl, rfl, rfl, rfl, trivial⟩ I_ (fun v _ h => by exact ⟨h.2.1, h.2.2.1, h.1, trivial⟩) ?_
 rintro ⟨⟨i, oad, ocap⟩, hi, hoc⟩
 dsimp only at hi hoc ⊢
 have ho1 := hoc.1
 have ho2 := hoc.2.1
 have ho3 := hoc.2.2
 have hol := pk_ (List.take i (bZ_ p))
 rw [List.length_take] at hol
 refine h_ (h_ (c_ (a_ (d_ rfl) rfl (a_ (d_ rfl) rfl (a_ (am_ D_ rfl) rfl (x_ (av_ rfl rfl) rfl fun r1 hr1 => ?_))))))
 refine e_ (b_ rfl ?_)
 cases r1
 ·
  replace hr1 := of_decide_eq_false hr1
  refine v_ rfl (au_ rfl (b_ rfl (h_ (c_ (a_ (d_ rfl) rfl (a_ (g_ rfl) rfl (e_ (b_ rfl (F_ ?_)))))))))
  have e9 : (cB_ (List.take i (bZ_ p))) = atS p := by rw [List.take_of_length_le (by omega)]; exact qx_ p
  rw [e9] at hoc
  exact aw_ Tryz.results63 ⟨(oad, ocap), hoc⟩ (bU_ rfl (by rw [e9])) I_ (fun v _ h => ⟨by show bv_ v oad (List.flatMap aO_ (atS p)); rw [← e9]; exact h.2.2.1, trivial⟩)
 ·
  replace hr1 := of_decide_eq_true hr1
  have hlx1 : i < List.length (bZ_ p) := by omega
  obtain ⟨x1, hx1⟩ : ∃ e0, (bZ_ p)[i]? = some e0 := ⟨_, List.getElem?_eq_getElem hlx1⟩
  have hmx1 : x1 ∈ (bZ_ p) := List.mem_of_getElem? hx1
  refine t_ rfl (z_ (b_ rfl (h_ (R_ (h_ (c_ (a_ (g_ rfl) rfl (e_ (b_ rfl ?_)))))))))
  refine h_ (R_ ?_)
  refine aL_ (ι := {y : Nat // y ≤ List.length (cB_ (List.take i (bZ_ p))) ∧ (∀ x ∈ List.take y (cB_ (List.take i (bZ_ p))), x < x1)}) (fun y => [(0, .slice pad (List.length p) pcap), (2, .slice none 0 0), (3, .slice oad (List.length (cB_ (List.take i (bZ_ p)))) ocap), (4, .slice bad (List.length (bZ_ p)) bcap), (5, .int .i64 (i : Int)), (6, .int .i64 (y.1 : Int))]) (fun y => ([])) (fun y => [az_ bad (List.flatMap aO_ (bZ_ p)), az_ pad (List.flatMap Pc.cells p), az_ oad (List.flatMap aO_ (cB_ (List.take i (bZ_ p))))]) (fun y => List.length (cB_ (List.take i (bZ_ p))) - y.1) ⟨(0 : Nat), Nat.zero_le _, by simp⟩ ⟨rfl, rfl, rfl, rfl, rfl, rfl, trivial⟩ I_ (fun _ _ h => h) ?_
  rintro ⟨k, hk, hlt⟩
  dsimp only at hk hlt ⊢
  refine h_ (h_ ?_)
  refine aS_ (by kernel_rfl) ?_
  refine ah_ 10 [0, 1, 2, 3, 4] (by kernel_rfl) (fun _ a b => ⟨bG_ a, b⟩) (n_ rfl (d_ rfl) rfl (n_ rfl (d_ rfl) rfl (n_ rfl (am_ D_ rfl) rfl ?_)))
  refine cl_ rfl (av_ rfl rfl) rfl fun r2 hr2 => ?_
  refine n_ rfl (d_ rfl) rfl (ag_ ?_)
  cases r2
  ·
   replace hr2 := of_decide_eq_false hr2
   refine ah_ 0 [5, 6, 7, 8, 9, 10, 11, 12, 13, 14] (by kernel_rfl) (fun _ a b => ⟨bG_ a, b⟩) (aE_ rfl rfl rfl rfl rfl (aE_ rfl rfl rfl rfl rfl (aE_ rfl rfl rfl rfl rfl (aE_ rfl rfl rfl rfl rfl (aE_ rfl rfl rfl rfl rfl (aE_ rfl rfl rfl rfl rfl (aE_ rfl rfl rfl rfl rfl (aE_ rfl rfl rfl rfl rfl (aE_ rfl rfl rfl rfl rfl ?_)))))))))
   refine n_ rfl (C_ rfl rfl) rfl (ag_ (ac_ (by kernel_rfl) (b_ rfl (v_ rfl (au_ rfl (b_ rfl (h_ ?_)))))))
   have hks : kS (cB_ (List.take i (bZ_ p))) x1 = k := lL_ hk hlt (fun x hx => by have := (List.getElem?_eq_some_iff.1 hx).1; omega)
   refine aS_ (by kernel_rfl) ?_
   refine ah_ 10 [0, 1, 2, 3, 4] (by kernel_rfl) (fun _ a b => ⟨bG_ a, b⟩) (n_ rfl (d_ rfl) rfl (n_ rfl (d_ rfl) rfl (n_ rfl (am_ D_ rfl) rfl ?_)))
   refine cl_ rfl (aM_ rfl rfl) rfl fun r3 hr3 => ?_
   refine n_ rfl (d_ rfl) rfl (ag_ ?_)
   cases r3
   ·
    replace hr3 := ne_of_beq_false hr3
    exfalso; omega
   ·
    replace hr3 := eq_of_beq hr3
    refine ah_ 0 [5, 6, 7, 8, 9, 10, 11, 12, 13, 14] (by kernel_rfl) (fun _ a b => ⟨bG_ a, b⟩) (aE_ rfl rfl rfl rfl rfl (aE_ rfl rfl rfl rfl rfl (aE_ rfl rfl rfl rfl rfl (aE_ rfl rfl rfl rfl rfl (aE_ rfl rfl rfl rfl rfl (aE_ rfl rfl rfl rfl rfl (aE_ rfl rfl rfl rfl rfl (aE_ rfl rfl rfl rfl rfl (aE_ rfl rfl rfl rfl rfl ?_)))))))))
    refine n_ rfl (H_ rfl rfl) rfl (ag_ (ac_ (by kernel_rfl) (b_ rfl (t_ rfl (h_ ?_)))))
    have en : bw_ (cB_ (List.take i (bZ_ p))) x1 = List.take k (cB_ (List.take i (bZ_ p))) ++ ([x1] ++ List.drop k (cB_ (List.take i (bZ_ p)))) := qF_ (kN_ x1 hmx1) hks (fun q => by have := (List.getElem?_eq_some_iff.1 q).1; omega)
    refine aR_ ([]) (by kernel_rfl) ?_
    refine ah_ 3 [0, 1, 2, 3, 5, 6, 7] (by kernel_rfl) (fun _ a b => ⟨bG_ a, b⟩) (n_ rfl (d_ rfl) rfl (n_ rfl (d_ rfl) rfl (n_ rfl (aa_ D_ j_ rfl rfl (fun v _ h => ay_ (n := 1) at_ (by decide) (by exact h.1) hx1) (by omega) (by first | omega | (simp; done))) rfl (n_ rfl (aN_ (ad := bad) q_ rfl (fun v _ h => by exact h.1) (ad_ at_ hx1 0 _ rfl)) rfl (n_ rfl (d_ rfl) rfl (n_ rfl (d_ rfl) rfl (n_ rfl (bC_ (cj_ (i := k) (j := List.length (cB_ (List.take i (bZ_ p)))) (kl := .i64) (kh := .i64) D_ j_ rfl rfl rfl (by omega) (by have := ho1; omega)) (show _ = Value.slice (sad oad ocap k 1) (List.length (List.drop k (cB_ (List.take i (bZ_ p))))) (ocap - k) by rw [List.length_drop])) rfl (ag_ (X_ 4 rfl (by kernel_rfl) ?_)))))))))
    refine aJ_ D_ j_ bm_ rfl rfl rfl rfl rfl rfl fun b3 => ?_
    have hL3 : aQ_ 9 1 (.slice (some ⟨b3, 0, none⟩) 1 1) (List.length [x1]) (List.flatMap aO_ [x1]) [(b3, .cells (List.flatMap aO_ [x1]).toArray 9 (0, 0))] := iC_ rfl (by simp [maxLen])
    refine aj_ i_ (e_ (w_ rfl (N_ (fun _ a b => ⟨bG_ a, b⟩) (X_ 8 rfl (by kernel_rfl) (aI_ (news := List.flatMap aO_ (List.drop k (cB_ (List.take i (bZ_ p))))) cN_ hL3 rfl rfl (fun q => by have := ho3 (dp_ q); omega) (by rw [List.length_drop]; have := ho1; omega) aD_ (by rw [bp_ aO_ 1 at_]) (fun v _ h => by exact (bv_.rest at_ h.2.2.1 ho1 k)) (fun u hu => aK_ cn_ hu) (by simp only [maxLen]; (simp only [List.length_append, List.length_cons, List.length_nil, List.length_take, List.length_drop]; omega)) (by (simp only [List.length_append, List.length_cons, List.length_nil, List.length_take, List.length_drop]; omega)) rfl fun sv4 Hr4 hr4 => ?_)))))
    refine aj_ List.perm_append_comm ?_
    have hq4 : aQ_ 9 1 sv4 (List.length ([x1] ++ (List.drop k (cB_ (List.take i (bZ_ p)))))) (List.flatMap aO_ ([x1] ++ (List.drop k (cB_ (List.take i (bZ_ p)))))) Hr4 := by rw [List.length_append, List.flatMap_append]; exact hr4
    refine e_ (w_ rfl (N_ (fun _ a b => ⟨bG_ a, b⟩) (ah_ 0 [9] (by kernel_rfl) (fun _ a b => ⟨bG_ a, b⟩) (n_ rfl (g_ rfl) rfl (ag_ (ac_ (by kernel_rfl) (b_ rfl (c_ (a_ (d_ rfl) rfl ?_)))))))))
    refine a_ (d_ rfl) rfl (a_ (d_ rfl) rfl (a_ (bC_ (iv_ (j := k) (m := k) (kl := .i64) (kh := .i64) D_ j_ rfl rfl rfl (Nat.le_refl _) (by have := ho1; omega)) (show _ = Value.slice (sad oad k 0 1) (List.length (List.take k (cB_ (List.take i (bZ_ p))))) k by rw [List.length_take, Nat.min_eq_left (by omega)])) rfl (a_ (d_ rfl) rfl (bk_ hq4 aD_ fun rad2 rcap2 hrad2 hcrad2 hmrad2 hzrad2 => ?_))))
    subst hrad2
    refine ic_ (n := List.length (List.take k (cB_ (List.take i (bZ_ p))))) (m := List.length ([x1] ++ (List.drop k (cB_ (List.take i (bZ_ p)))))) (olds := List.flatMap aO_ (List.take k (cB_ (List.take i (bZ_ p))))) (news := List.flatMap aO_ ([x1] ++ (List.drop k (cB_ (List.take i (bZ_ p)))))) cN_ rfl rfl (fun q => by have := ho3 (dp_ q); have := ho1; omega) (by rw [List.length_take]; omega) hzrad2 hcrad2 (by rw [bp_ aO_ 1 at_]) (fun v _ h => by exact (sad0 (bv_.pre at_ h.2.2.2.1 k))) (by rw [bp_ aO_ 1 at_]) (fun v _ h => by exact h.1) (fun u hu => aK_ cn_ hu) (by rw [List.length_take]; simp only [List.length_append, List.length_cons, List.length_nil]; omega) (by simp only [maxLen]; (simp only [List.length_append, List.length_cons, List.length_nil, List.length_take, List.length_drop]; omega)) (by (simp only [List.length_append, List.length_cons, List.length_nil, List.length_take, List.length_drop]; omega)) rfl fun sv5 Hr5 hr5 => ?_
    have hq5 : aQ_ 9 1 sv5 (List.length ((List.take k (cB_ (List.take i (bZ_ p)))) ++ ([x1] ++ (List.drop k (cB_ (List.take i (bZ_ p))))))) (List.flatMap aO_ ((List.take k (cB_ (List.take i (bZ_ p)))) ++ ([x1] ++ (List.drop k (cB_ (List.take i (bZ_ p))))))) Hr5 := by rw [List.length_append, List.flatMap_append]; exact hr5
    refine aj_ fk_ (bk_ hq5 aD_ fun nad ncap hnad hcnad hmnad hznad => ?_)
    subst hnad
    refine a_ (g_ rfl) rfl (e_ (b_ rfl (c_ (a_ (d_ rfl) rfl (a_ (M_ rfl rfl rfl (af_ (by omega) (by omega))) rfl (a_ (g_ rfl) rfl (e_ (w_ rfl ?_))))))))
    exact Z_ ⟨(i + 1, nad, ncap), hlx1, (by dsimp only; rw [dZ_ hx1, en]; exact ⟨hcnad, hmnad, hznad⟩)⟩ (by dsimp only; omega) ⟨rfl, rfl, (bU_ rfl (by dsimp only; rw [dZ_ hx1, en])), rfl, rfl, trivial⟩ I_ (fun v _ h => by refine ⟨h.2.2.1, h.2.2.2.1, ?_, trivial⟩; show bv_ v nad (List.flatMap aO_ (cB_ (List.take (i + 1) (bZ_ p)))); rw [dZ_ hx1, en]; exact h.1)
  ·
   replace hr2 := of_decide_eq_true hr2
   have hlx2 : k < List.length (cB_ (List.take i (bZ_ p))) := by omega
   obtain ⟨x2, hx2⟩ : ∃ e0, (cB_ (List.take i (bZ_ p)))[k]? = some e0 := ⟨_, List.getElem?_eq_getElem hlx2⟩
   have hmx2 : x2 ∈ (cB_ (List.take i (bZ_ p))) := List.mem_of_getElem? hx2
   refine ah_ 0 [5, 6, 7, 8, 9, 10, 11, 12, 13, 14] (by kernel_rfl) (fun _ a b => ⟨bG_ a, b⟩) (aC_ rfl rfl rfl (d_ rfl) rfl (aC_ rfl rfl rfl (d_ rfl) rfl (aC_ rfl rfl rfl (aa_ D_ j_ rfl rfl (fun v _ h => ay_ (n := 1) at_ (by decide) (by exact h.2.2.1) hx2) (by omega) (by first | omega | (simp; done))) rfl (aC_ rfl rfl rfl (aN_ (ad := oad) q_ rfl (fun v _ h => by exact h.2.2.1) (ad_ at_ hx2 0 _ rfl)) rfl (aC_ rfl rfl rfl (d_ rfl) rfl (aC_ rfl rfl rfl (d_ rfl) rfl (aC_ rfl rfl rfl (aa_ D_ j_ rfl rfl (fun v _ h => ay_ (n := 1) at_ (by decide) (by exact h.1) hx1) (by omega) (by first | omega | (simp; done))) rfl (aC_ rfl rfl rfl (aN_ (ad := bad) q_ rfl (fun v _ h => by exact h.1) (ad_ at_ hx1 0 _ rfl)) rfl ?_))))))))
   refine dB_ rfl rfl rfl (gi_ rfl rfl) rfl fun r4 hr4 => ?_
   refine n_ rfl (H_ rfl rfl) rfl (ag_ (ac_ (by kernel_rfl) (b_ rfl ?_)))
   cases r4
   ·
    replace hr4 := of_decide_eq_false hr4
    refine v_ rfl (au_ rfl (b_ rfl (h_ ?_)))
    have hks : kS (cB_ (List.take i (bZ_ p))) x1 = k := lL_ hk hlt (fun x hx => by rw [hx2] at hx; cases hx; assumption)
    refine aS_ (by kernel_rfl) ?_
    refine ah_ 10 [0, 1, 2, 3, 4] (by kernel_rfl) (fun _ a b => ⟨bG_ a, b⟩) (n_ rfl (d_ rfl) rfl (n_ rfl (d_ rfl) rfl (n_ rfl (am_ D_ rfl) rfl ?_)))
    refine cl_ rfl (aM_ rfl rfl) rfl fun r5 hr5 => ?_
    refine n_ rfl (d_ rfl) rfl (ag_ ?_)
    cases r5
    ·
     replace hr5 := ne_of_beq_false hr5
     refine ah_ 0 [5, 6, 7, 8, 9, 10, 11, 12, 13, 14] (by kernel_rfl) (fun _ a b => ⟨bG_ a, b⟩) (aC_ rfl rfl rfl (d_ rfl) rfl (aC_ rfl rfl rfl (d_ rfl) rfl (aC_ rfl rfl rfl (aa_ D_ j_ rfl rfl (fun v _ h => ay_ (n := 1) at_ (by decide) (by exact h.2.2.1) hx2) (by omega) (by first | omega | (simp; done))) rfl (aC_ rfl rfl rfl (aN_ (ad := oad) q_ rfl (fun v _ h => by exact h.2.2.1) (ad_ at_ hx2 0 _ rfl)) rfl (aC_ rfl rfl rfl (d_ rfl) rfl (aC_ rfl rfl rfl (d_ rfl) rfl (aC_ rfl rfl rfl (aa_ D_ j_ rfl rfl (fun v _ h => ay_ (n := 1) at_ (by decide) (by exact h.1) hx1) (by omega) (by first | omega | (simp; done))) rfl (aC_ rfl rfl rfl (aN_ (ad := bad) q_ rfl (fun v _ h => by exact h.1) (ad_ at_ hx1 0 _ rfl)) rfl ?_))))))))
     refine dB_ rfl rfl rfl (dL_ rfl rfl) rfl fun r6 hr6 => ?_
     refine n_ rfl (C_ rfl rfl) rfl (ag_ (ac_ (by kernel_rfl) (b_ rfl ?_)))
     cases r6
     ·
      replace hr6 := bb_ hr6
      have ey : bw_ (cB_ (List.take i (bZ_ p))) x1 = (cB_ (List.take i (bZ_ p))) := kW_yes hks (by rw [hx2]; exact congrArg some hr6)
      refine v_ rfl (z_ (b_ rfl (c_ (a_ (d_ rfl) rfl (a_ (M_ rfl rfl rfl (af_ (by omega) (by omega))) rfl (a_ (g_ rfl) rfl (e_ (w_ rfl ?_))))))))
      exact Z_ ⟨(i + 1, oad, ocap), hlx1, (by dsimp only; rw [dZ_ hx1, ey]; exact ⟨ho1, ho2, ho3⟩)⟩ (by dsimp only; omega) ⟨rfl, rfl, (bU_ rfl (by dsimp only; rw [dZ_ hx1, ey])), rfl, rfl, trivial⟩ I_ (fun v _ h => by refine ⟨h.1, h.2.1, ?_, trivial⟩; show bv_ v oad (List.flatMap aO_ (cB_ (List.take (i + 1) (bZ_ p)))); rw [dZ_ hx1, ey]; exact h.2.2.1)
     ·
      replace hr6 := ba_ hr6
      refine t_ rfl (h_ ?_)
      have en : bw_ (cB_ (List.take i (bZ_ p))) x1 = List.take k (cB_ (List.take i (bZ_ p))) ++ ([x1] ++ List.drop k (cB_ (List.take i (bZ_ p)))) := qF_ (kN_ x1 hmx1) hks (fun q => by rw [hx2] at q; cases q; simp_all)
      refine aR_ ([]) (by kernel_rfl) ?_
      refine ah_ 3 [0, 1, 2, 3, 5, 6, 7] (by kernel_rfl) (fun _ a b => ⟨bG_ a, b⟩) (n_ rfl (d_ rfl) rfl (n_ rfl (d_ rfl) rfl (n_ rfl (aa_ D_ j_ rfl rfl (fun v _ h => ay_ (n := 1) at_ (by decide) (by exact h.1) hx1) (by omega) (by first | omega | (simp; done))) rfl (n_ rfl (aN_ (ad := bad) q_ rfl (fun v _ h => by exact h.1) (ad_ at_ hx1 0 _ rfl)) rfl (n_ rfl (d_ rfl) rfl (n_ rfl (d_ rfl) rfl (n_ rfl (bC_ (cj_ (i := k) (j := List.length (cB_ (List.take i (bZ_ p)))) (kl := .i64) (kh := .i64) D_ j_ rfl rfl rfl (by omega) (by have := ho1; omega)) (show _ = Value.slice (sad oad ocap k 1) (List.length (List.drop k (cB_ (List.take i (bZ_ p))))) (ocap - k) by rw [List.length_drop])) rfl (ag_ (X_ 4 rfl (by kernel_rfl) ?_)))))))))
      refine aJ_ D_ j_ bm_ rfl rfl rfl rfl rfl rfl fun b4 => ?_
      have hL6 : aQ_ 9 1 (.slice (some ⟨b4, 0, none⟩) 1 1) (List.length [x1]) (List.flatMap aO_ [x1]) [(b4, .cells (List.flatMap aO_ [x1]).toArray 9 (0, 0))] := iC_ rfl (by simp [maxLen])
      refine aj_ i_ (e_ (w_ rfl (N_ (fun _ a b => ⟨bG_ a, b⟩) (X_ 8 rfl (by kernel_rfl) (aI_ (news := List.flatMap aO_ (List.drop k (cB_ (List.take i (bZ_ p))))) cN_ hL6 rfl rfl (fun q => by have := ho3 (dp_ q); omega) (by rw [List.length_drop]; have := ho1; omega) aD_ (by rw [bp_ aO_ 1 at_]) (fun v _ h => by exact (bv_.rest at_ h.2.2.1 ho1 k)) (fun u hu => aK_ cn_ hu) (by simp only [maxLen]; (simp only [List.length_append, List.length_cons, List.length_nil, List.length_take, List.length_drop]; omega)) (by (simp only [List.length_append, List.length_cons, List.length_nil, List.length_take, List.length_drop]; omega)) rfl fun sv7 Hr7 hr7 => ?_)))))
      refine aj_ List.perm_append_comm ?_
      have hq7 : aQ_ 9 1 sv7 (List.length ([x1] ++ (List.drop k (cB_ (List.take i (bZ_ p)))))) (List.flatMap aO_ ([x1] ++ (List.drop k (cB_ (List.take i (bZ_ p)))))) Hr7 := by rw [List.length_append, List.flatMap_append]; exact hr7
      refine e_ (w_ rfl (N_ (fun _ a b => ⟨bG_ a, b⟩) (ah_ 0 [9] (by kernel_rfl) (fun _ a b => ⟨bG_ a, b⟩) (n_ rfl (g_ rfl) rfl (ag_ (ac_ (by kernel_rfl) (b_ rfl (c_ (a_ (d_ rfl) rfl ?_)))))))))
      refine a_ (d_ rfl) rfl (a_ (d_ rfl) rfl (a_ (bC_ (iv_ (j := k) (m := k) (kl := .i64) (kh := .i64) D_ j_ rfl rfl rfl (Nat.le_refl _) (by have := ho1; omega)) (show _ = Value.slice (sad oad k 0 1) (List.length (List.take k (cB_ (List.take i (bZ_ p))))) k by rw [List.length_take, Nat.min_eq_left (by omega)])) rfl (a_ (d_ rfl) rfl (bk_ hq7 aD_ fun rad2 rcap2 hrad2 hcrad2 hmrad2 hzrad2 => ?_))))
      subst hrad2
      refine ic_ (n := List.length (List.take k (cB_ (List.take i (bZ_ p))))) (m := List.length ([x1] ++ (List.drop k (cB_ (List.take i (bZ_ p)))))) (olds := List.flatMap aO_ (List.take k (cB_ (List.take i (bZ_ p))))) (news := List.flatMap aO_ ([x1] ++ (List.drop k (cB_ (List.take i (bZ_ p)))))) cN_ rfl rfl (fun q => by have := ho3 (dp_ q); have := ho1; omega) (by rw [List.length_take]; omega) hzrad2 hcrad2 (by rw [bp_ aO_ 1 at_]) (fun v _ h => by exact (sad0 (bv_.pre at_ h.2.2.2.1 k))) (by rw [bp_ aO_ 1 at_]) (fun v _ h => by exact h.1) (fun u hu => aK_ cn_ hu) (by rw [List.length_take]; simp only [List.length_append, List.length_cons, List.length_nil]; omega) (by simp only [maxLen]; (simp only [List.length_append, List.length_cons, List.length_nil, List.length_take, List.length_drop]; omega)) (by (simp only [List.length_append, List.length_cons, List.length_nil, List.length_take, List.length_drop]; omega)) rfl fun sv8 Hr8 hr8 => ?_
      have hq8 : aQ_ 9 1 sv8 (List.length ((List.take k (cB_ (List.take i (bZ_ p)))) ++ ([x1] ++ (List.drop k (cB_ (List.take i (bZ_ p))))))) (List.flatMap aO_ ((List.take k (cB_ (List.take i (bZ_ p)))) ++ ([x1] ++ (List.drop k (cB_ (List.take i (bZ_ p))))))) Hr8 := by rw [List.length_append, List.flatMap_append]; exact hr8
      refine aj_ fk_ (bk_ hq8 aD_ fun nad ncap hnad hcnad hmnad hznad => ?_)
      subst hnad
      refine a_ (g_ rfl) rfl (e_ (b_ rfl (c_ (a_ (d_ rfl) rfl (a_ (M_ rfl rfl rfl (af_ (by omega) (by omega))) rfl (a_ (g_ rfl) rfl (e_ (w_ rfl ?_))))))))
      exact Z_ ⟨(i + 1, nad, ncap), hlx1, (by dsimp only; rw [dZ_ hx1, en]; exact ⟨hcnad, hmnad, hznad⟩)⟩ (by dsimp only; omega) ⟨rfl, rfl, (bU_ rfl (by dsimp only; rw [dZ_ hx1, en])), rfl, rfl, trivial⟩ I_ (fun v _ h => by refine ⟨h.2.2.1, h.2.2.2.1, ?_, trivial⟩; show bv_ v nad (List.flatMap aO_ (cB_ (List.take (i + 1) (bZ_ p)))); rw [dZ_ hx1, en]; exact h.1)
    ·
     replace hr5 := eq_of_beq hr5
     exfalso; omega
   ·
    replace hr4 := of_decide_eq_true hr4
    refine t_ rfl (z_ (b_ rfl (R_ (c_ (a_ (d_ rfl) rfl (a_ (M_ rfl rfl rfl (af_ (by omega) (by omega))) rfl (a_ (g_ rfl) rfl (e_ (w_ rfl ?_)))))))))
    exact Z_ ⟨k + 1, hlx2, fun x hx => by rw [List.take_add_one, hx2] at hx; simp only [Option.toList_some, List.mem_append, List.mem_singleton] at hx; rcases hx with hx | rfl; exact hlt x hx; assumption⟩ (by dsimp only; omega) ⟨rfl, rfl, rfl, rfl, rfl, rfl, trivial⟩ I_ (fun _ _ h => h)
end Go.Proofs.YtpdbbglpbngeiaaGreatDoor
namespace Go.Proofs.YtpdbbglpbngeiaaGreatDoor
open Go Go.Sx Go.Proofs
attribute [local irreducible] Code.wp wpList wpAnyH
open Go.Vs
theorem kQ_ {p : List Pc} {bu : Int} {m : Nat} {e : Int} (hc : bM_ p = 0) (h1 : ¬ bu < 0) (h2 : ¬ 1073741824 < bu) (hm : min bu 65536 = (m : Int)) (he : e = if bu < 65536 then 3 else 2) (h : dt_ p (atS p) m none) : dI_ p bu Cl.no e := by
  unfold dI_
  rw [if_neg (by simp [hc]), if_neg (by omega)]
  exact .inr ⟨rfl, he, by rw [hm]; simpa using h⟩
theorem pA_ {p : List Pc} {bu : Int} {m : Nat} {c : Cl} (hc : bM_ p = 0) (h1 : ¬ bu < 0) (h2 : ¬ 1073741824 < bu) (hm : min bu 65536 = (m : Int)) (hk : c.ok) (ha : c.atoms = atS p) (h : dt_ p (atS p) m (some c.facts)) : dI_ p bu c 0 := by
  unfold dI_
  rw [if_neg (by simp [hc]), if_neg (by omega)]
  exact .inl ⟨rfl, hk, ha, by rw [hm]; simpa using h⟩
def mn_ (m : Nat) (L t : List Fc) : Nat := (m - L.length) * 14000001 + t.length
theorem oW_ {m : Nat} {L t : List Fc} {f : Fc} : mn_ m L t < mn_ m L (f :: t) := by unfold mn_; simp only [List.length_cons]; omega
theorem lF_ {m : Nat} {L t s : List Fc} {f : Fc} (hf : f ∉ L) (hm : L.length < m) (hs : s.length ≤ 14000000) : mn_ m (cT_ L f) (t ++ s) < mn_ m L (f :: t) := by
  unfold mn_
  rw [eL_ hf]
  simp only [List.length_cons, List.length_append]
  omega
theorem my_ {p : List Pc} {A : List Str} (hp : p.length ≤ 100) (hA : A.length ≤ 1000) : (eE_ p A).length ≤ 102000 := by
  have := dG_ (g := dW_ p) (n := 102) A fun x _ => jn_ hp x
  rw [kk_]
  omega
set_option maxHeartbeats 1000000 in
theorem oH_ (p : List Pc) (pad : Option Addr) (pcap : Nat) (bu : Int) (hsm : ∀ x ∈ p, x.sm) (hp : p.length ≤ 100) : Tri Tryz.prog 19 #[.slice pad (List.length p) pcap, .int .i64 bu] [] [az_ pad (List.flatMap Pc.cells p)] (fun y : {y : Cl × Int // dI_ p bu y.1 y.2} => .tuple #[y.1.1.val, .int .i64 y.1.2]) (fun _ => []) (fun y => y.1.1.row) := by
 refine T_ Tryz.func19 rfl rfl Tryz.ntmps19 rfl fun v0 => ?_
 refine h_ (c_ (ao_ dQ_ rfl fun b1 => ?_))
 refine a_ (g_ rfl) rfl (e_ (b_ rfl (h_ (c_ (a_ (ap_ ep_ rfl rfl) rfl (ao_ dQ_ rfl fun b2 => ?_))))))
 refine Q_ 0 ab_ rfl rfl rfl rfl rfl rfl (e_ (b_ rfl (h_ (c_ (a_ (d_ rfl) rfl (W_ (ls_ p pad pcap (by omega) hsm) rfl I_ (fun v _ h => by exact ⟨h.1, trivial⟩) rfl fun _ => ?_))))))
 refine a_ (g_ rfl) rfl (e_ (b_ rfl (h_ (h_ (c_ (a_ (d_ rfl) rfl (x_ (bN_ rfl rfl) rfl fun r1 hr1 => ?_)))))))
 refine e_ (b_ rfl ?_)
 cases r1
 ·
  replace hr1 := bb_ hr1
  have hchk := hr1
  refine v_ rfl (z_ (b_ rfl (h_ (h_ (c_ (a_ (d_ rfl) rfl (x_ (av_ rfl rfl) rfl fun r2 hr2 => ?_)))))))
  refine a_ (d_ rfl) rfl ?_
  cases r2
  ·
   replace hr2 := of_decide_eq_false hr2
   have hb0 := hr2
   refine p_ rfl rfl (a_ (d_ rfl) rfl (p_ rfl rfl (x_ (bR_ rfl rfl) rfl fun r3 hr3 => ?_)))
   refine a_ (C_ rfl rfl) rfl (e_ (b_ rfl ?_))
   cases r3
   ·
    replace hr3 := of_decide_eq_false hr3
    have hb1 := hr3
    refine v_ rfl (z_ (b_ rfl (h_ (c_ (a_ (d_ rfl) rfl (W_ (pZ_ p pad pcap (by omega)) rfl I_ (fun v _ h => by exact ⟨h.1, trivial⟩) rfl fun ⟨⟨aad, acap⟩, hat1, hat2, hat3⟩ => ?_))))))
    dsimp only
    dsimp only at hat1 hat2 hat3
    have hatl := kM_ p
    refine a_ (ap_ ep_ rfl rfl) rfl (ao_ dQ_ rfl fun b3 => ?_)
    refine Q_ 0 ab_ rfl rfl rfl rfl rfl rfl (e_ (b_ rfl (h_ (c_ (a_ (d_ rfl) rfl (a_ (l_ aB_ rfl rfl rfl da_) rfl (a_ (u_ 0 gu_ rfl rfl rfl) rfl (W_ (oB_ p pad pcap (atS p) aad acap (by omega) (by omega)) rfl I_ (fun v _ h => by exact ⟨h.2.1, h.1, trivial⟩) rfl fun ⟨⟨svf9, Hf9⟩, hf9⟩ => ?_))))))))
    dsimp only
    dsimp only at hf9
    refine a_ (g_ rfl) rfl (e_ (b_ rfl (h_ (R_ ?_))))
    obtain ⟨m, hm0⟩ : ∃ m : Nat, min bu 65536 = (m : Int) := ⟨(min bu 65536).toNat, by omega⟩
    have hfll := my_ (p := p) (A := atS p) hp (by omega)
    refine aL_ (ι := {y : List Fc × Value × Hp × List Fc × Option Addr × Nat // ORow 41 6 y.2.1 (List.length y.1) (List.flatMap Fc.cells y.1) y.2.2.1 ∧ InvR p (atS p) m y.2.2.2.1 y.1 ∧ (y.2.2.2.1.length ≤ y.2.2.2.2.2 ∧ y.2.2.2.2.2 ≤ maxLen ∧ (y.2.2.2.2.1 = none → y.2.2.2.2.2 = 0)) ∧ List.length y.1 ≤ 14000000 * (List.length y.2.2.2.1 + 1)}) (fun y => [(0, .slice pad (List.length p) pcap), (1, .int .i64 bu), (4, zp_ b1 0), (5, .int .i64 0), (6, zp_ b2 0), (8, zp_ b3 0), (9, y.1.2.1)]) (fun y => ((b3, .cells #[.slice aad (List.length (atS p)) acap, .slice y.1.2.2.2.2.1 (List.length y.1.2.2.2.1) y.1.2.2.2.2.2] 28 (0, 0)) :: ((b2, .cells #[.slice none 0 0, .slice none 0 0] 28 (0, 0)) :: ((b1, .cells #[.slice none 0 0, .slice none 0 0] 28 (0, 0)) :: y.1.2.2.1)))) (fun y => [az_ aad (List.flatMap aO_ (atS p)), az_ pad (List.flatMap Pc.cells p), az_ y.1.2.2.2.2.1 (List.flatMap Fc.cells y.1.2.2.2.1)]) (fun y => mn_ m y.1.2.2.2.1 y.1.1) ⟨((eE_ p (atS p)), svf9, Hf9, ([] : List Fc), none, 0), ORow.row hf9, mw_ m, ⟨Nat.le_refl _, Nat.zero_le _, fun _ => rfl⟩, by simp only [List.length_nil]; omega⟩ ⟨rfl, rfl, rfl, rfl, rfl, rfl, rfl, trivial⟩ (m_ (s_ i_) (m_ (s_ i_) (m_ bj_ aD_))) (fun v _ h => by exact ⟨h.1, h.2.1, (.inl rfl), trivial⟩) ?_
    rintro ⟨⟨t, svt, Ht, L, lad, lcap⟩, hot, hI, hlk, htl⟩
    dsimp only at hot hI hlk htl ⊢
    have hLm := hI.len
    refine h_ (h_ (c_ (a_ (d_ rfl) rfl (a_ (od_ hot G_ rfl) rfl (x_ (bR_ rfl rfl) rfl fun r4 hr4 => ?_)))))
    refine e_ (b_ rfl ?_)
    cases r4
    ·
     replace hr4 := of_decide_eq_false hr4
     have ht0 : t = [] := List.eq_nil_of_length_eq_zero (by omega)
     subst ht0
     refine v_ rfl (au_ rfl (b_ rfl (h_ (c_ (a_ (Y_ 0 aZ_ ab_ rfl rfl rfl) rfl (Q_ 2 ab_ rfl rfl rfl rfl rfl rfl (a_ (g_ rfl) rfl (e_ (b_ rfl ?_)))))))))
     refine F_ ?_
     exact cH_ ⟨((Cl.mk (atS p) aad acap L lad lcap), 0), pA_ hchk hb0 hb1 hm0 ⟨hat1, hat2, hat3, hlk.1, hlk.2.1, hlk.2.2⟩ rfl (nP_ hI)⟩ (fun aa v h1 h2 => de_ (us := Cl.cells (Cl.mk (atS p) aad acap L lad lcap)) 2 gn_ aZ_ ab_ rfl rfl rfl rfl aa v h1 h2) I_ (fun v _ h => by exact ⟨h.1, h.2.2.1, trivial⟩)
    ·
     replace hr4 := of_decide_eq_true hr4
     obtain ⟨f, t, rfl⟩ : ∃ f t0, t = f :: t0 := by cases t with | nil => simp at * | cons f t0 => exact ⟨f, t0, rfl⟩
     refine t_ rfl (z_ (b_ rfl (R_ (h_ (c_ (a_ (d_ rfl) rfl (a_ (pI_ hot G_ B_ rfl rfl (by decide) (by simp only [List.length_cons]; omega)) rfl (a_ (pH_ (k := (0 : Int).toNat * 6) hot (f_ (f_ S_)) ai_ B_ rfl (Fc.cells_len _) (by decide) (ad_ (l := f :: t) Fc.cells_len (i := (0 : Int).toNat) rfl)) rfl (ao_ ak_ rfl fun b4 => ?_)))))))))
     refine Q_ 0 B_ rfl rfl rfl rfl rfl rfl (e_ (b_ rfl (h_ (c_ (a_ (d_ rfl) rfl (oP_ (i := 1) (kl := .i64) hot G_ B_ rfl rfl (by simp only [List.length_cons]; omega) rfl fun sv2 ho2 => ?_))))))
     have hot2 : ORow 41 6 sv2 (List.length t) (List.flatMap Fc.cells t) Ht := by have q := ho2; rw [List.flatMap_cons, Nat.one_mul, List.drop_left' (Fc.cells_len f)] at q; simpa using q
     refine a_ (g_ rfl) rfl (e_ (b_ rfl (h_ (h_ (c_ (a_ (l_ aB_ rfl rfl rfl bl_) rfl (a_ (u_ 1 bt_ rfl rfl rfl) rfl (a_ (Y_ 0 ai_ B_ rfl rfl rfl) rfl (as_ (jj_ L lad lcap f (by omega) hI.srt) rfl I_ (fun v _ h => by exact ⟨h.2.2.1, trivial⟩) rfl fun r5 hr5 => ?_)))))))))
     refine e_ (b_ rfl ?_)
     cases r5
     ·
      replace hr5 := dF hr5
      have hfn : f ∉ L := hr5
      refine v_ rfl (z_ (b_ rfl (h_ (h_ (c_ (a_ (l_ aB_ rfl rfl rfl bl_) rfl (a_ (u_ 1 bt_ rfl rfl rfl) rfl (a_ (am_ G_ rfl) rfl (a_ (d_ rfl) rfl ?_)))))))))
      refine x_ (cG_ rfl rfl) rfl fun r6 hr6 => ?_
      refine a_ (d_ rfl) rfl ?_
      cases r6
      ·
       replace hr6 := of_decide_eq_false hr6
       refine r_ rfl rfl rfl rfl (r_ rfl rfl rfl rfl (a_ (C_ rfl rfl) rfl (e_ (b_ rfl (v_ rfl (z_ (b_ rfl (h_ (h_ ?_)))))))))
       refine c_ (a_ (l_ aB_ rfl rfl rfl bl_) rfl (a_ (u_ 1 bt_ rfl rfl rfl) rfl (a_ (am_ G_ rfl) rfl (x_ (cG_ rfl rfl) rfl fun r7 hr7 => ?_))))
       refine e_ (b_ rfl ?_)
       cases r7
       ·
        replace hr7 := of_decide_eq_false hr7
        refine v_ rfl (z_ (b_ rfl (h_ ?_)))
        have hLm3 : List.length L < m := by omega
        have hI3 := lQ_ (fb_ hchk) hI hfn hLm3
        refine c_ (a_ (l_ aB_ rfl rfl rfl bl_) rfl (a_ (u_ 1 bt_ rfl rfl rfl) rfl (a_ (Y_ 0 ai_ B_ rfl rfl rfl) rfl (W_ (qH_ L lad lcap f (by omega) hI.srt hlk) rfl I_ (fun v _ h => by exact ⟨h.2.2.1, trivial⟩) rfl fun ⟨⟨nad, ncap⟩, hnk⟩ => ?_))))
        dsimp only
        dsimp only at hnk
        refine a_ (l_ aB_ rfl rfl rfl bl_) rfl (Q_ 1 bl_ rfl rfl rfl rfl rfl rfl (e_ (b_ rfl (c_ (a_ (d_ rfl) rfl (a_ (d_ rfl) rfl (a_ (l_ aB_ rfl rfl rfl bl_) rfl (a_ (u_ 1 bt_ rfl rfl rfl) rfl (a_ (Y_ 0 ai_ B_ rfl rfl rfl) rfl ?_)))))))))
        refine W_ (oo_ p pad pcap (cT_ L f) nad ncap f hp (by rw [eL_ hfn]; omega) (hx_ f hI.srt)) rfl I_ (fun v _ h => by exact ⟨h.2.2.1, h.1, trivial⟩) rfl fun ⟨⟨sad1, scap1⟩, hsc1, hsc2, hsz3⟩ => ?_
        dsimp only
        dsimp only at hsc1 hsc2 hsz3
        have hsl := jQ_ (p := p) (l := cT_ L f) (f := f) hp (by rw [eL_ hfn]; omega)
        refine ib_ (n := List.length t) (m := List.length (cC_ p (cT_ L f) f)) (news := List.flatMap Fc.cells (cC_ p (cT_ L f) f)) ca_ hot2 rfl rfl hsz3 hsc1 (f_ (f_ (f_ S_))) (by rw [bp_ Fc.cells 6 Fc.cells_len]) (fun v _ h => by exact h.1) (fun u hu => aK_ Fc.cells_one hu) (by simp only [maxLen]; simp only [List.length_cons] at htl; omega) (by simp only [List.length_cons] at htl; omega) rfl fun sv3 Ht3 ho3 => ?_
        have hot3 : ORow 41 6 sv3 (List.length (t ++ (cC_ p (cT_ L f) f))) (List.flatMap Fc.cells (t ++ (cC_ p (cT_ L f) f))) Ht3 := by rw [List.length_append, List.flatMap_append]; exact ho3
        refine a_ (g_ rfl) rfl (e_ (w_ rfl ?_))
        exact Z_ ⟨((t ++ cC_ p (cT_ L f) f), sv3, Ht3, (cT_ L f), nad, ncap), hot3, hI3, hnk, by dsimp only; rw [List.length_append, eL_ hfn]; simp only [List.length_cons] at htl; omega⟩ (lF_ hfn hLm3 hsl) ⟨rfl, rfl, rfl, rfl, rfl, rfl, rfl, trivial⟩ (m_ (s_ (f_ i_)) (m_ (s_ (f_ i_)) (m_ (s_ (f_ i_)) E_))) (fun v _ h => by exact ⟨h.2.2.1, h.2.2.2.1, h.2.1, trivial⟩)
       ·
        replace hr7 := of_decide_eq_true hr7
        refine t_ rfl (h_ (c_ (a_ (Y_ 2 aZ_ ab_ rfl rfl rfl) rfl (Q_ 3 ab_ rfl rfl rfl rfl rfl rfl (a_ (g_ rfl) rfl (e_ (b_ rfl (F_ ?_))))))))
        exact cH_ ⟨((Cl.mk [] none 0 [] none 0), 2), kQ_ hchk hb0 hb1 hm0 (by rw [if_neg (by omega)]) (hU_ hI hfn (by omega))⟩ (fun aa v h1 h2 => de_ (us := Cl.cells (Cl.mk [] none 0 [] none 0)) 3 gn_ aZ_ ab_ rfl rfl rfl rfl aa v h1 h2) I_ (fun v _ h => by exact ⟨.inl rfl, .inl rfl, trivial⟩)
      ·
       replace hr6 := of_decide_eq_true hr6
       refine p_ rfl rfl (a_ (d_ rfl) rfl (p_ rfl rfl (x_ (av_ rfl rfl) rfl fun r8 hr8 => ?_)))
       refine a_ (H_ rfl rfl) rfl (e_ (b_ rfl ?_))
       cases r8
       ·
        replace hr8 := of_decide_eq_false hr8
        refine v_ rfl (z_ (b_ rfl (h_ (h_ (c_ (a_ (l_ aB_ rfl rfl rfl bl_) rfl (a_ (u_ 1 bt_ rfl rfl rfl) rfl (a_ (am_ G_ rfl) rfl (x_ (cG_ rfl rfl) rfl fun r9 hr9 => ?_)))))))))
        refine e_ (b_ rfl ?_)
        cases r9
        ·
         replace hr9 := of_decide_eq_false hr9
         refine v_ rfl (z_ (b_ rfl (h_ ?_)))
         have hLm3 : List.length L < m := by omega
         have hI3 := lQ_ (fb_ hchk) hI hfn hLm3
         refine c_ (a_ (l_ aB_ rfl rfl rfl bl_) rfl (a_ (u_ 1 bt_ rfl rfl rfl) rfl (a_ (Y_ 0 ai_ B_ rfl rfl rfl) rfl (W_ (qH_ L lad lcap f (by omega) hI.srt hlk) rfl I_ (fun v _ h => by exact ⟨h.2.2.1, trivial⟩) rfl fun ⟨⟨nad, ncap⟩, hnk⟩ => ?_))))
         dsimp only
         dsimp only at hnk
         refine a_ (l_ aB_ rfl rfl rfl bl_) rfl (Q_ 1 bl_ rfl rfl rfl rfl rfl rfl (e_ (b_ rfl (c_ (a_ (d_ rfl) rfl (a_ (d_ rfl) rfl (a_ (l_ aB_ rfl rfl rfl bl_) rfl (a_ (u_ 1 bt_ rfl rfl rfl) rfl (a_ (Y_ 0 ai_ B_ rfl rfl rfl) rfl ?_)))))))))
         refine W_ (oo_ p pad pcap (cT_ L f) nad ncap f hp (by rw [eL_ hfn]; omega) (hx_ f hI.srt)) rfl I_ (fun v _ h => by exact ⟨h.2.2.1, h.1, trivial⟩) rfl fun ⟨⟨sad1, scap1⟩, hsc1, hsc2, hsz3⟩ => ?_
         dsimp only
         dsimp only at hsc1 hsc2 hsz3
         have hsl := jQ_ (p := p) (l := cT_ L f) (f := f) hp (by rw [eL_ hfn]; omega)
         refine ib_ (n := List.length t) (m := List.length (cC_ p (cT_ L f) f)) (news := List.flatMap Fc.cells (cC_ p (cT_ L f) f)) ca_ hot2 rfl rfl hsz3 hsc1 (f_ (f_ (f_ S_))) (by rw [bp_ Fc.cells 6 Fc.cells_len]) (fun v _ h => by exact h.1) (fun u hu => aK_ Fc.cells_one hu) (by simp only [maxLen]; simp only [List.length_cons] at htl; omega) (by simp only [List.length_cons] at htl; omega) rfl fun sv3 Ht3 ho3 => ?_
         have hot3 : ORow 41 6 sv3 (List.length (t ++ (cC_ p (cT_ L f) f))) (List.flatMap Fc.cells (t ++ (cC_ p (cT_ L f) f))) Ht3 := by rw [List.length_append, List.flatMap_append]; exact ho3
         refine a_ (g_ rfl) rfl (e_ (w_ rfl ?_))
         exact Z_ ⟨((t ++ cC_ p (cT_ L f) f), sv3, Ht3, (cT_ L f), nad, ncap), hot3, hI3, hnk, by dsimp only; rw [List.length_append, eL_ hfn]; simp only [List.length_cons] at htl; omega⟩ (lF_ hfn hLm3 hsl) ⟨rfl, rfl, rfl, rfl, rfl, rfl, rfl, trivial⟩ (m_ (s_ (f_ i_)) (m_ (s_ (f_ i_)) (m_ (s_ (f_ i_)) E_))) (fun v _ h => by exact ⟨h.2.2.1, h.2.2.2.1, h.2.1, trivial⟩)
        ·
         replace hr9 := of_decide_eq_true hr9
         refine t_ rfl (h_ (c_ (a_ (Y_ 2 aZ_ ab_ rfl rfl rfl) rfl (Q_ 3 ab_ rfl rfl rfl rfl rfl rfl (a_ (g_ rfl) rfl (e_ (b_ rfl (F_ ?_))))))))
         exact cH_ ⟨((Cl.mk [] none 0 [] none 0), 2), kQ_ hchk hb0 hb1 hm0 (by rw [if_neg (by omega)]) (hU_ hI hfn (by omega))⟩ (fun aa v h1 h2 => de_ (us := Cl.cells (Cl.mk [] none 0 [] none 0)) 3 gn_ aZ_ ab_ rfl rfl rfl rfl aa v h1 h2) I_ (fun v _ h => by exact ⟨.inl rfl, .inl rfl, trivial⟩)
       ·
        replace hr8 := of_decide_eq_true hr8
        refine t_ rfl (h_ (c_ (a_ (Y_ 2 aZ_ ab_ rfl rfl rfl) rfl (Q_ 3 ab_ rfl rfl rfl rfl rfl rfl (a_ (g_ rfl) rfl (e_ (b_ rfl (F_ ?_))))))))
        exact cH_ ⟨((Cl.mk [] none 0 [] none 0), 3), kQ_ hchk hb0 hb1 hm0 (by rw [if_pos (by omega)]) (hU_ hI hfn (by omega))⟩ (fun aa v h1 h2 => de_ (us := Cl.cells (Cl.mk [] none 0 [] none 0)) 3 gn_ aZ_ ab_ rfl rfl rfl rfl aa v h1 h2) I_ (fun v _ h => by exact ⟨.inl rfl, .inl rfl, trivial⟩)
     ·
      replace hr5 := dT hr5
      refine t_ rfl (au_ rfl (w_ rfl ?_))
      exact Z_ ⟨(t, sv2, Ht, L, lad, lcap), hot2, pi_ hI (by assumption), hlk, by dsimp only; simp only [List.length_cons] at htl; omega⟩ oW_ ⟨rfl, rfl, rfl, rfl, rfl, rfl, rfl, trivial⟩ (m_ (f_ i_) (m_ (f_ i_) (m_ (f_ i_) S_))) (fun _ _ h => h)
   ·
    replace hr3 := of_decide_eq_true hr3
    refine t_ rfl (h_ (c_ (a_ (Y_ 0 aZ_ ab_ rfl rfl rfl) rfl (Q_ 1 ab_ rfl rfl rfl rfl rfl rfl (a_ (g_ rfl) rfl (e_ (b_ rfl (F_ ?_))))))))
    exact cH_ ⟨((Cl.mk [] none 0 [] none 0), 1), hI_ (by assumption) (by omega)⟩ (fun aa v h1 h2 => de_ (us := Cl.cells (Cl.mk [] none 0 [] none 0)) 1 gn_ aZ_ ab_ rfl rfl rfl rfl aa v h1 h2) I_ (fun v _ h => by exact ⟨.inl rfl, .inl rfl, trivial⟩)
  ·
   replace hr2 := of_decide_eq_true hr2
   refine r_ rfl rfl rfl rfl (r_ rfl rfl rfl rfl (a_ (H_ rfl rfl) rfl (e_ (b_ rfl (t_ rfl (h_ (c_ (a_ (Y_ 0 aZ_ ab_ rfl rfl rfl) rfl (Q_ 1 ab_ rfl rfl rfl rfl rfl rfl ?_)))))))))
   refine a_ (g_ rfl) rfl (e_ (b_ rfl (F_ ?_)))
   exact cH_ ⟨((Cl.mk [] none 0 [] none 0), 1), hI_ (by assumption) (by omega)⟩ (fun aa v h1 h2 => de_ (us := Cl.cells (Cl.mk [] none 0 [] none 0)) 1 gn_ aZ_ ab_ rfl rfl rfl rfl aa v h1 h2) I_ (fun v _ h => by exact ⟨.inl rfl, .inl rfl, trivial⟩)
 ·
  replace hr1 := ba_ hr1
  refine t_ rfl (h_ (c_ (a_ (Y_ 0 aZ_ ab_ rfl rfl rfl) rfl (a_ (d_ rfl) rfl (Q_ 1 ab_ rfl rfl rfl rfl rfl rfl (a_ (g_ rfl) rfl (e_ (b_ rfl (F_ ?_)))))))))
  exact cH_ ⟨((Cl.mk [] none 0 [] none 0), (bM_ p)), mb_ (by assumption)⟩ (fun aa v h1 h2 => de_ (us := Cl.cells (Cl.mk [] none 0 [] none 0)) 1 gn_ aZ_ ab_ rfl rfl rfl rfl aa v h1 h2) I_ (fun v _ h => by exact ⟨.inl rfl, .inl rfl, trivial⟩)
end Go.Proofs.YtpdbbglpbngeiaaGreatDoor
namespace Go.Proofs.YtpdbbglpbngeiaaGreatDoor
open Go Go.Sx Go.Proofs
attribute [local irreducible] Code.wp wpList wpAnyH
open Go.Vs
theorem mT_ {α : Type} {lt : α → α → Prop} (ht : ∀ {x y z}, lt x y → lt y z → lt x z) {l : List α} {j : Nat} {b : α} (h : (l.take j).Pairwise lt) (hb : l[j]? = some b) (hab : ∀ a, 0 < j → l[j - 1]? = some a → lt a b) : (l.take (j + 1)).Pairwise lt := by
  cases j with
  | zero => exact pw_one l
  | succ k =>
    have hk := (List.getElem?_eq_some_iff.1 hb).1
    obtain ⟨a, ha⟩ : ∃ a, l[k]? = some a := ⟨_, List.getElem?_eq_getElem (by omega)⟩
    exact qa_ (lt := lt) ht h ha hb (hab a (by omega) ha)
theorem oI_ {α : Type} {lt : α → α → Prop} {l : List α} {j : Nat} {a b : α} (hj : 0 < j) (ha : l[j - 1]? = some a) (hb : l[j]? = some b) (hab : ¬ lt a b) : ¬ l.Pairwise lt := by
  obtain ⟨k, rfl⟩ : ∃ k, j = k + 1 := ⟨j - 1, by omega⟩
  exact pw_not ha hb hab
theorem km_ {p : List Pc} {bu : Int} {c d : Cl} {e f : Int} (h : dI_ p bu c e) (k : dI_ p bu d f) : c.atoms = d.atoms ∧ c.facts = d.facts ∧ e = f := by
  by_cases h1 : bM_ p = 0
  · by_cases h2 : bu < 0 ∨ 1073741824 < bu
    · unfold dI_ at h k
      rw [if_neg (by simp [h1]), if_pos h2] at h k
      obtain ⟨rfl, rfl⟩ := h
      obtain ⟨rfl, rfl⟩ := k
      exact ⟨rfl, rfl, rfl⟩
    · exact ob_ (fu_.rfl' p) (fu_.rfl' p) h k h1 h1 (by omega) (by omega)
  · unfold dI_ at h k
    rw [if_pos h1] at h k
    obtain ⟨rfl, rfl⟩ := h
    obtain ⟨rfl, rfl⟩ := k
    exact ⟨rfl, rfl, rfl⟩
end Go.Proofs.YtpdbbglpbngeiaaGreatDoor
