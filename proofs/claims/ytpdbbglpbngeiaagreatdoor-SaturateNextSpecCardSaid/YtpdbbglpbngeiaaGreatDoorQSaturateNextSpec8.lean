/-
  Part of the proof of the law SaturateNextSpec over this seat: the small logic, the data, the contracts of functions (no condition).
-/
import Derived.Test.YtpdbbglpbngeiaaGreatDoorQSaturateNextSpec7
import Derived.Test.YtpdbbglpbngeiaaGreatDoorQSaturateNextSpec3
set_option linter.unusedVariables false
set_option linter.unusedSimpArgs false
set_option linter.unusedSectionVars false
namespace Go.Proofs.YtpdbbglpbngeiaaGreatDoor
open Go Go.Sx Go.Proofs
attribute [local irreducible] Code.wp wpList wpAnyH
open Go.Vs
theorem qF_ (p : List Pc) (pad : Option Addr) (pcap : Nat) (l : List Fc) (lad : Option Addr) (lcap : Nat) (f : Fc) (hp : p.length ≤ 100) (hl : l.length ≤ 65536) (hs : Srt l) : Tri Tryz.prog 118 #[.slice pad (List.length p) pcap, .slice lad (List.length l) lcap, Fc.val f] [] [az_ pad (List.flatMap Pc.cells p), az_ lad (List.flatMap Fc.cells l)] (fun y : {y : Option Addr × Nat // ((kD_ p l f)).length ≤ y.2 ∧ y.2 ≤ maxLen ∧ (y.1 = none → y.2 = 0)} => .slice y.1.1 ((kD_ p l f)).length y.1.2) (fun _ => []) (fun y => [az_ y.1.1 (((kD_ p l f)).flatMap Fc.cells)]) := by
 refine T_ Tryz.func118 rfl rfl Tryz.ntmps118 rfl fun v0 => ?_
 refine h_ (c_ (bh_ rfl rfl fun b1 => ?_))
 refine a_ (g_ rfl) rfl (e_ (b_ rfl (h_ (c_ (dk_ E_ B_ rfl fun b2 => ?_)))))
 refine al_ i_ (a_ (g_ rfl) rfl (e_ (b_ rfl (h_ (al_ (cj_ aX_) (h_ (c_ (a_ (g_ rfl) rfl (e_ ?_)))))))))
 refine b_ rfl (N_ ?_)
 refine aB_ (ι := {y : Nat × Value × Hp // y.1 ≤ List.length p ∧ aQ_ 41 6 y.2.1 (List.length (List.flatMap (cr_ l f) (List.take y.1 p))) (List.flatMap Fc.cells (List.flatMap (cr_ l f) (List.take y.1 p))) y.2.2}) (fun y => [(0, .slice pad (List.length p) pcap), (1, .slice lad (List.length l) lcap), (5, zp_ b1 0), (6, .slice none 0 0), (7, y.1.2.1), (8, .int .i64 (y.1.1 : Int))]) (fun y => ((b1, .cells (Fc.cells f).toArray 41 (0, 0)) :: y.1.2.2)) (fun y => [az_ pad (List.flatMap Pc.cells p), az_ lad (List.flatMap Fc.cells l)]) (fun y => List.length p - y.1.1) ⟨((0 : Nat), (.slice (some ⟨b2, 0, none⟩) 0 0), [(b2, .cells #[] 41 (0, 0))]), by simp, (dX_ b2 41 6)⟩ ⟨rfl, rfl, rfl, rfl, rfl, rfl, trivial⟩ (o_ i_ aC_) (fun _ _ h => h) ?_
 rintro ⟨⟨i, sv_Rfc, H_Rfc⟩, hi_i, hr_Rfc⟩
 dsimp only at hi_i hr_Rfc ⊢
 have hb1 := cW_ (g := cr_ l f) (n := 1) (List.take i p) (fun x _ => ka_ l f x)
 rw [List.length_take] at hb1
 refine h_ (h_ (c_ (a_ (f_ rfl) rfl (a_ (f_ rfl) rfl (a_ (ar_ P_ rfl) rfl (y_ (ax_ rfl rfl) rfl fun r1 hr1 => ?_))))))
 refine e_ (b_ rfl ?_)
 cases r1
 ·
  replace hr1 := of_decide_eq_false hr1
  rw [show List.take i p = p from List.take_of_length_le (by omega)] at hr_Rfc
  refine v_ rfl (as_ rfl (b_ rfl (h_ (h_ (c_ (a_ (g_ rfl) rfl (e_ (b_ rfl (N_ ?_)))))))))
  have hw1 : aQ_ 41 6 sv_Rfc (List.length (List.flatMap (cr_ l f) p ++ List.flatMap (subB p f) (List.take 0 l))) (List.flatMap Fc.cells (List.flatMap (cr_ l f) p ++ List.flatMap (subB p f) (List.take 0 l))) H_Rfc := by have q := hr_Rfc; simpa only [List.take_zero, List.flatMap_nil, List.append_nil, List.length_nil] using q
  refine aB_ (ι := {y : Nat × Value × Hp // y.1 ≤ List.length l ∧ aQ_ 41 6 y.2.1 (List.length (List.flatMap (cr_ l f) p ++ List.flatMap (subB p f) (List.take y.1 l))) (List.flatMap Fc.cells (List.flatMap (cr_ l f) p ++ List.flatMap (subB p f) (List.take y.1 l))) y.2.2}) (fun y => [(0, .slice pad (List.length p) pcap), (1, .slice lad (List.length l) lcap), (5, zp_ b1 0), (6, .slice none 0 0), (7, y.1.2.1), (8, .int .i64 (i : Int)), (10, .int .i64 (y.1.1 : Int))]) (fun y => ((b1, .cells (Fc.cells f).toArray 41 (0, 0)) :: y.1.2.2)) (fun y => [az_ pad (List.flatMap Pc.cells p), az_ lad (List.flatMap Fc.cells l)]) (fun y => List.length l - y.1.1) ⟨((0 : Nat), sv_Rfc, H_Rfc), by simp, hw1⟩ ⟨rfl, rfl, rfl, rfl, rfl, rfl, rfl, trivial⟩ (o_ i_ aC_) (fun _ _ h => h) ?_
  rintro ⟨⟨j, sv_Rfc, H_Rfc⟩, hi_j, hr_Rfc⟩
  dsimp only at hi_j hr_Rfc ⊢
  have hb0 := cW_ (g := cr_ l f) (n := 1) p (fun x _ => ka_ l f x)
  have hb2 := cW_ (g := subB p f) (n := 101) (List.take j l) (fun x _ => oY_ hp f x)
  rw [List.length_take] at hb2
  refine h_ (h_ (c_ (a_ (f_ rfl) rfl (a_ (f_ rfl) rfl (a_ (ar_ E_ rfl) rfl (y_ (ax_ rfl rfl) rfl fun r2 hr2 => ?_))))))
  refine e_ (b_ rfl ?_)
  cases r2
  ·
   replace hr2 := of_decide_eq_false hr2
   rw [show List.take j l = l from List.take_of_length_le (by omega)] at hr_Rfc
   refine v_ rfl (as_ rfl (b_ rfl (h_ (c_ (a_ (f_ rfl) rfl (a_ (g_ rfl) rfl (e_ (b_ rfl (H_ ?_)))))))))
   have hw2 : aQ_ 41 6 sv_Rfc (List.length (kD_ p l f)) (List.flatMap Fc.cells (kD_ p l f)) H_Rfc := by have q := hr_Rfc; exact q
   refine bw_ hw2 Q_ fun ad2 cp2 had2 hcad2 hmad2 hzad2 => ?_
   exact ap_ Tryz.results118 ⟨(ad2, cp2), hcad2, hmad2, hzad2⟩ (ca_ rfl had2) J_ (fun v _ h => ⟨h.1, trivial⟩)
  ·
   replace hr2 := of_decide_eq_true hr2
   have hlx2 : j < List.length l := by omega
   obtain ⟨x2, hx2⟩ : ∃ e0, l[j]? = some e0 := ⟨_, List.getElem?_eq_getElem hlx2⟩
   have hmx2 : x2 ∈ l := List.mem_of_getElem? hx2
   refine u_ rfl (F_ (b_ rfl (h_ (N_ (h_ (c_ (a_ (f_ rfl) rfl (a_ (f_ rfl) rfl (a_ (ad_ E_ B_ rfl rfl (fun v _ h => av_ (n := 6) Fc.cells_len (by decide) (by exact h.2.1) hx2) (by omega) (by first | omega | (simp; done))) rfl ?_)))))))))
   refine a_ (aJ_ (ad := lad) (us := Fc.cells x2) V_ B_ rfl (fun v _ h => by exact h.2.1) (Fc.cells_len _) (ag_ Fc.cells_len hx2)) rfl (ay_ ah_ rfl fun b3 => ?_)
   refine af_ 0 B_ rfl rfl rfl rfl rfl rfl (e_ (b_ rfl (h_ (h_ (c_ (a_ (l_ k_ rfl rfl rfl I_) rfl (a_ (t_ 0 L_ rfl rfl rfl) rfl (y_ (cE_ rfl rfl) rfl fun r3 hr3 => ?_))))))))
   refine a_ (f_ rfl) rfl ?_
   refine aN_ 6 (((Fc.kind x2) != 2) || ((Fc.b x2) != (Fc.a f))) (fun r => [(0, .slice pad (List.length p) pcap), (1, .slice lad (List.length l) lcap), (5, zp_ b1 0), (6, .slice none 0 0), (7, sv_Rfc), (8, .int .i64 (i : Int)), (10, .int .i64 (j : Int)), (11, zp_ b3 0), (150, .bool r)]) ?_ fun r4 hr4 => ?_
   ·
    cases r3
    ·
     have qr4 := hr3
     replace hr3 := bo_ hr3
     refine r_ rfl rfl (a_ (l_ k_ rfl rfl rfl j_) rfl (r_ rfl rfl (a_ (t_ 0 p_ rfl rfl rfl) rfl (r_ rfl rfl (a_ (l_ k_ rfl rfl rfl j_) rfl (r_ rfl rfl (a_ (t_ 1 p_ rfl rfl rfl) rfl (r_ rfl rfl (y_ (dn_ rfl rfl) rfl fun r5 hr5 => ?_)))))))))
     refine a_ (A_ rfl rfl) rfl (e_ (w_ rfl ?_))
     exact met ⟨rfl, rfl, rfl, rfl, rfl, rfl, rfl, rfl, (z_ rfl (jof qr4 hr5)), trivial⟩
    ·
     have qr4 := hr3
     replace hr3 := bn_ hr3
     refine s_ rfl rfl rfl rfl (s_ rfl rfl rfl rfl (s_ rfl rfl rfl rfl (s_ rfl rfl rfl rfl (s_ rfl rfl rfl rfl (a_ (G_ rfl rfl) rfl (e_ (w_ rfl ?_)))))))
     exact met ⟨rfl, rfl, rfl, rfl, rfl, rfl, rfl, rfl, (z_ rfl (jot qr4)), trivial⟩
   ·
    refine e_ (b_ rfl ?_)
    cases r4
    ·
     simp at hr4
     refine v_ rfl (F_ (b_ rfl (h_ (h_ (c_ (a_ (l_ k_ rfl rfl rfl j_) rfl (a_ (t_ 1 p_ rfl rfl rfl) rfl (y_ (ao_ rfl rfl) rfl fun r6 hr6 => ?_))))))))
     refine e_ (b_ rfl ?_)
     cases r6
     ·
      replace hr6 := ne_of_beq_false hr6
      refine v_ rfl (F_ (b_ rfl (h_ (c_ (a_ (g_ rfl) rfl (e_ (b_ rfl (N_ ?_))))))))
      have hw3 : aQ_ 41 6 sv_Rfc (List.length ((List.flatMap (cr_ l f) p ++ List.flatMap (subB p f) (List.take j l)) ++ List.flatMap (cD_ f x2) (List.take 0 p))) (List.flatMap Fc.cells ((List.flatMap (cr_ l f) p ++ List.flatMap (subB p f) (List.take j l)) ++ List.flatMap (cD_ f x2) (List.take 0 p))) H_Rfc := by have q := hr_Rfc; simpa only [List.take_zero, List.flatMap_nil, List.append_nil, List.length_nil] using q
      refine aB_ (ι := {y : Nat × Value × Hp // y.1 ≤ List.length p ∧ aQ_ 41 6 y.2.1 (List.length ((List.flatMap (cr_ l f) p ++ List.flatMap (subB p f) (List.take j l)) ++ List.flatMap (cD_ f x2) (List.take y.1 p))) (List.flatMap Fc.cells ((List.flatMap (cr_ l f) p ++ List.flatMap (subB p f) (List.take j l)) ++ List.flatMap (cD_ f x2) (List.take y.1 p))) y.2.2}) (fun y => [(0, .slice pad (List.length p) pcap), (1, .slice lad (List.length l) lcap), (5, zp_ b1 0), (6, .slice none 0 0), (7, y.1.2.1), (8, .int .i64 (i : Int)), (10, .int .i64 (j : Int)), (11, zp_ b3 0), (12, .int .i64 (y.1.1 : Int))]) (fun y => ((b3, .cells (Fc.cells x2).toArray 41 (0, 0)) :: ((b1, .cells (Fc.cells f).toArray 41 (0, 0)) :: y.1.2.2))) (fun y => [az_ pad (List.flatMap Pc.cells p), az_ lad (List.flatMap Fc.cells l)]) (fun y => List.length p - y.1.1) ⟨((0 : Nat), sv_Rfc, H_Rfc), by simp, hw3⟩ ⟨rfl, rfl, rfl, rfl, rfl, rfl, rfl, rfl, rfl, trivial⟩ (o_ i_ (o_ i_ aC_)) (fun _ _ h => h) ?_
      rintro ⟨⟨k, sv_Rfc, H_Rfc⟩, hi_k, hr_Rfc⟩
      dsimp only at hi_k hr_Rfc ⊢
      have hb3 := cW_ (g := cD_ f x2) (n := 1) (List.take k p) (fun x _ => id_ f x2 x)
      rw [List.length_take] at hb3
      refine h_ (h_ (c_ (a_ (f_ rfl) rfl (a_ (f_ rfl) rfl (a_ (ar_ P_ rfl) rfl (y_ (ax_ rfl rfl) rfl fun r7 hr7 => ?_))))))
      refine e_ (b_ rfl ?_)
      cases r7
      ·
       replace hr7 := of_decide_eq_false hr7
       rw [show List.take k p = p from List.take_of_length_le (by omega)] at hr_Rfc
       refine v_ rfl (as_ rfl (b_ rfl (c_ (a_ (f_ rfl) rfl (a_ (M_ rfl rfl rfl (aj_ (by omega) (by omega))) rfl (a_ (g_ rfl) rfl (e_ (w_ rfl ?_))))))))
       exact aa_ ⟨(j + 1, sv_Rfc, H_Rfc), hlx2, (by have q := hr_Rfc; rw [bi_ hx2, show (subB p f) x2 = List.flatMap (cD_ f x2) p from (by rw [iK_, if_neg (by first | assumption | simpa using hr4), if_neg (by assumption)]; rfl)]; simpa only [List.append_assoc, List.append_nil] using q)⟩ (by dsimp only; omega) ⟨rfl, rfl, rfl, rfl, rfl, rfl, rfl, trivial⟩ (o_ (d_ i_) Q_) (fun _ _ h => h)
      ·
       replace hr7 := of_decide_eq_true hr7
       have hlx3 : k < List.length p := by omega
       obtain ⟨x3, hx3⟩ : ∃ e0, p[k]? = some e0 := ⟨_, List.getElem?_eq_getElem hlx3⟩
       have hmx3 : x3 ∈ p := List.mem_of_getElem? hx3
       refine u_ rfl (F_ (b_ rfl (h_ (N_ (h_ ?_)))))
       refine aE_ (by kernel_rfl) ?_
       refine Z_ 19 [0, 1, 2, 3, 4, 5, 6] (by kernel_rfl) (fun _ a b => ⟨a, b⟩) (n_ rfl (f_ rfl) rfl (n_ rfl (f_ rfl) rfl (n_ rfl (ad_ P_ R_ rfl rfl (fun v _ h => av_ (n := 10) Pc.cells_len (by decide) (by exact h.1) hx3) (by omega) (by first | omega | (simp; done))) rfl (n_ rfl (bY_ m_ rfl rfl rfl I_) rfl (n_ rfl (aG_ (ad := pad) L_ rfl (fun v _ h => by exact h.1) (ag_ Pc.cells_len hx3 0 _ rfl)) rfl ?_)))))
       refine bX_ rfl (aD_ rfl rfl) rfl fun r8 hr8 => ?_
       refine n_ rfl (f_ rfl) rfl (Y_ ?_)
       cases r8
       ·
        replace hr8 := ne_of_beq_false hr8
        refine Z_ 0 [7, 8, 9, 10, 11, 12, 13, 14, 15, 16, 17, 18, 19, 20, 21, 22, 23, 24, 25] (by kernel_rfl) (fun _ a b => ⟨a, b⟩) (ac_ rfl rfl rfl rfl rfl (ac_ rfl rfl rfl rfl rfl (ac_ rfl rfl rfl rfl rfl (ac_ rfl rfl rfl rfl rfl (ac_ rfl rfl rfl rfl rfl (ac_ rfl rfl rfl rfl rfl (ac_ rfl rfl rfl rfl rfl (ac_ rfl rfl rfl rfl rfl (n_ rfl (A_ rfl rfl) rfl ?_)))))))))
        refine n_ rfl (f_ rfl) rfl (ac_ rfl rfl rfl rfl rfl (ac_ rfl rfl rfl rfl rfl (ac_ rfl rfl rfl rfl rfl (ac_ rfl rfl rfl rfl rfl (ac_ rfl rfl rfl rfl rfl (ac_ rfl rfl rfl rfl rfl (ac_ rfl rfl rfl rfl rfl (ac_ rfl rfl rfl rfl rfl (n_ rfl (A_ rfl rfl) rfl ?_)))))))))
        refine Y_ (ab_ (by kernel_rfl) (b_ rfl (v_ rfl (F_ (b_ rfl (c_ (a_ (f_ rfl) rfl (a_ (M_ rfl rfl rfl (aj_ (by omega) (by omega))) rfl (a_ (g_ rfl) rfl ?_)))))))))
        refine e_ (w_ rfl ?_)
        exact aa_ ⟨(k + 1, sv_Rfc, H_Rfc), hlx3, (by have q := hr_Rfc; rw [bi_ hx3, show (cD_ f x2) x3 = [] from (by unfold cD_; rw [if_neg (fun q => by first | exact absurd q.1 (by assumption) | exact absurd q.2.1 (by assumption) | exact absurd q.2.2 (by assumption))])]; simpa only [List.append_assoc, List.append_nil] using q)⟩ (by dsimp only; omega) ⟨rfl, rfl, rfl, rfl, rfl, rfl, rfl, rfl, rfl, trivial⟩ (o_ i_ (o_ i_ aC_)) (fun _ _ h => h)
       ·
        replace hr8 := eq_of_beq hr8
        refine Z_ 9 [7, 8, 9, 10, 11, 12, 13, 14, 15, 16] (by kernel_rfl) (fun _ a b => ⟨a, b⟩) (W_ rfl rfl rfl (f_ rfl) rfl (W_ rfl rfl rfl (f_ rfl) rfl (W_ rfl rfl rfl (ad_ P_ R_ rfl rfl (fun v _ h => av_ (n := 10) Pc.cells_len (by decide) (by exact h.1) hx3) (by omega) (by first | omega | (simp; done))) rfl (W_ rfl rfl rfl (bY_ m_ rfl rfl rfl j_) rfl (W_ rfl rfl rfl (aG_ (ad := pad) p_ rfl (fun v _ h => by exact h.1) (ag_ Pc.cells_len hx3 4 _ rfl)) rfl (W_ rfl rfl rfl (l_ k_ rfl rfl rfl j_) rfl (W_ rfl rfl rfl (t_ 0 p_ rfl rfl rfl) rfl ?_)))))))
        refine bQ_ rfl rfl rfl (ao_ rfl rfl) rfl fun r9 hr9 => ?_
        refine n_ rfl (G_ rfl rfl) rfl (n_ rfl (f_ rfl) rfl (Y_ ?_))
        cases r9
        ·
         replace hr9 := ne_of_beq_false hr9
         refine Z_ 0 [17, 18, 19, 20, 21, 22, 23, 24, 25] (by kernel_rfl) (fun _ a b => ⟨a, b⟩) (ac_ rfl rfl rfl rfl rfl (ac_ rfl rfl rfl rfl rfl (ac_ rfl rfl rfl rfl rfl (ac_ rfl rfl rfl rfl rfl (ac_ rfl rfl rfl rfl rfl (ac_ rfl rfl rfl rfl rfl (ac_ rfl rfl rfl rfl rfl (ac_ rfl rfl rfl rfl rfl (n_ rfl (A_ rfl rfl) rfl ?_)))))))))
         refine Y_ (ab_ (by kernel_rfl) (b_ rfl (v_ rfl (F_ (b_ rfl (c_ (a_ (f_ rfl) rfl (a_ (M_ rfl rfl rfl (aj_ (by omega) (by omega))) rfl (a_ (g_ rfl) rfl ?_)))))))))
         refine e_ (w_ rfl ?_)
         exact aa_ ⟨(k + 1, sv_Rfc, H_Rfc), hlx3, (by have q := hr_Rfc; rw [bi_ hx3, show (cD_ f x2) x3 = [] from (by unfold cD_; rw [if_neg (fun q => by first | exact absurd q.1 (by assumption) | exact absurd q.2.1 (by assumption) | exact absurd q.2.2 (by assumption))])]; simpa only [List.append_assoc, List.append_nil] using q)⟩ (by dsimp only; omega) ⟨rfl, rfl, rfl, rfl, rfl, rfl, rfl, rfl, rfl, trivial⟩ (o_ i_ (o_ i_ aC_)) (fun _ _ h => h)
        ·
         replace hr9 := eq_of_beq hr9
         refine Z_ 0 [17, 18, 19, 20, 21, 22, 23, 24, 25] (by kernel_rfl) (fun _ a b => ⟨a, b⟩) (W_ rfl rfl rfl (f_ rfl) rfl (W_ rfl rfl rfl (f_ rfl) rfl (W_ rfl rfl rfl (ad_ P_ R_ rfl rfl (fun v _ h => av_ (n := 10) Pc.cells_len (by decide) (by exact h.1) hx3) (by omega) (by first | omega | (simp; done))) rfl (W_ rfl rfl rfl (bY_ m_ rfl rfl rfl j_) rfl (W_ rfl rfl rfl (aG_ (ad := pad) p_ rfl (fun v _ h => by exact h.1) (ag_ Pc.cells_len hx3 1 _ rfl)) rfl (W_ rfl rfl rfl (l_ k_ rfl rfl rfl j_) rfl (W_ rfl rfl rfl (t_ 1 p_ rfl rfl rfl) rfl ?_)))))))
         refine bQ_ rfl rfl rfl (ao_ rfl rfl) rfl fun r10 hr10 => ?_
         refine n_ rfl (G_ rfl rfl) rfl (Y_ (ab_ (by kernel_rfl) (b_ rfl ?_)))
         cases r10
         ·
          replace hr10 := ne_of_beq_false hr10
          refine v_ rfl (F_ (b_ rfl (c_ (a_ (f_ rfl) rfl (a_ (M_ rfl rfl rfl (aj_ (by omega) (by omega))) rfl (a_ (g_ rfl) rfl (e_ (w_ rfl ?_))))))))
          exact aa_ ⟨(k + 1, sv_Rfc, H_Rfc), hlx3, (by have q := hr_Rfc; rw [bi_ hx3, show (cD_ f x2) x3 = [] from (by unfold cD_; rw [if_neg (fun q => by first | exact absurd q.1 (by assumption) | exact absurd q.2.1 (by assumption) | exact absurd q.2.2 (by assumption))])]; simpa only [List.append_assoc, List.append_nil] using q)⟩ (by dsimp only; omega) ⟨rfl, rfl, rfl, rfl, rfl, rfl, rfl, rfl, rfl, trivial⟩ (o_ i_ (o_ i_ aC_)) (fun _ _ h => h)
         ·
          replace hr10 := eq_of_beq hr10
          refine u_ rfl ?_
          refine aP_ ((b3, .cells (Fc.cells x2).toArray 41 (0, 0)) :: ((b1, .cells (Fc.cells f).toArray 41 (0, 0)) :: [])) (by kernel_rfl) ?_
          refine Z_ 4 [0, 1, 2, 3, 4, 5, 6, 7] (by kernel_rfl) (fun _ a b => ⟨Vw.sat.sub (a.perm (o_ i_ i_)), b⟩) (n_ rfl (f_ rfl) rfl (n_ rfl (l_ k_ rfl rfl rfl j_) rfl (n_ rfl (t_ 0 p_ rfl rfl rfl) rfl (n_ rfl (f_ rfl) rfl (n_ rfl (f_ rfl) rfl (n_ rfl (ad_ P_ R_ rfl rfl (fun v _ h => av_ (n := 10) Pc.cells_len (by decide) (by exact h.1) hx3) (by omega) (by first | omega | (simp; done))) rfl (n_ rfl (bY_ m_ rfl rfl rfl j_) rfl (n_ rfl (aG_ (ad := pad) p_ rfl (fun v _ h => by exact h.1) (ag_ Pc.cells_len hx3 3 _ rfl)) rfl (Y_ ?_)))))))))
          refine U_ 8 rfl (by kernel_rfl) (X_ (dH_ (Fc.a x2) (Pc.c x3)) rfl J_ (fun _ _ _ => by exact trivial) rfl fun _ => ?_)
          refine e_ (w_ rfl (O_ (fun _ a b => ⟨Vw.sat.sub (a.perm (o_ i_ i_)), b⟩) (U_ 9 rfl (by kernel_rfl) (aO_ E_ B_ ah_ rfl rfl rfl rfl rfl rfl fun b4 => ?_))))
          refine bE_ (List.flatMap Fc.cells [(ak_ (Fc.a x2) (Pc.c x3))]) i_ rfl ?_
          refine e_ (w_ rfl (O_ (fun _ a b => ⟨Vw.sat.sub (a.perm (o_ i_ i_)), b.2⟩) (U_ 10 rfl (by kernel_rfl) (aM_ (news := List.flatMap Fc.cells [(ak_ (Fc.a x2) (Pc.c x3))]) cg_ hr_Rfc rfl rfl (fun q => by cases q) (by simp) (d_ Q_) (by rw [bt_ Fc.cells 6 Fc.cells_len]; rfl) (fun v _ h => by exact h.1) (fun u hu => aR_ Fc.cells_one hu) (by simp only [maxLen]; ((try simp only [List.length_append, List.length_cons, List.length_nil]); omega)) (by ((try simp only [List.length_append, List.length_cons, List.length_nil]); omega)) rfl fun sv4 Hr4 hr4 => ?_))))
          refine al_ List.perm_append_comm ?_
          have hq4 : aQ_ 41 6 sv4 (List.length (((List.flatMap (cr_ l f) p ++ List.flatMap (subB p f) (List.take j l)) ++ List.flatMap (cD_ f x2) (List.take k p)) ++ [(ak_ (Fc.a x2) (Pc.c x3))])) (List.flatMap Fc.cells (((List.flatMap (cr_ l f) p ++ List.flatMap (subB p f) (List.take j l)) ++ List.flatMap (cD_ f x2) (List.take k p)) ++ [(ak_ (Fc.a x2) (Pc.c x3))])) Hr4 := by rw [List.length_append, List.flatMap_append]; exact hr4
          refine e_ (w_ rfl (O_ (fun _ a b => ⟨Vw.sat.sub (a.perm (o_ i_ i_)), b.2⟩) (Z_ 0 [11] (by kernel_rfl) (fun _ a b => ⟨Vw.sat.sub (a.perm (o_ i_ i_)), b.2⟩) (n_ rfl (g_ rfl) rfl (Y_ (ab_ (by kernel_rfl) (b_ rfl (c_ (a_ (f_ rfl) rfl ?_)))))))))
          refine a_ (M_ rfl rfl rfl (aj_ (by omega) (by omega))) rfl (a_ (g_ rfl) rfl (e_ (w_ rfl ?_)))
          exact aa_ ⟨(k + 1, sv4, Hr4), hlx3, (by have q := hq4; rw [bi_ hx3, show (cD_ f x2) x3 = [(ak_ (Fc.a x2) (Pc.c x3))] from (by unfold cD_; rw [if_pos ⟨by assumption, by assumption, by assumption⟩])]; simpa only [List.append_assoc, List.append_nil] using q)⟩ (by dsimp only; omega) ⟨rfl, rfl, rfl, rfl, rfl, rfl, rfl, rfl, rfl, trivial⟩ (o_ i_ (o_ i_ aC_)) (fun _ _ h => h.2)
     ·
      replace hr6 := eq_of_beq hr6
      refine u_ rfl (c_ (a_ (f_ rfl) rfl (a_ (l_ k_ rfl rfl rfl j_) rfl (a_ (t_ 0 p_ rfl rfl rfl) rfl (X_ (dH_ (Fc.a x2) [33]) rfl J_ (fun _ _ _ => by exact trivial) rfl fun _ => ?_)))))
      refine aO_ E_ B_ ah_ rfl rfl rfl rfl rfl rfl fun b5 => ?_
      refine bE_ (List.flatMap Fc.cells [(ak_ (Fc.a x2) [33])]) i_ rfl ?_
      refine aM_ (news := List.flatMap Fc.cells [(ak_ (Fc.a x2) [33])]) cg_ hr_Rfc rfl rfl (fun q => by cases q) (by simp) (d_ Q_) (by rw [bt_ Fc.cells 6 Fc.cells_len]; rfl) (fun v _ h => by exact h.1) (fun u hu => aR_ Fc.cells_one hu) (by simp only [maxLen]; ((try simp only [List.length_append, List.length_cons, List.length_nil]); omega)) (by ((try simp only [List.length_append, List.length_cons, List.length_nil]); omega)) rfl fun sv5 Hr5 hr5 => ?_
      refine al_ List.perm_append_comm ?_
      have hq5 : aQ_ 41 6 sv5 (List.length ((List.flatMap (cr_ l f) p ++ List.flatMap (subB p f) (List.take j l)) ++ [(ak_ (Fc.a x2) [33])])) (List.flatMap Fc.cells ((List.flatMap (cr_ l f) p ++ List.flatMap (subB p f) (List.take j l)) ++ [(ak_ (Fc.a x2) [33])])) Hr5 := by rw [List.length_append, List.flatMap_append]; exact hr5
      refine a_ (g_ rfl) rfl (e_ (b_ rfl (h_ (c_ (a_ (g_ rfl) rfl (e_ (b_ rfl (N_ ?_))))))))
      have hw6 : aQ_ 41 6 sv5 (List.length (((List.flatMap (cr_ l f) p ++ List.flatMap (subB p f) (List.take j l)) ++ [(ak_ (Fc.a x2) [33])]) ++ List.flatMap (cD_ f x2) (List.take 0 p))) (List.flatMap Fc.cells (((List.flatMap (cr_ l f) p ++ List.flatMap (subB p f) (List.take j l)) ++ [(ak_ (Fc.a x2) [33])]) ++ List.flatMap (cD_ f x2) (List.take 0 p))) Hr5 := by have q := hq5; simpa only [List.take_zero, List.flatMap_nil, List.append_nil, List.length_nil] using q
      refine aB_ (ι := {y : Nat × Value × Hp // y.1 ≤ List.length p ∧ aQ_ 41 6 y.2.1 (List.length (((List.flatMap (cr_ l f) p ++ List.flatMap (subB p f) (List.take j l)) ++ [(ak_ (Fc.a x2) [33])]) ++ List.flatMap (cD_ f x2) (List.take y.1 p))) (List.flatMap Fc.cells (((List.flatMap (cr_ l f) p ++ List.flatMap (subB p f) (List.take j l)) ++ [(ak_ (Fc.a x2) [33])]) ++ List.flatMap (cD_ f x2) (List.take y.1 p))) y.2.2}) (fun y => [(0, .slice pad (List.length p) pcap), (1, .slice lad (List.length l) lcap), (5, zp_ b1 0), (6, .slice none 0 0), (7, y.1.2.1), (8, .int .i64 (i : Int)), (10, .int .i64 (j : Int)), (11, zp_ b3 0), (12, .int .i64 (y.1.1 : Int))]) (fun y => ((b3, .cells (Fc.cells x2).toArray 41 (0, 0)) :: ((b1, .cells (Fc.cells f).toArray 41 (0, 0)) :: y.1.2.2))) (fun y => [az_ (some ⟨b5, 0, none⟩) (List.flatMap Fc.cells [(ak_ (Fc.a x2) [33])]), az_ pad (List.flatMap Pc.cells p), az_ lad (List.flatMap Fc.cells l)]) (fun y => List.length p - y.1.1) ⟨((0 : Nat), sv5, Hr5), by simp, hw6⟩ ⟨rfl, rfl, rfl, rfl, rfl, rfl, rfl, rfl, rfl, trivial⟩ (o_ i_ (o_ i_ aC_)) (fun _ _ h => h) ?_
      rintro ⟨⟨k, sv_Rfc, H_Rfc⟩, hi_k, hr_Rfc⟩
      dsimp only at hi_k hr_Rfc ⊢
      have hb3 := cW_ (g := cD_ f x2) (n := 1) (List.take k p) (fun x _ => id_ f x2 x)
      rw [List.length_take] at hb3
      refine h_ (h_ (c_ (a_ (f_ rfl) rfl (a_ (f_ rfl) rfl (a_ (ar_ P_ rfl) rfl (y_ (ax_ rfl rfl) rfl fun r11 hr11 => ?_))))))
      refine e_ (b_ rfl ?_)
      cases r11
      ·
       replace hr11 := of_decide_eq_false hr11
       rw [show List.take k p = p from List.take_of_length_le (by omega)] at hr_Rfc
       refine v_ rfl (as_ rfl (b_ rfl (c_ (a_ (f_ rfl) rfl (a_ (M_ rfl rfl rfl (aj_ (by omega) (by omega))) rfl (a_ (g_ rfl) rfl (e_ (w_ rfl ?_))))))))
       exact aa_ ⟨(j + 1, sv_Rfc, H_Rfc), hlx2, (by have q := hr_Rfc; rw [bi_ hx2, show (subB p f) x2 = [(ak_ (Fc.a x2) [33])] ++ List.flatMap (cD_ f x2) p from (by rw [iK_, if_neg (by first | assumption | simpa using hr4), if_pos (by assumption)])]; simpa only [List.append_assoc, List.append_nil] using q)⟩ (by dsimp only; omega) ⟨rfl, rfl, rfl, rfl, rfl, rfl, rfl, trivial⟩ (o_ (d_ i_) Q_) (fun _ _ h => h.2)
      ·
       replace hr11 := of_decide_eq_true hr11
       have hlx3 : k < List.length p := by omega
       obtain ⟨x3, hx3⟩ : ∃ e0, p[k]? = some e0 := ⟨_, List.getElem?_eq_getElem hlx3⟩
       have hmx3 : x3 ∈ p := List.mem_of_getElem? hx3
       refine u_ rfl (F_ (b_ rfl (h_ (N_ (h_ ?_)))))
       refine aE_ (by kernel_rfl) ?_
       refine Z_ 19 [0, 1, 2, 3, 4, 5, 6] (by kernel_rfl) (fun _ a b => ⟨a, b⟩) (n_ rfl (f_ rfl) rfl (n_ rfl (f_ rfl) rfl (n_ rfl (ad_ P_ R_ rfl rfl (fun v _ h => av_ (n := 10) Pc.cells_len (by decide) (by exact h.2.1) hx3) (by omega) (by first | omega | (simp; done))) rfl (n_ rfl (bY_ m_ rfl rfl rfl I_) rfl (n_ rfl (aG_ (ad := pad) L_ rfl (fun v _ h => by exact h.2.1) (ag_ Pc.cells_len hx3 0 _ rfl)) rfl ?_)))))
       refine bX_ rfl (aD_ rfl rfl) rfl fun r12 hr12 => ?_
       refine n_ rfl (f_ rfl) rfl (Y_ ?_)
       cases r12
       ·
        replace hr12 := ne_of_beq_false hr12
        refine Z_ 0 [7, 8, 9, 10, 11, 12, 13, 14, 15, 16, 17, 18, 19, 20, 21, 22, 23, 24, 25] (by kernel_rfl) (fun _ a b => ⟨a, b⟩) (ac_ rfl rfl rfl rfl rfl (ac_ rfl rfl rfl rfl rfl (ac_ rfl rfl rfl rfl rfl (ac_ rfl rfl rfl rfl rfl (ac_ rfl rfl rfl rfl rfl (ac_ rfl rfl rfl rfl rfl (ac_ rfl rfl rfl rfl rfl (ac_ rfl rfl rfl rfl rfl (n_ rfl (A_ rfl rfl) rfl ?_)))))))))
        refine n_ rfl (f_ rfl) rfl (ac_ rfl rfl rfl rfl rfl (ac_ rfl rfl rfl rfl rfl (ac_ rfl rfl rfl rfl rfl (ac_ rfl rfl rfl rfl rfl (ac_ rfl rfl rfl rfl rfl (ac_ rfl rfl rfl rfl rfl (ac_ rfl rfl rfl rfl rfl (ac_ rfl rfl rfl rfl rfl (n_ rfl (A_ rfl rfl) rfl ?_)))))))))
        refine Y_ (ab_ (by kernel_rfl) (b_ rfl (v_ rfl (F_ (b_ rfl (c_ (a_ (f_ rfl) rfl (a_ (M_ rfl rfl rfl (aj_ (by omega) (by omega))) rfl (a_ (g_ rfl) rfl ?_)))))))))
        refine e_ (w_ rfl ?_)
        exact aa_ ⟨(k + 1, sv_Rfc, H_Rfc), hlx3, (by have q := hr_Rfc; rw [bi_ hx3, show (cD_ f x2) x3 = [] from (by unfold cD_; rw [if_neg (fun q => by first | exact absurd q.1 (by assumption) | exact absurd q.2.1 (by assumption) | exact absurd q.2.2 (by assumption))])]; simpa only [List.append_assoc, List.append_nil] using q)⟩ (by dsimp only; omega) ⟨rfl, rfl, rfl, rfl, rfl, rfl, rfl, rfl, rfl, trivial⟩ (o_ i_ (o_ i_ aC_)) (fun _ _ h => h)
       ·
        replace hr12 := eq_of_beq hr12
        refine Z_ 9 [7, 8, 9, 10, 11, 12, 13, 14, 15, 16] (by kernel_rfl) (fun _ a b => ⟨a, b⟩) (W_ rfl rfl rfl (f_ rfl) rfl (W_ rfl rfl rfl (f_ rfl) rfl (W_ rfl rfl rfl (ad_ P_ R_ rfl rfl (fun v _ h => av_ (n := 10) Pc.cells_len (by decide) (by exact h.2.1) hx3) (by omega) (by first | omega | (simp; done))) rfl (W_ rfl rfl rfl (bY_ m_ rfl rfl rfl j_) rfl (W_ rfl rfl rfl (aG_ (ad := pad) p_ rfl (fun v _ h => by exact h.2.1) (ag_ Pc.cells_len hx3 4 _ rfl)) rfl (W_ rfl rfl rfl (l_ k_ rfl rfl rfl j_) rfl (W_ rfl rfl rfl (t_ 0 p_ rfl rfl rfl) rfl ?_)))))))
        refine bQ_ rfl rfl rfl (ao_ rfl rfl) rfl fun r13 hr13 => ?_
        refine n_ rfl (G_ rfl rfl) rfl (n_ rfl (f_ rfl) rfl (Y_ ?_))
        cases r13
        ·
         replace hr13 := ne_of_beq_false hr13
         refine Z_ 0 [17, 18, 19, 20, 21, 22, 23, 24, 25] (by kernel_rfl) (fun _ a b => ⟨a, b⟩) (ac_ rfl rfl rfl rfl rfl (ac_ rfl rfl rfl rfl rfl (ac_ rfl rfl rfl rfl rfl (ac_ rfl rfl rfl rfl rfl (ac_ rfl rfl rfl rfl rfl (ac_ rfl rfl rfl rfl rfl (ac_ rfl rfl rfl rfl rfl (ac_ rfl rfl rfl rfl rfl (n_ rfl (A_ rfl rfl) rfl ?_)))))))))
         refine Y_ (ab_ (by kernel_rfl) (b_ rfl (v_ rfl (F_ (b_ rfl (c_ (a_ (f_ rfl) rfl (a_ (M_ rfl rfl rfl (aj_ (by omega) (by omega))) rfl (a_ (g_ rfl) rfl ?_)))))))))
         refine e_ (w_ rfl ?_)
         exact aa_ ⟨(k + 1, sv_Rfc, H_Rfc), hlx3, (by have q := hr_Rfc; rw [bi_ hx3, show (cD_ f x2) x3 = [] from (by unfold cD_; rw [if_neg (fun q => by first | exact absurd q.1 (by assumption) | exact absurd q.2.1 (by assumption) | exact absurd q.2.2 (by assumption))])]; simpa only [List.append_assoc, List.append_nil] using q)⟩ (by dsimp only; omega) ⟨rfl, rfl, rfl, rfl, rfl, rfl, rfl, rfl, rfl, trivial⟩ (o_ i_ (o_ i_ aC_)) (fun _ _ h => h)
        ·
         replace hr13 := eq_of_beq hr13
         refine Z_ 0 [17, 18, 19, 20, 21, 22, 23, 24, 25] (by kernel_rfl) (fun _ a b => ⟨a, b⟩) (W_ rfl rfl rfl (f_ rfl) rfl (W_ rfl rfl rfl (f_ rfl) rfl (W_ rfl rfl rfl (ad_ P_ R_ rfl rfl (fun v _ h => av_ (n := 10) Pc.cells_len (by decide) (by exact h.2.1) hx3) (by omega) (by first | omega | (simp; done))) rfl (W_ rfl rfl rfl (bY_ m_ rfl rfl rfl j_) rfl (W_ rfl rfl rfl (aG_ (ad := pad) p_ rfl (fun v _ h => by exact h.2.1) (ag_ Pc.cells_len hx3 1 _ rfl)) rfl (W_ rfl rfl rfl (l_ k_ rfl rfl rfl j_) rfl (W_ rfl rfl rfl (t_ 1 p_ rfl rfl rfl) rfl ?_)))))))
         refine bQ_ rfl rfl rfl (ao_ rfl rfl) rfl fun r14 hr14 => ?_
         refine n_ rfl (G_ rfl rfl) rfl (Y_ (ab_ (by kernel_rfl) (b_ rfl ?_)))
         cases r14
         ·
          replace hr14 := ne_of_beq_false hr14
          refine v_ rfl (F_ (b_ rfl (c_ (a_ (f_ rfl) rfl (a_ (M_ rfl rfl rfl (aj_ (by omega) (by omega))) rfl (a_ (g_ rfl) rfl (e_ (w_ rfl ?_))))))))
          exact aa_ ⟨(k + 1, sv_Rfc, H_Rfc), hlx3, (by have q := hr_Rfc; rw [bi_ hx3, show (cD_ f x2) x3 = [] from (by unfold cD_; rw [if_neg (fun q => by first | exact absurd q.1 (by assumption) | exact absurd q.2.1 (by assumption) | exact absurd q.2.2 (by assumption))])]; simpa only [List.append_assoc, List.append_nil] using q)⟩ (by dsimp only; omega) ⟨rfl, rfl, rfl, rfl, rfl, rfl, rfl, rfl, rfl, trivial⟩ (o_ i_ (o_ i_ aC_)) (fun _ _ h => h)
         ·
          replace hr14 := eq_of_beq hr14
          refine u_ rfl ?_
          refine aP_ ((b3, .cells (Fc.cells x2).toArray 41 (0, 0)) :: ((b1, .cells (Fc.cells f).toArray 41 (0, 0)) :: [])) (by kernel_rfl) ?_
          refine Z_ 4 [0, 1, 2, 3, 4, 5, 6, 7] (by kernel_rfl) (fun _ a b => ⟨Vw.sat.sub (a.perm (o_ i_ i_)), b⟩) (n_ rfl (f_ rfl) rfl (n_ rfl (l_ k_ rfl rfl rfl j_) rfl (n_ rfl (t_ 0 p_ rfl rfl rfl) rfl (n_ rfl (f_ rfl) rfl (n_ rfl (f_ rfl) rfl (n_ rfl (ad_ P_ R_ rfl rfl (fun v _ h => av_ (n := 10) Pc.cells_len (by decide) (by exact h.2.1) hx3) (by omega) (by first | omega | (simp; done))) rfl (n_ rfl (bY_ m_ rfl rfl rfl j_) rfl (n_ rfl (aG_ (ad := pad) p_ rfl (fun v _ h => by exact h.2.1) (ag_ Pc.cells_len hx3 3 _ rfl)) rfl (Y_ ?_)))))))))
          refine U_ 8 rfl (by kernel_rfl) (X_ (dH_ (Fc.a x2) (Pc.c x3)) rfl J_ (fun _ _ _ => by exact trivial) rfl fun _ => ?_)
          refine e_ (w_ rfl (O_ (fun _ a b => ⟨Vw.sat.sub (a.perm (o_ i_ i_)), b⟩) (U_ 9 rfl (by kernel_rfl) (aO_ E_ B_ ah_ rfl rfl rfl rfl rfl rfl fun b6 => ?_))))
          refine bE_ (List.flatMap Fc.cells [(ak_ (Fc.a x2) (Pc.c x3))]) i_ rfl ?_
          refine e_ (w_ rfl (O_ (fun _ a b => ⟨Vw.sat.sub (a.perm (o_ i_ i_)), b.2⟩) (U_ 10 rfl (by kernel_rfl) (aM_ (news := List.flatMap Fc.cells [(ak_ (Fc.a x2) (Pc.c x3))]) cg_ hr_Rfc rfl rfl (fun q => by cases q) (by simp) (d_ Q_) (by rw [bt_ Fc.cells 6 Fc.cells_len]; rfl) (fun v _ h => by exact h.1) (fun u hu => aR_ Fc.cells_one hu) (by simp only [maxLen]; ((try simp only [List.length_append, List.length_cons, List.length_nil]); omega)) (by ((try simp only [List.length_append, List.length_cons, List.length_nil]); omega)) rfl fun sv7 Hr7 hr7 => ?_))))
          refine al_ List.perm_append_comm ?_
          have hq7 : aQ_ 41 6 sv7 (List.length ((((List.flatMap (cr_ l f) p ++ List.flatMap (subB p f) (List.take j l)) ++ [(ak_ (Fc.a x2) [33])]) ++ List.flatMap (cD_ f x2) (List.take k p)) ++ [(ak_ (Fc.a x2) (Pc.c x3))])) (List.flatMap Fc.cells ((((List.flatMap (cr_ l f) p ++ List.flatMap (subB p f) (List.take j l)) ++ [(ak_ (Fc.a x2) [33])]) ++ List.flatMap (cD_ f x2) (List.take k p)) ++ [(ak_ (Fc.a x2) (Pc.c x3))])) Hr7 := by rw [List.length_append, List.flatMap_append]; exact hr7
          refine e_ (w_ rfl (O_ (fun _ a b => ⟨Vw.sat.sub (a.perm (o_ i_ i_)), b.2⟩) (Z_ 0 [11] (by kernel_rfl) (fun _ a b => ⟨Vw.sat.sub (a.perm (o_ i_ i_)), b.2⟩) (n_ rfl (g_ rfl) rfl (Y_ (ab_ (by kernel_rfl) (b_ rfl (c_ (a_ (f_ rfl) rfl ?_)))))))))
          refine a_ (M_ rfl rfl rfl (aj_ (by omega) (by omega))) rfl (a_ (g_ rfl) rfl (e_ (w_ rfl ?_)))
          exact aa_ ⟨(k + 1, sv7, Hr7), hlx3, (by have q := hq7; rw [bi_ hx3, show (cD_ f x2) x3 = [(ak_ (Fc.a x2) (Pc.c x3))] from (by unfold cD_; rw [if_pos ⟨by assumption, by assumption, by assumption⟩])]; simpa only [List.append_assoc, List.append_nil] using q)⟩ (by dsimp only; omega) ⟨rfl, rfl, rfl, rfl, rfl, rfl, rfl, rfl, rfl, trivial⟩ (o_ i_ (o_ i_ aC_)) (fun _ _ h => h.2)
    ·
     simp at hr4
     refine u_ rfl (as_ rfl (b_ rfl (c_ (a_ (f_ rfl) rfl (a_ (M_ rfl rfl rfl (aj_ (by omega) (by omega))) rfl (a_ (g_ rfl) rfl (e_ (w_ rfl ?_))))))))
     exact aa_ ⟨(j + 1, sv_Rfc, H_Rfc), hlx2, (by have q := hr_Rfc; rw [bi_ hx2, show (subB p f) x2 = [] from (by rw [iK_, if_pos (by first | assumption | simpa using hr4)])]; simpa only [List.append_assoc, List.append_nil] using q)⟩ (by dsimp only; omega) ⟨rfl, rfl, rfl, rfl, rfl, rfl, rfl, trivial⟩ (o_ (d_ i_) Q_) (fun _ _ h => h)
 ·
  replace hr1 := of_decide_eq_true hr1
  have hlx1 : i < List.length p := by omega
  obtain ⟨x1, hx1⟩ : ∃ e0, p[i]? = some e0 := ⟨_, List.getElem?_eq_getElem hlx1⟩
  have hmx1 : x1 ∈ p := List.mem_of_getElem? hx1
  refine u_ rfl (F_ (b_ rfl (h_ (N_ (h_ (c_ (a_ (f_ rfl) rfl (a_ (f_ rfl) rfl (a_ (ad_ P_ R_ rfl rfl (fun v _ h => av_ (n := 10) Pc.cells_len (by decide) (by exact h.1) hx1) (by omega) (by first | omega | (simp; done))) rfl ?_)))))))))
  refine a_ (aJ_ (ad := pad) (us := Pc.cells x1) aK_ R_ rfl (fun v _ h => by exact h.1) (Pc.cells_len _) (ag_ Pc.cells_len hx1)) rfl (ay_ bj_ rfl fun b7 => ?_)
  refine af_ 0 R_ rfl rfl rfl rfl rfl rfl (e_ (b_ rfl (N_ (h_ (c_ (a_ (l_ m_ rfl rfl rfl I_) rfl (a_ (t_ 0 L_ rfl rfl rfl) rfl (y_ (aD_ rfl rfl) rfl fun r15 hr15 => ?_))))))))
  refine a_ (f_ rfl) rfl ?_
  refine aN_ 6 (((Pc.kind x1) == 1) && ((Pc.a x1) == (Fc.b f))) (fun r => [(0, .slice pad (List.length p) pcap), (1, .slice lad (List.length l) lcap), (5, zp_ b1 0), (6, .slice none 0 0), (7, sv_Rfc), (8, .int .i64 (i : Int)), (9, zp_ b7 0), (34, .bool r)]) ?_ fun r16 hr16 => ?_
  ·
   cases r15
   ·
    have qr16 := hr15
    replace hr15 := ne_of_beq_false hr15
    refine s_ rfl rfl rfl rfl (s_ rfl rfl rfl rfl (s_ rfl rfl rfl rfl (s_ rfl rfl rfl rfl (s_ rfl rfl rfl rfl (a_ (A_ rfl rfl) rfl (e_ (w_ rfl ?_)))))))
    exact met ⟨rfl, rfl, rfl, rfl, rfl, rfl, rfl, (z_ rfl (jaf qr16)), trivial⟩
   ·
    have qr16 := hr15
    replace hr15 := eq_of_beq hr15
    refine r_ rfl rfl (a_ (l_ m_ rfl rfl rfl j_) rfl (r_ rfl rfl (a_ (t_ 0 p_ rfl rfl rfl) rfl (r_ rfl rfl (a_ (l_ k_ rfl rfl rfl j_) rfl (r_ rfl rfl (a_ (t_ 1 p_ rfl rfl rfl) rfl (r_ rfl rfl (y_ (ao_ rfl rfl) rfl fun r17 hr17 => ?_)))))))))
    refine a_ (G_ rfl rfl) rfl (e_ (w_ rfl ?_))
    exact met ⟨rfl, rfl, rfl, rfl, rfl, rfl, rfl, (z_ rfl (jat qr16 hr17)), trivial⟩
  ·
   refine a_ (g_ rfl) rfl (e_ (b_ rfl ?_))
   cases r16
   ·
    simp at hr16
    refine v_ rfl (h_ (c_ (a_ (l_ m_ rfl rfl rfl I_) rfl (a_ (t_ 0 L_ rfl rfl rfl) rfl (y_ (aD_ rfl rfl) rfl fun r18 hr18 => ?_)))))
    refine a_ (f_ rfl) rfl ?_
    refine aN_ 31 (((Pc.kind x1) == 2) && ((((((Pc.a x1) == (Fc.b f)) && (decide ((ak_ (Fc.a f) (Pc.b x1)) ∈ l)))) || ((((Pc.b x1) == (Fc.b f)) && (decide ((ak_ (Fc.a f) (Pc.a x1)) ∈ l))))))) (fun r => [(0, .slice pad (List.length p) pcap), (1, .slice lad (List.length l) lcap), (5, zp_ b1 0), (6, .slice none 0 0), (7, sv_Rfc), (8, .int .i64 (i : Int)), (9, zp_ b7 0), (78, .bool r)]) ?_ fun r19 hr19 => ?_
    ·
     cases r18
     ·
      have qr19 := hr18
      replace hr18 := ne_of_beq_false hr18
      refine s_ rfl rfl rfl rfl (s_ rfl rfl rfl rfl (s_ rfl rfl rfl rfl (s_ rfl rfl rfl rfl (s_ rfl rfl rfl rfl (s_ rfl rfl rfl rfl (s_ rfl rfl rfl rfl (s_ rfl rfl rfl rfl (s_ rfl rfl rfl rfl (s_ rfl rfl rfl rfl ?_)))))))))
      refine s_ rfl rfl rfl rfl (s_ rfl rfl rfl rfl (s_ rfl rfl rfl rfl (s_ rfl rfl rfl rfl (s_ rfl rfl rfl rfl (s_ rfl rfl rfl rfl (s_ rfl rfl rfl rfl (s_ rfl rfl rfl rfl (s_ rfl rfl rfl rfl (s_ rfl rfl rfl rfl ?_)))))))))
      refine s_ rfl rfl rfl rfl (s_ rfl rfl rfl rfl (s_ rfl rfl rfl rfl (s_ rfl rfl rfl rfl (s_ rfl rfl rfl rfl (s_ rfl rfl rfl rfl (s_ rfl rfl rfl rfl (s_ rfl rfl rfl rfl (s_ rfl rfl rfl rfl (s_ rfl rfl rfl rfl ?_)))))))))
      refine a_ (A_ rfl rfl) rfl (e_ (w_ rfl ?_))
      exact met ⟨rfl, rfl, rfl, rfl, rfl, rfl, rfl, (z_ rfl (jaf qr19)), trivial⟩
     ·
      have qr19 := hr18
      replace hr18 := eq_of_beq hr18
      refine r_ rfl rfl (a_ (l_ m_ rfl rfl rfl j_) rfl (r_ rfl rfl (a_ (t_ 0 p_ rfl rfl rfl) rfl (r_ rfl rfl (a_ (l_ k_ rfl rfl rfl j_) rfl (r_ rfl rfl (a_ (t_ 1 p_ rfl rfl rfl) rfl (r_ rfl rfl (y_ (ao_ rfl rfl) rfl fun r20 hr20 => ?_)))))))))
      refine r_ rfl rfl (a_ (f_ rfl) rfl ?_)
      refine aN_ 8 (((Pc.a x1) == (Fc.b f)) && (decide ((ak_ (Fc.a f) (Pc.b x1)) ∈ l))) (fun r => [(0, .slice pad (List.length p) pcap), (1, .slice lad (List.length l) lcap), (5, zp_ b1 0), (6, .slice none 0 0), (7, sv_Rfc), (8, .int .i64 (i : Int)), (9, zp_ b7 0), (47, .bool true), (61, .bool r)]) ?_ fun r21 hr21 => ?_
      ·
       cases r20
       ·
        have qr21 := hr20
        replace hr20 := ne_of_beq_false hr20
        refine s_ rfl rfl rfl rfl (s_ rfl rfl rfl rfl (s_ rfl rfl rfl rfl (s_ rfl rfl rfl rfl (s_ rfl rfl rfl rfl (s_ rfl rfl rfl rfl (s_ rfl rfl rfl rfl (r_ rfl rfl (a_ (A_ rfl rfl) rfl (e_ ?_)))))))))
        refine w_ rfl ?_
        exact met ⟨rfl, rfl, rfl, rfl, rfl, rfl, rfl, rfl, (z_ rfl (jaf qr21)), trivial⟩
       ·
        have qr21 := hr20
        replace hr20 := eq_of_beq hr20
        refine r_ rfl rfl (a_ (f_ rfl) rfl (r_ rfl rfl (a_ (l_ k_ rfl rfl rfl j_) rfl (r_ rfl rfl (a_ (t_ 1 p_ rfl rfl rfl) rfl (r_ rfl rfl (a_ (l_ m_ rfl rfl rfl j_) rfl (r_ rfl rfl (a_ (t_ 0 p_ rfl rfl rfl) rfl ?_)))))))))
        refine r_ rfl rfl (X_ (dH_ (Fc.a f) (Pc.b x1)) rfl J_ (fun _ _ _ => by exact trivial) rfl fun _ => ?_)
        refine r_ rfl rfl (at_ (ku_ l lad lcap (ak_ (Fc.a f) (Pc.b x1)) (by omega) hs) rfl J_ (fun v _ h => by exact ⟨h.2.1, trivial⟩) rfl fun r22 hr22 => ?_)
        refine r_ rfl rfl (a_ (G_ rfl rfl) rfl (e_ (w_ rfl ?_)))
        exact met ⟨rfl, rfl, rfl, rfl, rfl, rfl, rfl, rfl, (z_ rfl (jat qr21 hr22)), trivial⟩
      ·
       refine r_ rfl rfl (a_ (f_ rfl) rfl ?_)
       refine aN_ 15 (((((Pc.a x1) == (Fc.b f)) && (decide ((ak_ (Fc.a f) (Pc.b x1)) ∈ l)))) || ((((Pc.b x1) == (Fc.b f)) && (decide ((ak_ (Fc.a f) (Pc.a x1)) ∈ l))))) (fun r => [(0, .slice pad (List.length p) pcap), (1, .slice lad (List.length l) lcap), (5, zp_ b1 0), (6, .slice none 0 0), (7, sv_Rfc), (8, .int .i64 (i : Int)), (9, zp_ b7 0), (47, .bool true), (77, .bool r)]) ?_ fun r23 hr23 => ?_
       ·
        cases r21
        ·
         have qr23 := hr21
         simp at hr21
         refine r_ rfl rfl (a_ (l_ m_ rfl rfl rfl j_) rfl (r_ rfl rfl (a_ (t_ 0 p_ rfl rfl rfl) rfl (r_ rfl rfl (a_ (l_ k_ rfl rfl rfl j_) rfl (r_ rfl rfl (a_ (t_ 1 p_ rfl rfl rfl) rfl (r_ rfl rfl (y_ (ao_ rfl rfl) rfl fun r24 hr24 => ?_)))))))))
         refine r_ rfl rfl (a_ (f_ rfl) rfl ?_)
         refine aN_ 8 (((Pc.b x1) == (Fc.b f)) && (decide ((ak_ (Fc.a f) (Pc.a x1)) ∈ l))) (fun r => [(0, .slice pad (List.length p) pcap), (1, .slice lad (List.length l) lcap), (5, zp_ b1 0), (6, .slice none 0 0), (7, sv_Rfc), (8, .int .i64 (i : Int)), (9, zp_ b7 0), (47, .bool true), (62, .bool false), (76, .bool r)]) ?_ fun r25 hr25 => ?_
         ·
          cases r24
          ·
           have qr25 := hr24
           replace hr24 := ne_of_beq_false hr24
           refine s_ rfl rfl rfl rfl (s_ rfl rfl rfl rfl (s_ rfl rfl rfl rfl (s_ rfl rfl rfl rfl (s_ rfl rfl rfl rfl (s_ rfl rfl rfl rfl (s_ rfl rfl rfl rfl (r_ rfl rfl (a_ (A_ rfl rfl) rfl (e_ ?_)))))))))
           refine w_ rfl ?_
           exact met ⟨rfl, rfl, rfl, rfl, rfl, rfl, rfl, rfl, rfl, (z_ rfl (jaf qr25)), trivial⟩
          ·
           have qr25 := hr24
           replace hr24 := eq_of_beq hr24
           refine r_ rfl rfl (a_ (f_ rfl) rfl (r_ rfl rfl (a_ (l_ k_ rfl rfl rfl j_) rfl (r_ rfl rfl (a_ (t_ 1 p_ rfl rfl rfl) rfl (r_ rfl rfl (a_ (l_ m_ rfl rfl rfl j_) rfl (r_ rfl rfl (a_ (t_ 0 p_ rfl rfl rfl) rfl ?_)))))))))
           refine r_ rfl rfl (X_ (dH_ (Fc.a f) (Pc.a x1)) rfl J_ (fun _ _ _ => by exact trivial) rfl fun _ => ?_)
           refine r_ rfl rfl (at_ (ku_ l lad lcap (ak_ (Fc.a f) (Pc.a x1)) (by omega) hs) rfl J_ (fun v _ h => by exact ⟨h.2.1, trivial⟩) rfl fun r26 hr26 => ?_)
           refine r_ rfl rfl (a_ (G_ rfl rfl) rfl (e_ (w_ rfl ?_)))
           exact met ⟨rfl, rfl, rfl, rfl, rfl, rfl, rfl, rfl, rfl, (z_ rfl (jat qr25 hr26)), trivial⟩
         ·
          refine r_ rfl rfl (a_ (A_ rfl rfl) rfl (e_ (w_ rfl ?_)))
          exact met ⟨rfl, rfl, rfl, rfl, rfl, rfl, rfl, rfl, (z_ rfl (jof qr23 hr25)), trivial⟩
        ·
         have qr23 := hr21
         simp at hr21
         refine s_ rfl rfl rfl rfl (s_ rfl rfl rfl rfl (s_ rfl rfl rfl rfl (s_ rfl rfl rfl rfl (s_ rfl rfl rfl rfl (s_ rfl rfl rfl rfl (s_ rfl rfl rfl rfl (s_ rfl rfl rfl rfl (s_ rfl rfl rfl rfl (s_ rfl rfl rfl rfl ?_)))))))))
         refine s_ rfl rfl rfl rfl (s_ rfl rfl rfl rfl (s_ rfl rfl rfl rfl (s_ rfl rfl rfl rfl (r_ rfl rfl (a_ (G_ rfl rfl) rfl (e_ (w_ rfl ?_)))))))
         exact met ⟨rfl, rfl, rfl, rfl, rfl, rfl, rfl, rfl, (z_ rfl (jot qr23)), trivial⟩
       ·
        refine a_ (G_ rfl rfl) rfl (e_ (w_ rfl ?_))
        exact met ⟨rfl, rfl, rfl, rfl, rfl, rfl, rfl, (z_ rfl (jat qr19 hr23)), trivial⟩
    ·
     refine a_ (g_ rfl) rfl (e_ (b_ rfl ?_))
     cases r19
     ·
      simp at hr19
      refine v_ rfl (h_ (c_ (a_ (l_ m_ rfl rfl rfl I_) rfl (a_ (t_ 0 L_ rfl rfl rfl) rfl (y_ (aD_ rfl rfl) rfl fun r27 hr27 => ?_)))))
      refine a_ (f_ rfl) rfl ?_
      refine aN_ 6 (((Pc.kind x1) == 3) && ((Pc.a x1) == (Fc.b f))) (fun r => [(0, .slice pad (List.length p) pcap), (1, .slice lad (List.length l) lcap), (5, zp_ b1 0), (6, .slice none 0 0), (7, sv_Rfc), (8, .int .i64 (i : Int)), (9, zp_ b7 0), (97, .bool r)]) ?_ fun r28 hr28 => ?_
      ·
       cases r27
       ·
        have qr28 := hr27
        replace hr27 := ne_of_beq_false hr27
        refine s_ rfl rfl rfl rfl (s_ rfl rfl rfl rfl (s_ rfl rfl rfl rfl (s_ rfl rfl rfl rfl (s_ rfl rfl rfl rfl (a_ (A_ rfl rfl) rfl (e_ (w_ rfl ?_)))))))
        exact met ⟨rfl, rfl, rfl, rfl, rfl, rfl, rfl, (z_ rfl (jaf qr28)), trivial⟩
       ·
        have qr28 := hr27
        replace hr27 := eq_of_beq hr27
        refine r_ rfl rfl (a_ (l_ m_ rfl rfl rfl j_) rfl (r_ rfl rfl (a_ (t_ 0 p_ rfl rfl rfl) rfl (r_ rfl rfl (a_ (l_ k_ rfl rfl rfl j_) rfl (r_ rfl rfl (a_ (t_ 1 p_ rfl rfl rfl) rfl (r_ rfl rfl (y_ (ao_ rfl rfl) rfl fun r29 hr29 => ?_)))))))))
        refine a_ (G_ rfl rfl) rfl (e_ (w_ rfl ?_))
        exact met ⟨rfl, rfl, rfl, rfl, rfl, rfl, rfl, (z_ rfl (jat qr28 hr29)), trivial⟩
      ·
       refine a_ (g_ rfl) rfl (e_ (b_ rfl ?_))
       cases r28
       ·
        simp at hr28
        refine v_ rfl (h_ (c_ (a_ (l_ m_ rfl rfl rfl I_) rfl (a_ (t_ 0 L_ rfl rfl rfl) rfl (y_ (aD_ rfl rfl) rfl fun r30 hr30 => ?_)))))
        refine a_ (f_ rfl) rfl ?_
        refine aN_ 6 (((Pc.kind x1) == 8) && ((Pc.a x1) == (Fc.b f))) (fun r => [(0, .slice pad (List.length p) pcap), (1, .slice lad (List.length l) lcap), (5, zp_ b1 0), (6, .slice none 0 0), (7, sv_Rfc), (8, .int .i64 (i : Int)), (9, zp_ b7 0), (118, .bool r)]) ?_ fun r31 hr31 => ?_
        ·
         cases r30
         ·
          have qr31 := hr30
          replace hr30 := ne_of_beq_false hr30
          refine s_ rfl rfl rfl rfl (s_ rfl rfl rfl rfl (s_ rfl rfl rfl rfl (s_ rfl rfl rfl rfl (s_ rfl rfl rfl rfl (a_ (A_ rfl rfl) rfl (e_ (w_ rfl ?_)))))))
          exact met ⟨rfl, rfl, rfl, rfl, rfl, rfl, rfl, (z_ rfl (jaf qr31)), trivial⟩
         ·
          have qr31 := hr30
          replace hr30 := eq_of_beq hr30
          refine r_ rfl rfl (a_ (l_ m_ rfl rfl rfl j_) rfl (r_ rfl rfl (a_ (t_ 0 p_ rfl rfl rfl) rfl (r_ rfl rfl (a_ (l_ k_ rfl rfl rfl j_) rfl (r_ rfl rfl (a_ (t_ 1 p_ rfl rfl rfl) rfl (r_ rfl rfl (y_ (ao_ rfl rfl) rfl fun r32 hr32 => ?_)))))))))
          refine a_ (G_ rfl rfl) rfl (e_ (w_ rfl ?_))
          exact met ⟨rfl, rfl, rfl, rfl, rfl, rfl, rfl, (z_ rfl (jat qr31 hr32)), trivial⟩
        ·
         refine a_ (g_ rfl) rfl (e_ (b_ rfl ?_))
         cases r31
         ·
          simp at hr31
          refine v_ rfl (F_ (b_ rfl (c_ (a_ (f_ rfl) rfl (a_ (M_ rfl rfl rfl (aj_ (by omega) (by omega))) rfl (a_ (g_ rfl) rfl (e_ (w_ rfl ?_))))))))
          exact aa_ ⟨(i + 1, sv_Rfc, H_Rfc), hlx1, (by have q := hr_Rfc; rw [bi_ hx1, show (cr_ l f) x1 = [] from (by unfold cr_; rw [if_neg (by first | assumption | simpa using hr16 | simp [*]), if_neg (by first | assumption | simpa using hr19 | simp [*]), if_neg (by first | assumption | simpa using hr28 | simp [*]), if_neg (by first | assumption | simpa using hr31 | simp [*])])]; simpa only [List.append_assoc, List.append_nil] using q)⟩ (by dsimp only; omega) ⟨rfl, rfl, rfl, rfl, rfl, rfl, trivial⟩ (o_ (d_ i_) Q_) (fun _ _ h => h)
         ·
          simp at hr31
          refine u_ rfl (c_ (a_ (f_ rfl) rfl (a_ (l_ k_ rfl rfl rfl j_) rfl (a_ (t_ 1 p_ rfl rfl rfl) rfl (a_ (l_ m_ rfl rfl rfl j_) rfl (a_ (t_ 0 p_ rfl rfl rfl) rfl (a_ (l_ m_ rfl rfl rfl I_) rfl (a_ (t_ 0 L_ rfl rfl rfl) rfl (a_ (l_ m_ rfl rfl rfl I_) rfl ?_)))))))))
          refine a_ (t_ 0 L_ rfl rfl rfl) rfl (X_ (nn_ (Fc.a f) (Pc.r x1) (Pc.lo x1) (Pc.hi x1)) rfl J_ (fun _ _ _ => by exact trivial) rfl fun _ => ?_)
          refine aO_ E_ B_ ah_ rfl rfl rfl rfl rfl rfl fun b8 => ?_
          refine bE_ (List.flatMap Fc.cells [(aF_ (Fc.a f) (Pc.r x1) (Pc.lo x1) (Pc.hi x1))]) i_ rfl ?_
          refine aM_ (news := List.flatMap Fc.cells [(aF_ (Fc.a f) (Pc.r x1) (Pc.lo x1) (Pc.hi x1))]) cg_ hr_Rfc rfl rfl (fun q => by cases q) (by simp) (d_ Q_) (by rw [bt_ Fc.cells 6 Fc.cells_len]; rfl) (fun v _ h => by exact h.1) (fun u hu => aR_ Fc.cells_one hu) (by simp only [maxLen]; ((try simp only [List.length_append, List.length_cons, List.length_nil]); omega)) (by ((try simp only [List.length_append, List.length_cons, List.length_nil]); omega)) rfl fun sv8 Hr8 hr8 => ?_
          refine al_ List.perm_append_comm ?_
          have hq8 : aQ_ 41 6 sv8 (List.length ((List.flatMap (cr_ l f) (List.take i p)) ++ [(aF_ (Fc.a f) (Pc.r x1) (Pc.lo x1) (Pc.hi x1))])) (List.flatMap Fc.cells ((List.flatMap (cr_ l f) (List.take i p)) ++ [(aF_ (Fc.a f) (Pc.r x1) (Pc.lo x1) (Pc.hi x1))])) Hr8 := by rw [List.length_append, List.flatMap_append]; exact hr8
          refine a_ (g_ rfl) rfl (e_ (b_ rfl (c_ (a_ (f_ rfl) rfl (a_ (M_ rfl rfl rfl (aj_ (by omega) (by omega))) rfl (a_ (g_ rfl) rfl (e_ (w_ rfl ?_))))))))
          exact aa_ ⟨(i + 1, sv8, Hr8), hlx1, (by have q := hq8; rw [bi_ hx1, show (cr_ l f) x1 = [(aF_ (Fc.a f) (Pc.r x1) (Pc.lo x1) (Pc.hi x1))] from (by unfold cr_; rw [if_neg (by first | assumption | simpa using hr16 | simp [*]), if_neg (by first | assumption | simpa using hr19 | simp [*]), if_neg (by first | assumption | simpa using hr28 | simp [*]), if_pos (by first | assumption | simpa using hr31 | simp [*])])]; simpa only [List.append_assoc, List.append_nil] using q)⟩ (by dsimp only; omega) ⟨rfl, rfl, rfl, rfl, rfl, rfl, trivial⟩ (o_ (d_ i_) Q_) (fun _ _ h => h.2)
       ·
        simp at hr28
        refine u_ rfl (c_ (a_ (f_ rfl) rfl (a_ (l_ k_ rfl rfl rfl j_) rfl (a_ (t_ 1 p_ rfl rfl rfl) rfl (a_ (l_ m_ rfl rfl rfl j_) rfl (a_ (t_ 0 p_ rfl rfl rfl) rfl (a_ (l_ m_ rfl rfl rfl j_) rfl (a_ (t_ 0 p_ rfl rfl rfl) rfl (X_ (er_ (Fc.a f) (Pc.r x1) (Pc.c x1)) rfl J_ (fun _ _ _ => by exact trivial) rfl fun _ => ?_)))))))))
        refine aO_ E_ B_ ah_ rfl rfl rfl rfl rfl rfl fun b9 => ?_
        refine bE_ (List.flatMap Fc.cells [(au_ (Fc.a f) (Pc.r x1) (Pc.c x1))]) i_ rfl ?_
        refine aM_ (news := List.flatMap Fc.cells [(au_ (Fc.a f) (Pc.r x1) (Pc.c x1))]) cg_ hr_Rfc rfl rfl (fun q => by cases q) (by simp) (d_ Q_) (by rw [bt_ Fc.cells 6 Fc.cells_len]; rfl) (fun v _ h => by exact h.1) (fun u hu => aR_ Fc.cells_one hu) (by simp only [maxLen]; ((try simp only [List.length_append, List.length_cons, List.length_nil]); omega)) (by ((try simp only [List.length_append, List.length_cons, List.length_nil]); omega)) rfl fun sv9 Hr9 hr9 => ?_
        refine al_ List.perm_append_comm ?_
        have hq9 : aQ_ 41 6 sv9 (List.length ((List.flatMap (cr_ l f) (List.take i p)) ++ [(au_ (Fc.a f) (Pc.r x1) (Pc.c x1))])) (List.flatMap Fc.cells ((List.flatMap (cr_ l f) (List.take i p)) ++ [(au_ (Fc.a f) (Pc.r x1) (Pc.c x1))])) Hr9 := by rw [List.length_append, List.flatMap_append]; exact hr9
        refine a_ (g_ rfl) rfl (e_ (b_ rfl (c_ (a_ (f_ rfl) rfl (a_ (M_ rfl rfl rfl (aj_ (by omega) (by omega))) rfl (a_ (g_ rfl) rfl (e_ (w_ rfl ?_))))))))
        exact aa_ ⟨(i + 1, sv9, Hr9), hlx1, (by have q := hq9; rw [bi_ hx1, show (cr_ l f) x1 = [(au_ (Fc.a f) (Pc.r x1) (Pc.c x1))] from (by unfold cr_; rw [if_neg (by first | assumption | simpa using hr16 | simp [*]), if_neg (by first | assumption | simpa using hr19 | simp [*]), if_pos (by first | assumption | simpa using hr28 | simp [*])])]; simpa only [List.append_assoc, List.append_nil] using q)⟩ (by dsimp only; omega) ⟨rfl, rfl, rfl, rfl, rfl, rfl, trivial⟩ (o_ (d_ i_) Q_) (fun _ _ h => h.2)
     ·
      simp at hr19
      refine u_ rfl (c_ (a_ (f_ rfl) rfl (a_ (l_ k_ rfl rfl rfl j_) rfl (a_ (t_ 1 p_ rfl rfl rfl) rfl (a_ (l_ m_ rfl rfl rfl j_) rfl (a_ (t_ 0 p_ rfl rfl rfl) rfl (X_ (dH_ (Fc.a f) (Pc.c x1)) rfl J_ (fun _ _ _ => by exact trivial) rfl fun _ => ?_)))))))
      refine aO_ E_ B_ ah_ rfl rfl rfl rfl rfl rfl fun b10 => ?_
      refine bE_ (List.flatMap Fc.cells [(ak_ (Fc.a f) (Pc.c x1))]) i_ rfl ?_
      refine aM_ (news := List.flatMap Fc.cells [(ak_ (Fc.a f) (Pc.c x1))]) cg_ hr_Rfc rfl rfl (fun q => by cases q) (by simp) (d_ Q_) (by rw [bt_ Fc.cells 6 Fc.cells_len]; rfl) (fun v _ h => by exact h.1) (fun u hu => aR_ Fc.cells_one hu) (by simp only [maxLen]; ((try simp only [List.length_append, List.length_cons, List.length_nil]); omega)) (by ((try simp only [List.length_append, List.length_cons, List.length_nil]); omega)) rfl fun sv10 Hr10 hr10 => ?_
      refine al_ List.perm_append_comm ?_
      have hq10 : aQ_ 41 6 sv10 (List.length ((List.flatMap (cr_ l f) (List.take i p)) ++ [(ak_ (Fc.a f) (Pc.c x1))])) (List.flatMap Fc.cells ((List.flatMap (cr_ l f) (List.take i p)) ++ [(ak_ (Fc.a f) (Pc.c x1))])) Hr10 := by rw [List.length_append, List.flatMap_append]; exact hr10
      refine a_ (g_ rfl) rfl (e_ (b_ rfl (c_ (a_ (f_ rfl) rfl (a_ (M_ rfl rfl rfl (aj_ (by omega) (by omega))) rfl (a_ (g_ rfl) rfl (e_ (w_ rfl ?_))))))))
      exact aa_ ⟨(i + 1, sv10, Hr10), hlx1, (by have q := hq10; rw [bi_ hx1, show (cr_ l f) x1 = [(ak_ (Fc.a f) (Pc.c x1))] from (by unfold cr_; rw [if_neg (by first | assumption | simpa using hr16 | simp [*]), if_pos (by first | assumption | simpa using hr19 | simp [*])])]; simpa only [List.append_assoc, List.append_nil] using q)⟩ (by dsimp only; omega) ⟨rfl, rfl, rfl, rfl, rfl, rfl, trivial⟩ (o_ (d_ i_) Q_) (fun _ _ h => h.2)
   ·
    simp at hr16
    refine u_ rfl (c_ (a_ (f_ rfl) rfl (a_ (l_ k_ rfl rfl rfl j_) rfl (a_ (t_ 1 p_ rfl rfl rfl) rfl (a_ (l_ m_ rfl rfl rfl j_) rfl (a_ (t_ 0 p_ rfl rfl rfl) rfl (X_ (dH_ (Fc.a f) (Pc.c x1)) rfl J_ (fun _ _ _ => by exact trivial) rfl fun _ => ?_)))))))
    refine aO_ E_ B_ ah_ rfl rfl rfl rfl rfl rfl fun b11 => ?_
    refine bE_ (List.flatMap Fc.cells [(ak_ (Fc.a f) (Pc.c x1))]) i_ rfl ?_
    refine aM_ (news := List.flatMap Fc.cells [(ak_ (Fc.a f) (Pc.c x1))]) cg_ hr_Rfc rfl rfl (fun q => by cases q) (by simp) (d_ Q_) (by rw [bt_ Fc.cells 6 Fc.cells_len]; rfl) (fun v _ h => by exact h.1) (fun u hu => aR_ Fc.cells_one hu) (by simp only [maxLen]; ((try simp only [List.length_append, List.length_cons, List.length_nil]); omega)) (by ((try simp only [List.length_append, List.length_cons, List.length_nil]); omega)) rfl fun sv11 Hr11 hr11 => ?_
    refine al_ List.perm_append_comm ?_
    have hq11 : aQ_ 41 6 sv11 (List.length ((List.flatMap (cr_ l f) (List.take i p)) ++ [(ak_ (Fc.a f) (Pc.c x1))])) (List.flatMap Fc.cells ((List.flatMap (cr_ l f) (List.take i p)) ++ [(ak_ (Fc.a f) (Pc.c x1))])) Hr11 := by rw [List.length_append, List.flatMap_append]; exact hr11
    refine a_ (g_ rfl) rfl (e_ (b_ rfl (c_ (a_ (f_ rfl) rfl (a_ (M_ rfl rfl rfl (aj_ (by omega) (by omega))) rfl (a_ (g_ rfl) rfl (e_ (w_ rfl ?_))))))))
    exact aa_ ⟨(i + 1, sv11, Hr11), hlx1, (by have q := hq11; rw [bi_ hx1, show (cr_ l f) x1 = [(ak_ (Fc.a f) (Pc.c x1))] from (by unfold cr_; rw [if_pos (by first | assumption | simpa using hr16 | simp [*])])]; simpa only [List.append_assoc, List.append_nil] using q)⟩ (by dsimp only; omega) ⟨rfl, rfl, rfl, rfl, rfl, rfl, trivial⟩ (o_ (d_ i_) Q_) (fun _ _ h => h.2)
theorem pB_ (p : List Pc) (pad : Option Addr) (pcap : Nat) (l : List Fc) (lad : Option Addr) (lcap : Nat) (f : Fc) (hp : p.length ≤ 100) (hl : l.length ≤ 65536) (hs : Srt l) : Tri Tryz.prog 119 #[.slice pad (List.length p) pcap, .slice lad (List.length l) lcap, Fc.val f] [] [az_ pad (List.flatMap Pc.cells p), az_ lad (List.flatMap Fc.cells l)] (fun y : {y : Option Addr × Nat // ((fJ_ p l f)).length ≤ y.2 ∧ y.2 ≤ maxLen ∧ (y.1 = none → y.2 = 0)} => .slice y.1.1 ((fJ_ p l f)).length y.1.2) (fun _ => []) (fun y => [az_ y.1.1 (((fJ_ p l f)).flatMap Fc.cells)]) := by
 refine T_ Tryz.func119 rfl rfl Tryz.ntmps119 rfl fun v0 => ?_
 refine h_ (c_ (bh_ rfl rfl fun b1 => ?_))
 refine a_ (g_ rfl) rfl (e_ (b_ rfl (h_ (c_ (dk_ E_ B_ rfl fun b2 => ?_)))))
 refine al_ i_ (a_ (g_ rfl) rfl (e_ (b_ rfl (h_ (al_ (cj_ aX_) (h_ (c_ (a_ (f_ rfl) rfl (a_ (l_ k_ rfl rfl rfl j_) rfl ?_)))))))))
 refine a_ (t_ 0 p_ rfl rfl rfl) rfl (X_ (dH_ (Fc.b f) [33]) rfl J_ (fun _ _ _ => by exact trivial) rfl fun _ => ?_)
 refine at_ (ku_ l lad lcap (ak_ (Fc.b f) [33]) (by omega) hs) rfl J_ (fun v _ h => by exact ⟨h.2.1, trivial⟩) rfl fun r1 hr1 => ?_
 refine e_ (b_ rfl ?_)
 cases r1
 ·
  replace hr1 := dF hr1
  refine v_ rfl (F_ (b_ rfl (h_ (h_ (c_ (a_ (g_ rfl) rfl (e_ (b_ rfl (N_ ?_)))))))))
  have hw1 : aQ_ 41 6 (.slice (some ⟨b2, 0, none⟩) 0 0) (List.length (([] : List Fc) ++ List.flatMap (bD_ l f) (List.take 0 p))) (List.flatMap Fc.cells (([] : List Fc) ++ List.flatMap (bD_ l f) (List.take 0 p))) [(b2, .cells #[] 41 (0, 0))] := by have q := (dX_ b2 41 6); simpa only [List.take_zero, List.flatMap_nil, List.append_nil, List.length_nil] using q
  refine aB_ (ι := {y : Nat × Value × Hp // y.1 ≤ List.length p ∧ aQ_ 41 6 y.2.1 (List.length (([] : List Fc) ++ List.flatMap (bD_ l f) (List.take y.1 p))) (List.flatMap Fc.cells (([] : List Fc) ++ List.flatMap (bD_ l f) (List.take y.1 p))) y.2.2}) (fun y => [(0, .slice pad (List.length p) pcap), (1, .slice lad (List.length l) lcap), (5, zp_ b1 0), (6, .slice none 0 0), (7, y.1.2.1), (8, .int .i64 (y.1.1 : Int))]) (fun y => ((b1, .cells (Fc.cells f).toArray 41 (0, 0)) :: y.1.2.2)) (fun y => [az_ pad (List.flatMap Pc.cells p), az_ lad (List.flatMap Fc.cells l)]) (fun y => List.length p - y.1.1) ⟨((0 : Nat), (.slice (some ⟨b2, 0, none⟩) 0 0), [(b2, .cells #[] 41 (0, 0))]), by simp, hw1⟩ ⟨rfl, rfl, rfl, rfl, rfl, rfl, trivial⟩ (o_ i_ aC_) (fun _ _ h => h) ?_
  rintro ⟨⟨i, sv_Rfc, H_Rfc⟩, hi_i, hr_Rfc⟩
  dsimp only at hi_i hr_Rfc ⊢
  have hb1 := cW_ (g := bD_ l f) (n := 131072) (List.take i p) (fun x _ => kq_ hl f x)
  rw [List.length_take] at hb1
  refine h_ (h_ (c_ (a_ (f_ rfl) rfl (a_ (f_ rfl) rfl (a_ (ar_ P_ rfl) rfl (y_ (ax_ rfl rfl) rfl fun r2 hr2 => ?_))))))
  refine e_ (b_ rfl ?_)
  cases r2
  ·
   replace hr2 := of_decide_eq_false hr2
   rw [show List.take i p = p from List.take_of_length_le (by omega)] at hr_Rfc
   refine v_ rfl (as_ rfl (b_ rfl (h_ (c_ (a_ (f_ rfl) rfl (a_ (g_ rfl) rfl (e_ (b_ rfl (H_ ?_)))))))))
   have hw2 : aQ_ 41 6 sv_Rfc (List.length (fJ_ p l f)) (List.flatMap Fc.cells (fJ_ p l f)) H_Rfc := by have q := hr_Rfc; unfold fJ_; first | (rw [if_pos (by assumption)]; simpa only [List.nil_append] using q) | (rw [if_neg (by assumption)]; simpa only [List.nil_append] using q)
   refine bw_ hw2 Q_ fun ad2 cp2 had2 hcad2 hmad2 hzad2 => ?_
   exact ap_ Tryz.results119 ⟨(ad2, cp2), hcad2, hmad2, hzad2⟩ (ca_ rfl had2) J_ (fun v _ h => ⟨h.1, trivial⟩)
  ·
   replace hr2 := of_decide_eq_true hr2
   have hlx1 : i < List.length p := by omega
   obtain ⟨x1, hx1⟩ : ∃ e0, p[i]? = some e0 := ⟨_, List.getElem?_eq_getElem hlx1⟩
   have hmx1 : x1 ∈ p := List.mem_of_getElem? hx1
   refine u_ rfl (F_ (b_ rfl (h_ (N_ (h_ (c_ (a_ (f_ rfl) rfl (a_ (f_ rfl) rfl (a_ (ad_ P_ R_ rfl rfl (fun v _ h => av_ (n := 10) Pc.cells_len (by decide) (by exact h.1) hx1) (by omega) (by first | omega | (simp; done))) rfl ?_)))))))))
   refine a_ (aJ_ (ad := pad) (us := Pc.cells x1) aK_ R_ rfl (fun v _ h => by exact h.1) (Pc.cells_len _) (ag_ Pc.cells_len hx1)) rfl (ay_ bj_ rfl fun b3 => ?_)
   refine af_ 0 R_ rfl rfl rfl rfl rfl rfl (e_ (b_ rfl (N_ (h_ (c_ (a_ (l_ m_ rfl rfl rfl I_) rfl (a_ (t_ 0 L_ rfl rfl rfl) rfl (y_ (aD_ rfl rfl) rfl fun r3 hr3 => ?_))))))))
   refine a_ (f_ rfl) rfl ?_
   refine aN_ 6 (((Pc.kind x1) == 5) && ((Pc.r x1) == (Fc.r f))) (fun r => [(0, .slice pad (List.length p) pcap), (1, .slice lad (List.length l) lcap), (5, zp_ b1 0), (6, .slice none 0 0), (7, sv_Rfc), (8, .int .i64 (i : Int)), (9, zp_ b3 0), (44, .bool r)]) ?_ fun r4 hr4 => ?_
   ·
    cases r3
    ·
     have qr4 := hr3
     replace hr3 := ne_of_beq_false hr3
     refine s_ rfl rfl rfl rfl (s_ rfl rfl rfl rfl (s_ rfl rfl rfl rfl (s_ rfl rfl rfl rfl (s_ rfl rfl rfl rfl (a_ (A_ rfl rfl) rfl (e_ (w_ rfl ?_)))))))
     exact met ⟨rfl, rfl, rfl, rfl, rfl, rfl, rfl, (z_ rfl (jaf qr4)), trivial⟩
    ·
     have qr4 := hr3
     replace hr3 := eq_of_beq hr3
     refine r_ rfl rfl (a_ (l_ m_ rfl rfl rfl j_) rfl (r_ rfl rfl (a_ (t_ 0 p_ rfl rfl rfl) rfl (r_ rfl rfl (a_ (l_ k_ rfl rfl rfl j_) rfl (r_ rfl rfl (a_ (t_ 1 p_ rfl rfl rfl) rfl (r_ rfl rfl (y_ (ao_ rfl rfl) rfl fun r5 hr5 => ?_)))))))))
     refine a_ (G_ rfl rfl) rfl (e_ (w_ rfl ?_))
     exact met ⟨rfl, rfl, rfl, rfl, rfl, rfl, rfl, (z_ rfl (jat qr4 hr5)), trivial⟩
   ·
    refine a_ (g_ rfl) rfl (e_ (b_ rfl ?_))
    cases r4
    ·
     simp at hr4
     refine v_ rfl (h_ (c_ (a_ (l_ m_ rfl rfl rfl I_) rfl (a_ (t_ 0 L_ rfl rfl rfl) rfl (y_ (aD_ rfl rfl) rfl fun r6 hr6 => ?_)))))
     refine a_ (f_ rfl) rfl ?_
     refine aN_ 6 (((Pc.kind x1) == 4) && ((Pc.r x1) == (Fc.r f))) (fun r => [(0, .slice pad (List.length p) pcap), (1, .slice lad (List.length l) lcap), (5, zp_ b1 0), (6, .slice none 0 0), (7, sv_Rfc), (8, .int .i64 (i : Int)), (9, zp_ b3 0), (65, .bool r)]) ?_ fun r7 hr7 => ?_
     ·
      cases r6
      ·
       have qr7 := hr6
       replace hr6 := ne_of_beq_false hr6
       refine s_ rfl rfl rfl rfl (s_ rfl rfl rfl rfl (s_ rfl rfl rfl rfl (s_ rfl rfl rfl rfl (s_ rfl rfl rfl rfl (a_ (A_ rfl rfl) rfl (e_ (w_ rfl ?_)))))))
       exact met ⟨rfl, rfl, rfl, rfl, rfl, rfl, rfl, (z_ rfl (jaf qr7)), trivial⟩
      ·
       have qr7 := hr6
       replace hr6 := eq_of_beq hr6
       refine r_ rfl rfl (a_ (l_ m_ rfl rfl rfl j_) rfl (r_ rfl rfl (a_ (t_ 0 p_ rfl rfl rfl) rfl (r_ rfl rfl (a_ (l_ k_ rfl rfl rfl j_) rfl (r_ rfl rfl (a_ (t_ 1 p_ rfl rfl rfl) rfl (r_ rfl rfl (y_ (ao_ rfl rfl) rfl fun r8 hr8 => ?_)))))))))
       refine a_ (G_ rfl rfl) rfl (e_ (w_ rfl ?_))
       exact met ⟨rfl, rfl, rfl, rfl, rfl, rfl, rfl, (z_ rfl (jat qr7 hr8)), trivial⟩
     ·
      refine a_ (f_ rfl) rfl ?_
      refine aN_ 8 (((((Pc.kind x1) == 4) && ((Pc.r x1) == (Fc.r f)))) && (decide ((ak_ (Fc.b f) (Pc.a x1)) ∈ l))) (fun r => [(0, .slice pad (List.length p) pcap), (1, .slice lad (List.length l) lcap), (5, zp_ b1 0), (6, .slice none 0 0), (7, sv_Rfc), (8, .int .i64 (i : Int)), (9, zp_ b3 0), (74, .bool r)]) ?_ fun r9 hr9 => ?_
      ·
       cases r7
       ·
        have qr9 := hr7
        simp at hr7
        refine s_ rfl rfl rfl rfl (s_ rfl rfl rfl rfl (s_ rfl rfl rfl rfl (s_ rfl rfl rfl rfl (s_ rfl rfl rfl rfl (s_ rfl rfl rfl rfl (s_ rfl rfl rfl rfl (a_ (A_ rfl rfl) rfl (e_ (w_ rfl ?_)))))))))
        exact met ⟨rfl, rfl, rfl, rfl, rfl, rfl, rfl, (z_ rfl (jaf qr9)), trivial⟩
       ·
        have qr9 := hr7
        simp at hr7
        refine r_ rfl rfl (a_ (f_ rfl) rfl (r_ rfl rfl (a_ (l_ k_ rfl rfl rfl j_) rfl (r_ rfl rfl (a_ (t_ 1 p_ rfl rfl rfl) rfl (r_ rfl rfl (a_ (l_ m_ rfl rfl rfl j_) rfl (r_ rfl rfl (a_ (t_ 0 p_ rfl rfl rfl) rfl ?_)))))))))
        refine r_ rfl rfl (X_ (dH_ (Fc.b f) (Pc.a x1)) rfl J_ (fun _ _ _ => by exact trivial) rfl fun _ => ?_)
        refine r_ rfl rfl (at_ (ku_ l lad lcap (ak_ (Fc.b f) (Pc.a x1)) (by omega) hs) rfl J_ (fun v _ h => by exact ⟨h.2.1, trivial⟩) rfl fun r10 hr10 => ?_)
        refine a_ (G_ rfl rfl) rfl (e_ (w_ rfl ?_))
        exact met ⟨rfl, rfl, rfl, rfl, rfl, rfl, rfl, (z_ rfl (jat qr9 hr10)), trivial⟩
      ·
       refine a_ (g_ rfl) rfl (e_ (b_ rfl ?_))
       cases r9
       ·
        simp at hr9
        refine v_ rfl (h_ (c_ (a_ (l_ m_ rfl rfl rfl I_) rfl (a_ (t_ 0 L_ rfl rfl rfl) rfl (y_ (aD_ rfl rfl) rfl fun r11 hr11 => ?_)))))
        refine a_ (g_ rfl) rfl (e_ (b_ rfl ?_))
        cases r11
        ·
         replace hr11 := ne_of_beq_false hr11
         refine v_ rfl (F_ (b_ rfl (c_ (a_ (f_ rfl) rfl (a_ (M_ rfl rfl rfl (aj_ (by omega) (by omega))) rfl (a_ (g_ rfl) rfl (e_ (w_ rfl ?_))))))))
         exact aa_ ⟨(i + 1, sv_Rfc, H_Rfc), hlx1, (by have q := hr_Rfc; rw [bi_ hx1, show (bD_ l f) x1 = [] from (by unfold bD_; rw [if_neg (by first | assumption | simpa using hr4 | simp [*]), if_neg (by first | assumption | simpa using hr9 | simp [*]), if_neg (by first | assumption | simpa using hr11 | simp [*])])]; simpa only [List.append_assoc, List.append_nil] using q)⟩ (by dsimp only; omega) ⟨rfl, rfl, rfl, rfl, rfl, rfl, trivial⟩ (o_ (d_ i_) Q_) (fun _ _ h => h)
        ·
         replace hr11 := eq_of_beq hr11
         refine u_ rfl (h_ (c_ (a_ (g_ rfl) rfl (e_ (b_ rfl (N_ ?_))))))
         have hw3 : aQ_ 41 6 sv_Rfc (List.length ((([] : List Fc) ++ List.flatMap (bD_ l f) (List.take i p)) ++ List.flatMap (bT_ x1 f) (List.take 0 l))) (List.flatMap Fc.cells ((([] : List Fc) ++ List.flatMap (bD_ l f) (List.take i p)) ++ List.flatMap (bT_ x1 f) (List.take 0 l))) H_Rfc := by have q := hr_Rfc; simpa only [List.take_zero, List.flatMap_nil, List.append_nil, List.length_nil] using q
         refine aB_ (ι := {y : Nat × Value × Hp // y.1 ≤ List.length l ∧ aQ_ 41 6 y.2.1 (List.length ((([] : List Fc) ++ List.flatMap (bD_ l f) (List.take i p)) ++ List.flatMap (bT_ x1 f) (List.take y.1 l))) (List.flatMap Fc.cells ((([] : List Fc) ++ List.flatMap (bD_ l f) (List.take i p)) ++ List.flatMap (bT_ x1 f) (List.take y.1 l))) y.2.2}) (fun y => [(0, .slice pad (List.length p) pcap), (1, .slice lad (List.length l) lcap), (5, zp_ b1 0), (6, .slice none 0 0), (7, y.1.2.1), (8, .int .i64 (i : Int)), (9, zp_ b3 0), (10, .int .i64 (y.1.1 : Int))]) (fun y => ((b3, .cells (Pc.cells x1).toArray 47 (0, 0)) :: ((b1, .cells (Fc.cells f).toArray 41 (0, 0)) :: y.1.2.2))) (fun y => [az_ pad (List.flatMap Pc.cells p), az_ lad (List.flatMap Fc.cells l)]) (fun y => List.length l - y.1.1) ⟨((0 : Nat), sv_Rfc, H_Rfc), by simp, hw3⟩ ⟨rfl, rfl, rfl, rfl, rfl, rfl, rfl, rfl, trivial⟩ (o_ i_ (o_ i_ aC_)) (fun _ _ h => h) ?_
         rintro ⟨⟨j, sv_Rfc, H_Rfc⟩, hi_j, hr_Rfc⟩
         dsimp only at hi_j hr_Rfc ⊢
         have hb2 := cW_ (g := bT_ x1 f) (n := 2) (List.take j l) (fun x _ => im_ x1 f x)
         rw [List.length_take] at hb2
         refine h_ (h_ (c_ (a_ (f_ rfl) rfl (a_ (f_ rfl) rfl (a_ (ar_ E_ rfl) rfl (y_ (ax_ rfl rfl) rfl fun r12 hr12 => ?_))))))
         refine e_ (b_ rfl ?_)
         cases r12
         ·
          replace hr12 := of_decide_eq_false hr12
          rw [show List.take j l = l from List.take_of_length_le (by omega)] at hr_Rfc
          refine v_ rfl (as_ rfl (b_ rfl (c_ (a_ (f_ rfl) rfl (a_ (M_ rfl rfl rfl (aj_ (by omega) (by omega))) rfl (a_ (g_ rfl) rfl (e_ (w_ rfl ?_))))))))
          exact aa_ ⟨(i + 1, sv_Rfc, H_Rfc), hlx1, (by have q := hr_Rfc; rw [bi_ hx1, show (bD_ l f) x1 = List.flatMap (bT_ x1 f) l from (by unfold bD_; rw [if_neg (by first | assumption | simpa using hr4 | simp [*]), if_neg (by first | assumption | simpa using hr9 | simp [*]), if_pos (by first | assumption | simpa using hr11 | simp [*])])]; simpa only [List.append_assoc, List.append_nil] using q)⟩ (by dsimp only; omega) ⟨rfl, rfl, rfl, rfl, rfl, rfl, trivial⟩ (o_ (d_ i_) Q_) (fun _ _ h => h)
         ·
          replace hr12 := of_decide_eq_true hr12
          have hlx2 : j < List.length l := by omega
          obtain ⟨x2, hx2⟩ : ∃ e0, l[j]? = some e0 := ⟨_, List.getElem?_eq_getElem hlx2⟩
          have hmx2 : x2 ∈ l := List.mem_of_getElem? hx2
          refine u_ rfl (F_ (b_ rfl (h_ (N_ (h_ (c_ (a_ (f_ rfl) rfl (a_ (f_ rfl) rfl (a_ (ad_ E_ B_ rfl rfl (fun v _ h => av_ (n := 6) Fc.cells_len (by decide) (by exact h.2.1) hx2) (by omega) (by first | omega | (simp; done))) rfl ?_)))))))))
          refine a_ (aJ_ (ad := lad) (us := Fc.cells x2) V_ B_ rfl (fun v _ h => by exact h.2.1) (Fc.cells_len _) (ag_ Fc.cells_len hx2)) rfl (ay_ ah_ rfl fun b4 => ?_)
          refine af_ 0 B_ rfl rfl rfl rfl rfl rfl (e_ (b_ rfl (h_ (h_ (c_ (a_ (l_ k_ rfl rfl rfl I_) rfl (a_ (t_ 0 L_ rfl rfl rfl) rfl (y_ (cE_ rfl rfl) rfl fun r13 hr13 => ?_))))))))
          refine e_ (b_ rfl ?_)
          cases r13
          ·
           replace hr13 := bo_ hr13
           refine v_ rfl (F_ (b_ rfl (h_ (h_ (c_ (a_ (l_ m_ rfl rfl rfl j_) rfl (a_ (t_ 1 p_ rfl rfl rfl) rfl (a_ (l_ k_ rfl rfl rfl j_) rfl (a_ (t_ 2 p_ rfl rfl rfl) rfl ?_)))))))))
           refine y_ (ao_ rfl rfl) rfl fun r14 hr14 => ?_
           refine a_ (f_ rfl) rfl ?_
           refine aN_ 6 (((Pc.r x1) == (Fc.r f)) && ((Fc.a x2) == (Fc.b f))) (fun r => [(0, .slice pad (List.length p) pcap), (1, .slice lad (List.length l) lcap), (5, zp_ b1 0), (6, .slice none 0 0), (7, sv_Rfc), (8, .int .i64 (i : Int)), (9, zp_ b3 0), (10, .int .i64 (j : Int)), (11, zp_ b4 0), (111, .bool r)]) ?_ fun r15 hr15 => ?_
           ·
            cases r14
            ·
             have qr15 := hr14
             replace hr14 := ne_of_beq_false hr14
             refine s_ rfl rfl rfl rfl (s_ rfl rfl rfl rfl (s_ rfl rfl rfl rfl (s_ rfl rfl rfl rfl (s_ rfl rfl rfl rfl (a_ (A_ rfl rfl) rfl (e_ (w_ rfl ?_)))))))
             exact met ⟨rfl, rfl, rfl, rfl, rfl, rfl, rfl, rfl, rfl, (z_ rfl (jaf qr15)), trivial⟩
            ·
             have qr15 := hr14
             replace hr14 := eq_of_beq hr14
             refine r_ rfl rfl (a_ (l_ k_ rfl rfl rfl j_) rfl (r_ rfl rfl (a_ (t_ 0 p_ rfl rfl rfl) rfl (r_ rfl rfl (a_ (l_ k_ rfl rfl rfl j_) rfl (r_ rfl rfl (a_ (t_ 2 p_ rfl rfl rfl) rfl (r_ rfl rfl (y_ (ao_ rfl rfl) rfl fun r16 hr16 => ?_)))))))))
             refine a_ (G_ rfl rfl) rfl (e_ (w_ rfl ?_))
             exact met ⟨rfl, rfl, rfl, rfl, rfl, rfl, rfl, rfl, rfl, (z_ rfl (jat qr15 hr16)), trivial⟩
           ·
            refine a_ (f_ rfl) rfl ?_
            refine aN_ 6 (((((Pc.r x1) == (Fc.r f)) && ((Fc.a x2) == (Fc.b f)))) && ((Fc.r x2) == (Pc.s x1))) (fun r => [(0, .slice pad (List.length p) pcap), (1, .slice lad (List.length l) lcap), (5, zp_ b1 0), (6, .slice none 0 0), (7, sv_Rfc), (8, .int .i64 (i : Int)), (9, zp_ b3 0), (10, .int .i64 (j : Int)), (11, zp_ b4 0), (118, .bool r)]) ?_ fun r17 hr17 => ?_
            ·
             cases r15
             ·
              have qr17 := hr15
              simp at hr15
              refine s_ rfl rfl rfl rfl (s_ rfl rfl rfl rfl (s_ rfl rfl rfl rfl (s_ rfl rfl rfl rfl (s_ rfl rfl rfl rfl (a_ (A_ rfl rfl) rfl (e_ (w_ rfl ?_)))))))
              exact met ⟨rfl, rfl, rfl, rfl, rfl, rfl, rfl, rfl, rfl, (z_ rfl (jaf qr17)), trivial⟩
             ·
              have qr17 := hr15
              simp at hr15
              refine r_ rfl rfl (a_ (l_ k_ rfl rfl rfl j_) rfl (r_ rfl rfl (a_ (t_ 0 p_ rfl rfl rfl) rfl (r_ rfl rfl (a_ (l_ m_ rfl rfl rfl j_) rfl (r_ rfl rfl (a_ (t_ 1 p_ rfl rfl rfl) rfl (r_ rfl rfl (y_ (ao_ rfl rfl) rfl fun r18 hr18 => ?_)))))))))
              refine a_ (G_ rfl rfl) rfl (e_ (w_ rfl ?_))
              exact met ⟨rfl, rfl, rfl, rfl, rfl, rfl, rfl, rfl, rfl, (z_ rfl (jat qr17 hr18)), trivial⟩
            ·
             refine e_ (b_ rfl ?_)
             cases r17
             ·
              simp at hr17
              refine v_ rfl (F_ (b_ rfl (h_ (c_ (a_ (l_ m_ rfl rfl rfl j_) rfl (a_ (t_ 1 p_ rfl rfl rfl) rfl (a_ (l_ k_ rfl rfl rfl j_) rfl (a_ (t_ 2 p_ rfl rfl rfl) rfl (y_ (ao_ rfl rfl) rfl fun r19 hr19 => ?_)))))))))
              refine a_ (f_ rfl) rfl ?_
              refine aN_ 6 (((Pc.s x1) == (Fc.r f)) && ((Fc.b x2) == (Fc.a f))) (fun r => [(0, .slice pad (List.length p) pcap), (1, .slice lad (List.length l) lcap), (5, zp_ b1 0), (6, .slice none 0 0), (7, sv_Rfc), (8, .int .i64 (i : Int)), (9, zp_ b3 0), (10, .int .i64 (j : Int)), (11, zp_ b4 0), (140, .bool r)]) ?_ fun r20 hr20 => ?_
              ·
               cases r19
               ·
                have qr20 := hr19
                replace hr19 := ne_of_beq_false hr19
                refine s_ rfl rfl rfl rfl (s_ rfl rfl rfl rfl (s_ rfl rfl rfl rfl (s_ rfl rfl rfl rfl (s_ rfl rfl rfl rfl (a_ (A_ rfl rfl) rfl (e_ (w_ rfl ?_)))))))
                exact met ⟨rfl, rfl, rfl, rfl, rfl, rfl, rfl, rfl, rfl, (z_ rfl (jaf qr20)), trivial⟩
               ·
                have qr20 := hr19
                replace hr19 := eq_of_beq hr19
                refine r_ rfl rfl (a_ (l_ k_ rfl rfl rfl j_) rfl (r_ rfl rfl (a_ (t_ 0 p_ rfl rfl rfl) rfl (r_ rfl rfl (a_ (l_ k_ rfl rfl rfl j_) rfl (r_ rfl rfl (a_ (t_ 2 p_ rfl rfl rfl) rfl (r_ rfl rfl (y_ (ao_ rfl rfl) rfl fun r21 hr21 => ?_)))))))))
                refine a_ (G_ rfl rfl) rfl (e_ (w_ rfl ?_))
                exact met ⟨rfl, rfl, rfl, rfl, rfl, rfl, rfl, rfl, rfl, (z_ rfl (jat qr20 hr21)), trivial⟩
              ·
               refine a_ (f_ rfl) rfl ?_
               refine aN_ 6 (((((Pc.s x1) == (Fc.r f)) && ((Fc.b x2) == (Fc.a f)))) && ((Fc.r x2) == (Pc.r x1))) (fun r => [(0, .slice pad (List.length p) pcap), (1, .slice lad (List.length l) lcap), (5, zp_ b1 0), (6, .slice none 0 0), (7, sv_Rfc), (8, .int .i64 (i : Int)), (9, zp_ b3 0), (10, .int .i64 (j : Int)), (11, zp_ b4 0), (147, .bool r)]) ?_ fun r22 hr22 => ?_
               ·
                cases r20
                ·
                 have qr22 := hr20
                 simp at hr20
                 refine s_ rfl rfl rfl rfl (s_ rfl rfl rfl rfl (s_ rfl rfl rfl rfl (s_ rfl rfl rfl rfl (s_ rfl rfl rfl rfl (a_ (A_ rfl rfl) rfl (e_ (w_ rfl ?_)))))))
                 exact met ⟨rfl, rfl, rfl, rfl, rfl, rfl, rfl, rfl, rfl, (z_ rfl (jaf qr22)), trivial⟩
                ·
                 have qr22 := hr20
                 simp at hr20
                 refine r_ rfl rfl (a_ (l_ k_ rfl rfl rfl j_) rfl (r_ rfl rfl (a_ (t_ 0 p_ rfl rfl rfl) rfl (r_ rfl rfl (a_ (l_ m_ rfl rfl rfl j_) rfl (r_ rfl rfl (a_ (t_ 1 p_ rfl rfl rfl) rfl (r_ rfl rfl (y_ (ao_ rfl rfl) rfl fun r23 hr23 => ?_)))))))))
                 refine a_ (G_ rfl rfl) rfl (e_ (w_ rfl ?_))
                 exact met ⟨rfl, rfl, rfl, rfl, rfl, rfl, rfl, rfl, rfl, (z_ rfl (jat qr22 hr23)), trivial⟩
               ·
                refine e_ (b_ rfl ?_)
                cases r22
                ·
                 simp at hr22
                 refine v_ rfl (F_ (b_ rfl (c_ (a_ (f_ rfl) rfl (a_ (M_ rfl rfl rfl (aj_ (by omega) (by omega))) rfl (a_ (g_ rfl) rfl (e_ (w_ rfl ?_))))))))
                 exact aa_ ⟨(j + 1, sv_Rfc, H_Rfc), hlx2, (by have q := hr_Rfc; rw [bi_ hx2, show (bT_ x1 f) x2 = [] from (by unfold bT_; rw [if_neg (by simp [*]), if_neg (by first | assumption | simpa using hr17 | simp [*]), if_neg (by first | assumption | simpa using hr22 | simp [*])]; try rfl)]; simpa only [List.append_assoc, List.append_nil] using q)⟩ (by dsimp only; omega) ⟨rfl, rfl, rfl, rfl, rfl, rfl, rfl, rfl, trivial⟩ (o_ (d_ i_) (o_ (d_ i_) Q_)) (fun _ _ h => h)
                ·
                 simp at hr22
                 refine u_ rfl (c_ (a_ (f_ rfl) rfl (a_ (l_ k_ rfl rfl rfl j_) rfl (a_ (t_ 0 p_ rfl rfl rfl) rfl (a_ (l_ m_ rfl rfl rfl j_) rfl (a_ (t_ 1 p_ rfl rfl rfl) rfl (a_ (l_ k_ rfl rfl rfl j_) rfl (a_ (t_ 2 p_ rfl rfl rfl) rfl (X_ (er_ (Fc.a x2) (Pc.t x1) (Fc.b f)) rfl J_ (fun _ _ _ => by exact trivial) rfl fun _ => ?_)))))))))
                 refine aO_ E_ B_ ah_ rfl rfl rfl rfl rfl rfl fun b5 => ?_
                 refine bE_ (List.flatMap Fc.cells [(au_ (Fc.a x2) (Pc.t x1) (Fc.b f))]) i_ rfl ?_
                 refine aM_ (news := List.flatMap Fc.cells [(au_ (Fc.a x2) (Pc.t x1) (Fc.b f))]) cg_ hr_Rfc rfl rfl (fun q => by cases q) (by simp) (d_ (d_ Q_)) (by rw [bt_ Fc.cells 6 Fc.cells_len]; rfl) (fun v _ h => by exact h.1) (fun u hu => aR_ Fc.cells_one hu) (by simp only [maxLen]; ((try simp only [List.length_append, List.length_cons, List.length_nil]); omega)) (by ((try simp only [List.length_append, List.length_cons, List.length_nil]); omega)) rfl fun sv4 Hr4 hr4 => ?_
                 refine al_ List.perm_append_comm ?_
                 have hq4 : aQ_ 41 6 sv4 (List.length (((([] : List Fc) ++ List.flatMap (bD_ l f) (List.take i p)) ++ List.flatMap (bT_ x1 f) (List.take j l)) ++ [(au_ (Fc.a x2) (Pc.t x1) (Fc.b f))])) (List.flatMap Fc.cells (((([] : List Fc) ++ List.flatMap (bD_ l f) (List.take i p)) ++ List.flatMap (bT_ x1 f) (List.take j l)) ++ [(au_ (Fc.a x2) (Pc.t x1) (Fc.b f))])) Hr4 := by rw [List.length_append, List.flatMap_append]; exact hr4
                 refine a_ (g_ rfl) rfl (e_ (b_ rfl (c_ (a_ (f_ rfl) rfl (a_ (M_ rfl rfl rfl (aj_ (by omega) (by omega))) rfl (a_ (g_ rfl) rfl (e_ (w_ rfl ?_))))))))
                 exact aa_ ⟨(j + 1, sv4, Hr4), hlx2, (by have q := hq4; rw [bi_ hx2, show (bT_ x1 f) x2 = [(au_ (Fc.a x2) (Pc.t x1) (Fc.b f))] from (by unfold bT_; rw [if_neg (by simp [*]), if_neg (by first | assumption | simpa using hr17 | simp [*]), if_pos (by first | assumption | simpa using hr22 | simp [*])]; try rfl)]; simpa only [List.append_assoc, List.append_nil] using q)⟩ (by dsimp only; omega) ⟨rfl, rfl, rfl, rfl, rfl, rfl, rfl, rfl, trivial⟩ (o_ (d_ i_) (o_ (d_ i_) Q_)) (fun _ _ h => h.2)
             ·
              simp at hr17
              refine u_ rfl (c_ (a_ (f_ rfl) rfl (a_ (l_ k_ rfl rfl rfl j_) rfl (a_ (t_ 2 p_ rfl rfl rfl) rfl (a_ (l_ m_ rfl rfl rfl j_) rfl (a_ (t_ 1 p_ rfl rfl rfl) rfl (a_ (l_ k_ rfl rfl rfl j_) rfl (a_ (t_ 0 p_ rfl rfl rfl) rfl (X_ (er_ (Fc.a f) (Pc.t x1) (Fc.b x2)) rfl J_ (fun _ _ _ => by exact trivial) rfl fun _ => ?_)))))))))
              refine aO_ E_ B_ ah_ rfl rfl rfl rfl rfl rfl fun b6 => ?_
              refine bE_ (List.flatMap Fc.cells [(au_ (Fc.a f) (Pc.t x1) (Fc.b x2))]) i_ rfl ?_
              refine aM_ (news := List.flatMap Fc.cells [(au_ (Fc.a f) (Pc.t x1) (Fc.b x2))]) cg_ hr_Rfc rfl rfl (fun q => by cases q) (by simp) (d_ (d_ Q_)) (by rw [bt_ Fc.cells 6 Fc.cells_len]; rfl) (fun v _ h => by exact h.1) (fun u hu => aR_ Fc.cells_one hu) (by simp only [maxLen]; ((try simp only [List.length_append, List.length_cons, List.length_nil]); omega)) (by ((try simp only [List.length_append, List.length_cons, List.length_nil]); omega)) rfl fun sv5 Hr5 hr5 => ?_
              refine al_ List.perm_append_comm ?_
              have hq5 : aQ_ 41 6 sv5 (List.length (((([] : List Fc) ++ List.flatMap (bD_ l f) (List.take i p)) ++ List.flatMap (bT_ x1 f) (List.take j l)) ++ [(au_ (Fc.a f) (Pc.t x1) (Fc.b x2))])) (List.flatMap Fc.cells (((([] : List Fc) ++ List.flatMap (bD_ l f) (List.take i p)) ++ List.flatMap (bT_ x1 f) (List.take j l)) ++ [(au_ (Fc.a f) (Pc.t x1) (Fc.b x2))])) Hr5 := by rw [List.length_append, List.flatMap_append]; exact hr5
              refine a_ (g_ rfl) rfl (e_ (b_ rfl (h_ (c_ (a_ (l_ m_ rfl rfl rfl j_) rfl (a_ (t_ 1 p_ rfl rfl rfl) rfl (a_ (l_ k_ rfl rfl rfl j_) rfl (a_ (t_ 2 p_ rfl rfl rfl) rfl (y_ (ao_ rfl rfl) rfl fun r24 hr24 => ?_)))))))))
              refine a_ (f_ rfl) rfl ?_
              refine aN_ 6 (((Pc.s x1) == (Fc.r f)) && ((Fc.b x2) == (Fc.a f))) (fun r => [(0, .slice pad (List.length p) pcap), (1, .slice lad (List.length l) lcap), (5, zp_ b1 0), (6, .slice none 0 0), (7, sv5), (8, .int .i64 (i : Int)), (9, zp_ b3 0), (10, .int .i64 (j : Int)), (11, zp_ b4 0), (140, .bool r)]) ?_ fun r25 hr25 => ?_
              ·
               cases r24
               ·
                have qr25 := hr24
                replace hr24 := ne_of_beq_false hr24
                refine s_ rfl rfl rfl rfl (s_ rfl rfl rfl rfl (s_ rfl rfl rfl rfl (s_ rfl rfl rfl rfl (s_ rfl rfl rfl rfl (a_ (A_ rfl rfl) rfl (e_ (w_ rfl ?_)))))))
                exact met ⟨rfl, rfl, rfl, rfl, rfl, rfl, rfl, rfl, rfl, (z_ rfl (jaf qr25)), trivial⟩
               ·
                have qr25 := hr24
                replace hr24 := eq_of_beq hr24
                refine r_ rfl rfl (a_ (l_ k_ rfl rfl rfl j_) rfl (r_ rfl rfl (a_ (t_ 0 p_ rfl rfl rfl) rfl (r_ rfl rfl (a_ (l_ k_ rfl rfl rfl j_) rfl (r_ rfl rfl (a_ (t_ 2 p_ rfl rfl rfl) rfl (r_ rfl rfl (y_ (ao_ rfl rfl) rfl fun r26 hr26 => ?_)))))))))
                refine a_ (G_ rfl rfl) rfl (e_ (w_ rfl ?_))
                exact met ⟨rfl, rfl, rfl, rfl, rfl, rfl, rfl, rfl, rfl, (z_ rfl (jat qr25 hr26)), trivial⟩
              ·
               refine a_ (f_ rfl) rfl ?_
               refine aN_ 6 (((((Pc.s x1) == (Fc.r f)) && ((Fc.b x2) == (Fc.a f)))) && ((Fc.r x2) == (Pc.r x1))) (fun r => [(0, .slice pad (List.length p) pcap), (1, .slice lad (List.length l) lcap), (5, zp_ b1 0), (6, .slice none 0 0), (7, sv5), (8, .int .i64 (i : Int)), (9, zp_ b3 0), (10, .int .i64 (j : Int)), (11, zp_ b4 0), (147, .bool r)]) ?_ fun r27 hr27 => ?_
               ·
                cases r25
                ·
                 have qr27 := hr25
                 simp at hr25
                 refine s_ rfl rfl rfl rfl (s_ rfl rfl rfl rfl (s_ rfl rfl rfl rfl (s_ rfl rfl rfl rfl (s_ rfl rfl rfl rfl (a_ (A_ rfl rfl) rfl (e_ (w_ rfl ?_)))))))
                 exact met ⟨rfl, rfl, rfl, rfl, rfl, rfl, rfl, rfl, rfl, (z_ rfl (jaf qr27)), trivial⟩
                ·
                 have qr27 := hr25
                 simp at hr25
                 refine r_ rfl rfl (a_ (l_ k_ rfl rfl rfl j_) rfl (r_ rfl rfl (a_ (t_ 0 p_ rfl rfl rfl) rfl (r_ rfl rfl (a_ (l_ m_ rfl rfl rfl j_) rfl (r_ rfl rfl (a_ (t_ 1 p_ rfl rfl rfl) rfl (r_ rfl rfl (y_ (ao_ rfl rfl) rfl fun r28 hr28 => ?_)))))))))
                 refine a_ (G_ rfl rfl) rfl (e_ (w_ rfl ?_))
                 exact met ⟨rfl, rfl, rfl, rfl, rfl, rfl, rfl, rfl, rfl, (z_ rfl (jat qr27 hr28)), trivial⟩
               ·
                refine e_ (b_ rfl ?_)
                cases r27
                ·
                 simp at hr27
                 refine v_ rfl (F_ (b_ rfl (c_ (a_ (f_ rfl) rfl (a_ (M_ rfl rfl rfl (aj_ (by omega) (by omega))) rfl (a_ (g_ rfl) rfl (e_ (w_ rfl ?_))))))))
                 exact aa_ ⟨(j + 1, sv5, Hr5), hlx2, (by have q := hq5; rw [bi_ hx2, show (bT_ x1 f) x2 = [(au_ (Fc.a f) (Pc.t x1) (Fc.b x2))] from (by unfold bT_; rw [if_neg (by simp [*]), if_pos (by first | assumption | simpa using hr17 | simp [*]), if_neg (by first | assumption | simpa using hr27 | simp [*])]; try rfl)]; simpa only [List.append_assoc, List.append_nil] using q)⟩ (by dsimp only; omega) ⟨rfl, rfl, rfl, rfl, rfl, rfl, rfl, rfl, trivial⟩ (o_ (d_ i_) (o_ (d_ i_) Q_)) (fun _ _ h => h.2)
                ·
                 simp at hr27
                 refine u_ rfl (c_ (a_ (f_ rfl) rfl (a_ (l_ k_ rfl rfl rfl j_) rfl (a_ (t_ 0 p_ rfl rfl rfl) rfl (a_ (l_ m_ rfl rfl rfl j_) rfl (a_ (t_ 1 p_ rfl rfl rfl) rfl (a_ (l_ k_ rfl rfl rfl j_) rfl (a_ (t_ 2 p_ rfl rfl rfl) rfl (X_ (er_ (Fc.a x2) (Pc.t x1) (Fc.b f)) rfl J_ (fun _ _ _ => by exact trivial) rfl fun _ => ?_)))))))))
                 refine aO_ E_ B_ ah_ rfl rfl rfl rfl rfl rfl fun b7 => ?_
                 refine bE_ (List.flatMap Fc.cells [(au_ (Fc.a x2) (Pc.t x1) (Fc.b f))]) i_ rfl ?_
                 refine aM_ (news := List.flatMap Fc.cells [(au_ (Fc.a x2) (Pc.t x1) (Fc.b f))]) cg_ hq5 rfl rfl (fun q => by cases q) (by simp) (d_ (d_ Q_)) (by rw [bt_ Fc.cells 6 Fc.cells_len]; rfl) (fun v _ h => by exact h.1) (fun u hu => aR_ Fc.cells_one hu) (by simp only [maxLen]; ((try simp only [List.length_append, List.length_cons, List.length_nil]); omega)) (by ((try simp only [List.length_append, List.length_cons, List.length_nil]); omega)) rfl fun sv6 Hr6 hr6 => ?_
                 refine al_ List.perm_append_comm ?_
                 have hq6 : aQ_ 41 6 sv6 (List.length ((((([] : List Fc) ++ List.flatMap (bD_ l f) (List.take i p)) ++ List.flatMap (bT_ x1 f) (List.take j l)) ++ [(au_ (Fc.a f) (Pc.t x1) (Fc.b x2))]) ++ [(au_ (Fc.a x2) (Pc.t x1) (Fc.b f))])) (List.flatMap Fc.cells ((((([] : List Fc) ++ List.flatMap (bD_ l f) (List.take i p)) ++ List.flatMap (bT_ x1 f) (List.take j l)) ++ [(au_ (Fc.a f) (Pc.t x1) (Fc.b x2))]) ++ [(au_ (Fc.a x2) (Pc.t x1) (Fc.b f))])) Hr6 := by rw [List.length_append, List.flatMap_append]; exact hr6
                 refine a_ (g_ rfl) rfl (e_ (b_ rfl (c_ (a_ (f_ rfl) rfl (a_ (M_ rfl rfl rfl (aj_ (by omega) (by omega))) rfl (a_ (g_ rfl) rfl (e_ (w_ rfl ?_))))))))
                 exact aa_ ⟨(j + 1, sv6, Hr6), hlx2, (by have q := hq6; rw [bi_ hx2, show (bT_ x1 f) x2 = [(au_ (Fc.a f) (Pc.t x1) (Fc.b x2))] ++ [(au_ (Fc.a x2) (Pc.t x1) (Fc.b f))] from (by unfold bT_; rw [if_neg (by simp [*]), if_pos (by first | assumption | simpa using hr17 | simp [*]), if_pos (by first | assumption | simpa using hr27 | simp [*])]; try rfl)]; simpa only [List.append_assoc, List.append_nil] using q)⟩ (by dsimp only; omega) ⟨rfl, rfl, rfl, rfl, rfl, rfl, rfl, rfl, trivial⟩ (o_ (d_ i_) (o_ (d_ i_) Q_)) (fun _ _ h => h.2.2)
          ·
           replace hr13 := bn_ hr13
           refine u_ rfl (as_ rfl (b_ rfl (c_ (a_ (f_ rfl) rfl (a_ (M_ rfl rfl rfl (aj_ (by omega) (by omega))) rfl (a_ (g_ rfl) rfl (e_ (w_ rfl ?_))))))))
           exact aa_ ⟨(j + 1, sv_Rfc, H_Rfc), hlx2, (by have q := hr_Rfc; rw [bi_ hx2, show (bT_ x1 f) x2 = [] from (by unfold bT_; rw [if_pos (by assumption)])]; simpa only [List.append_assoc, List.append_nil] using q)⟩ (by dsimp only; omega) ⟨rfl, rfl, rfl, rfl, rfl, rfl, rfl, rfl, trivial⟩ (o_ (d_ i_) (o_ (d_ i_) Q_)) (fun _ _ h => h)
       ·
        simp at hr9
        refine u_ rfl (c_ (a_ (f_ rfl) rfl (a_ (l_ k_ rfl rfl rfl j_) rfl (a_ (t_ 1 p_ rfl rfl rfl) rfl (a_ (l_ m_ rfl rfl rfl j_) rfl (a_ (t_ 0 p_ rfl rfl rfl) rfl (X_ (dH_ (Fc.a f) (Pc.c x1)) rfl J_ (fun _ _ _ => by exact trivial) rfl fun _ => ?_)))))))
        refine aO_ E_ B_ ah_ rfl rfl rfl rfl rfl rfl fun b8 => ?_
        refine bE_ (List.flatMap Fc.cells [(ak_ (Fc.a f) (Pc.c x1))]) i_ rfl ?_
        refine aM_ (news := List.flatMap Fc.cells [(ak_ (Fc.a f) (Pc.c x1))]) cg_ hr_Rfc rfl rfl (fun q => by cases q) (by simp) (d_ Q_) (by rw [bt_ Fc.cells 6 Fc.cells_len]; rfl) (fun v _ h => by exact h.1) (fun u hu => aR_ Fc.cells_one hu) (by simp only [maxLen]; ((try simp only [List.length_append, List.length_cons, List.length_nil]); omega)) (by ((try simp only [List.length_append, List.length_cons, List.length_nil]); omega)) rfl fun sv7 Hr7 hr7 => ?_
        refine al_ List.perm_append_comm ?_
        have hq7 : aQ_ 41 6 sv7 (List.length ((([] : List Fc) ++ List.flatMap (bD_ l f) (List.take i p)) ++ [(ak_ (Fc.a f) (Pc.c x1))])) (List.flatMap Fc.cells ((([] : List Fc) ++ List.flatMap (bD_ l f) (List.take i p)) ++ [(ak_ (Fc.a f) (Pc.c x1))])) Hr7 := by rw [List.length_append, List.flatMap_append]; exact hr7
        refine a_ (g_ rfl) rfl (e_ (b_ rfl (c_ (a_ (f_ rfl) rfl (a_ (M_ rfl rfl rfl (aj_ (by omega) (by omega))) rfl (a_ (g_ rfl) rfl (e_ (w_ rfl ?_))))))))
        exact aa_ ⟨(i + 1, sv7, Hr7), hlx1, (by have q := hq7; rw [bi_ hx1, show (bD_ l f) x1 = [(ak_ (Fc.a f) (Pc.c x1))] from (by unfold bD_; rw [if_neg (by first | assumption | simpa using hr4 | simp [*]), if_pos (by first | assumption | simpa using hr9 | simp [*])])]; simpa only [List.append_assoc, List.append_nil] using q)⟩ (by dsimp only; omega) ⟨rfl, rfl, rfl, rfl, rfl, rfl, trivial⟩ (o_ (d_ i_) Q_) (fun _ _ h => h.2)
    ·
     simp at hr4
     refine u_ rfl (c_ (a_ (f_ rfl) rfl (a_ (l_ k_ rfl rfl rfl j_) rfl (a_ (t_ 1 p_ rfl rfl rfl) rfl (a_ (l_ m_ rfl rfl rfl j_) rfl (a_ (t_ 0 p_ rfl rfl rfl) rfl (a_ (l_ k_ rfl rfl rfl j_) rfl (a_ (t_ 1 p_ rfl rfl rfl) rfl (X_ (er_ (Fc.a f) (Pc.t x1) (Fc.b f)) rfl J_ (fun _ _ _ => by exact trivial) rfl fun _ => ?_)))))))))
     refine aO_ E_ B_ ah_ rfl rfl rfl rfl rfl rfl fun b9 => ?_
     refine bE_ (List.flatMap Fc.cells [(au_ (Fc.a f) (Pc.t x1) (Fc.b f))]) i_ rfl ?_
     refine aM_ (news := List.flatMap Fc.cells [(au_ (Fc.a f) (Pc.t x1) (Fc.b f))]) cg_ hr_Rfc rfl rfl (fun q => by cases q) (by simp) (d_ Q_) (by rw [bt_ Fc.cells 6 Fc.cells_len]; rfl) (fun v _ h => by exact h.1) (fun u hu => aR_ Fc.cells_one hu) (by simp only [maxLen]; ((try simp only [List.length_append, List.length_cons, List.length_nil]); omega)) (by ((try simp only [List.length_append, List.length_cons, List.length_nil]); omega)) rfl fun sv8 Hr8 hr8 => ?_
     refine al_ List.perm_append_comm ?_
     have hq8 : aQ_ 41 6 sv8 (List.length ((([] : List Fc) ++ List.flatMap (bD_ l f) (List.take i p)) ++ [(au_ (Fc.a f) (Pc.t x1) (Fc.b f))])) (List.flatMap Fc.cells ((([] : List Fc) ++ List.flatMap (bD_ l f) (List.take i p)) ++ [(au_ (Fc.a f) (Pc.t x1) (Fc.b f))])) Hr8 := by rw [List.length_append, List.flatMap_append]; exact hr8
     refine a_ (g_ rfl) rfl (e_ (b_ rfl (c_ (a_ (f_ rfl) rfl (a_ (M_ rfl rfl rfl (aj_ (by omega) (by omega))) rfl (a_ (g_ rfl) rfl (e_ (w_ rfl ?_))))))))
     exact aa_ ⟨(i + 1, sv8, Hr8), hlx1, (by have q := hq8; rw [bi_ hx1, show (bD_ l f) x1 = [(au_ (Fc.a f) (Pc.t x1) (Fc.b f))] from (by unfold bD_; rw [if_pos (by first | assumption | simpa using hr4 | simp [*])])]; simpa only [List.append_assoc, List.append_nil] using q)⟩ (by dsimp only; omega) ⟨rfl, rfl, rfl, rfl, rfl, rfl, trivial⟩ (o_ (d_ i_) Q_) (fun _ _ h => h.2)
 ·
  replace hr1 := dT hr1
  refine u_ rfl (c_ (a_ (f_ rfl) rfl (a_ (l_ k_ rfl rfl rfl j_) rfl (a_ (t_ 0 p_ rfl rfl rfl) rfl (X_ (dH_ (Fc.a f) [33]) rfl J_ (fun _ _ _ => by exact trivial) rfl fun _ => ?_)))))
  refine aO_ E_ B_ ah_ rfl rfl rfl rfl rfl rfl fun b10 => ?_
  refine bE_ (List.flatMap Fc.cells [(ak_ (Fc.a f) [33])]) i_ rfl ?_
  refine aM_ (news := List.flatMap Fc.cells [(ak_ (Fc.a f) [33])]) cg_ (dX_ b2 41 6) rfl rfl (fun q => by cases q) (by simp) Q_ (by rw [bt_ Fc.cells 6 Fc.cells_len]; rfl) (fun v _ h => by exact h.1) (fun u hu => aR_ Fc.cells_one hu) (by simp only [maxLen]; ((try simp only [List.length_append, List.length_cons, List.length_nil]); omega)) (by ((try simp only [List.length_append, List.length_cons, List.length_nil]); omega)) rfl fun sv9 Hr9 hr9 => ?_
  refine al_ List.perm_append_comm ?_
  have hq9 : aQ_ 41 6 sv9 (List.length (([] : List Fc) ++ [(ak_ (Fc.a f) [33])])) (List.flatMap Fc.cells (([] : List Fc) ++ [(ak_ (Fc.a f) [33])])) Hr9 := by rw [List.length_append, List.flatMap_append]; exact hr9
  refine a_ (g_ rfl) rfl (e_ (b_ rfl (h_ (h_ (c_ (a_ (g_ rfl) rfl (e_ (b_ rfl (N_ ?_)))))))))
  have hw10 : aQ_ 41 6 sv9 (List.length ((([] : List Fc) ++ [(ak_ (Fc.a f) [33])]) ++ List.flatMap (bD_ l f) (List.take 0 p))) (List.flatMap Fc.cells ((([] : List Fc) ++ [(ak_ (Fc.a f) [33])]) ++ List.flatMap (bD_ l f) (List.take 0 p))) Hr9 := by have q := hq9; simpa only [List.take_zero, List.flatMap_nil, List.append_nil, List.length_nil] using q
  refine aB_ (ι := {y : Nat × Value × Hp // y.1 ≤ List.length p ∧ aQ_ 41 6 y.2.1 (List.length ((([] : List Fc) ++ [(ak_ (Fc.a f) [33])]) ++ List.flatMap (bD_ l f) (List.take y.1 p))) (List.flatMap Fc.cells ((([] : List Fc) ++ [(ak_ (Fc.a f) [33])]) ++ List.flatMap (bD_ l f) (List.take y.1 p))) y.2.2}) (fun y => [(0, .slice pad (List.length p) pcap), (1, .slice lad (List.length l) lcap), (5, zp_ b1 0), (6, .slice none 0 0), (7, y.1.2.1), (8, .int .i64 (y.1.1 : Int))]) (fun y => ((b1, .cells (Fc.cells f).toArray 41 (0, 0)) :: y.1.2.2)) (fun y => [az_ (some ⟨b10, 0, none⟩) (List.flatMap Fc.cells [(ak_ (Fc.a f) [33])]), az_ pad (List.flatMap Pc.cells p), az_ lad (List.flatMap Fc.cells l)]) (fun y => List.length p - y.1.1) ⟨((0 : Nat), sv9, Hr9), by simp, hw10⟩ ⟨rfl, rfl, rfl, rfl, rfl, rfl, trivial⟩ (o_ i_ aC_) (fun _ _ h => h) ?_
  rintro ⟨⟨i, sv_Rfc, H_Rfc⟩, hi_i, hr_Rfc⟩
  dsimp only at hi_i hr_Rfc ⊢
  have hb1 := cW_ (g := bD_ l f) (n := 131072) (List.take i p) (fun x _ => kq_ hl f x)
  rw [List.length_take] at hb1
  refine h_ (h_ (c_ (a_ (f_ rfl) rfl (a_ (f_ rfl) rfl (a_ (ar_ P_ rfl) rfl (y_ (ax_ rfl rfl) rfl fun r29 hr29 => ?_))))))
  refine e_ (b_ rfl ?_)
  cases r29
  ·
   replace hr29 := of_decide_eq_false hr29
   rw [show List.take i p = p from List.take_of_length_le (by omega)] at hr_Rfc
   refine v_ rfl (as_ rfl (b_ rfl (h_ (c_ (a_ (f_ rfl) rfl (a_ (g_ rfl) rfl (e_ (b_ rfl (H_ ?_)))))))))
   have hw11 : aQ_ 41 6 sv_Rfc (List.length (fJ_ p l f)) (List.flatMap Fc.cells (fJ_ p l f)) H_Rfc := by have q := hr_Rfc; unfold fJ_; first | (rw [if_pos (by assumption)]; simpa only [List.nil_append] using q) | (rw [if_neg (by assumption)]; simpa only [List.nil_append] using q)
   refine bw_ hw11 Q_ fun ad2 cp2 had2 hcad2 hmad2 hzad2 => ?_
   exact ap_ Tryz.results119 ⟨(ad2, cp2), hcad2, hmad2, hzad2⟩ (ca_ rfl had2) J_ (fun v _ h => ⟨h.1, trivial⟩)
  ·
   replace hr29 := of_decide_eq_true hr29
   have hlx1 : i < List.length p := by omega
   obtain ⟨x1, hx1⟩ : ∃ e0, p[i]? = some e0 := ⟨_, List.getElem?_eq_getElem hlx1⟩
   have hmx1 : x1 ∈ p := List.mem_of_getElem? hx1
   refine u_ rfl (F_ (b_ rfl (h_ (N_ (h_ (c_ (a_ (f_ rfl) rfl (a_ (f_ rfl) rfl (a_ (ad_ P_ R_ rfl rfl (fun v _ h => av_ (n := 10) Pc.cells_len (by decide) (by exact h.2.1) hx1) (by omega) (by first | omega | (simp; done))) rfl ?_)))))))))
   refine a_ (aJ_ (ad := pad) (us := Pc.cells x1) aK_ R_ rfl (fun v _ h => by exact h.2.1) (Pc.cells_len _) (ag_ Pc.cells_len hx1)) rfl (ay_ bj_ rfl fun b11 => ?_)
   refine af_ 0 R_ rfl rfl rfl rfl rfl rfl (e_ (b_ rfl (N_ (h_ (c_ (a_ (l_ m_ rfl rfl rfl I_) rfl (a_ (t_ 0 L_ rfl rfl rfl) rfl (y_ (aD_ rfl rfl) rfl fun r30 hr30 => ?_))))))))
   refine a_ (f_ rfl) rfl ?_
   refine aN_ 6 (((Pc.kind x1) == 5) && ((Pc.r x1) == (Fc.r f))) (fun r => [(0, .slice pad (List.length p) pcap), (1, .slice lad (List.length l) lcap), (5, zp_ b1 0), (6, .slice none 0 0), (7, sv_Rfc), (8, .int .i64 (i : Int)), (9, zp_ b11 0), (44, .bool r)]) ?_ fun r31 hr31 => ?_
   ·
    cases r30
    ·
     have qr31 := hr30
     replace hr30 := ne_of_beq_false hr30
     refine s_ rfl rfl rfl rfl (s_ rfl rfl rfl rfl (s_ rfl rfl rfl rfl (s_ rfl rfl rfl rfl (s_ rfl rfl rfl rfl (a_ (A_ rfl rfl) rfl (e_ (w_ rfl ?_)))))))
     exact met ⟨rfl, rfl, rfl, rfl, rfl, rfl, rfl, (z_ rfl (jaf qr31)), trivial⟩
    ·
     have qr31 := hr30
     replace hr30 := eq_of_beq hr30
     refine r_ rfl rfl (a_ (l_ m_ rfl rfl rfl j_) rfl (r_ rfl rfl (a_ (t_ 0 p_ rfl rfl rfl) rfl (r_ rfl rfl (a_ (l_ k_ rfl rfl rfl j_) rfl (r_ rfl rfl (a_ (t_ 1 p_ rfl rfl rfl) rfl (r_ rfl rfl (y_ (ao_ rfl rfl) rfl fun r32 hr32 => ?_)))))))))
     refine a_ (G_ rfl rfl) rfl (e_ (w_ rfl ?_))
     exact met ⟨rfl, rfl, rfl, rfl, rfl, rfl, rfl, (z_ rfl (jat qr31 hr32)), trivial⟩
   ·
    refine a_ (g_ rfl) rfl (e_ (b_ rfl ?_))
    cases r31
    ·
     simp at hr31
     refine v_ rfl (h_ (c_ (a_ (l_ m_ rfl rfl rfl I_) rfl (a_ (t_ 0 L_ rfl rfl rfl) rfl (y_ (aD_ rfl rfl) rfl fun r33 hr33 => ?_)))))
     refine a_ (f_ rfl) rfl ?_
     refine aN_ 6 (((Pc.kind x1) == 4) && ((Pc.r x1) == (Fc.r f))) (fun r => [(0, .slice pad (List.length p) pcap), (1, .slice lad (List.length l) lcap), (5, zp_ b1 0), (6, .slice none 0 0), (7, sv_Rfc), (8, .int .i64 (i : Int)), (9, zp_ b11 0), (65, .bool r)]) ?_ fun r34 hr34 => ?_
     ·
      cases r33
      ·
       have qr34 := hr33
       replace hr33 := ne_of_beq_false hr33
       refine s_ rfl rfl rfl rfl (s_ rfl rfl rfl rfl (s_ rfl rfl rfl rfl (s_ rfl rfl rfl rfl (s_ rfl rfl rfl rfl (a_ (A_ rfl rfl) rfl (e_ (w_ rfl ?_)))))))
       exact met ⟨rfl, rfl, rfl, rfl, rfl, rfl, rfl, (z_ rfl (jaf qr34)), trivial⟩
      ·
       have qr34 := hr33
       replace hr33 := eq_of_beq hr33
       refine r_ rfl rfl (a_ (l_ m_ rfl rfl rfl j_) rfl (r_ rfl rfl (a_ (t_ 0 p_ rfl rfl rfl) rfl (r_ rfl rfl (a_ (l_ k_ rfl rfl rfl j_) rfl (r_ rfl rfl (a_ (t_ 1 p_ rfl rfl rfl) rfl (r_ rfl rfl (y_ (ao_ rfl rfl) rfl fun r35 hr35 => ?_)))))))))
       refine a_ (G_ rfl rfl) rfl (e_ (w_ rfl ?_))
       exact met ⟨rfl, rfl, rfl, rfl, rfl, rfl, rfl, (z_ rfl (jat qr34 hr35)), trivial⟩
     ·
      refine a_ (f_ rfl) rfl ?_
      refine aN_ 8 (((((Pc.kind x1) == 4) && ((Pc.r x1) == (Fc.r f)))) && (decide ((ak_ (Fc.b f) (Pc.a x1)) ∈ l))) (fun r => [(0, .slice pad (List.length p) pcap), (1, .slice lad (List.length l) lcap), (5, zp_ b1 0), (6, .slice none 0 0), (7, sv_Rfc), (8, .int .i64 (i : Int)), (9, zp_ b11 0), (74, .bool r)]) ?_ fun r36 hr36 => ?_
      ·
       cases r34
       ·
        have qr36 := hr34
        simp at hr34
        refine s_ rfl rfl rfl rfl (s_ rfl rfl rfl rfl (s_ rfl rfl rfl rfl (s_ rfl rfl rfl rfl (s_ rfl rfl rfl rfl (s_ rfl rfl rfl rfl (s_ rfl rfl rfl rfl (a_ (A_ rfl rfl) rfl (e_ (w_ rfl ?_)))))))))
        exact met ⟨rfl, rfl, rfl, rfl, rfl, rfl, rfl, (z_ rfl (jaf qr36)), trivial⟩
       ·
        have qr36 := hr34
        simp at hr34
        refine r_ rfl rfl (a_ (f_ rfl) rfl (r_ rfl rfl (a_ (l_ k_ rfl rfl rfl j_) rfl (r_ rfl rfl (a_ (t_ 1 p_ rfl rfl rfl) rfl (r_ rfl rfl (a_ (l_ m_ rfl rfl rfl j_) rfl (r_ rfl rfl (a_ (t_ 0 p_ rfl rfl rfl) rfl ?_)))))))))
        refine r_ rfl rfl (X_ (dH_ (Fc.b f) (Pc.a x1)) rfl J_ (fun _ _ _ => by exact trivial) rfl fun _ => ?_)
        refine r_ rfl rfl (at_ (ku_ l lad lcap (ak_ (Fc.b f) (Pc.a x1)) (by omega) hs) rfl J_ (fun v _ h => by exact ⟨h.2.2.1, trivial⟩) rfl fun r37 hr37 => ?_)
        refine a_ (G_ rfl rfl) rfl (e_ (w_ rfl ?_))
        exact met ⟨rfl, rfl, rfl, rfl, rfl, rfl, rfl, (z_ rfl (jat qr36 hr37)), trivial⟩
      ·
       refine a_ (g_ rfl) rfl (e_ (b_ rfl ?_))
       cases r36
       ·
        simp at hr36
        refine v_ rfl (h_ (c_ (a_ (l_ m_ rfl rfl rfl I_) rfl (a_ (t_ 0 L_ rfl rfl rfl) rfl (y_ (aD_ rfl rfl) rfl fun r38 hr38 => ?_)))))
        refine a_ (g_ rfl) rfl (e_ (b_ rfl ?_))
        cases r38
        ·
         replace hr38 := ne_of_beq_false hr38
         refine v_ rfl (F_ (b_ rfl (c_ (a_ (f_ rfl) rfl (a_ (M_ rfl rfl rfl (aj_ (by omega) (by omega))) rfl (a_ (g_ rfl) rfl (e_ (w_ rfl ?_))))))))
         exact aa_ ⟨(i + 1, sv_Rfc, H_Rfc), hlx1, (by have q := hr_Rfc; rw [bi_ hx1, show (bD_ l f) x1 = [] from (by unfold bD_; rw [if_neg (by first | assumption | simpa using hr31 | simp [*]), if_neg (by first | assumption | simpa using hr36 | simp [*]), if_neg (by first | assumption | simpa using hr38 | simp [*])])]; simpa only [List.append_assoc, List.append_nil] using q)⟩ (by dsimp only; omega) ⟨rfl, rfl, rfl, rfl, rfl, rfl, trivial⟩ (o_ (d_ i_) Q_) (fun _ _ h => h)
        ·
         replace hr38 := eq_of_beq hr38
         refine u_ rfl (h_ (c_ (a_ (g_ rfl) rfl (e_ (b_ rfl (N_ ?_))))))
         have hw12 : aQ_ 41 6 sv_Rfc (List.length (((([] : List Fc) ++ [(ak_ (Fc.a f) [33])]) ++ List.flatMap (bD_ l f) (List.take i p)) ++ List.flatMap (bT_ x1 f) (List.take 0 l))) (List.flatMap Fc.cells (((([] : List Fc) ++ [(ak_ (Fc.a f) [33])]) ++ List.flatMap (bD_ l f) (List.take i p)) ++ List.flatMap (bT_ x1 f) (List.take 0 l))) H_Rfc := by have q := hr_Rfc; simpa only [List.take_zero, List.flatMap_nil, List.append_nil, List.length_nil] using q
         refine aB_ (ι := {y : Nat × Value × Hp // y.1 ≤ List.length l ∧ aQ_ 41 6 y.2.1 (List.length (((([] : List Fc) ++ [(ak_ (Fc.a f) [33])]) ++ List.flatMap (bD_ l f) (List.take i p)) ++ List.flatMap (bT_ x1 f) (List.take y.1 l))) (List.flatMap Fc.cells (((([] : List Fc) ++ [(ak_ (Fc.a f) [33])]) ++ List.flatMap (bD_ l f) (List.take i p)) ++ List.flatMap (bT_ x1 f) (List.take y.1 l))) y.2.2}) (fun y => [(0, .slice pad (List.length p) pcap), (1, .slice lad (List.length l) lcap), (5, zp_ b1 0), (6, .slice none 0 0), (7, y.1.2.1), (8, .int .i64 (i : Int)), (9, zp_ b11 0), (10, .int .i64 (y.1.1 : Int))]) (fun y => ((b11, .cells (Pc.cells x1).toArray 47 (0, 0)) :: ((b1, .cells (Fc.cells f).toArray 41 (0, 0)) :: y.1.2.2))) (fun y => [az_ (some ⟨b10, 0, none⟩) (List.flatMap Fc.cells [(ak_ (Fc.a f) [33])]), az_ pad (List.flatMap Pc.cells p), az_ lad (List.flatMap Fc.cells l)]) (fun y => List.length l - y.1.1) ⟨((0 : Nat), sv_Rfc, H_Rfc), by simp, hw12⟩ ⟨rfl, rfl, rfl, rfl, rfl, rfl, rfl, rfl, trivial⟩ (o_ i_ (o_ i_ aC_)) (fun _ _ h => h) ?_
         rintro ⟨⟨j, sv_Rfc, H_Rfc⟩, hi_j, hr_Rfc⟩
         dsimp only at hi_j hr_Rfc ⊢
         have hb2 := cW_ (g := bT_ x1 f) (n := 2) (List.take j l) (fun x _ => im_ x1 f x)
         rw [List.length_take] at hb2
         refine h_ (h_ (c_ (a_ (f_ rfl) rfl (a_ (f_ rfl) rfl (a_ (ar_ E_ rfl) rfl (y_ (ax_ rfl rfl) rfl fun r39 hr39 => ?_))))))
         refine e_ (b_ rfl ?_)
         cases r39
         ·
          replace hr39 := of_decide_eq_false hr39
          rw [show List.take j l = l from List.take_of_length_le (by omega)] at hr_Rfc
          refine v_ rfl (as_ rfl (b_ rfl (c_ (a_ (f_ rfl) rfl (a_ (M_ rfl rfl rfl (aj_ (by omega) (by omega))) rfl (a_ (g_ rfl) rfl (e_ (w_ rfl ?_))))))))
          exact aa_ ⟨(i + 1, sv_Rfc, H_Rfc), hlx1, (by have q := hr_Rfc; rw [bi_ hx1, show (bD_ l f) x1 = List.flatMap (bT_ x1 f) l from (by unfold bD_; rw [if_neg (by first | assumption | simpa using hr31 | simp [*]), if_neg (by first | assumption | simpa using hr36 | simp [*]), if_pos (by first | assumption | simpa using hr38 | simp [*])])]; simpa only [List.append_assoc, List.append_nil] using q)⟩ (by dsimp only; omega) ⟨rfl, rfl, rfl, rfl, rfl, rfl, trivial⟩ (o_ (d_ i_) Q_) (fun _ _ h => h)
         ·
          replace hr39 := of_decide_eq_true hr39
          have hlx2 : j < List.length l := by omega
          obtain ⟨x2, hx2⟩ : ∃ e0, l[j]? = some e0 := ⟨_, List.getElem?_eq_getElem hlx2⟩
          have hmx2 : x2 ∈ l := List.mem_of_getElem? hx2
          refine u_ rfl (F_ (b_ rfl (h_ (N_ (h_ (c_ (a_ (f_ rfl) rfl (a_ (f_ rfl) rfl (a_ (ad_ E_ B_ rfl rfl (fun v _ h => av_ (n := 6) Fc.cells_len (by decide) (by exact h.2.2.1) hx2) (by omega) (by first | omega | (simp; done))) rfl ?_)))))))))
          refine a_ (aJ_ (ad := lad) (us := Fc.cells x2) V_ B_ rfl (fun v _ h => by exact h.2.2.1) (Fc.cells_len _) (ag_ Fc.cells_len hx2)) rfl (ay_ ah_ rfl fun b12 => ?_)
          refine af_ 0 B_ rfl rfl rfl rfl rfl rfl (e_ (b_ rfl (h_ (h_ (c_ (a_ (l_ k_ rfl rfl rfl I_) rfl (a_ (t_ 0 L_ rfl rfl rfl) rfl (y_ (cE_ rfl rfl) rfl fun r40 hr40 => ?_))))))))
          refine e_ (b_ rfl ?_)
          cases r40
          ·
           replace hr40 := bo_ hr40
           refine v_ rfl (F_ (b_ rfl (h_ (h_ (c_ (a_ (l_ m_ rfl rfl rfl j_) rfl (a_ (t_ 1 p_ rfl rfl rfl) rfl (a_ (l_ k_ rfl rfl rfl j_) rfl (a_ (t_ 2 p_ rfl rfl rfl) rfl ?_)))))))))
           refine y_ (ao_ rfl rfl) rfl fun r41 hr41 => ?_
           refine a_ (f_ rfl) rfl ?_
           refine aN_ 6 (((Pc.r x1) == (Fc.r f)) && ((Fc.a x2) == (Fc.b f))) (fun r => [(0, .slice pad (List.length p) pcap), (1, .slice lad (List.length l) lcap), (5, zp_ b1 0), (6, .slice none 0 0), (7, sv_Rfc), (8, .int .i64 (i : Int)), (9, zp_ b11 0), (10, .int .i64 (j : Int)), (11, zp_ b12 0), (111, .bool r)]) ?_ fun r42 hr42 => ?_
           ·
            cases r41
            ·
             have qr42 := hr41
             replace hr41 := ne_of_beq_false hr41
             refine s_ rfl rfl rfl rfl (s_ rfl rfl rfl rfl (s_ rfl rfl rfl rfl (s_ rfl rfl rfl rfl (s_ rfl rfl rfl rfl (a_ (A_ rfl rfl) rfl (e_ (w_ rfl ?_)))))))
             exact met ⟨rfl, rfl, rfl, rfl, rfl, rfl, rfl, rfl, rfl, (z_ rfl (jaf qr42)), trivial⟩
            ·
             have qr42 := hr41
             replace hr41 := eq_of_beq hr41
             refine r_ rfl rfl (a_ (l_ k_ rfl rfl rfl j_) rfl (r_ rfl rfl (a_ (t_ 0 p_ rfl rfl rfl) rfl (r_ rfl rfl (a_ (l_ k_ rfl rfl rfl j_) rfl (r_ rfl rfl (a_ (t_ 2 p_ rfl rfl rfl) rfl (r_ rfl rfl (y_ (ao_ rfl rfl) rfl fun r43 hr43 => ?_)))))))))
             refine a_ (G_ rfl rfl) rfl (e_ (w_ rfl ?_))
             exact met ⟨rfl, rfl, rfl, rfl, rfl, rfl, rfl, rfl, rfl, (z_ rfl (jat qr42 hr43)), trivial⟩
           ·
            refine a_ (f_ rfl) rfl ?_
            refine aN_ 6 (((((Pc.r x1) == (Fc.r f)) && ((Fc.a x2) == (Fc.b f)))) && ((Fc.r x2) == (Pc.s x1))) (fun r => [(0, .slice pad (List.length p) pcap), (1, .slice lad (List.length l) lcap), (5, zp_ b1 0), (6, .slice none 0 0), (7, sv_Rfc), (8, .int .i64 (i : Int)), (9, zp_ b11 0), (10, .int .i64 (j : Int)), (11, zp_ b12 0), (118, .bool r)]) ?_ fun r44 hr44 => ?_
            ·
             cases r42
             ·
              have qr44 := hr42
              simp at hr42
              refine s_ rfl rfl rfl rfl (s_ rfl rfl rfl rfl (s_ rfl rfl rfl rfl (s_ rfl rfl rfl rfl (s_ rfl rfl rfl rfl (a_ (A_ rfl rfl) rfl (e_ (w_ rfl ?_)))))))
              exact met ⟨rfl, rfl, rfl, rfl, rfl, rfl, rfl, rfl, rfl, (z_ rfl (jaf qr44)), trivial⟩
             ·
              have qr44 := hr42
              simp at hr42
              refine r_ rfl rfl (a_ (l_ k_ rfl rfl rfl j_) rfl (r_ rfl rfl (a_ (t_ 0 p_ rfl rfl rfl) rfl (r_ rfl rfl (a_ (l_ m_ rfl rfl rfl j_) rfl (r_ rfl rfl (a_ (t_ 1 p_ rfl rfl rfl) rfl (r_ rfl rfl (y_ (ao_ rfl rfl) rfl fun r45 hr45 => ?_)))))))))
              refine a_ (G_ rfl rfl) rfl (e_ (w_ rfl ?_))
              exact met ⟨rfl, rfl, rfl, rfl, rfl, rfl, rfl, rfl, rfl, (z_ rfl (jat qr44 hr45)), trivial⟩
            ·
             refine e_ (b_ rfl ?_)
             cases r44
             ·
              simp at hr44
              refine v_ rfl (F_ (b_ rfl (h_ (c_ (a_ (l_ m_ rfl rfl rfl j_) rfl (a_ (t_ 1 p_ rfl rfl rfl) rfl (a_ (l_ k_ rfl rfl rfl j_) rfl (a_ (t_ 2 p_ rfl rfl rfl) rfl (y_ (ao_ rfl rfl) rfl fun r46 hr46 => ?_)))))))))
              refine a_ (f_ rfl) rfl ?_
              refine aN_ 6 (((Pc.s x1) == (Fc.r f)) && ((Fc.b x2) == (Fc.a f))) (fun r => [(0, .slice pad (List.length p) pcap), (1, .slice lad (List.length l) lcap), (5, zp_ b1 0), (6, .slice none 0 0), (7, sv_Rfc), (8, .int .i64 (i : Int)), (9, zp_ b11 0), (10, .int .i64 (j : Int)), (11, zp_ b12 0), (140, .bool r)]) ?_ fun r47 hr47 => ?_
              ·
               cases r46
               ·
                have qr47 := hr46
                replace hr46 := ne_of_beq_false hr46
                refine s_ rfl rfl rfl rfl (s_ rfl rfl rfl rfl (s_ rfl rfl rfl rfl (s_ rfl rfl rfl rfl (s_ rfl rfl rfl rfl (a_ (A_ rfl rfl) rfl (e_ (w_ rfl ?_)))))))
                exact met ⟨rfl, rfl, rfl, rfl, rfl, rfl, rfl, rfl, rfl, (z_ rfl (jaf qr47)), trivial⟩
               ·
                have qr47 := hr46
                replace hr46 := eq_of_beq hr46
                refine r_ rfl rfl (a_ (l_ k_ rfl rfl rfl j_) rfl (r_ rfl rfl (a_ (t_ 0 p_ rfl rfl rfl) rfl (r_ rfl rfl (a_ (l_ k_ rfl rfl rfl j_) rfl (r_ rfl rfl (a_ (t_ 2 p_ rfl rfl rfl) rfl (r_ rfl rfl (y_ (ao_ rfl rfl) rfl fun r48 hr48 => ?_)))))))))
                refine a_ (G_ rfl rfl) rfl (e_ (w_ rfl ?_))
                exact met ⟨rfl, rfl, rfl, rfl, rfl, rfl, rfl, rfl, rfl, (z_ rfl (jat qr47 hr48)), trivial⟩
              ·
               refine a_ (f_ rfl) rfl ?_
               refine aN_ 6 (((((Pc.s x1) == (Fc.r f)) && ((Fc.b x2) == (Fc.a f)))) && ((Fc.r x2) == (Pc.r x1))) (fun r => [(0, .slice pad (List.length p) pcap), (1, .slice lad (List.length l) lcap), (5, zp_ b1 0), (6, .slice none 0 0), (7, sv_Rfc), (8, .int .i64 (i : Int)), (9, zp_ b11 0), (10, .int .i64 (j : Int)), (11, zp_ b12 0), (147, .bool r)]) ?_ fun r49 hr49 => ?_
               ·
                cases r47
                ·
                 have qr49 := hr47
                 simp at hr47
                 refine s_ rfl rfl rfl rfl (s_ rfl rfl rfl rfl (s_ rfl rfl rfl rfl (s_ rfl rfl rfl rfl (s_ rfl rfl rfl rfl (a_ (A_ rfl rfl) rfl (e_ (w_ rfl ?_)))))))
                 exact met ⟨rfl, rfl, rfl, rfl, rfl, rfl, rfl, rfl, rfl, (z_ rfl (jaf qr49)), trivial⟩
                ·
                 have qr49 := hr47
                 simp at hr47
                 refine r_ rfl rfl (a_ (l_ k_ rfl rfl rfl j_) rfl (r_ rfl rfl (a_ (t_ 0 p_ rfl rfl rfl) rfl (r_ rfl rfl (a_ (l_ m_ rfl rfl rfl j_) rfl (r_ rfl rfl (a_ (t_ 1 p_ rfl rfl rfl) rfl (r_ rfl rfl (y_ (ao_ rfl rfl) rfl fun r50 hr50 => ?_)))))))))
                 refine a_ (G_ rfl rfl) rfl (e_ (w_ rfl ?_))
                 exact met ⟨rfl, rfl, rfl, rfl, rfl, rfl, rfl, rfl, rfl, (z_ rfl (jat qr49 hr50)), trivial⟩
               ·
                refine e_ (b_ rfl ?_)
                cases r49
                ·
                 simp at hr49
                 refine v_ rfl (F_ (b_ rfl (c_ (a_ (f_ rfl) rfl (a_ (M_ rfl rfl rfl (aj_ (by omega) (by omega))) rfl (a_ (g_ rfl) rfl (e_ (w_ rfl ?_))))))))
                 exact aa_ ⟨(j + 1, sv_Rfc, H_Rfc), hlx2, (by have q := hr_Rfc; rw [bi_ hx2, show (bT_ x1 f) x2 = [] from (by unfold bT_; rw [if_neg (by simp [*]), if_neg (by first | assumption | simpa using hr44 | simp [*]), if_neg (by first | assumption | simpa using hr49 | simp [*])]; try rfl)]; simpa only [List.append_assoc, List.append_nil] using q)⟩ (by dsimp only; omega) ⟨rfl, rfl, rfl, rfl, rfl, rfl, rfl, rfl, trivial⟩ (o_ (d_ i_) (o_ (d_ i_) Q_)) (fun _ _ h => h)
                ·
                 simp at hr49
                 refine u_ rfl (c_ (a_ (f_ rfl) rfl (a_ (l_ k_ rfl rfl rfl j_) rfl (a_ (t_ 0 p_ rfl rfl rfl) rfl (a_ (l_ m_ rfl rfl rfl j_) rfl (a_ (t_ 1 p_ rfl rfl rfl) rfl (a_ (l_ k_ rfl rfl rfl j_) rfl (a_ (t_ 2 p_ rfl rfl rfl) rfl (X_ (er_ (Fc.a x2) (Pc.t x1) (Fc.b f)) rfl J_ (fun _ _ _ => by exact trivial) rfl fun _ => ?_)))))))))
                 refine aO_ E_ B_ ah_ rfl rfl rfl rfl rfl rfl fun b13 => ?_
                 refine bE_ (List.flatMap Fc.cells [(au_ (Fc.a x2) (Pc.t x1) (Fc.b f))]) i_ rfl ?_
                 refine aM_ (news := List.flatMap Fc.cells [(au_ (Fc.a x2) (Pc.t x1) (Fc.b f))]) cg_ hr_Rfc rfl rfl (fun q => by cases q) (by simp) (d_ (d_ Q_)) (by rw [bt_ Fc.cells 6 Fc.cells_len]; rfl) (fun v _ h => by exact h.1) (fun u hu => aR_ Fc.cells_one hu) (by simp only [maxLen]; ((try simp only [List.length_append, List.length_cons, List.length_nil]); omega)) (by ((try simp only [List.length_append, List.length_cons, List.length_nil]); omega)) rfl fun sv13 Hr13 hr13 => ?_
                 refine al_ List.perm_append_comm ?_
                 have hq13 : aQ_ 41 6 sv13 (List.length ((((([] : List Fc) ++ [(ak_ (Fc.a f) [33])]) ++ List.flatMap (bD_ l f) (List.take i p)) ++ List.flatMap (bT_ x1 f) (List.take j l)) ++ [(au_ (Fc.a x2) (Pc.t x1) (Fc.b f))])) (List.flatMap Fc.cells ((((([] : List Fc) ++ [(ak_ (Fc.a f) [33])]) ++ List.flatMap (bD_ l f) (List.take i p)) ++ List.flatMap (bT_ x1 f) (List.take j l)) ++ [(au_ (Fc.a x2) (Pc.t x1) (Fc.b f))])) Hr13 := by rw [List.length_append, List.flatMap_append]; exact hr13
                 refine a_ (g_ rfl) rfl (e_ (b_ rfl (c_ (a_ (f_ rfl) rfl (a_ (M_ rfl rfl rfl (aj_ (by omega) (by omega))) rfl (a_ (g_ rfl) rfl (e_ (w_ rfl ?_))))))))
                 exact aa_ ⟨(j + 1, sv13, Hr13), hlx2, (by have q := hq13; rw [bi_ hx2, show (bT_ x1 f) x2 = [(au_ (Fc.a x2) (Pc.t x1) (Fc.b f))] from (by unfold bT_; rw [if_neg (by simp [*]), if_neg (by first | assumption | simpa using hr44 | simp [*]), if_pos (by first | assumption | simpa using hr49 | simp [*])]; try rfl)]; simpa only [List.append_assoc, List.append_nil] using q)⟩ (by dsimp only; omega) ⟨rfl, rfl, rfl, rfl, rfl, rfl, rfl, rfl, trivial⟩ (o_ (d_ i_) (o_ (d_ i_) Q_)) (fun _ _ h => h.2)
             ·
              simp at hr44
              refine u_ rfl (c_ (a_ (f_ rfl) rfl (a_ (l_ k_ rfl rfl rfl j_) rfl (a_ (t_ 2 p_ rfl rfl rfl) rfl (a_ (l_ m_ rfl rfl rfl j_) rfl (a_ (t_ 1 p_ rfl rfl rfl) rfl (a_ (l_ k_ rfl rfl rfl j_) rfl (a_ (t_ 0 p_ rfl rfl rfl) rfl (X_ (er_ (Fc.a f) (Pc.t x1) (Fc.b x2)) rfl J_ (fun _ _ _ => by exact trivial) rfl fun _ => ?_)))))))))
              refine aO_ E_ B_ ah_ rfl rfl rfl rfl rfl rfl fun b14 => ?_
              refine bE_ (List.flatMap Fc.cells [(au_ (Fc.a f) (Pc.t x1) (Fc.b x2))]) i_ rfl ?_
              refine aM_ (news := List.flatMap Fc.cells [(au_ (Fc.a f) (Pc.t x1) (Fc.b x2))]) cg_ hr_Rfc rfl rfl (fun q => by cases q) (by simp) (d_ (d_ Q_)) (by rw [bt_ Fc.cells 6 Fc.cells_len]; rfl) (fun v _ h => by exact h.1) (fun u hu => aR_ Fc.cells_one hu) (by simp only [maxLen]; ((try simp only [List.length_append, List.length_cons, List.length_nil]); omega)) (by ((try simp only [List.length_append, List.length_cons, List.length_nil]); omega)) rfl fun sv14 Hr14 hr14 => ?_
              refine al_ List.perm_append_comm ?_
              have hq14 : aQ_ 41 6 sv14 (List.length ((((([] : List Fc) ++ [(ak_ (Fc.a f) [33])]) ++ List.flatMap (bD_ l f) (List.take i p)) ++ List.flatMap (bT_ x1 f) (List.take j l)) ++ [(au_ (Fc.a f) (Pc.t x1) (Fc.b x2))])) (List.flatMap Fc.cells ((((([] : List Fc) ++ [(ak_ (Fc.a f) [33])]) ++ List.flatMap (bD_ l f) (List.take i p)) ++ List.flatMap (bT_ x1 f) (List.take j l)) ++ [(au_ (Fc.a f) (Pc.t x1) (Fc.b x2))])) Hr14 := by rw [List.length_append, List.flatMap_append]; exact hr14
              refine a_ (g_ rfl) rfl (e_ (b_ rfl (h_ (c_ (a_ (l_ m_ rfl rfl rfl j_) rfl (a_ (t_ 1 p_ rfl rfl rfl) rfl (a_ (l_ k_ rfl rfl rfl j_) rfl (a_ (t_ 2 p_ rfl rfl rfl) rfl (y_ (ao_ rfl rfl) rfl fun r51 hr51 => ?_)))))))))
              refine a_ (f_ rfl) rfl ?_
              refine aN_ 6 (((Pc.s x1) == (Fc.r f)) && ((Fc.b x2) == (Fc.a f))) (fun r => [(0, .slice pad (List.length p) pcap), (1, .slice lad (List.length l) lcap), (5, zp_ b1 0), (6, .slice none 0 0), (7, sv14), (8, .int .i64 (i : Int)), (9, zp_ b11 0), (10, .int .i64 (j : Int)), (11, zp_ b12 0), (140, .bool r)]) ?_ fun r52 hr52 => ?_
              ·
               cases r51
               ·
                have qr52 := hr51
                replace hr51 := ne_of_beq_false hr51
                refine s_ rfl rfl rfl rfl (s_ rfl rfl rfl rfl (s_ rfl rfl rfl rfl (s_ rfl rfl rfl rfl (s_ rfl rfl rfl rfl (a_ (A_ rfl rfl) rfl (e_ (w_ rfl ?_)))))))
                exact met ⟨rfl, rfl, rfl, rfl, rfl, rfl, rfl, rfl, rfl, (z_ rfl (jaf qr52)), trivial⟩
               ·
                have qr52 := hr51
                replace hr51 := eq_of_beq hr51
                refine r_ rfl rfl (a_ (l_ k_ rfl rfl rfl j_) rfl (r_ rfl rfl (a_ (t_ 0 p_ rfl rfl rfl) rfl (r_ rfl rfl (a_ (l_ k_ rfl rfl rfl j_) rfl (r_ rfl rfl (a_ (t_ 2 p_ rfl rfl rfl) rfl (r_ rfl rfl (y_ (ao_ rfl rfl) rfl fun r53 hr53 => ?_)))))))))
                refine a_ (G_ rfl rfl) rfl (e_ (w_ rfl ?_))
                exact met ⟨rfl, rfl, rfl, rfl, rfl, rfl, rfl, rfl, rfl, (z_ rfl (jat qr52 hr53)), trivial⟩
              ·
               refine a_ (f_ rfl) rfl ?_
               refine aN_ 6 (((((Pc.s x1) == (Fc.r f)) && ((Fc.b x2) == (Fc.a f)))) && ((Fc.r x2) == (Pc.r x1))) (fun r => [(0, .slice pad (List.length p) pcap), (1, .slice lad (List.length l) lcap), (5, zp_ b1 0), (6, .slice none 0 0), (7, sv14), (8, .int .i64 (i : Int)), (9, zp_ b11 0), (10, .int .i64 (j : Int)), (11, zp_ b12 0), (147, .bool r)]) ?_ fun r54 hr54 => ?_
               ·
                cases r52
                ·
                 have qr54 := hr52
                 simp at hr52
                 refine s_ rfl rfl rfl rfl (s_ rfl rfl rfl rfl (s_ rfl rfl rfl rfl (s_ rfl rfl rfl rfl (s_ rfl rfl rfl rfl (a_ (A_ rfl rfl) rfl (e_ (w_ rfl ?_)))))))
                 exact met ⟨rfl, rfl, rfl, rfl, rfl, rfl, rfl, rfl, rfl, (z_ rfl (jaf qr54)), trivial⟩
                ·
                 have qr54 := hr52
                 simp at hr52
                 refine r_ rfl rfl (a_ (l_ k_ rfl rfl rfl j_) rfl (r_ rfl rfl (a_ (t_ 0 p_ rfl rfl rfl) rfl (r_ rfl rfl (a_ (l_ m_ rfl rfl rfl j_) rfl (r_ rfl rfl (a_ (t_ 1 p_ rfl rfl rfl) rfl (r_ rfl rfl (y_ (ao_ rfl rfl) rfl fun r55 hr55 => ?_)))))))))
                 refine a_ (G_ rfl rfl) rfl (e_ (w_ rfl ?_))
                 exact met ⟨rfl, rfl, rfl, rfl, rfl, rfl, rfl, rfl, rfl, (z_ rfl (jat qr54 hr55)), trivial⟩
               ·
                refine e_ (b_ rfl ?_)
                cases r54
                ·
                 simp at hr54
                 refine v_ rfl (F_ (b_ rfl (c_ (a_ (f_ rfl) rfl (a_ (M_ rfl rfl rfl (aj_ (by omega) (by omega))) rfl (a_ (g_ rfl) rfl (e_ (w_ rfl ?_))))))))
                 exact aa_ ⟨(j + 1, sv14, Hr14), hlx2, (by have q := hq14; rw [bi_ hx2, show (bT_ x1 f) x2 = [(au_ (Fc.a f) (Pc.t x1) (Fc.b x2))] from (by unfold bT_; rw [if_neg (by simp [*]), if_pos (by first | assumption | simpa using hr44 | simp [*]), if_neg (by first | assumption | simpa using hr54 | simp [*])]; try rfl)]; simpa only [List.append_assoc, List.append_nil] using q)⟩ (by dsimp only; omega) ⟨rfl, rfl, rfl, rfl, rfl, rfl, rfl, rfl, trivial⟩ (o_ (d_ i_) (o_ (d_ i_) Q_)) (fun _ _ h => h.2)
                ·
                 simp at hr54
                 refine u_ rfl (c_ (a_ (f_ rfl) rfl (a_ (l_ k_ rfl rfl rfl j_) rfl (a_ (t_ 0 p_ rfl rfl rfl) rfl (a_ (l_ m_ rfl rfl rfl j_) rfl (a_ (t_ 1 p_ rfl rfl rfl) rfl (a_ (l_ k_ rfl rfl rfl j_) rfl (a_ (t_ 2 p_ rfl rfl rfl) rfl (X_ (er_ (Fc.a x2) (Pc.t x1) (Fc.b f)) rfl J_ (fun _ _ _ => by exact trivial) rfl fun _ => ?_)))))))))
                 refine aO_ E_ B_ ah_ rfl rfl rfl rfl rfl rfl fun b15 => ?_
                 refine bE_ (List.flatMap Fc.cells [(au_ (Fc.a x2) (Pc.t x1) (Fc.b f))]) i_ rfl ?_
                 refine aM_ (news := List.flatMap Fc.cells [(au_ (Fc.a x2) (Pc.t x1) (Fc.b f))]) cg_ hq14 rfl rfl (fun q => by cases q) (by simp) (d_ (d_ Q_)) (by rw [bt_ Fc.cells 6 Fc.cells_len]; rfl) (fun v _ h => by exact h.1) (fun u hu => aR_ Fc.cells_one hu) (by simp only [maxLen]; ((try simp only [List.length_append, List.length_cons, List.length_nil]); omega)) (by ((try simp only [List.length_append, List.length_cons, List.length_nil]); omega)) rfl fun sv15 Hr15 hr15 => ?_
                 refine al_ List.perm_append_comm ?_
                 have hq15 : aQ_ 41 6 sv15 (List.length (((((([] : List Fc) ++ [(ak_ (Fc.a f) [33])]) ++ List.flatMap (bD_ l f) (List.take i p)) ++ List.flatMap (bT_ x1 f) (List.take j l)) ++ [(au_ (Fc.a f) (Pc.t x1) (Fc.b x2))]) ++ [(au_ (Fc.a x2) (Pc.t x1) (Fc.b f))])) (List.flatMap Fc.cells (((((([] : List Fc) ++ [(ak_ (Fc.a f) [33])]) ++ List.flatMap (bD_ l f) (List.take i p)) ++ List.flatMap (bT_ x1 f) (List.take j l)) ++ [(au_ (Fc.a f) (Pc.t x1) (Fc.b x2))]) ++ [(au_ (Fc.a x2) (Pc.t x1) (Fc.b f))])) Hr15 := by rw [List.length_append, List.flatMap_append]; exact hr15
                 refine a_ (g_ rfl) rfl (e_ (b_ rfl (c_ (a_ (f_ rfl) rfl (a_ (M_ rfl rfl rfl (aj_ (by omega) (by omega))) rfl (a_ (g_ rfl) rfl (e_ (w_ rfl ?_))))))))
                 exact aa_ ⟨(j + 1, sv15, Hr15), hlx2, (by have q := hq15; rw [bi_ hx2, show (bT_ x1 f) x2 = [(au_ (Fc.a f) (Pc.t x1) (Fc.b x2))] ++ [(au_ (Fc.a x2) (Pc.t x1) (Fc.b f))] from (by unfold bT_; rw [if_neg (by simp [*]), if_pos (by first | assumption | simpa using hr44 | simp [*]), if_pos (by first | assumption | simpa using hr54 | simp [*])]; try rfl)]; simpa only [List.append_assoc, List.append_nil] using q)⟩ (by dsimp only; omega) ⟨rfl, rfl, rfl, rfl, rfl, rfl, rfl, rfl, trivial⟩ (o_ (d_ i_) (o_ (d_ i_) Q_)) (fun _ _ h => h.2.2)
          ·
           replace hr40 := bn_ hr40
           refine u_ rfl (as_ rfl (b_ rfl (c_ (a_ (f_ rfl) rfl (a_ (M_ rfl rfl rfl (aj_ (by omega) (by omega))) rfl (a_ (g_ rfl) rfl (e_ (w_ rfl ?_))))))))
           exact aa_ ⟨(j + 1, sv_Rfc, H_Rfc), hlx2, (by have q := hr_Rfc; rw [bi_ hx2, show (bT_ x1 f) x2 = [] from (by unfold bT_; rw [if_pos (by assumption)])]; simpa only [List.append_assoc, List.append_nil] using q)⟩ (by dsimp only; omega) ⟨rfl, rfl, rfl, rfl, rfl, rfl, rfl, rfl, trivial⟩ (o_ (d_ i_) (o_ (d_ i_) Q_)) (fun _ _ h => h)
       ·
        simp at hr36
        refine u_ rfl (c_ (a_ (f_ rfl) rfl (a_ (l_ k_ rfl rfl rfl j_) rfl (a_ (t_ 1 p_ rfl rfl rfl) rfl (a_ (l_ m_ rfl rfl rfl j_) rfl (a_ (t_ 0 p_ rfl rfl rfl) rfl (X_ (dH_ (Fc.a f) (Pc.c x1)) rfl J_ (fun _ _ _ => by exact trivial) rfl fun _ => ?_)))))))
        refine aO_ E_ B_ ah_ rfl rfl rfl rfl rfl rfl fun b16 => ?_
        refine bE_ (List.flatMap Fc.cells [(ak_ (Fc.a f) (Pc.c x1))]) i_ rfl ?_
        refine aM_ (news := List.flatMap Fc.cells [(ak_ (Fc.a f) (Pc.c x1))]) cg_ hr_Rfc rfl rfl (fun q => by cases q) (by simp) (d_ Q_) (by rw [bt_ Fc.cells 6 Fc.cells_len]; rfl) (fun v _ h => by exact h.1) (fun u hu => aR_ Fc.cells_one hu) (by simp only [maxLen]; ((try simp only [List.length_append, List.length_cons, List.length_nil]); omega)) (by ((try simp only [List.length_append, List.length_cons, List.length_nil]); omega)) rfl fun sv16 Hr16 hr16 => ?_
        refine al_ List.perm_append_comm ?_
        have hq16 : aQ_ 41 6 sv16 (List.length (((([] : List Fc) ++ [(ak_ (Fc.a f) [33])]) ++ List.flatMap (bD_ l f) (List.take i p)) ++ [(ak_ (Fc.a f) (Pc.c x1))])) (List.flatMap Fc.cells (((([] : List Fc) ++ [(ak_ (Fc.a f) [33])]) ++ List.flatMap (bD_ l f) (List.take i p)) ++ [(ak_ (Fc.a f) (Pc.c x1))])) Hr16 := by rw [List.length_append, List.flatMap_append]; exact hr16
        refine a_ (g_ rfl) rfl (e_ (b_ rfl (c_ (a_ (f_ rfl) rfl (a_ (M_ rfl rfl rfl (aj_ (by omega) (by omega))) rfl (a_ (g_ rfl) rfl (e_ (w_ rfl ?_))))))))
        exact aa_ ⟨(i + 1, sv16, Hr16), hlx1, (by have q := hq16; rw [bi_ hx1, show (bD_ l f) x1 = [(ak_ (Fc.a f) (Pc.c x1))] from (by unfold bD_; rw [if_neg (by first | assumption | simpa using hr31 | simp [*]), if_pos (by first | assumption | simpa using hr36 | simp [*])])]; simpa only [List.append_assoc, List.append_nil] using q)⟩ (by dsimp only; omega) ⟨rfl, rfl, rfl, rfl, rfl, rfl, trivial⟩ (o_ (d_ i_) Q_) (fun _ _ h => h.2)
    ·
     simp at hr31
     refine u_ rfl (c_ (a_ (f_ rfl) rfl (a_ (l_ k_ rfl rfl rfl j_) rfl (a_ (t_ 1 p_ rfl rfl rfl) rfl (a_ (l_ m_ rfl rfl rfl j_) rfl (a_ (t_ 0 p_ rfl rfl rfl) rfl (a_ (l_ k_ rfl rfl rfl j_) rfl (a_ (t_ 1 p_ rfl rfl rfl) rfl (X_ (er_ (Fc.a f) (Pc.t x1) (Fc.b f)) rfl J_ (fun _ _ _ => by exact trivial) rfl fun _ => ?_)))))))))
     refine aO_ E_ B_ ah_ rfl rfl rfl rfl rfl rfl fun b17 => ?_
     refine bE_ (List.flatMap Fc.cells [(au_ (Fc.a f) (Pc.t x1) (Fc.b f))]) i_ rfl ?_
     refine aM_ (news := List.flatMap Fc.cells [(au_ (Fc.a f) (Pc.t x1) (Fc.b f))]) cg_ hr_Rfc rfl rfl (fun q => by cases q) (by simp) (d_ Q_) (by rw [bt_ Fc.cells 6 Fc.cells_len]; rfl) (fun v _ h => by exact h.1) (fun u hu => aR_ Fc.cells_one hu) (by simp only [maxLen]; ((try simp only [List.length_append, List.length_cons, List.length_nil]); omega)) (by ((try simp only [List.length_append, List.length_cons, List.length_nil]); omega)) rfl fun sv17 Hr17 hr17 => ?_
     refine al_ List.perm_append_comm ?_
     have hq17 : aQ_ 41 6 sv17 (List.length (((([] : List Fc) ++ [(ak_ (Fc.a f) [33])]) ++ List.flatMap (bD_ l f) (List.take i p)) ++ [(au_ (Fc.a f) (Pc.t x1) (Fc.b f))])) (List.flatMap Fc.cells (((([] : List Fc) ++ [(ak_ (Fc.a f) [33])]) ++ List.flatMap (bD_ l f) (List.take i p)) ++ [(au_ (Fc.a f) (Pc.t x1) (Fc.b f))])) Hr17 := by rw [List.length_append, List.flatMap_append]; exact hr17
     refine a_ (g_ rfl) rfl (e_ (b_ rfl (c_ (a_ (f_ rfl) rfl (a_ (M_ rfl rfl rfl (aj_ (by omega) (by omega))) rfl (a_ (g_ rfl) rfl (e_ (w_ rfl ?_))))))))
     exact aa_ ⟨(i + 1, sv17, Hr17), hlx1, (by have q := hq17; rw [bi_ hx1, show (bD_ l f) x1 = [(au_ (Fc.a f) (Pc.t x1) (Fc.b f))] from (by unfold bD_; rw [if_pos (by first | assumption | simpa using hr31 | simp [*])])]; simpa only [List.append_assoc, List.append_nil] using q)⟩ (by dsimp only; omega) ⟨rfl, rfl, rfl, rfl, rfl, rfl, trivial⟩ (o_ (d_ i_) Q_) (fun _ _ h => h.2)
theorem os_ (p : List Pc) (pad : Option Addr) (pcap : Nat) (l : List Fc) (lad : Option Addr) (lcap : Nat) (f : Fc) (hp : p.length ≤ 100) (hl : l.length ≤ 65536) (hs : Srt l) : Tri Tryz.prog 120 #[.slice pad (List.length p) pcap, .slice lad (List.length l) lcap, Fc.val f] [] [az_ pad (List.flatMap Pc.cells p), az_ lad (List.flatMap Fc.cells l)] (fun y : {y : Option Addr × Nat // ((gc_ p l f)).length ≤ y.2 ∧ y.2 ≤ maxLen ∧ (y.1 = none → y.2 = 0)} => .slice y.1.1 ((gc_ p l f)).length y.1.2) (fun _ => []) (fun y => [az_ y.1.1 (((gc_ p l f)).flatMap Fc.cells)]) := by
 refine T_ Tryz.func120 rfl rfl Tryz.ntmps120 rfl fun v0 => ?_
 refine h_ (c_ (bh_ rfl rfl fun b1 => ?_))
 refine a_ (g_ rfl) rfl (e_ (b_ rfl (h_ (c_ (dk_ E_ B_ rfl fun b2 => ?_)))))
 refine al_ i_ (a_ (g_ rfl) rfl (e_ (b_ rfl (h_ (al_ (cj_ aX_) (h_ (c_ (a_ (g_ rfl) rfl (e_ ?_)))))))))
 refine b_ rfl (N_ ?_)
 refine aB_ (ι := {y : Nat × Value × Hp // y.1 ≤ List.length l ∧ aQ_ 41 6 y.2.1 (List.length (List.flatMap (cn_ f) (List.take y.1 l))) (List.flatMap Fc.cells (List.flatMap (cn_ f) (List.take y.1 l))) y.2.2}) (fun y => [(0, .slice pad (List.length p) pcap), (1, .slice lad (List.length l) lcap), (5, zp_ b1 0), (6, .slice none 0 0), (7, y.1.2.1), (8, .int .i64 (y.1.1 : Int))]) (fun y => ((b1, .cells (Fc.cells f).toArray 41 (0, 0)) :: y.1.2.2)) (fun y => [az_ pad (List.flatMap Pc.cells p), az_ lad (List.flatMap Fc.cells l)]) (fun y => List.length l - y.1.1) ⟨((0 : Nat), (.slice (some ⟨b2, 0, none⟩) 0 0), [(b2, .cells #[] 41 (0, 0))]), by simp, (dX_ b2 41 6)⟩ ⟨rfl, rfl, rfl, rfl, rfl, rfl, trivial⟩ (o_ i_ aC_) (fun _ _ h => h) ?_
 rintro ⟨⟨j, sv_Rfc, H_Rfc⟩, hi_j, hr_Rfc⟩
 dsimp only at hi_j hr_Rfc ⊢
 have hb1 := cW_ (g := cn_ f) (n := 1) (List.take j l) (fun x _ => jj_ f x)
 rw [List.length_take] at hb1
 refine h_ (h_ (c_ (a_ (f_ rfl) rfl (a_ (f_ rfl) rfl (a_ (ar_ E_ rfl) rfl (y_ (ax_ rfl rfl) rfl fun r1 hr1 => ?_))))))
 refine e_ (b_ rfl ?_)
 cases r1
 ·
  replace hr1 := of_decide_eq_false hr1
  rw [show List.take j l = l from List.take_of_length_le (by omega)] at hr_Rfc
  refine v_ rfl (as_ rfl (b_ rfl (h_ (h_ (c_ (a_ (g_ rfl) rfl (e_ (b_ rfl (N_ ?_)))))))))
  have hw1 : aQ_ 41 6 sv_Rfc (List.length (List.flatMap (cn_ f) l ++ List.flatMap (cS_ f) (List.take 0 p))) (List.flatMap Fc.cells (List.flatMap (cn_ f) l ++ List.flatMap (cS_ f) (List.take 0 p))) H_Rfc := by have q := hr_Rfc; simpa only [List.take_zero, List.flatMap_nil, List.append_nil, List.length_nil] using q
  refine aB_ (ι := {y : Nat × Value × Hp // y.1 ≤ List.length p ∧ aQ_ 41 6 y.2.1 (List.length (List.flatMap (cn_ f) l ++ List.flatMap (cS_ f) (List.take y.1 p))) (List.flatMap Fc.cells (List.flatMap (cn_ f) l ++ List.flatMap (cS_ f) (List.take y.1 p))) y.2.2}) (fun y => [(0, .slice pad (List.length p) pcap), (1, .slice lad (List.length l) lcap), (5, zp_ b1 0), (6, .slice none 0 0), (7, y.1.2.1), (8, .int .i64 (j : Int)), (12, .int .i64 (y.1.1 : Int))]) (fun y => ((b1, .cells (Fc.cells f).toArray 41 (0, 0)) :: y.1.2.2)) (fun y => [az_ pad (List.flatMap Pc.cells p), az_ lad (List.flatMap Fc.cells l)]) (fun y => List.length p - y.1.1) ⟨((0 : Nat), sv_Rfc, H_Rfc), by simp, hw1⟩ ⟨rfl, rfl, rfl, rfl, rfl, rfl, rfl, trivial⟩ (o_ i_ aC_) (fun _ _ h => h) ?_
  rintro ⟨⟨i, sv_Rfc, H_Rfc⟩, hi_i, hr_Rfc⟩
  dsimp only at hi_i hr_Rfc ⊢
  have hb0 := cW_ (g := cn_ f) (n := 1) l (fun x _ => jj_ f x)
  have hb2 := cW_ (g := cS_ f) (n := 1) (List.take i p) (fun x _ => mF_ f x)
  rw [List.length_take] at hb2
  refine h_ (h_ (c_ (a_ (f_ rfl) rfl (a_ (f_ rfl) rfl (a_ (ar_ P_ rfl) rfl (y_ (ax_ rfl rfl) rfl fun r2 hr2 => ?_))))))
  refine e_ (b_ rfl ?_)
  cases r2
  ·
   replace hr2 := of_decide_eq_false hr2
   rw [show List.take i p = p from List.take_of_length_le (by omega)] at hr_Rfc
   refine v_ rfl (as_ rfl (b_ rfl (h_ (c_ (a_ (f_ rfl) rfl (a_ (g_ rfl) rfl (e_ (b_ rfl (H_ ?_)))))))))
   have hw2 : aQ_ 41 6 sv_Rfc (List.length (gc_ p l f)) (List.flatMap Fc.cells (gc_ p l f)) H_Rfc := by have q := hr_Rfc; exact q
   refine bw_ hw2 Q_ fun ad2 cp2 had2 hcad2 hmad2 hzad2 => ?_
   exact ap_ Tryz.results120 ⟨(ad2, cp2), hcad2, hmad2, hzad2⟩ (ca_ rfl had2) J_ (fun v _ h => ⟨h.1, trivial⟩)
  ·
   replace hr2 := of_decide_eq_true hr2
   have hlx1 : i < List.length p := by omega
   obtain ⟨x1, hx1⟩ : ∃ e0, p[i]? = some e0 := ⟨_, List.getElem?_eq_getElem hlx1⟩
   have hmx1 : x1 ∈ p := List.mem_of_getElem? hx1
   refine u_ rfl (F_ (b_ rfl (h_ (N_ (h_ ?_)))))
   refine aE_ (by kernel_rfl) ?_
   refine Z_ 29 [0, 1, 2, 3, 4, 5, 6] (by kernel_rfl) (fun _ a b => ⟨a, b⟩) (n_ rfl (f_ rfl) rfl (n_ rfl (f_ rfl) rfl (n_ rfl (ad_ P_ R_ rfl rfl (fun v _ h => av_ (n := 10) Pc.cells_len (by decide) (by exact h.1) hx1) (by omega) (by first | omega | (simp; done))) rfl (n_ rfl (bY_ m_ rfl rfl rfl I_) rfl (n_ rfl (aG_ (ad := pad) L_ rfl (fun v _ h => by exact h.1) (ag_ Pc.cells_len hx1 0 _ rfl)) rfl ?_)))))
   refine bX_ rfl (aD_ rfl rfl) rfl fun r3 hr3 => ?_
   refine n_ rfl (f_ rfl) rfl (Y_ ?_)
   cases r3
   ·
    replace hr3 := ne_of_beq_false hr3
    refine Z_ 0 [7, 8, 9, 10, 11, 12, 13, 14, 15, 16, 17, 18, 19, 20, 21, 22, 23, 24, 25, 26, 27, 28, 29, 30, 31, 32, 33, 34, 35] (by kernel_rfl) (fun _ a b => ⟨a, b⟩) (ac_ rfl rfl rfl rfl rfl (ac_ rfl rfl rfl rfl rfl (ac_ rfl rfl rfl rfl rfl (ac_ rfl rfl rfl rfl rfl (ac_ rfl rfl rfl rfl rfl (ac_ rfl rfl rfl rfl rfl (ac_ rfl rfl rfl rfl rfl (ac_ rfl rfl rfl rfl rfl (n_ rfl (A_ rfl rfl) rfl ?_)))))))))
    refine n_ rfl (f_ rfl) rfl (ac_ rfl rfl rfl rfl rfl (ac_ rfl rfl rfl rfl rfl (ac_ rfl rfl rfl rfl rfl (ac_ rfl rfl rfl rfl rfl (ac_ rfl rfl rfl rfl rfl (ac_ rfl rfl rfl rfl rfl (ac_ rfl rfl rfl rfl rfl (ac_ rfl rfl rfl rfl rfl (n_ rfl (A_ rfl rfl) rfl ?_)))))))))
    refine n_ rfl (f_ rfl) rfl (ac_ rfl rfl rfl rfl rfl (ac_ rfl rfl rfl rfl rfl (ac_ rfl rfl rfl rfl rfl (ac_ rfl rfl rfl rfl rfl (ac_ rfl rfl rfl rfl rfl (ac_ rfl rfl rfl rfl rfl (ac_ rfl rfl rfl rfl rfl (ac_ rfl rfl rfl rfl rfl (n_ rfl (A_ rfl rfl) rfl ?_)))))))))
    refine Y_ (ab_ (by kernel_rfl) (b_ rfl (v_ rfl (F_ (b_ rfl (c_ (a_ (f_ rfl) rfl (a_ (M_ rfl rfl rfl (aj_ (by omega) (by omega))) rfl (a_ (g_ rfl) rfl ?_)))))))))
    refine e_ (w_ rfl ?_)
    exact aa_ ⟨(i + 1, sv_Rfc, H_Rfc), hlx1, (by have q := hr_Rfc; rw [bi_ hx1, show (cS_ f) x1 = [] from (by unfold cS_; rw [if_neg (fun q => by first | exact absurd q.1 (by assumption) | exact absurd q.2.1 (by assumption) | exact absurd q.2.2.1 (by assumption) | exact absurd q.2.2.2 (by assumption))])]; simpa only [List.append_assoc, List.append_nil] using q)⟩ (by dsimp only; omega) ⟨rfl, rfl, rfl, rfl, rfl, rfl, rfl, trivial⟩ (o_ i_ aC_) (fun _ _ h => h)
   ·
    replace hr3 := eq_of_beq hr3
    refine Z_ 19 [7, 8, 9, 10, 11, 12, 13, 14, 15, 16] (by kernel_rfl) (fun _ a b => ⟨a, b⟩) (W_ rfl rfl rfl (f_ rfl) rfl (W_ rfl rfl rfl (f_ rfl) rfl (W_ rfl rfl rfl (ad_ P_ R_ rfl rfl (fun v _ h => av_ (n := 10) Pc.cells_len (by decide) (by exact h.1) hx1) (by omega) (by first | omega | (simp; done))) rfl (W_ rfl rfl rfl (bY_ m_ rfl rfl rfl j_) rfl (W_ rfl rfl rfl (aG_ (ad := pad) p_ rfl (fun v _ h => by exact h.1) (ag_ Pc.cells_len hx1 4 _ rfl)) rfl (W_ rfl rfl rfl (l_ k_ rfl rfl rfl j_) rfl (W_ rfl rfl rfl (t_ 0 p_ rfl rfl rfl) rfl ?_)))))))
    refine bQ_ rfl rfl rfl (ao_ rfl rfl) rfl fun r4 hr4 => ?_
    refine n_ rfl (G_ rfl rfl) rfl (n_ rfl (f_ rfl) rfl (Y_ ?_))
    cases r4
    ·
     replace hr4 := ne_of_beq_false hr4
     refine Z_ 0 [17, 18, 19, 20, 21, 22, 23, 24, 25, 26, 27, 28, 29, 30, 31, 32, 33, 34, 35] (by kernel_rfl) (fun _ a b => ⟨a, b⟩) (ac_ rfl rfl rfl rfl rfl (ac_ rfl rfl rfl rfl rfl (ac_ rfl rfl rfl rfl rfl (ac_ rfl rfl rfl rfl rfl (ac_ rfl rfl rfl rfl rfl (ac_ rfl rfl rfl rfl rfl (ac_ rfl rfl rfl rfl rfl (ac_ rfl rfl rfl rfl rfl (n_ rfl (A_ rfl rfl) rfl ?_)))))))))
     refine n_ rfl (f_ rfl) rfl (ac_ rfl rfl rfl rfl rfl (ac_ rfl rfl rfl rfl rfl (ac_ rfl rfl rfl rfl rfl (ac_ rfl rfl rfl rfl rfl (ac_ rfl rfl rfl rfl rfl (ac_ rfl rfl rfl rfl rfl (ac_ rfl rfl rfl rfl rfl (ac_ rfl rfl rfl rfl rfl (n_ rfl (A_ rfl rfl) rfl ?_)))))))))
     refine Y_ (ab_ (by kernel_rfl) (b_ rfl (v_ rfl (F_ (b_ rfl (c_ (a_ (f_ rfl) rfl (a_ (M_ rfl rfl rfl (aj_ (by omega) (by omega))) rfl (a_ (g_ rfl) rfl ?_)))))))))
     refine e_ (w_ rfl ?_)
     exact aa_ ⟨(i + 1, sv_Rfc, H_Rfc), hlx1, (by have q := hr_Rfc; rw [bi_ hx1, show (cS_ f) x1 = [] from (by unfold cS_; rw [if_neg (fun q => by first | exact absurd q.1 (by assumption) | exact absurd q.2.1 (by assumption) | exact absurd q.2.2.1 (by assumption) | exact absurd q.2.2.2 (by assumption))])]; simpa only [List.append_assoc, List.append_nil] using q)⟩ (by dsimp only; omega) ⟨rfl, rfl, rfl, rfl, rfl, rfl, rfl, trivial⟩ (o_ i_ aC_) (fun _ _ h => h)
    ·
     replace hr4 := eq_of_beq hr4
     refine Z_ 9 [17, 18, 19, 20, 21, 22, 23, 24, 25, 26] (by kernel_rfl) (fun _ a b => ⟨a, b⟩) (W_ rfl rfl rfl (f_ rfl) rfl (W_ rfl rfl rfl (f_ rfl) rfl (W_ rfl rfl rfl (ad_ P_ R_ rfl rfl (fun v _ h => av_ (n := 10) Pc.cells_len (by decide) (by exact h.1) hx1) (by omega) (by first | omega | (simp; done))) rfl (W_ rfl rfl rfl (bY_ m_ rfl rfl rfl I_) rfl (W_ rfl rfl rfl (aG_ (ad := pad) L_ rfl (fun v _ h => by exact h.1) (ag_ Pc.cells_len hx1 7 _ rfl)) rfl (W_ rfl rfl rfl (l_ k_ rfl rfl rfl I_) rfl (W_ rfl rfl rfl (t_ 0 L_ rfl rfl rfl) rfl ?_)))))))
     refine bQ_ rfl rfl rfl (bM_ rfl rfl) rfl fun r5 hr5 => ?_
     refine n_ rfl (G_ rfl rfl) rfl (n_ rfl (f_ rfl) rfl (Y_ ?_))
     cases r5
     ·
      replace hr5 := of_decide_eq_false hr5
      refine Z_ 0 [27, 28, 29, 30, 31, 32, 33, 34, 35] (by kernel_rfl) (fun _ a b => ⟨a, b⟩) (ac_ rfl rfl rfl rfl rfl (ac_ rfl rfl rfl rfl rfl (ac_ rfl rfl rfl rfl rfl (ac_ rfl rfl rfl rfl rfl (ac_ rfl rfl rfl rfl rfl (ac_ rfl rfl rfl rfl rfl (ac_ rfl rfl rfl rfl rfl (ac_ rfl rfl rfl rfl rfl (n_ rfl (A_ rfl rfl) rfl ?_)))))))))
      refine Y_ (ab_ (by kernel_rfl) (b_ rfl (v_ rfl (F_ (b_ rfl (c_ (a_ (f_ rfl) rfl (a_ (M_ rfl rfl rfl (aj_ (by omega) (by omega))) rfl (a_ (g_ rfl) rfl ?_)))))))))
      refine e_ (w_ rfl ?_)
      exact aa_ ⟨(i + 1, sv_Rfc, H_Rfc), hlx1, (by have q := hr_Rfc; rw [bi_ hx1, show (cS_ f) x1 = [] from (by unfold cS_; rw [if_neg (fun q => by first | exact absurd q.1 (by assumption) | exact absurd q.2.1 (by assumption) | exact absurd q.2.2.1 (by assumption) | exact absurd q.2.2.2 (by assumption))])]; simpa only [List.append_assoc, List.append_nil] using q)⟩ (by dsimp only; omega) ⟨rfl, rfl, rfl, rfl, rfl, rfl, rfl, trivial⟩ (o_ i_ aC_) (fun _ _ h => h)
     ·
      replace hr5 := of_decide_eq_true hr5
      refine Z_ 0 [27, 28, 29, 30, 31, 32, 33, 34, 35] (by kernel_rfl) (fun _ a b => ⟨a, b⟩) (W_ rfl rfl rfl (l_ k_ rfl rfl rfl I_) rfl (W_ rfl rfl rfl (t_ 0 L_ rfl rfl rfl) rfl (W_ rfl rfl rfl (f_ rfl) rfl (W_ rfl rfl rfl (f_ rfl) rfl (W_ rfl rfl rfl (ad_ P_ R_ rfl rfl (fun v _ h => av_ (n := 10) Pc.cells_len (by decide) (by exact h.1) hx1) (by omega) (by first | omega | (simp; done))) rfl (W_ rfl rfl rfl (bY_ m_ rfl rfl rfl I_) rfl (W_ rfl rfl rfl (aG_ (ad := pad) L_ rfl (fun v _ h => by exact h.1) (ag_ Pc.cells_len hx1 8 _ rfl)) rfl ?_)))))))
      refine bQ_ rfl rfl rfl (bM_ rfl rfl) rfl fun r6 hr6 => ?_
      refine n_ rfl (G_ rfl rfl) rfl (Y_ (ab_ (by kernel_rfl) (b_ rfl ?_)))
      cases r6
      ·
       replace hr6 := of_decide_eq_false hr6
       refine v_ rfl (F_ (b_ rfl (c_ (a_ (f_ rfl) rfl (a_ (M_ rfl rfl rfl (aj_ (by omega) (by omega))) rfl (a_ (g_ rfl) rfl (e_ (w_ rfl ?_))))))))
       exact aa_ ⟨(i + 1, sv_Rfc, H_Rfc), hlx1, (by have q := hr_Rfc; rw [bi_ hx1, show (cS_ f) x1 = [] from (by unfold cS_; rw [if_neg (fun q => by first | exact absurd q.1 (by assumption) | exact absurd q.2.1 (by assumption) | exact absurd q.2.2.1 (by assumption) | exact absurd q.2.2.2 (by assumption))])]; simpa only [List.append_assoc, List.append_nil] using q)⟩ (by dsimp only; omega) ⟨rfl, rfl, rfl, rfl, rfl, rfl, rfl, trivial⟩ (o_ i_ aC_) (fun _ _ h => h)
      ·
       replace hr6 := of_decide_eq_true hr6
       refine u_ rfl ?_
       refine aP_ ((b1, .cells (Fc.cells f).toArray 41 (0, 0)) :: []) (by kernel_rfl) ?_
       refine Z_ 4 [0, 1, 2, 3, 4, 5, 6, 7] (by kernel_rfl) (fun _ a b => ⟨Vw.sat.sub (a.perm i_), b⟩) (n_ rfl (f_ rfl) rfl (n_ rfl (l_ k_ rfl rfl rfl j_) rfl (n_ rfl (t_ 0 p_ rfl rfl rfl) rfl (n_ rfl (f_ rfl) rfl (n_ rfl (f_ rfl) rfl (n_ rfl (ad_ P_ R_ rfl rfl (fun v _ h => av_ (n := 10) Pc.cells_len (by decide) (by exact h.1) hx1) (by omega) (by first | omega | (simp; done))) rfl (n_ rfl (bY_ m_ rfl rfl rfl j_) rfl (n_ rfl (aG_ (ad := pad) p_ rfl (fun v _ h => by exact h.1) (ag_ Pc.cells_len hx1 3 _ rfl)) rfl (Y_ ?_)))))))))
       refine U_ 8 rfl (by kernel_rfl) (X_ (dH_ (Fc.a f) (Pc.c x1)) rfl J_ (fun _ _ _ => by exact trivial) rfl fun _ => ?_)
       refine e_ (w_ rfl (O_ (fun _ a b => ⟨Vw.sat.sub (a.perm i_), b⟩) (U_ 9 rfl (by kernel_rfl) (aO_ E_ B_ ah_ rfl rfl rfl rfl rfl rfl fun b3 => ?_))))
       refine bE_ (List.flatMap Fc.cells [(ak_ (Fc.a f) (Pc.c x1))]) i_ rfl ?_
       refine e_ (w_ rfl (O_ (fun _ a b => ⟨Vw.sat.sub (a.perm i_), b.2⟩) (U_ 10 rfl (by kernel_rfl) (aM_ (news := List.flatMap Fc.cells [(ak_ (Fc.a f) (Pc.c x1))]) cg_ hr_Rfc rfl rfl (fun q => by cases q) (by simp) Q_ (by rw [bt_ Fc.cells 6 Fc.cells_len]; rfl) (fun v _ h => by exact h.1) (fun u hu => aR_ Fc.cells_one hu) (by simp only [maxLen]; ((try simp only [List.length_append, List.length_cons, List.length_nil]); omega)) (by ((try simp only [List.length_append, List.length_cons, List.length_nil]); omega)) rfl fun sv3 Hr3 hr3 => ?_))))
       refine al_ List.perm_append_comm ?_
       have hq3 : aQ_ 41 6 sv3 (List.length ((List.flatMap (cn_ f) l ++ List.flatMap (cS_ f) (List.take i p)) ++ [(ak_ (Fc.a f) (Pc.c x1))])) (List.flatMap Fc.cells ((List.flatMap (cn_ f) l ++ List.flatMap (cS_ f) (List.take i p)) ++ [(ak_ (Fc.a f) (Pc.c x1))])) Hr3 := by rw [List.length_append, List.flatMap_append]; exact hr3
       refine e_ (w_ rfl (O_ (fun _ a b => ⟨Vw.sat.sub (a.perm i_), b.2⟩) (Z_ 0 [11] (by kernel_rfl) (fun _ a b => ⟨Vw.sat.sub (a.perm i_), b.2⟩) (n_ rfl (g_ rfl) rfl (Y_ (ab_ (by kernel_rfl) (b_ rfl (c_ (a_ (f_ rfl) rfl ?_)))))))))
       refine a_ (M_ rfl rfl rfl (aj_ (by omega) (by omega))) rfl (a_ (g_ rfl) rfl (e_ (w_ rfl ?_)))
       exact aa_ ⟨(i + 1, sv3, Hr3), hlx1, (by have q := hq3; rw [bi_ hx1, show (cS_ f) x1 = [(ak_ (Fc.a f) (Pc.c x1))] from (by unfold cS_; rw [if_pos ⟨by assumption, by assumption, by assumption, by assumption⟩])]; simpa only [List.append_assoc, List.append_nil] using q)⟩ (by dsimp only; omega) ⟨rfl, rfl, rfl, rfl, rfl, rfl, rfl, trivial⟩ (o_ i_ aC_) (fun _ _ h => h.2)
 ·
  replace hr1 := of_decide_eq_true hr1
  have hlx2 : j < List.length l := by omega
  obtain ⟨x2, hx2⟩ : ∃ e0, l[j]? = some e0 := ⟨_, List.getElem?_eq_getElem hlx2⟩
  have hmx2 : x2 ∈ l := List.mem_of_getElem? hx2
  refine u_ rfl (F_ (b_ rfl (h_ (N_ (h_ (c_ (a_ (f_ rfl) rfl (a_ (f_ rfl) rfl (a_ (ad_ E_ B_ rfl rfl (fun v _ h => av_ (n := 6) Fc.cells_len (by decide) (by exact h.2.1) hx2) (by omega) (by first | omega | (simp; done))) rfl ?_)))))))))
  refine a_ (aJ_ (ad := lad) (us := Fc.cells x2) V_ B_ rfl (fun v _ h => by exact h.2.1) (Fc.cells_len _) (ag_ Fc.cells_len hx2)) rfl (ay_ ah_ rfl fun b4 => ?_)
  refine af_ 0 B_ rfl rfl rfl rfl rfl rfl (e_ (b_ rfl (h_ (h_ (c_ (a_ (l_ k_ rfl rfl rfl I_) rfl (a_ (t_ 0 L_ rfl rfl rfl) rfl (y_ (cE_ rfl rfl) rfl fun r7 hr7 => ?_))))))))
  refine a_ (f_ rfl) rfl ?_
  cases r7
  ·
   replace hr7 := bo_ hr7
   refine r_ rfl rfl (a_ (l_ k_ rfl rfl rfl j_) rfl (r_ rfl rfl (a_ (t_ 0 p_ rfl rfl rfl) rfl (r_ rfl rfl (a_ (l_ k_ rfl rfl rfl j_) rfl (r_ rfl rfl (a_ (t_ 1 p_ rfl rfl rfl) rfl (r_ rfl rfl (y_ (dn_ rfl rfl) rfl fun r8 hr8 => ?_)))))))))
   refine a_ (A_ rfl rfl) rfl (a_ (f_ rfl) rfl ?_)
   cases r8
   ·
    replace hr8 := bo_ hr8
    refine r_ rfl rfl (a_ (l_ k_ rfl rfl rfl j_) rfl (r_ rfl rfl (a_ (t_ 0 p_ rfl rfl rfl) rfl (r_ rfl rfl (a_ (l_ k_ rfl rfl rfl j_) rfl (r_ rfl rfl (a_ (t_ 1 p_ rfl rfl rfl) rfl (r_ rfl rfl (y_ (dn_ rfl rfl) rfl fun r9 hr9 => ?_)))))))))
    refine a_ (A_ rfl rfl) rfl (e_ (b_ rfl ?_))
    cases r9
    ·
     replace hr9 := bo_ hr9
     refine v_ rfl (F_ (b_ rfl (h_ (c_ (a_ (l_ k_ rfl rfl rfl I_) rfl (a_ (t_ 1 L_ rfl rfl rfl) rfl (a_ (l_ k_ rfl rfl rfl I_) rfl (a_ (t_ 0 L_ rfl rfl rfl) rfl (a_ (hD_ rfl rfl) rfl ?_)))))))))
     refine a_ (g_ rfl) rfl (e_ (b_ rfl (h_ (c_ (a_ (l_ k_ rfl rfl rfl I_) rfl (a_ (t_ 1 L_ rfl rfl rfl) rfl (a_ (l_ k_ rfl rfl rfl I_) rfl (a_ (t_ 0 L_ rfl rfl rfl) rfl (a_ (gt_ rfl rfl) rfl ?_)))))))))
     refine a_ (g_ rfl) rfl (e_ (b_ rfl (h_ (c_ (a_ (f_ rfl) rfl (a_ (f_ rfl) rfl (y_ (bM_ rfl rfl) rfl fun r10 hr10 => ?_)))))))
     refine e_ (b_ rfl ?_)
     cases r10
     ·
      replace hr10 := of_decide_eq_false hr10
      refine v_ rfl (c_ (a_ (f_ rfl) rfl (a_ (l_ k_ rfl rfl rfl j_) rfl (a_ (t_ 1 p_ rfl rfl rfl) rfl (X_ (dH_ (Fc.a f) [33]) rfl J_ (fun _ _ _ => by exact trivial) rfl fun _ => ?_)))))
      refine aO_ E_ B_ ah_ rfl rfl rfl rfl rfl rfl fun b5 => ?_
      refine bE_ (List.flatMap Fc.cells [(ak_ (Fc.a f) [33])]) i_ rfl ?_
      refine aM_ (news := List.flatMap Fc.cells [(ak_ (Fc.a f) [33])]) cg_ hr_Rfc rfl rfl (fun q => by cases q) (by simp) (d_ Q_) (by rw [bt_ Fc.cells 6 Fc.cells_len]; rfl) (fun v _ h => by exact h.1) (fun u hu => aR_ Fc.cells_one hu) (by simp only [maxLen]; ((try simp only [List.length_append, List.length_cons, List.length_nil]); omega)) (by ((try simp only [List.length_append, List.length_cons, List.length_nil]); omega)) rfl fun sv4 Hr4 hr4 => ?_
      refine al_ List.perm_append_comm ?_
      have hq4 : aQ_ 41 6 sv4 (List.length ((List.flatMap (cn_ f) (List.take j l)) ++ [(ak_ (Fc.a f) [33])])) (List.flatMap Fc.cells ((List.flatMap (cn_ f) (List.take j l)) ++ [(ak_ (Fc.a f) [33])])) Hr4 := by rw [List.length_append, List.flatMap_append]; exact hr4
      refine a_ (g_ rfl) rfl (e_ (b_ rfl (c_ (a_ (f_ rfl) rfl (a_ (M_ rfl rfl rfl (aj_ (by omega) (by omega))) rfl (a_ (g_ rfl) rfl (e_ (w_ rfl ?_))))))))
      exact aa_ ⟨(j + 1, sv4, Hr4), hlx2, (by have q := hq4; rw [bi_ hx2, show (cn_ f) x2 = [(ak_ (Fc.a f) [33])] from (by unfold cn_; rw [if_neg (by simp [*]), if_neg (by assumption)])]; simpa only [List.append_assoc, List.append_nil] using q)⟩ (by dsimp only; omega) ⟨rfl, rfl, rfl, rfl, rfl, rfl, trivial⟩ (o_ (d_ i_) Q_) (fun _ _ h => h.2)
     ·
      replace hr10 := of_decide_eq_true hr10
      refine u_ rfl (c_ (a_ (f_ rfl) rfl (a_ (l_ k_ rfl rfl rfl j_) rfl (a_ (t_ 1 p_ rfl rfl rfl) rfl (a_ (l_ k_ rfl rfl rfl j_) rfl (a_ (t_ 1 p_ rfl rfl rfl) rfl (a_ (f_ rfl) rfl (a_ (f_ rfl) rfl (X_ (nn_ (Fc.a f) (Fc.r f) (max (Fc.lo f) (Fc.lo x2)) (min (Fc.hi f) (Fc.hi x2))) rfl J_ (fun _ _ _ => by exact trivial) rfl fun _ => ?_)))))))))
      refine aO_ E_ B_ ah_ rfl rfl rfl rfl rfl rfl fun b6 => ?_
      refine bE_ (List.flatMap Fc.cells [(aF_ (Fc.a f) (Fc.r f) (max (Fc.lo f) (Fc.lo x2)) (min (Fc.hi f) (Fc.hi x2)))]) i_ rfl ?_
      refine aM_ (news := List.flatMap Fc.cells [(aF_ (Fc.a f) (Fc.r f) (max (Fc.lo f) (Fc.lo x2)) (min (Fc.hi f) (Fc.hi x2)))]) cg_ hr_Rfc rfl rfl (fun q => by cases q) (by simp) (d_ Q_) (by rw [bt_ Fc.cells 6 Fc.cells_len]; rfl) (fun v _ h => by exact h.1) (fun u hu => aR_ Fc.cells_one hu) (by simp only [maxLen]; ((try simp only [List.length_append, List.length_cons, List.length_nil]); omega)) (by ((try simp only [List.length_append, List.length_cons, List.length_nil]); omega)) rfl fun sv5 Hr5 hr5 => ?_
      refine al_ List.perm_append_comm ?_
      have hq5 : aQ_ 41 6 sv5 (List.length ((List.flatMap (cn_ f) (List.take j l)) ++ [(aF_ (Fc.a f) (Fc.r f) (max (Fc.lo f) (Fc.lo x2)) (min (Fc.hi f) (Fc.hi x2)))])) (List.flatMap Fc.cells ((List.flatMap (cn_ f) (List.take j l)) ++ [(aF_ (Fc.a f) (Fc.r f) (max (Fc.lo f) (Fc.lo x2)) (min (Fc.hi f) (Fc.hi x2)))])) Hr5 := by rw [List.length_append, List.flatMap_append]; exact hr5
      refine a_ (g_ rfl) rfl (e_ (b_ rfl (c_ (a_ (f_ rfl) rfl (a_ (M_ rfl rfl rfl (aj_ (by omega) (by omega))) rfl (a_ (g_ rfl) rfl (e_ (w_ rfl ?_))))))))
      exact aa_ ⟨(j + 1, sv5, Hr5), hlx2, (by have q := hq5; rw [bi_ hx2, show (cn_ f) x2 = [(aF_ (Fc.a f) (Fc.r f) (max (Fc.lo f) (Fc.lo x2)) (min (Fc.hi f) (Fc.hi x2)))] from (by unfold cn_; rw [if_neg (by simp [*]), if_pos (by assumption)]; try rfl)]; simpa only [List.append_assoc, List.append_nil] using q)⟩ (by dsimp only; omega) ⟨rfl, rfl, rfl, rfl, rfl, rfl, trivial⟩ (o_ (d_ i_) Q_) (fun _ _ h => h.2)
    ·
     replace hr9 := bn_ hr9
     refine u_ rfl (as_ rfl (b_ rfl (c_ (a_ (f_ rfl) rfl (a_ (M_ rfl rfl rfl (aj_ (by omega) (by omega))) rfl (a_ (g_ rfl) rfl (e_ (w_ rfl ?_))))))))
     exact aa_ ⟨(j + 1, sv_Rfc, H_Rfc), hlx2, (by have q := hr_Rfc; rw [bi_ hx2, show (cn_ f) x2 = [] from (by unfold cn_; rw [if_pos (by simp [*])])]; simpa only [List.append_assoc, List.append_nil] using q)⟩ (by dsimp only; omega) ⟨rfl, rfl, rfl, rfl, rfl, rfl, trivial⟩ (o_ (d_ i_) Q_) (fun _ _ h => h)
   ·
    replace hr8 := bn_ hr8
    refine s_ rfl rfl rfl rfl (s_ rfl rfl rfl rfl (s_ rfl rfl rfl rfl (s_ rfl rfl rfl rfl (s_ rfl rfl rfl rfl (a_ (G_ rfl rfl) rfl (e_ (b_ rfl (u_ rfl (as_ rfl ?_)))))))))
    refine b_ rfl (c_ (a_ (f_ rfl) rfl (a_ (M_ rfl rfl rfl (aj_ (by omega) (by omega))) rfl (a_ (g_ rfl) rfl (e_ (w_ rfl ?_))))))
    exact aa_ ⟨(j + 1, sv_Rfc, H_Rfc), hlx2, (by have q := hr_Rfc; rw [bi_ hx2, show (cn_ f) x2 = [] from (by unfold cn_; rw [if_pos (by simp [*])])]; simpa only [List.append_assoc, List.append_nil] using q)⟩ (by dsimp only; omega) ⟨rfl, rfl, rfl, rfl, rfl, rfl, trivial⟩ (o_ (d_ i_) Q_) (fun _ _ h => h)
  ·
   replace hr7 := bn_ hr7
   refine s_ rfl rfl rfl rfl (s_ rfl rfl rfl rfl (s_ rfl rfl rfl rfl (s_ rfl rfl rfl rfl (s_ rfl rfl rfl rfl (a_ (G_ rfl rfl) rfl (a_ (f_ rfl) rfl (s_ rfl rfl rfl rfl (s_ rfl rfl rfl rfl (s_ rfl rfl rfl rfl ?_)))))))))
   refine s_ rfl rfl rfl rfl (s_ rfl rfl rfl rfl (a_ (G_ rfl rfl) rfl (e_ (b_ rfl (u_ rfl (as_ rfl (b_ rfl (c_ (a_ (f_ rfl) rfl ?_)))))))))
   refine a_ (M_ rfl rfl rfl (aj_ (by omega) (by omega))) rfl (a_ (g_ rfl) rfl (e_ (w_ rfl ?_)))
   exact aa_ ⟨(j + 1, sv_Rfc, H_Rfc), hlx2, (by have q := hr_Rfc; rw [bi_ hx2, show (cn_ f) x2 = [] from (by unfold cn_; rw [if_pos (by simp [*])])]; simpa only [List.append_assoc, List.append_nil] using q)⟩ (by dsimp only; omega) ⟨rfl, rfl, rfl, rfl, rfl, rfl, trivial⟩ (o_ (d_ i_) Q_) (fun _ _ h => h)
theorem step_c (p : List Pc) (pad : Option Addr) (pcap : Nat) (l : List Fc) (lad : Option Addr) (lcap : Nat) (f : Fc) (hp : p.length ≤ 100) (hl : l.length ≤ 65536) (hs : Srt l) : Tri Tryz.prog 65 #[.slice pad (List.length p) pcap, .slice lad (List.length l) lcap, Fc.val f] [] [az_ pad (List.flatMap Pc.cells p), az_ lad (List.flatMap Fc.cells l)] (fun y : {y : Option Addr × Nat // ((cc_ p l f)).length ≤ y.2 ∧ y.2 ≤ maxLen ∧ (y.1 = none → y.2 = 0)} => .slice y.1.1 ((cc_ p l f)).length y.1.2) (fun _ => []) (fun y => [az_ y.1.1 (((cc_ p l f)).flatMap Fc.cells)]) := by
  refine T_ Tryz.func65 rfl rfl Tryz.ntmps65 rfl fun v0 => ?_
  refine h_ (c_ (bh_ rfl rfl fun b1 => ?_))
  refine a_ (g_ rfl) rfl (e_ (b_ rfl (h_ (h_ (c_ (a_ (l_ k_ rfl rfl rfl I_) rfl (a_ (t_ 0 L_ rfl rfl rfl) rfl (e_ (b_ rfl ?_)))))))))
  refine N_ (h_ (c_ (y_ (aD_ rfl rfl) rfl fun r1 hr1 => ?_)))
  refine a_ (g_ rfl) rfl (e_ (b_ rfl ?_))
  cases r1
  · skip
    replace hr1 := ne_of_beq_false hr1
    refine v_ rfl (h_ (c_ (y_ (aD_ rfl rfl) rfl fun r2 hr2 => ?_)))
    refine a_ (g_ rfl) rfl (e_ (b_ rfl ?_))
    cases r2
    · skip
      replace hr2 := ne_of_beq_false hr2
      refine v_ rfl (F_ (b_ rfl (h_ (c_ (a_ (f_ rfl) rfl (a_ (f_ rfl) rfl (a_ (ae_ 0 V_ B_ rfl rfl rfl) rfl (X_ (os_ p pad pcap l lad lcap f hp hl hs) rfl J_ (fun v _ h => by exact ⟨h.1, h.2.1, trivial⟩) rfl fun ⟨⟨sad1, scap1⟩, hsc⟩ => ?_))))))))
      dsimp only
      dsimp only at hsc
      refine a_ (g_ rfl) rfl (e_ (b_ rfl (H_ ?_)))
      have e0 : cc_ p l f = (gc_ p l f) := by unfold cc_; rw [if_neg (by omega), if_neg (by omega)]
      rw [← e0] at hsc
      exact ap_ Tryz.results65 ⟨(sad1, scap1), hsc⟩ (ca_ rfl (by dsimp only; rw [e0])) J_ (fun v _ h => ⟨by show bl_ v sad1 (List.flatMap Fc.cells (cc_ p l f)); rw [e0]; exact h.1, trivial⟩)
    · skip
      replace hr2 := eq_of_beq hr2
      refine u_ rfl (h_ (c_ (a_ (f_ rfl) rfl (a_ (f_ rfl) rfl (a_ (ae_ 0 V_ B_ rfl rfl rfl) rfl (X_ (pB_ p pad pcap l lad lcap f hp hl hs) rfl J_ (fun v _ h => by exact ⟨h.1, h.2.1, trivial⟩) rfl fun ⟨⟨sad1, scap1⟩, hsc⟩ => ?_))))))
      dsimp only
      dsimp only at hsc
      refine a_ (g_ rfl) rfl (e_ (b_ rfl (H_ ?_)))
      have e0 : cc_ p l f = (fJ_ p l f) := by unfold cc_; rw [if_neg (by omega), if_pos (by assumption)]
      rw [← e0] at hsc
      exact ap_ Tryz.results65 ⟨(sad1, scap1), hsc⟩ (ca_ rfl (by dsimp only; rw [e0])) J_ (fun v _ h => ⟨by show bl_ v sad1 (List.flatMap Fc.cells (cc_ p l f)); rw [e0]; exact h.1, trivial⟩)
  · skip
    replace hr1 := eq_of_beq hr1
    refine u_ rfl (h_ (c_ (a_ (f_ rfl) rfl (a_ (f_ rfl) rfl (a_ (ae_ 0 V_ B_ rfl rfl rfl) rfl (X_ (qF_ p pad pcap l lad lcap f hp hl hs) rfl J_ (fun v _ h => by exact ⟨h.1, h.2.1, trivial⟩) rfl fun ⟨⟨sad1, scap1⟩, hsc⟩ => ?_))))))
    dsimp only
    dsimp only at hsc
    refine a_ (g_ rfl) rfl (e_ (b_ rfl (H_ ?_)))
    have e0 : cc_ p l f = (kD_ p l f) := by unfold cc_; rw [if_pos (by assumption)]
    rw [← e0] at hsc
    exact ap_ Tryz.results65 ⟨(sad1, scap1), hsc⟩ (ca_ rfl (by dsimp only; rw [e0])) J_ (fun v _ h => ⟨by show bl_ v sad1 (List.flatMap Fc.cells (cc_ p l f)); rw [e0]; exact h.1, trivial⟩)
end Go.Proofs.YtpdbbglpbngeiaaGreatDoor
namespace Go.Proofs.YtpdbbglpbngeiaaGreatDoor
open Go Go.Sx Go.Proofs
attribute [local irreducible] Code.wp wpList wpAnyH
open Go.Vs
theorem jb_ {e : TypeId} {sz n b : Nat} {xs : List Value} (h : xs.length = n * sz) (hn : n ≤ maxLen) : aQ_ e sz (.slice (some ⟨b, 0, none⟩) n n) n xs [(b, .cells xs.toArray e (0, 0))] :=
  ⟨h, .inr ⟨b, n, xs.toArray, rfl, rfl, Nat.le_refl _, hn, by simpa using h, by rw [List.toList_toArray]; exact List.take_of_length_le (by omega)⟩⟩
def cb_ (p : List Pc) : List Str := [[33], [42]] ++ cO_ p
def cv_ (L : List Str) : List Str := L.foldl bp_ []
theorem dU_ {L : List Str} {i : Nat} {x : Str} (h : L[i]? = some x) : cv_ (L.take (i + 1)) = bp_ (cv_ (L.take i)) x := by
  unfold cv_; rw [List.take_add_one, h, Option.toList_some, List.foldl_append]; rfl
theorem nE_ : ∀ (L A : List Str), jR_ A → jR_ (L.foldl bp_ A) ∧ (∀ x, x ∈ L.foldl bp_ A ↔ x ∈ A ∨ (x ∈ L ∧ x ≠ [])) ∧ (L.foldl bp_ A).length ≤ A.length + L.length
  | [], A, h => ⟨h, by simp, by simp⟩
  | y :: L, A, h => by
    obtain ⟨h1, h2, h3⟩ := nE_ L (bp_ A y) (hF_ h)
    refine ⟨h1, fun x => ?_, ?_⟩
    · rw [List.foldl_cons, h2, gX_]
      simp only [List.mem_cons]
      constructor
      · rintro ((h | ⟨rfl, h⟩) | ⟨h, h'⟩)
        · exact .inl h
        · exact .inr ⟨.inl rfl, h⟩
        · exact .inr ⟨.inr h, h'⟩
      · rintro (h | ⟨rfl | h, h'⟩)
        · exact .inl (.inl h)
        · exact .inl (.inr ⟨rfl, h'⟩)
        · exact .inr ⟨h, h'⟩
    · have := ex_ A y
      simp only [List.foldl_cons, List.length_cons]
      omega
theorem pV_ (L : List Str) : (cv_ L).length ≤ L.length := by have := (nE_ L [] List.Pairwise.nil).2.2; unfold cv_; simpa using this
theorem pU_ (L : List Str) : jR_ (cv_ L) := (nE_ L [] List.Pairwise.nil).1
theorem lc_ {p : List Pc} : ∀ x ∈ cb_ p, x ≠ [] := fun x hx => by
  unfold cb_ at hx
  rcases List.mem_append.1 hx with h | h
  · simp at h; rcases h with rfl | rfl <;> simp
  · rw [← jL_] at h; exact oL_ h
theorem rc_ (p : List Pc) : cv_ (cb_ p) = atS p :=
  fi_ eq_ List.lt_trans (pU_ _) (lb_ p) fun x => by
    rw [gm_, cv_, (nE_ _ [] List.Pairwise.nil).2.1]
    constructor
    · rintro (h | ⟨h, _⟩)
      · simp at h
      · unfold cb_ at h
        rcases List.mem_append.1 h with h | h
        · simp at h; exact .inr h.symm
        · rw [← jL_] at h; exact .inl h
    · intro h
      refine .inr ?_
      have hm : x ∈ cb_ p := by
        unfold cb_
        rcases h with h | h
        · rw [jL_] at h; exact List.mem_append_right _ h
        · exact List.mem_append_left _ (by simp; exact h.symm)
      exact ⟨hm, lc_ x hm⟩
theorem qd_ (p : List Pc) : (cb_ p).length ≤ 3 * p.length + 2 := by
  have := hy_ p
  unfold cb_; rw [List.length_append]; simp only [List.length_cons, List.length_nil]; omega
theorem kW_yes {l : List Str} {s : Str} {k : Nat} (hk : kS l s = k) (h : l[k]? = some s) : bp_ l s = l := by unfold bp_; rw [hk, if_pos (.inr h)]
theorem rn_ {l : List Str} {s : Str} {k : Nat} (hs : s ≠ []) (hk : kS l s = k) (h : l[k]? ≠ some s) : bp_ l s = l.take k ++ ([s] ++ l.drop k) := by unfold bp_; rw [hk, if_neg (by rintro (q | q); exact hs q; exact h q), List.append_assoc]
theorem bl_.pre {α : Type} {f : α → List Value} {n : Nat} (hf : ∀ x, (f x).length = n) {l : List α} {v : Vw} {ad : Option Addr} (h : bl_ v ad (l.flatMap f)) (j : Nat) : bl_ v ad ((l.take j).flatMap f) :=
  h.part fun k x hx => by
    have e : l.flatMap f = (l.take j).flatMap f ++ (l.drop j).flatMap f := by rw [← List.flatMap_append, List.take_append_drop]
    rw [e, List.getElem?_append_left (List.getElem?_eq_some_iff.1 hx).1]
    exact hx
theorem qy_ (p : List Pc) (pad : Option Addr) (pcap : Nat) (hp : p.length ≤ 1000) : Tri Tryz.prog 63 #[.slice pad (List.length p) pcap] [] [az_ pad (List.flatMap Pc.cells p)] (fun y : {y : Option Addr × Nat // ((atS p)).length ≤ y.2 ∧ y.2 ≤ maxLen ∧ (y.1 = none → y.2 = 0)} => .slice y.1.1 ((atS p)).length y.1.2) (fun _ => []) (fun y => [az_ y.1.1 (((atS p)).flatMap aH_)]) := by
 refine T_ Tryz.func63 rfl rfl Tryz.ntmps63 rfl fun v0 => ?_
 refine h_ (c_ (a_ (g_ rfl) rfl (e_ (b_ rfl (h_ (c_ (dk_ D_ j_ rfl fun b1 => ?_)))))))
 refine al_ i_ (a_ (g_ rfl) rfl (e_ (b_ rfl (h_ (c_ (aO_ D_ j_ be_ rfl rfl rfl rfl rfl rfl fun b2 => ?_))))))
 have hL1 : aQ_ 9 1 (.slice (some ⟨b2, 0, none⟩) 2 2) (List.length [[33], [42]]) (List.flatMap aH_ [[33], [42]]) [(b2, .cells (List.flatMap aH_ [[33], [42]]).toArray 9 (0, 0))] := jb_ rfl (by simp [maxLen])
 refine al_ i_ (a_ (f_ rfl) rfl (X_ (pr_ p pad pcap (by omega)) rfl J_ (fun v _ h => by exact ⟨h.1, trivial⟩) rfl fun ⟨⟨aad1, acap1⟩, hca1, hcm1, hcz1⟩ => ?_))
 dsimp only
 refine al_ iz_ ?_
 dsimp only at hca1 hcm1 hcz1
 have hfl := hy_ p
 refine aM_ (news := List.flatMap aH_ (cO_ p)) cG_ hL1 rfl rfl hcz1 hca1 x_ (by rw [bt_ aH_ 1 am_]) (fun v _ h => by exact h.1) (fun u hu => aR_ cm_ hu) (by simp only [maxLen]; (simp only [List.length_append, List.length_cons, List.length_nil, List.length_take, List.length_drop]; omega)) (by (simp only [List.length_append, List.length_cons, List.length_nil, List.length_take, List.length_drop]; omega)) rfl fun sv2 Hr2 hr2 => ?_
 have hq2 : aQ_ 9 1 sv2 (List.length ([[33], [42]] ++ (cO_ p))) (List.flatMap aH_ ([[33], [42]] ++ (cO_ p))) Hr2 := by rw [List.length_append, List.flatMap_append]; exact hr2
 refine a_ (g_ rfl) rfl (e_ (b_ rfl (h_ (h_ (c_ (a_ (g_ rfl) rfl (e_ (b_ rfl (N_ ?_)))))))))
 refine bw_ hq2 x_ fun bad bcap hbad hcbad hmbad hzbad => ?_
 subst hbad
 refine fI_ (Γ' := [az_ bad (List.flatMap aH_ (cb_ p)), az_ pad (List.flatMap Pc.cells p)]) (fun v _ h => by exact ⟨h.1, h.2.2.1, trivial⟩) ?_
 refine bw_ (dX_ b1 9 1) aC_ fun oad0 ocap0 hoad0 hcoad0 hmoad0 hzoad0 => ?_
 obtain ⟨rfl, _, rfl⟩ := Value.slice.inj hoad0
 have hll := qd_ p
 refine fI_ (Γ' := [az_ (some ⟨b1, 0, none⟩) (List.flatMap aH_ (cv_ (List.take (0 : Nat) (cb_ p)))), az_ bad (List.flatMap aH_ (cb_ p)), az_ pad (List.flatMap Pc.cells p)]) (fun _ _ h => h) ?_
 refine aB_ (ι := {y : Nat × Option Addr × Nat // y.1 ≤ List.length (cb_ p) ∧ ((cv_ (List.take y.1 (cb_ p))).length ≤ y.2.2 ∧ y.2.2 ≤ maxLen ∧ (y.2.1 = none → y.2.2 = 0))}) (fun y => [(0, .slice pad (List.length p) pcap), (2, .slice none 0 0), (3, .slice y.1.2.1 (List.length (cv_ (List.take y.1.1 (cb_ p)))) y.1.2.2), (4, .slice bad (List.length (cb_ p)) bcap), (5, .int .i64 (y.1.1 : Int))]) (fun y => ([])) (fun y => [az_ bad (List.flatMap aH_ (cb_ p)), az_ pad (List.flatMap Pc.cells p), az_ y.1.2.1 (List.flatMap aH_ (cv_ (List.take y.1.1 (cb_ p))))]) (fun y => List.length (cb_ p) - y.1.1) ⟨((0 : Nat), (some ⟨b1, 0, none⟩), 0), Nat.zero_le _, ⟨hcoad0, hmoad0, hzoad0⟩⟩ ⟨rfl, rfl, rfl, rfl, rfl, trivial⟩ J_ (fun v _ h => by exact ⟨h.2.1, h.2.2.1, h.1, trivial⟩) ?_
 rintro ⟨⟨i, oad, ocap⟩, hi, hoc⟩
 dsimp only at hi hoc ⊢
 have ho1 := hoc.1
 have ho2 := hoc.2.1
 have ho3 := hoc.2.2
 have hol := pV_ (List.take i (cb_ p))
 rw [List.length_take] at hol
 refine h_ (h_ (c_ (a_ (f_ rfl) rfl (a_ (f_ rfl) rfl (a_ (ar_ D_ rfl) rfl (y_ (ax_ rfl rfl) rfl fun r1 hr1 => ?_))))))
 refine e_ (b_ rfl ?_)
 cases r1
 ·
  replace hr1 := of_decide_eq_false hr1
  refine v_ rfl (as_ rfl (b_ rfl (h_ (c_ (a_ (f_ rfl) rfl (a_ (g_ rfl) rfl (e_ (b_ rfl (H_ ?_)))))))))
  have e9 : (cv_ (List.take i (cb_ p))) = atS p := by rw [List.take_of_length_le (by omega)]; exact rc_ p
  rw [e9] at hoc
  exact ap_ Tryz.results63 ⟨(oad, ocap), hoc⟩ (ca_ rfl (by rw [e9])) J_ (fun v _ h => ⟨by show bl_ v oad (List.flatMap aH_ (atS p)); rw [← e9]; exact h.2.2.1, trivial⟩)
 ·
  replace hr1 := of_decide_eq_true hr1
  have hlx1 : i < List.length (cb_ p) := by omega
  obtain ⟨x1, hx1⟩ : ∃ e0, (cb_ p)[i]? = some e0 := ⟨_, List.getElem?_eq_getElem hlx1⟩
  have hmx1 : x1 ∈ (cb_ p) := List.mem_of_getElem? hx1
  refine u_ rfl (F_ (b_ rfl (h_ (N_ (h_ (c_ (a_ (g_ rfl) rfl (e_ (b_ rfl ?_)))))))))
  refine h_ (N_ ?_)
  refine aB_ (ι := {y : Nat // y ≤ List.length (cv_ (List.take i (cb_ p))) ∧ (∀ x ∈ List.take y (cv_ (List.take i (cb_ p))), x < x1)}) (fun y => [(0, .slice pad (List.length p) pcap), (2, .slice none 0 0), (3, .slice oad (List.length (cv_ (List.take i (cb_ p)))) ocap), (4, .slice bad (List.length (cb_ p)) bcap), (5, .int .i64 (i : Int)), (6, .int .i64 (y.1 : Int))]) (fun y => ([])) (fun y => [az_ bad (List.flatMap aH_ (cb_ p)), az_ pad (List.flatMap Pc.cells p), az_ oad (List.flatMap aH_ (cv_ (List.take i (cb_ p))))]) (fun y => List.length (cv_ (List.take i (cb_ p))) - y.1) ⟨(0 : Nat), Nat.zero_le _, by simp⟩ ⟨rfl, rfl, rfl, rfl, rfl, rfl, trivial⟩ J_ (fun _ _ h => h) ?_
  rintro ⟨k, hk, hlt⟩
  dsimp only at hk hlt ⊢
  refine h_ (h_ ?_)
  refine aE_ (by kernel_rfl) ?_
  refine Z_ 10 [0, 1, 2, 3, 4] (by kernel_rfl) (fun _ a b => ⟨by_ a, b⟩) (n_ rfl (f_ rfl) rfl (n_ rfl (f_ rfl) rfl (n_ rfl (ar_ D_ rfl) rfl ?_)))
  refine bX_ rfl (ax_ rfl rfl) rfl fun r2 hr2 => ?_
  refine n_ rfl (f_ rfl) rfl (Y_ ?_)
  cases r2
  ·
   replace hr2 := of_decide_eq_false hr2
   refine Z_ 0 [5, 6, 7, 8, 9, 10, 11, 12, 13, 14] (by kernel_rfl) (fun _ a b => ⟨by_ a, b⟩) (ac_ rfl rfl rfl rfl rfl (ac_ rfl rfl rfl rfl rfl (ac_ rfl rfl rfl rfl rfl (ac_ rfl rfl rfl rfl rfl (ac_ rfl rfl rfl rfl rfl (ac_ rfl rfl rfl rfl rfl (ac_ rfl rfl rfl rfl rfl (ac_ rfl rfl rfl rfl rfl (ac_ rfl rfl rfl rfl rfl ?_)))))))))
   refine n_ rfl (A_ rfl rfl) rfl (Y_ (ab_ (by kernel_rfl) (b_ rfl (v_ rfl (as_ rfl (b_ rfl (h_ ?_)))))))
   have hks : kS (cv_ (List.take i (cb_ p))) x1 = k := lY_ hk hlt (fun x hx => by have := (List.getElem?_eq_some_iff.1 hx).1; omega)
   refine aE_ (by kernel_rfl) ?_
   refine Z_ 10 [0, 1, 2, 3, 4] (by kernel_rfl) (fun _ a b => ⟨by_ a, b⟩) (n_ rfl (f_ rfl) rfl (n_ rfl (f_ rfl) rfl (n_ rfl (ar_ D_ rfl) rfl ?_)))
   refine bX_ rfl (aD_ rfl rfl) rfl fun r3 hr3 => ?_
   refine n_ rfl (f_ rfl) rfl (Y_ ?_)
   cases r3
   ·
    replace hr3 := ne_of_beq_false hr3
    exfalso; omega
   ·
    replace hr3 := eq_of_beq hr3
    refine Z_ 0 [5, 6, 7, 8, 9, 10, 11, 12, 13, 14] (by kernel_rfl) (fun _ a b => ⟨by_ a, b⟩) (ac_ rfl rfl rfl rfl rfl (ac_ rfl rfl rfl rfl rfl (ac_ rfl rfl rfl rfl rfl (ac_ rfl rfl rfl rfl rfl (ac_ rfl rfl rfl rfl rfl (ac_ rfl rfl rfl rfl rfl (ac_ rfl rfl rfl rfl rfl (ac_ rfl rfl rfl rfl rfl (ac_ rfl rfl rfl rfl rfl ?_)))))))))
    refine n_ rfl (G_ rfl rfl) rfl (Y_ (ab_ (by kernel_rfl) (b_ rfl (u_ rfl (h_ ?_)))))
    have en : bp_ (cv_ (List.take i (cb_ p))) x1 = List.take k (cv_ (List.take i (cb_ p))) ++ ([x1] ++ List.drop k (cv_ (List.take i (cb_ p)))) := rn_ (lc_ x1 hmx1) hks (fun q => by have := (List.getElem?_eq_some_iff.1 q).1; omega)
    refine aP_ ([]) (by kernel_rfl) ?_
    refine Z_ 3 [0, 1, 2, 3, 5, 6, 7] (by kernel_rfl) (fun _ a b => ⟨by_ a, b⟩) (n_ rfl (f_ rfl) rfl (n_ rfl (f_ rfl) rfl (n_ rfl (ad_ D_ j_ rfl rfl (fun v _ h => av_ (n := 1) am_ (by decide) (by exact h.1) hx1) (by omega) (by first | omega | (simp; done))) rfl (n_ rfl (aG_ (ad := bad) p_ rfl (fun v _ h => by exact h.1) (ag_ am_ hx1 0 _ rfl)) rfl (n_ rfl (f_ rfl) rfl (n_ rfl (f_ rfl) rfl (n_ rfl (bm_ (cA_ (i := k) (j := List.length (cv_ (List.take i (cb_ p)))) (kl := .i64) (kh := .i64) D_ j_ rfl rfl rfl (by omega) (by have := ho1; omega)) (show _ = Value.slice (sad oad ocap k 1) (List.length (List.drop k (cv_ (List.take i (cb_ p))))) (ocap - k) by rw [List.length_drop])) rfl (Y_ (U_ 4 rfl (by kernel_rfl) ?_)))))))))
    refine aO_ D_ j_ be_ rfl rfl rfl rfl rfl rfl fun b3 => ?_
    have hL3 : aQ_ 9 1 (.slice (some ⟨b3, 0, none⟩) 1 1) (List.length [x1]) (List.flatMap aH_ [x1]) [(b3, .cells (List.flatMap aH_ [x1]).toArray 9 (0, 0))] := jb_ rfl (by simp [maxLen])
    refine al_ i_ (e_ (w_ rfl (O_ (fun _ a b => ⟨by_ a, b⟩) (U_ 8 rfl (by kernel_rfl) (aM_ (news := List.flatMap aH_ (List.drop k (cv_ (List.take i (cb_ p))))) cG_ hL3 rfl rfl (fun q => by have := ho3 (do_ q); omega) (by rw [List.length_drop]; have := ho1; omega) aC_ (by rw [bt_ aH_ 1 am_]) (fun v _ h => by exact (bl_.rest am_ h.2.2.1 ho1 k)) (fun u hu => aR_ cm_ hu) (by simp only [maxLen]; (simp only [List.length_append, List.length_cons, List.length_nil, List.length_take, List.length_drop]; omega)) (by (simp only [List.length_append, List.length_cons, List.length_nil, List.length_take, List.length_drop]; omega)) rfl fun sv4 Hr4 hr4 => ?_)))))
    refine al_ List.perm_append_comm ?_
    have hq4 : aQ_ 9 1 sv4 (List.length ([x1] ++ (List.drop k (cv_ (List.take i (cb_ p)))))) (List.flatMap aH_ ([x1] ++ (List.drop k (cv_ (List.take i (cb_ p)))))) Hr4 := by rw [List.length_append, List.flatMap_append]; exact hr4
    refine e_ (w_ rfl (O_ (fun _ a b => ⟨by_ a, b⟩) (Z_ 0 [9] (by kernel_rfl) (fun _ a b => ⟨by_ a, b⟩) (n_ rfl (g_ rfl) rfl (Y_ (ab_ (by kernel_rfl) (b_ rfl (c_ (a_ (f_ rfl) rfl ?_)))))))))
    refine a_ (f_ rfl) rfl (a_ (f_ rfl) rfl (a_ (bm_ (iT_ (j := k) (m := k) (kl := .i64) (kh := .i64) D_ j_ rfl rfl rfl (Nat.le_refl _) (by have := ho1; omega)) (show _ = Value.slice (sad oad k 0 1) (List.length (List.take k (cv_ (List.take i (cb_ p))))) k by rw [List.length_take, Nat.min_eq_left (by omega)])) rfl (a_ (f_ rfl) rfl (bw_ hq4 aC_ fun rad2 rcap2 hrad2 hcrad2 hmrad2 hzrad2 => ?_))))
    subst hrad2
    refine iA_ (n := List.length (List.take k (cv_ (List.take i (cb_ p))))) (m := List.length ([x1] ++ (List.drop k (cv_ (List.take i (cb_ p)))))) (olds := List.flatMap aH_ (List.take k (cv_ (List.take i (cb_ p))))) (news := List.flatMap aH_ ([x1] ++ (List.drop k (cv_ (List.take i (cb_ p)))))) cG_ rfl rfl (fun q => by have := ho3 (do_ q); have := ho1; omega) (by rw [List.length_take]; omega) hzrad2 hcrad2 (by rw [bt_ aH_ 1 am_]) (fun v _ h => by exact (sad0 (bl_.pre am_ h.2.2.2.1 k))) (by rw [bt_ aH_ 1 am_]) (fun v _ h => by exact h.1) (fun u hu => aR_ cm_ hu) (by rw [List.length_take]; simp only [List.length_append, List.length_cons, List.length_nil]; omega) (by simp only [maxLen]; (simp only [List.length_append, List.length_cons, List.length_nil, List.length_take, List.length_drop]; omega)) (by (simp only [List.length_append, List.length_cons, List.length_nil, List.length_take, List.length_drop]; omega)) rfl fun sv5 Hr5 hr5 => ?_
    have hq5 : aQ_ 9 1 sv5 (List.length ((List.take k (cv_ (List.take i (cb_ p)))) ++ ([x1] ++ (List.drop k (cv_ (List.take i (cb_ p))))))) (List.flatMap aH_ ((List.take k (cv_ (List.take i (cb_ p)))) ++ ([x1] ++ (List.drop k (cv_ (List.take i (cb_ p))))))) Hr5 := by rw [List.length_append, List.flatMap_append]; exact hr5
    refine al_ gf_ (bw_ hq5 aC_ fun nad ncap hnad hcnad hmnad hznad => ?_)
    subst hnad
    refine a_ (g_ rfl) rfl (e_ (b_ rfl (c_ (a_ (f_ rfl) rfl (a_ (M_ rfl rfl rfl (aj_ (by omega) (by omega))) rfl (a_ (g_ rfl) rfl (e_ (w_ rfl ?_))))))))
    exact aa_ ⟨(i + 1, nad, ncap), hlx1, (by dsimp only; rw [dU_ hx1, en]; exact ⟨hcnad, hmnad, hznad⟩)⟩ (by dsimp only; omega) ⟨rfl, rfl, (ca_ rfl (by dsimp only; rw [dU_ hx1, en])), rfl, rfl, trivial⟩ J_ (fun v _ h => by refine ⟨h.2.2.1, h.2.2.2.1, ?_, trivial⟩; show bl_ v nad (List.flatMap aH_ (cv_ (List.take (i + 1) (cb_ p)))); rw [dU_ hx1, en]; exact h.1)
  ·
   replace hr2 := of_decide_eq_true hr2
   have hlx2 : k < List.length (cv_ (List.take i (cb_ p))) := by omega
   obtain ⟨x2, hx2⟩ : ∃ e0, (cv_ (List.take i (cb_ p)))[k]? = some e0 := ⟨_, List.getElem?_eq_getElem hlx2⟩
   have hmx2 : x2 ∈ (cv_ (List.take i (cb_ p))) := List.mem_of_getElem? hx2
   refine Z_ 0 [5, 6, 7, 8, 9, 10, 11, 12, 13, 14] (by kernel_rfl) (fun _ a b => ⟨by_ a, b⟩) (W_ rfl rfl rfl (f_ rfl) rfl (W_ rfl rfl rfl (f_ rfl) rfl (W_ rfl rfl rfl (ad_ D_ j_ rfl rfl (fun v _ h => av_ (n := 1) am_ (by decide) (by exact h.2.2.1) hx2) (by omega) (by first | omega | (simp; done))) rfl (W_ rfl rfl rfl (aG_ (ad := oad) p_ rfl (fun v _ h => by exact h.2.2.1) (ag_ am_ hx2 0 _ rfl)) rfl (W_ rfl rfl rfl (f_ rfl) rfl (W_ rfl rfl rfl (f_ rfl) rfl (W_ rfl rfl rfl (ad_ D_ j_ rfl rfl (fun v _ h => av_ (n := 1) am_ (by decide) (by exact h.1) hx1) (by omega) (by first | omega | (simp; done))) rfl (W_ rfl rfl rfl (aG_ (ad := bad) p_ rfl (fun v _ h => by exact h.1) (ag_ am_ hx1 0 _ rfl)) rfl ?_))))))))
   refine bQ_ rfl rfl rfl (gs_ rfl rfl) rfl fun r4 hr4 => ?_
   refine n_ rfl (G_ rfl rfl) rfl (Y_ (ab_ (by kernel_rfl) (b_ rfl ?_)))
   cases r4
   ·
    replace hr4 := of_decide_eq_false hr4
    refine v_ rfl (as_ rfl (b_ rfl (h_ ?_)))
    have hks : kS (cv_ (List.take i (cb_ p))) x1 = k := lY_ hk hlt (fun x hx => by rw [hx2] at hx; cases hx; assumption)
    refine aE_ (by kernel_rfl) ?_
    refine Z_ 10 [0, 1, 2, 3, 4] (by kernel_rfl) (fun _ a b => ⟨by_ a, b⟩) (n_ rfl (f_ rfl) rfl (n_ rfl (f_ rfl) rfl (n_ rfl (ar_ D_ rfl) rfl ?_)))
    refine bX_ rfl (aD_ rfl rfl) rfl fun r5 hr5 => ?_
    refine n_ rfl (f_ rfl) rfl (Y_ ?_)
    cases r5
    ·
     replace hr5 := ne_of_beq_false hr5
     refine Z_ 0 [5, 6, 7, 8, 9, 10, 11, 12, 13, 14] (by kernel_rfl) (fun _ a b => ⟨by_ a, b⟩) (W_ rfl rfl rfl (f_ rfl) rfl (W_ rfl rfl rfl (f_ rfl) rfl (W_ rfl rfl rfl (ad_ D_ j_ rfl rfl (fun v _ h => av_ (n := 1) am_ (by decide) (by exact h.2.2.1) hx2) (by omega) (by first | omega | (simp; done))) rfl (W_ rfl rfl rfl (aG_ (ad := oad) p_ rfl (fun v _ h => by exact h.2.2.1) (ag_ am_ hx2 0 _ rfl)) rfl (W_ rfl rfl rfl (f_ rfl) rfl (W_ rfl rfl rfl (f_ rfl) rfl (W_ rfl rfl rfl (ad_ D_ j_ rfl rfl (fun v _ h => av_ (n := 1) am_ (by decide) (by exact h.1) hx1) (by omega) (by first | omega | (simp; done))) rfl (W_ rfl rfl rfl (aG_ (ad := bad) p_ rfl (fun v _ h => by exact h.1) (ag_ am_ hx1 0 _ rfl)) rfl ?_))))))))
     refine bQ_ rfl rfl rfl (dn_ rfl rfl) rfl fun r6 hr6 => ?_
     refine n_ rfl (A_ rfl rfl) rfl (Y_ (ab_ (by kernel_rfl) (b_ rfl ?_)))
     cases r6
     ·
      replace hr6 := bo_ hr6
      have ey : bp_ (cv_ (List.take i (cb_ p))) x1 = (cv_ (List.take i (cb_ p))) := kW_yes hks (by rw [hx2]; exact congrArg some hr6)
      refine v_ rfl (F_ (b_ rfl (c_ (a_ (f_ rfl) rfl (a_ (M_ rfl rfl rfl (aj_ (by omega) (by omega))) rfl (a_ (g_ rfl) rfl (e_ (w_ rfl ?_))))))))
      exact aa_ ⟨(i + 1, oad, ocap), hlx1, (by dsimp only; rw [dU_ hx1, ey]; exact ⟨ho1, ho2, ho3⟩)⟩ (by dsimp only; omega) ⟨rfl, rfl, (ca_ rfl (by dsimp only; rw [dU_ hx1, ey])), rfl, rfl, trivial⟩ J_ (fun v _ h => by refine ⟨h.1, h.2.1, ?_, trivial⟩; show bl_ v oad (List.flatMap aH_ (cv_ (List.take (i + 1) (cb_ p)))); rw [dU_ hx1, ey]; exact h.2.2.1)
     ·
      replace hr6 := bn_ hr6
      refine u_ rfl (h_ ?_)
      have en : bp_ (cv_ (List.take i (cb_ p))) x1 = List.take k (cv_ (List.take i (cb_ p))) ++ ([x1] ++ List.drop k (cv_ (List.take i (cb_ p)))) := rn_ (lc_ x1 hmx1) hks (fun q => by rw [hx2] at q; cases q; simp_all)
      refine aP_ ([]) (by kernel_rfl) ?_
      refine Z_ 3 [0, 1, 2, 3, 5, 6, 7] (by kernel_rfl) (fun _ a b => ⟨by_ a, b⟩) (n_ rfl (f_ rfl) rfl (n_ rfl (f_ rfl) rfl (n_ rfl (ad_ D_ j_ rfl rfl (fun v _ h => av_ (n := 1) am_ (by decide) (by exact h.1) hx1) (by omega) (by first | omega | (simp; done))) rfl (n_ rfl (aG_ (ad := bad) p_ rfl (fun v _ h => by exact h.1) (ag_ am_ hx1 0 _ rfl)) rfl (n_ rfl (f_ rfl) rfl (n_ rfl (f_ rfl) rfl (n_ rfl (bm_ (cA_ (i := k) (j := List.length (cv_ (List.take i (cb_ p)))) (kl := .i64) (kh := .i64) D_ j_ rfl rfl rfl (by omega) (by have := ho1; omega)) (show _ = Value.slice (sad oad ocap k 1) (List.length (List.drop k (cv_ (List.take i (cb_ p))))) (ocap - k) by rw [List.length_drop])) rfl (Y_ (U_ 4 rfl (by kernel_rfl) ?_)))))))))
      refine aO_ D_ j_ be_ rfl rfl rfl rfl rfl rfl fun b4 => ?_
      have hL6 : aQ_ 9 1 (.slice (some ⟨b4, 0, none⟩) 1 1) (List.length [x1]) (List.flatMap aH_ [x1]) [(b4, .cells (List.flatMap aH_ [x1]).toArray 9 (0, 0))] := jb_ rfl (by simp [maxLen])
      refine al_ i_ (e_ (w_ rfl (O_ (fun _ a b => ⟨by_ a, b⟩) (U_ 8 rfl (by kernel_rfl) (aM_ (news := List.flatMap aH_ (List.drop k (cv_ (List.take i (cb_ p))))) cG_ hL6 rfl rfl (fun q => by have := ho3 (do_ q); omega) (by rw [List.length_drop]; have := ho1; omega) aC_ (by rw [bt_ aH_ 1 am_]) (fun v _ h => by exact (bl_.rest am_ h.2.2.1 ho1 k)) (fun u hu => aR_ cm_ hu) (by simp only [maxLen]; (simp only [List.length_append, List.length_cons, List.length_nil, List.length_take, List.length_drop]; omega)) (by (simp only [List.length_append, List.length_cons, List.length_nil, List.length_take, List.length_drop]; omega)) rfl fun sv7 Hr7 hr7 => ?_)))))
      refine al_ List.perm_append_comm ?_
      have hq7 : aQ_ 9 1 sv7 (List.length ([x1] ++ (List.drop k (cv_ (List.take i (cb_ p)))))) (List.flatMap aH_ ([x1] ++ (List.drop k (cv_ (List.take i (cb_ p)))))) Hr7 := by rw [List.length_append, List.flatMap_append]; exact hr7
      refine e_ (w_ rfl (O_ (fun _ a b => ⟨by_ a, b⟩) (Z_ 0 [9] (by kernel_rfl) (fun _ a b => ⟨by_ a, b⟩) (n_ rfl (g_ rfl) rfl (Y_ (ab_ (by kernel_rfl) (b_ rfl (c_ (a_ (f_ rfl) rfl ?_)))))))))
      refine a_ (f_ rfl) rfl (a_ (f_ rfl) rfl (a_ (bm_ (iT_ (j := k) (m := k) (kl := .i64) (kh := .i64) D_ j_ rfl rfl rfl (Nat.le_refl _) (by have := ho1; omega)) (show _ = Value.slice (sad oad k 0 1) (List.length (List.take k (cv_ (List.take i (cb_ p))))) k by rw [List.length_take, Nat.min_eq_left (by omega)])) rfl (a_ (f_ rfl) rfl (bw_ hq7 aC_ fun rad2 rcap2 hrad2 hcrad2 hmrad2 hzrad2 => ?_))))
      subst hrad2
      refine iA_ (n := List.length (List.take k (cv_ (List.take i (cb_ p))))) (m := List.length ([x1] ++ (List.drop k (cv_ (List.take i (cb_ p)))))) (olds := List.flatMap aH_ (List.take k (cv_ (List.take i (cb_ p))))) (news := List.flatMap aH_ ([x1] ++ (List.drop k (cv_ (List.take i (cb_ p)))))) cG_ rfl rfl (fun q => by have := ho3 (do_ q); have := ho1; omega) (by rw [List.length_take]; omega) hzrad2 hcrad2 (by rw [bt_ aH_ 1 am_]) (fun v _ h => by exact (sad0 (bl_.pre am_ h.2.2.2.1 k))) (by rw [bt_ aH_ 1 am_]) (fun v _ h => by exact h.1) (fun u hu => aR_ cm_ hu) (by rw [List.length_take]; simp only [List.length_append, List.length_cons, List.length_nil]; omega) (by simp only [maxLen]; (simp only [List.length_append, List.length_cons, List.length_nil, List.length_take, List.length_drop]; omega)) (by (simp only [List.length_append, List.length_cons, List.length_nil, List.length_take, List.length_drop]; omega)) rfl fun sv8 Hr8 hr8 => ?_
      have hq8 : aQ_ 9 1 sv8 (List.length ((List.take k (cv_ (List.take i (cb_ p)))) ++ ([x1] ++ (List.drop k (cv_ (List.take i (cb_ p))))))) (List.flatMap aH_ ((List.take k (cv_ (List.take i (cb_ p)))) ++ ([x1] ++ (List.drop k (cv_ (List.take i (cb_ p))))))) Hr8 := by rw [List.length_append, List.flatMap_append]; exact hr8
      refine al_ gf_ (bw_ hq8 aC_ fun nad ncap hnad hcnad hmnad hznad => ?_)
      subst hnad
      refine a_ (g_ rfl) rfl (e_ (b_ rfl (c_ (a_ (f_ rfl) rfl (a_ (M_ rfl rfl rfl (aj_ (by omega) (by omega))) rfl (a_ (g_ rfl) rfl (e_ (w_ rfl ?_))))))))
      exact aa_ ⟨(i + 1, nad, ncap), hlx1, (by dsimp only; rw [dU_ hx1, en]; exact ⟨hcnad, hmnad, hznad⟩)⟩ (by dsimp only; omega) ⟨rfl, rfl, (ca_ rfl (by dsimp only; rw [dU_ hx1, en])), rfl, rfl, trivial⟩ J_ (fun v _ h => by refine ⟨h.2.2.1, h.2.2.2.1, ?_, trivial⟩; show bl_ v nad (List.flatMap aH_ (cv_ (List.take (i + 1) (cb_ p)))); rw [dU_ hx1, en]; exact h.1)
    ·
     replace hr5 := eq_of_beq hr5
     exfalso; omega
   ·
    replace hr4 := of_decide_eq_true hr4
    refine u_ rfl (F_ (b_ rfl (N_ (c_ (a_ (f_ rfl) rfl (a_ (M_ rfl rfl rfl (aj_ (by omega) (by omega))) rfl (a_ (g_ rfl) rfl (e_ (w_ rfl ?_)))))))))
    exact aa_ ⟨k + 1, hlx2, fun x hx => by rw [List.take_add_one, hx2] at hx; simp only [Option.toList_some, List.mem_append, List.mem_singleton] at hx; rcases hx with hx | rfl; exact hlt x hx; assumption⟩ (by dsimp only; omega) ⟨rfl, rfl, rfl, rfl, rfl, rfl, trivial⟩ J_ (fun _ _ h => h)
end Go.Proofs.YtpdbbglpbngeiaaGreatDoor
namespace Go.Proofs.YtpdbbglpbngeiaaGreatDoor
open Go Go.Sx Go.Proofs
attribute [local irreducible] Code.wp wpList wpAnyH
open Go.Vs
theorem mU_ {p : List Pc} {A : List Str} (hp : p.length ≤ 100) (hA : A.length ≤ 1000) : (cN_ p A).length ≤ 102000 := by
  have := cW_ (g := dQ_ p) (n := 102) A fun x _ => jC_ hp x
  rw [kw_]
  omega
end Go.Proofs.YtpdbbglpbngeiaaGreatDoor
