/-
  Part of the proof of the law IncrementStartSpec over this seat: the small logic, the data, the contracts of functions (no condition).
-/
import Derived.Test.YtpdbbglpbngeiaaGreatDoorQIncrementStartSpec6
import Derived.Test.YtpdbbglpbngeiaaGreatDoorQIncrementStartSpec3
set_option linter.unusedVariables false
set_option linter.unusedSimpArgs false
set_option linter.unusedSectionVars false
namespace Go.Proofs.YtpdbbglpbngeiaaGreatDoor
open Go Go.Sx Go.Proofs
attribute [local irreducible] Code.wp wpList wpAnyH
open Go.Vs
theorem pY_ (p : List Pc) (pad : Option Addr) (pcap : Nat) (l : List Fc) (lad : Option Addr) (lcap : Nat) (f : Fc) (hp : p.length ≤ 100) (hl : l.length ≤ 65536) (hs : Srt l) : Tri Tryz.prog 118 #[.slice pad (List.length p) pcap, .slice lad (List.length l) lcap, Fc.val f] [] [aC_ pad (List.flatMap Pc.cells p), aC_ lad (List.flatMap Fc.cells l)] (fun y : {y : Option Addr × Nat // ((kh_ p l f)).length ≤ y.2 ∧ y.2 ≤ maxLen ∧ (y.1 = none → y.2 = 0)} => .slice y.1.1 ((kh_ p l f)).length y.1.2) (fun _ => []) (fun y => [aC_ y.1.1 (((kh_ p l f)).flatMap Fc.cells)]) := by
 refine R_ Tryz.func118 rfl rfl Tryz.ntmps118 rfl fun v0 => ?_
 refine h_ (c_ (bn_ rfl rfl fun b1 => ?_))
 refine a_ (g_ rfl) rfl (d_ (b_ rfl (h_ (c_ (cW_ F_ D_ rfl fun b2 => ?_)))))
 refine al_ i_ (a_ (g_ rfl) rfl (d_ (b_ rfl (h_ (al_ (dh_ bi_) (h_ (c_ (a_ (g_ rfl) rfl (d_ ?_)))))))))
 refine b_ rfl (Q_ ?_)
 refine aG_ (ι := {y : Nat × Value × Hp // y.1 ≤ List.length p ∧ aR_ 41 6 y.2.1 (List.length (List.flatMap (cq_ l f) (List.take y.1 p))) (List.flatMap Fc.cells (List.flatMap (cq_ l f) (List.take y.1 p))) y.2.2}) (fun y => [(0, .slice pad (List.length p) pcap), (1, .slice lad (List.length l) lcap), (5, zp_ b1 0), (6, .slice none 0 0), (7, y.1.2.1), (8, .int .i64 (y.1.1 : Int))]) (fun y => ((b1, .cells (Fc.cells f).toArray 41 (0, 0)) :: y.1.2.2)) (fun y => [aC_ pad (List.flatMap Pc.cells p), aC_ lad (List.flatMap Fc.cells l)]) (fun y => List.length p - y.1.1) ⟨((0 : Nat), (.slice (some ⟨b2, 0, none⟩) 0 0), [(b2, .cells #[] 41 (0, 0))]), by simp, (dP_ b2 41 6)⟩ ⟨rfl, rfl, rfl, rfl, rfl, rfl, trivial⟩ (m_ i_ aE_) (fun _ _ h => h) ?_
 rintro ⟨⟨i, sv_Rfc, H_Rfc⟩, hi_i, hr_Rfc⟩
 dsimp only at hi_i hr_Rfc ⊢
 have hb1 := dE_ (g := cq_ l f) (n := 1) (List.take i p) (fun x _ => jI_ l f x)
 rw [List.length_take] at hb1
 refine h_ (h_ (c_ (a_ (e_ rfl) rfl (a_ (e_ rfl) rfl (a_ (ak_ H_ rfl) rfl (x_ (ax_ rfl rfl) rfl fun r1 hr1 => ?_))))))
 refine d_ (b_ rfl ?_)
 cases r1
 ·
  replace hr1 := of_decide_eq_false hr1
  rw [show List.take i p = p from List.take_of_length_le (by omega)] at hr_Rfc
  refine v_ rfl (at_ rfl (b_ rfl (h_ (h_ (c_ (a_ (g_ rfl) rfl (d_ (b_ rfl (Q_ ?_)))))))))
  have hw1 : aR_ 41 6 sv_Rfc (List.length (List.flatMap (cq_ l f) p ++ List.flatMap (subB p f) (List.take 0 l))) (List.flatMap Fc.cells (List.flatMap (cq_ l f) p ++ List.flatMap (subB p f) (List.take 0 l))) H_Rfc := by have q := hr_Rfc; simpa only [List.take_zero, List.flatMap_nil, List.append_nil, List.length_nil] using q
  refine aG_ (ι := {y : Nat × Value × Hp // y.1 ≤ List.length l ∧ aR_ 41 6 y.2.1 (List.length (List.flatMap (cq_ l f) p ++ List.flatMap (subB p f) (List.take y.1 l))) (List.flatMap Fc.cells (List.flatMap (cq_ l f) p ++ List.flatMap (subB p f) (List.take y.1 l))) y.2.2}) (fun y => [(0, .slice pad (List.length p) pcap), (1, .slice lad (List.length l) lcap), (5, zp_ b1 0), (6, .slice none 0 0), (7, y.1.2.1), (8, .int .i64 (i : Int)), (10, .int .i64 (y.1.1 : Int))]) (fun y => ((b1, .cells (Fc.cells f).toArray 41 (0, 0)) :: y.1.2.2)) (fun y => [aC_ pad (List.flatMap Pc.cells p), aC_ lad (List.flatMap Fc.cells l)]) (fun y => List.length l - y.1.1) ⟨((0 : Nat), sv_Rfc, H_Rfc), by simp, hw1⟩ ⟨rfl, rfl, rfl, rfl, rfl, rfl, rfl, trivial⟩ (m_ i_ aE_) (fun _ _ h => h) ?_
  rintro ⟨⟨j, sv_Rfc, H_Rfc⟩, hi_j, hr_Rfc⟩
  dsimp only at hi_j hr_Rfc ⊢
  have hb0 := dE_ (g := cq_ l f) (n := 1) p (fun x _ => jI_ l f x)
  have hb2 := dE_ (g := subB p f) (n := 101) (List.take j l) (fun x _ => oh_ hp f x)
  rw [List.length_take] at hb2
  refine h_ (h_ (c_ (a_ (e_ rfl) rfl (a_ (e_ rfl) rfl (a_ (ak_ F_ rfl) rfl (x_ (ax_ rfl rfl) rfl fun r2 hr2 => ?_))))))
  refine d_ (b_ rfl ?_)
  cases r2
  ·
   replace hr2 := of_decide_eq_false hr2
   rw [show List.take j l = l from List.take_of_length_le (by omega)] at hr_Rfc
   refine v_ rfl (at_ rfl (b_ rfl (h_ (c_ (a_ (e_ rfl) rfl (a_ (g_ rfl) rfl (d_ (b_ rfl (E_ ?_)))))))))
   have hw2 : aR_ 41 6 sv_Rfc (List.length (kh_ p l f)) (List.flatMap Fc.cells (kh_ p l f)) H_Rfc := by have q := hr_Rfc; exact q
   refine bt_ hw2 S_ fun ad2 cp2 had2 hcad2 hmad2 hzad2 => ?_
   exact as_ Tryz.results118 ⟨(ad2, cp2), hcad2, hmad2, hzad2⟩ (bW_ rfl had2) I_ (fun v _ h => ⟨h.1, trivial⟩)
  ·
   replace hr2 := of_decide_eq_true hr2
   have hlx2 : j < List.length l := by omega
   obtain ⟨x2, hx2⟩ : ∃ e0, l[j]? = some e0 := ⟨_, List.getElem?_eq_getElem hlx2⟩
   have hmx2 : x2 ∈ l := List.mem_of_getElem? hx2
   refine u_ rfl (B_ (b_ rfl (h_ (Q_ (h_ (c_ (a_ (e_ rfl) rfl (a_ (e_ rfl) rfl (a_ (aa_ F_ D_ rfl rfl (fun v _ h => az_ (n := 6) Fc.cells_len (by decide) (by exact h.2.1) hx2) (by omega) (by first | omega | (simp; done))) rfl ?_)))))))))
   refine a_ (aT_ (ad := lad) (us := Fc.cells x2) ah_ D_ rfl (fun v _ h => by exact h.2.1) (Fc.cells_len _) (ac_ Fc.cells_len hx2)) rfl (ao_ ag_ rfl fun b3 => ?_)
   refine T_ 0 D_ rfl rfl rfl rfl rfl rfl (d_ (b_ rfl (h_ (h_ (c_ (a_ (l_ n_ rfl rfl rfl K_) rfl (a_ (t_ 0 P_ rfl rfl rfl) rfl (x_ (bN_ rfl rfl) rfl fun r3 hr3 => ?_))))))))
   refine a_ (e_ rfl) rfl ?_
   refine aQ_ 6 (((Fc.kind x2) != 2) || ((Fc.b x2) != (Fc.a f))) (fun r => [(0, .slice pad (List.length p) pcap), (1, .slice lad (List.length l) lcap), (5, zp_ b1 0), (6, .slice none 0 0), (7, sv_Rfc), (8, .int .i64 (i : Int)), (10, .int .i64 (j : Int)), (11, zp_ b3 0), (150, .bool r)]) ?_ fun r4 hr4 => ?_
   ·
    cases r3
    ·
     have qr4 := hr3
     replace hr3 := bb_ hr3
     refine p_ rfl rfl (a_ (l_ n_ rfl rfl rfl j_) rfl (p_ rfl rfl (a_ (t_ 0 q_ rfl rfl rfl) rfl (p_ rfl rfl (a_ (l_ n_ rfl rfl rfl j_) rfl (p_ rfl rfl (a_ (t_ 1 q_ rfl rfl rfl) rfl (p_ rfl rfl (x_ (dK_ rfl rfl) rfl fun r5 hr5 => ?_)))))))))
     refine a_ (A_ rfl rfl) rfl (d_ (w_ rfl ?_))
     exact met ⟨rfl, rfl, rfl, rfl, rfl, rfl, rfl, rfl, (y_ rfl (jof qr4 hr5)), trivial⟩
    ·
     have qr4 := hr3
     replace hr3 := ba_ hr3
     refine r_ rfl rfl rfl rfl (r_ rfl rfl rfl rfl (r_ rfl rfl rfl rfl (r_ rfl rfl rfl rfl (r_ rfl rfl rfl rfl (a_ (G_ rfl rfl) rfl (d_ (w_ rfl ?_)))))))
     exact met ⟨rfl, rfl, rfl, rfl, rfl, rfl, rfl, rfl, (y_ rfl (jot qr4)), trivial⟩
   ·
    refine d_ (b_ rfl ?_)
    cases r4
    ·
     simp at hr4
     refine v_ rfl (B_ (b_ rfl (h_ (h_ (c_ (a_ (l_ n_ rfl rfl rfl j_) rfl (a_ (t_ 1 q_ rfl rfl rfl) rfl (x_ (ap_ rfl rfl) rfl fun r6 hr6 => ?_))))))))
     refine d_ (b_ rfl ?_)
     cases r6
     ·
      replace hr6 := ne_of_beq_false hr6
      refine v_ rfl (B_ (b_ rfl (h_ (c_ (a_ (g_ rfl) rfl (d_ (b_ rfl (Q_ ?_))))))))
      have hw3 : aR_ 41 6 sv_Rfc (List.length ((List.flatMap (cq_ l f) p ++ List.flatMap (subB p f) (List.take j l)) ++ List.flatMap (cG_ f x2) (List.take 0 p))) (List.flatMap Fc.cells ((List.flatMap (cq_ l f) p ++ List.flatMap (subB p f) (List.take j l)) ++ List.flatMap (cG_ f x2) (List.take 0 p))) H_Rfc := by have q := hr_Rfc; simpa only [List.take_zero, List.flatMap_nil, List.append_nil, List.length_nil] using q
      refine aG_ (ι := {y : Nat × Value × Hp // y.1 ≤ List.length p ∧ aR_ 41 6 y.2.1 (List.length ((List.flatMap (cq_ l f) p ++ List.flatMap (subB p f) (List.take j l)) ++ List.flatMap (cG_ f x2) (List.take y.1 p))) (List.flatMap Fc.cells ((List.flatMap (cq_ l f) p ++ List.flatMap (subB p f) (List.take j l)) ++ List.flatMap (cG_ f x2) (List.take y.1 p))) y.2.2}) (fun y => [(0, .slice pad (List.length p) pcap), (1, .slice lad (List.length l) lcap), (5, zp_ b1 0), (6, .slice none 0 0), (7, y.1.2.1), (8, .int .i64 (i : Int)), (10, .int .i64 (j : Int)), (11, zp_ b3 0), (12, .int .i64 (y.1.1 : Int))]) (fun y => ((b3, .cells (Fc.cells x2).toArray 41 (0, 0)) :: ((b1, .cells (Fc.cells f).toArray 41 (0, 0)) :: y.1.2.2))) (fun y => [aC_ pad (List.flatMap Pc.cells p), aC_ lad (List.flatMap Fc.cells l)]) (fun y => List.length p - y.1.1) ⟨((0 : Nat), sv_Rfc, H_Rfc), by simp, hw3⟩ ⟨rfl, rfl, rfl, rfl, rfl, rfl, rfl, rfl, rfl, trivial⟩ (m_ i_ (m_ i_ aE_)) (fun _ _ h => h) ?_
      rintro ⟨⟨k, sv_Rfc, H_Rfc⟩, hi_k, hr_Rfc⟩
      dsimp only at hi_k hr_Rfc ⊢
      have hb3 := dE_ (g := cG_ f x2) (n := 1) (List.take k p) (fun x _ => hH_ f x2 x)
      rw [List.length_take] at hb3
      refine h_ (h_ (c_ (a_ (e_ rfl) rfl (a_ (e_ rfl) rfl (a_ (ak_ H_ rfl) rfl (x_ (ax_ rfl rfl) rfl fun r7 hr7 => ?_))))))
      refine d_ (b_ rfl ?_)
      cases r7
      ·
       replace hr7 := of_decide_eq_false hr7
       rw [show List.take k p = p from List.take_of_length_le (by omega)] at hr_Rfc
       refine v_ rfl (at_ rfl (b_ rfl (c_ (a_ (e_ rfl) rfl (a_ (O_ rfl rfl rfl (af_ (by omega) (by omega))) rfl (a_ (g_ rfl) rfl (d_ (w_ rfl ?_))))))))
       exact Y_ ⟨(j + 1, sv_Rfc, H_Rfc), hlx2, (by have q := hr_Rfc; rw [bo_ hx2, show (subB p f) x2 = List.flatMap (cG_ f x2) p from (by rw [ik_, if_neg (by first | assumption | simpa using hr4), if_neg (by assumption)]; rfl)]; simpa only [List.append_assoc, List.append_nil] using q)⟩ (by dsimp only; omega) ⟨rfl, rfl, rfl, rfl, rfl, rfl, rfl, trivial⟩ (m_ (f_ i_) S_) (fun _ _ h => h)
      ·
       replace hr7 := of_decide_eq_true hr7
       have hlx3 : k < List.length p := by omega
       obtain ⟨x3, hx3⟩ : ∃ e0, p[k]? = some e0 := ⟨_, List.getElem?_eq_getElem hlx3⟩
       have hmx3 : x3 ∈ p := List.mem_of_getElem? hx3
       refine u_ rfl (B_ (b_ rfl (h_ (Q_ (h_ ?_)))))
       refine aP_ (by kernel_rfl) ?_
       refine ae_ 19 [0, 1, 2, 3, 4, 5, 6] (by kernel_rfl) (fun _ a b => ⟨a, b⟩) (o_ rfl (e_ rfl) rfl (o_ rfl (e_ rfl) rfl (o_ rfl (aa_ H_ L_ rfl rfl (fun v _ h => az_ (n := 10) Pc.cells_len (by decide) (by exact h.1) hx3) (by omega) (by first | omega | (simp; done))) rfl (o_ rfl (bT_ k_ rfl rfl rfl K_) rfl (o_ rfl (aL_ (ad := pad) P_ rfl (fun v _ h => by exact h.1) (ac_ Pc.cells_len hx3 0 _ rfl)) rfl ?_)))))
       refine ck_ rfl (aI_ rfl rfl) rfl fun r8 hr8 => ?_
       refine o_ rfl (e_ rfl) rfl (ad_ ?_)
       cases r8
       ·
        replace hr8 := ne_of_beq_false hr8
        refine ae_ 0 [7, 8, 9, 10, 11, 12, 13, 14, 15, 16, 17, 18, 19, 20, 21, 22, 23, 24, 25] (by kernel_rfl) (fun _ a b => ⟨a, b⟩) (aD_ rfl rfl rfl rfl rfl (aD_ rfl rfl rfl rfl rfl (aD_ rfl rfl rfl rfl rfl (aD_ rfl rfl rfl rfl rfl (aD_ rfl rfl rfl rfl rfl (aD_ rfl rfl rfl rfl rfl (aD_ rfl rfl rfl rfl rfl (aD_ rfl rfl rfl rfl rfl (o_ rfl (A_ rfl rfl) rfl ?_)))))))))
        refine o_ rfl (e_ rfl) rfl (aD_ rfl rfl rfl rfl rfl (aD_ rfl rfl rfl rfl rfl (aD_ rfl rfl rfl rfl rfl (aD_ rfl rfl rfl rfl rfl (aD_ rfl rfl rfl rfl rfl (aD_ rfl rfl rfl rfl rfl (aD_ rfl rfl rfl rfl rfl (aD_ rfl rfl rfl rfl rfl (o_ rfl (A_ rfl rfl) rfl ?_)))))))))
        refine ad_ (ab_ (by kernel_rfl) (b_ rfl (v_ rfl (B_ (b_ rfl (c_ (a_ (e_ rfl) rfl (a_ (O_ rfl rfl rfl (af_ (by omega) (by omega))) rfl (a_ (g_ rfl) rfl ?_)))))))))
        refine d_ (w_ rfl ?_)
        exact Y_ ⟨(k + 1, sv_Rfc, H_Rfc), hlx3, (by have q := hr_Rfc; rw [bo_ hx3, show (cG_ f x2) x3 = [] from (by unfold cG_; rw [if_neg (fun q => by first | exact absurd q.1 (by assumption) | exact absurd q.2.1 (by assumption) | exact absurd q.2.2 (by assumption))])]; simpa only [List.append_assoc, List.append_nil] using q)⟩ (by dsimp only; omega) ⟨rfl, rfl, rfl, rfl, rfl, rfl, rfl, rfl, rfl, trivial⟩ (m_ i_ (m_ i_ aE_)) (fun _ _ h => h)
       ·
        replace hr8 := eq_of_beq hr8
        refine ae_ 9 [7, 8, 9, 10, 11, 12, 13, 14, 15, 16] (by kernel_rfl) (fun _ a b => ⟨a, b⟩) (ay_ rfl rfl rfl (e_ rfl) rfl (ay_ rfl rfl rfl (e_ rfl) rfl (ay_ rfl rfl rfl (aa_ H_ L_ rfl rfl (fun v _ h => az_ (n := 10) Pc.cells_len (by decide) (by exact h.1) hx3) (by omega) (by first | omega | (simp; done))) rfl (ay_ rfl rfl rfl (bT_ k_ rfl rfl rfl j_) rfl (ay_ rfl rfl rfl (aL_ (ad := pad) q_ rfl (fun v _ h => by exact h.1) (ac_ Pc.cells_len hx3 4 _ rfl)) rfl (ay_ rfl rfl rfl (l_ n_ rfl rfl rfl j_) rfl (ay_ rfl rfl rfl (t_ 0 q_ rfl rfl rfl) rfl ?_)))))))
        refine cY_ rfl rfl rfl (ap_ rfl rfl) rfl fun r9 hr9 => ?_
        refine o_ rfl (G_ rfl rfl) rfl (o_ rfl (e_ rfl) rfl (ad_ ?_))
        cases r9
        ·
         replace hr9 := ne_of_beq_false hr9
         refine ae_ 0 [17, 18, 19, 20, 21, 22, 23, 24, 25] (by kernel_rfl) (fun _ a b => ⟨a, b⟩) (aD_ rfl rfl rfl rfl rfl (aD_ rfl rfl rfl rfl rfl (aD_ rfl rfl rfl rfl rfl (aD_ rfl rfl rfl rfl rfl (aD_ rfl rfl rfl rfl rfl (aD_ rfl rfl rfl rfl rfl (aD_ rfl rfl rfl rfl rfl (aD_ rfl rfl rfl rfl rfl (o_ rfl (A_ rfl rfl) rfl ?_)))))))))
         refine ad_ (ab_ (by kernel_rfl) (b_ rfl (v_ rfl (B_ (b_ rfl (c_ (a_ (e_ rfl) rfl (a_ (O_ rfl rfl rfl (af_ (by omega) (by omega))) rfl (a_ (g_ rfl) rfl ?_)))))))))
         refine d_ (w_ rfl ?_)
         exact Y_ ⟨(k + 1, sv_Rfc, H_Rfc), hlx3, (by have q := hr_Rfc; rw [bo_ hx3, show (cG_ f x2) x3 = [] from (by unfold cG_; rw [if_neg (fun q => by first | exact absurd q.1 (by assumption) | exact absurd q.2.1 (by assumption) | exact absurd q.2.2 (by assumption))])]; simpa only [List.append_assoc, List.append_nil] using q)⟩ (by dsimp only; omega) ⟨rfl, rfl, rfl, rfl, rfl, rfl, rfl, rfl, rfl, trivial⟩ (m_ i_ (m_ i_ aE_)) (fun _ _ h => h)
        ·
         replace hr9 := eq_of_beq hr9
         refine ae_ 0 [17, 18, 19, 20, 21, 22, 23, 24, 25] (by kernel_rfl) (fun _ a b => ⟨a, b⟩) (ay_ rfl rfl rfl (e_ rfl) rfl (ay_ rfl rfl rfl (e_ rfl) rfl (ay_ rfl rfl rfl (aa_ H_ L_ rfl rfl (fun v _ h => az_ (n := 10) Pc.cells_len (by decide) (by exact h.1) hx3) (by omega) (by first | omega | (simp; done))) rfl (ay_ rfl rfl rfl (bT_ k_ rfl rfl rfl j_) rfl (ay_ rfl rfl rfl (aL_ (ad := pad) q_ rfl (fun v _ h => by exact h.1) (ac_ Pc.cells_len hx3 1 _ rfl)) rfl (ay_ rfl rfl rfl (l_ n_ rfl rfl rfl j_) rfl (ay_ rfl rfl rfl (t_ 1 q_ rfl rfl rfl) rfl ?_)))))))
         refine cY_ rfl rfl rfl (ap_ rfl rfl) rfl fun r10 hr10 => ?_
         refine o_ rfl (G_ rfl rfl) rfl (ad_ (ab_ (by kernel_rfl) (b_ rfl ?_)))
         cases r10
         ·
          replace hr10 := ne_of_beq_false hr10
          refine v_ rfl (B_ (b_ rfl (c_ (a_ (e_ rfl) rfl (a_ (O_ rfl rfl rfl (af_ (by omega) (by omega))) rfl (a_ (g_ rfl) rfl (d_ (w_ rfl ?_))))))))
          exact Y_ ⟨(k + 1, sv_Rfc, H_Rfc), hlx3, (by have q := hr_Rfc; rw [bo_ hx3, show (cG_ f x2) x3 = [] from (by unfold cG_; rw [if_neg (fun q => by first | exact absurd q.1 (by assumption) | exact absurd q.2.1 (by assumption) | exact absurd q.2.2 (by assumption))])]; simpa only [List.append_assoc, List.append_nil] using q)⟩ (by dsimp only; omega) ⟨rfl, rfl, rfl, rfl, rfl, rfl, rfl, rfl, rfl, trivial⟩ (m_ i_ (m_ i_ aE_)) (fun _ _ h => h)
         ·
          replace hr10 := eq_of_beq hr10
          refine u_ rfl ?_
          refine aS_ ((b3, .cells (Fc.cells x2).toArray 41 (0, 0)) :: ((b1, .cells (Fc.cells f).toArray 41 (0, 0)) :: [])) (by kernel_rfl) ?_
          refine ae_ 4 [0, 1, 2, 3, 4, 5, 6, 7] (by kernel_rfl) (fun _ a b => ⟨Vw.sat.sub (a.perm (m_ i_ i_)), b⟩) (o_ rfl (e_ rfl) rfl (o_ rfl (l_ n_ rfl rfl rfl j_) rfl (o_ rfl (t_ 0 q_ rfl rfl rfl) rfl (o_ rfl (e_ rfl) rfl (o_ rfl (e_ rfl) rfl (o_ rfl (aa_ H_ L_ rfl rfl (fun v _ h => az_ (n := 10) Pc.cells_len (by decide) (by exact h.1) hx3) (by omega) (by first | omega | (simp; done))) rfl (o_ rfl (bT_ k_ rfl rfl rfl j_) rfl (o_ rfl (aL_ (ad := pad) q_ rfl (fun v _ h => by exact h.1) (ac_ Pc.cells_len hx3 3 _ rfl)) rfl (ad_ ?_)))))))))
          refine W_ 8 rfl (by kernel_rfl) (V_ (dR_ (Fc.a x2) (Pc.c x3)) rfl I_ (fun _ _ _ => by exact trivial) rfl fun _ => ?_)
          refine d_ (w_ rfl (N_ (fun _ a b => ⟨Vw.sat.sub (a.perm (m_ i_ i_)), b⟩) (W_ 9 rfl (by kernel_rfl) (aJ_ F_ D_ ag_ rfl rfl rfl rfl rfl rfl fun b4 => ?_))))
          refine bw_ (List.flatMap Fc.cells [(aj_ (Fc.a x2) (Pc.c x3))]) i_ rfl ?_
          refine d_ (w_ rfl (N_ (fun _ a b => ⟨Vw.sat.sub (a.perm (m_ i_ i_)), b.2⟩) (W_ 10 rfl (by kernel_rfl) (aK_ (news := List.flatMap Fc.cells [(aj_ (Fc.a x2) (Pc.c x3))]) cc_ hr_Rfc rfl rfl (fun q => by cases q) (by simp) (f_ S_) (by rw [bp_ Fc.cells 6 Fc.cells_len]; rfl) (fun v _ h => by exact h.1) (fun u hu => aN_ Fc.cells_one hu) (by simp only [maxLen]; ((try simp only [List.length_append, List.length_cons, List.length_nil]); omega)) (by ((try simp only [List.length_append, List.length_cons, List.length_nil]); omega)) rfl fun sv4 Hr4 hr4 => ?_))))
          refine al_ List.perm_append_comm ?_
          have hq4 : aR_ 41 6 sv4 (List.length (((List.flatMap (cq_ l f) p ++ List.flatMap (subB p f) (List.take j l)) ++ List.flatMap (cG_ f x2) (List.take k p)) ++ [(aj_ (Fc.a x2) (Pc.c x3))])) (List.flatMap Fc.cells (((List.flatMap (cq_ l f) p ++ List.flatMap (subB p f) (List.take j l)) ++ List.flatMap (cG_ f x2) (List.take k p)) ++ [(aj_ (Fc.a x2) (Pc.c x3))])) Hr4 := by rw [List.length_append, List.flatMap_append]; exact hr4
          refine d_ (w_ rfl (N_ (fun _ a b => ⟨Vw.sat.sub (a.perm (m_ i_ i_)), b.2⟩) (ae_ 0 [11] (by kernel_rfl) (fun _ a b => ⟨Vw.sat.sub (a.perm (m_ i_ i_)), b.2⟩) (o_ rfl (g_ rfl) rfl (ad_ (ab_ (by kernel_rfl) (b_ rfl (c_ (a_ (e_ rfl) rfl ?_)))))))))
          refine a_ (O_ rfl rfl rfl (af_ (by omega) (by omega))) rfl (a_ (g_ rfl) rfl (d_ (w_ rfl ?_)))
          exact Y_ ⟨(k + 1, sv4, Hr4), hlx3, (by have q := hq4; rw [bo_ hx3, show (cG_ f x2) x3 = [(aj_ (Fc.a x2) (Pc.c x3))] from (by unfold cG_; rw [if_pos ⟨by assumption, by assumption, by assumption⟩])]; simpa only [List.append_assoc, List.append_nil] using q)⟩ (by dsimp only; omega) ⟨rfl, rfl, rfl, rfl, rfl, rfl, rfl, rfl, rfl, trivial⟩ (m_ i_ (m_ i_ aE_)) (fun _ _ h => h.2)
     ·
      replace hr6 := eq_of_beq hr6
      refine u_ rfl (c_ (a_ (e_ rfl) rfl (a_ (l_ n_ rfl rfl rfl j_) rfl (a_ (t_ 0 q_ rfl rfl rfl) rfl (V_ (dR_ (Fc.a x2) [33]) rfl I_ (fun _ _ _ => by exact trivial) rfl fun _ => ?_)))))
      refine aJ_ F_ D_ ag_ rfl rfl rfl rfl rfl rfl fun b5 => ?_
      refine bw_ (List.flatMap Fc.cells [(aj_ (Fc.a x2) [33])]) i_ rfl ?_
      refine aK_ (news := List.flatMap Fc.cells [(aj_ (Fc.a x2) [33])]) cc_ hr_Rfc rfl rfl (fun q => by cases q) (by simp) (f_ S_) (by rw [bp_ Fc.cells 6 Fc.cells_len]; rfl) (fun v _ h => by exact h.1) (fun u hu => aN_ Fc.cells_one hu) (by simp only [maxLen]; ((try simp only [List.length_append, List.length_cons, List.length_nil]); omega)) (by ((try simp only [List.length_append, List.length_cons, List.length_nil]); omega)) rfl fun sv5 Hr5 hr5 => ?_
      refine al_ List.perm_append_comm ?_
      have hq5 : aR_ 41 6 sv5 (List.length ((List.flatMap (cq_ l f) p ++ List.flatMap (subB p f) (List.take j l)) ++ [(aj_ (Fc.a x2) [33])])) (List.flatMap Fc.cells ((List.flatMap (cq_ l f) p ++ List.flatMap (subB p f) (List.take j l)) ++ [(aj_ (Fc.a x2) [33])])) Hr5 := by rw [List.length_append, List.flatMap_append]; exact hr5
      refine a_ (g_ rfl) rfl (d_ (b_ rfl (h_ (c_ (a_ (g_ rfl) rfl (d_ (b_ rfl (Q_ ?_))))))))
      have hw6 : aR_ 41 6 sv5 (List.length (((List.flatMap (cq_ l f) p ++ List.flatMap (subB p f) (List.take j l)) ++ [(aj_ (Fc.a x2) [33])]) ++ List.flatMap (cG_ f x2) (List.take 0 p))) (List.flatMap Fc.cells (((List.flatMap (cq_ l f) p ++ List.flatMap (subB p f) (List.take j l)) ++ [(aj_ (Fc.a x2) [33])]) ++ List.flatMap (cG_ f x2) (List.take 0 p))) Hr5 := by have q := hq5; simpa only [List.take_zero, List.flatMap_nil, List.append_nil, List.length_nil] using q
      refine aG_ (ι := {y : Nat × Value × Hp // y.1 ≤ List.length p ∧ aR_ 41 6 y.2.1 (List.length (((List.flatMap (cq_ l f) p ++ List.flatMap (subB p f) (List.take j l)) ++ [(aj_ (Fc.a x2) [33])]) ++ List.flatMap (cG_ f x2) (List.take y.1 p))) (List.flatMap Fc.cells (((List.flatMap (cq_ l f) p ++ List.flatMap (subB p f) (List.take j l)) ++ [(aj_ (Fc.a x2) [33])]) ++ List.flatMap (cG_ f x2) (List.take y.1 p))) y.2.2}) (fun y => [(0, .slice pad (List.length p) pcap), (1, .slice lad (List.length l) lcap), (5, zp_ b1 0), (6, .slice none 0 0), (7, y.1.2.1), (8, .int .i64 (i : Int)), (10, .int .i64 (j : Int)), (11, zp_ b3 0), (12, .int .i64 (y.1.1 : Int))]) (fun y => ((b3, .cells (Fc.cells x2).toArray 41 (0, 0)) :: ((b1, .cells (Fc.cells f).toArray 41 (0, 0)) :: y.1.2.2))) (fun y => [aC_ (some ⟨b5, 0, none⟩) (List.flatMap Fc.cells [(aj_ (Fc.a x2) [33])]), aC_ pad (List.flatMap Pc.cells p), aC_ lad (List.flatMap Fc.cells l)]) (fun y => List.length p - y.1.1) ⟨((0 : Nat), sv5, Hr5), by simp, hw6⟩ ⟨rfl, rfl, rfl, rfl, rfl, rfl, rfl, rfl, rfl, trivial⟩ (m_ i_ (m_ i_ aE_)) (fun _ _ h => h) ?_
      rintro ⟨⟨k, sv_Rfc, H_Rfc⟩, hi_k, hr_Rfc⟩
      dsimp only at hi_k hr_Rfc ⊢
      have hb3 := dE_ (g := cG_ f x2) (n := 1) (List.take k p) (fun x _ => hH_ f x2 x)
      rw [List.length_take] at hb3
      refine h_ (h_ (c_ (a_ (e_ rfl) rfl (a_ (e_ rfl) rfl (a_ (ak_ H_ rfl) rfl (x_ (ax_ rfl rfl) rfl fun r11 hr11 => ?_))))))
      refine d_ (b_ rfl ?_)
      cases r11
      ·
       replace hr11 := of_decide_eq_false hr11
       rw [show List.take k p = p from List.take_of_length_le (by omega)] at hr_Rfc
       refine v_ rfl (at_ rfl (b_ rfl (c_ (a_ (e_ rfl) rfl (a_ (O_ rfl rfl rfl (af_ (by omega) (by omega))) rfl (a_ (g_ rfl) rfl (d_ (w_ rfl ?_))))))))
       exact Y_ ⟨(j + 1, sv_Rfc, H_Rfc), hlx2, (by have q := hr_Rfc; rw [bo_ hx2, show (subB p f) x2 = [(aj_ (Fc.a x2) [33])] ++ List.flatMap (cG_ f x2) p from (by rw [ik_, if_neg (by first | assumption | simpa using hr4), if_pos (by assumption)])]; simpa only [List.append_assoc, List.append_nil] using q)⟩ (by dsimp only; omega) ⟨rfl, rfl, rfl, rfl, rfl, rfl, rfl, trivial⟩ (m_ (f_ i_) S_) (fun _ _ h => h.2)
      ·
       replace hr11 := of_decide_eq_true hr11
       have hlx3 : k < List.length p := by omega
       obtain ⟨x3, hx3⟩ : ∃ e0, p[k]? = some e0 := ⟨_, List.getElem?_eq_getElem hlx3⟩
       have hmx3 : x3 ∈ p := List.mem_of_getElem? hx3
       refine u_ rfl (B_ (b_ rfl (h_ (Q_ (h_ ?_)))))
       refine aP_ (by kernel_rfl) ?_
       refine ae_ 19 [0, 1, 2, 3, 4, 5, 6] (by kernel_rfl) (fun _ a b => ⟨a, b⟩) (o_ rfl (e_ rfl) rfl (o_ rfl (e_ rfl) rfl (o_ rfl (aa_ H_ L_ rfl rfl (fun v _ h => az_ (n := 10) Pc.cells_len (by decide) (by exact h.2.1) hx3) (by omega) (by first | omega | (simp; done))) rfl (o_ rfl (bT_ k_ rfl rfl rfl K_) rfl (o_ rfl (aL_ (ad := pad) P_ rfl (fun v _ h => by exact h.2.1) (ac_ Pc.cells_len hx3 0 _ rfl)) rfl ?_)))))
       refine ck_ rfl (aI_ rfl rfl) rfl fun r12 hr12 => ?_
       refine o_ rfl (e_ rfl) rfl (ad_ ?_)
       cases r12
       ·
        replace hr12 := ne_of_beq_false hr12
        refine ae_ 0 [7, 8, 9, 10, 11, 12, 13, 14, 15, 16, 17, 18, 19, 20, 21, 22, 23, 24, 25] (by kernel_rfl) (fun _ a b => ⟨a, b⟩) (aD_ rfl rfl rfl rfl rfl (aD_ rfl rfl rfl rfl rfl (aD_ rfl rfl rfl rfl rfl (aD_ rfl rfl rfl rfl rfl (aD_ rfl rfl rfl rfl rfl (aD_ rfl rfl rfl rfl rfl (aD_ rfl rfl rfl rfl rfl (aD_ rfl rfl rfl rfl rfl (o_ rfl (A_ rfl rfl) rfl ?_)))))))))
        refine o_ rfl (e_ rfl) rfl (aD_ rfl rfl rfl rfl rfl (aD_ rfl rfl rfl rfl rfl (aD_ rfl rfl rfl rfl rfl (aD_ rfl rfl rfl rfl rfl (aD_ rfl rfl rfl rfl rfl (aD_ rfl rfl rfl rfl rfl (aD_ rfl rfl rfl rfl rfl (aD_ rfl rfl rfl rfl rfl (o_ rfl (A_ rfl rfl) rfl ?_)))))))))
        refine ad_ (ab_ (by kernel_rfl) (b_ rfl (v_ rfl (B_ (b_ rfl (c_ (a_ (e_ rfl) rfl (a_ (O_ rfl rfl rfl (af_ (by omega) (by omega))) rfl (a_ (g_ rfl) rfl ?_)))))))))
        refine d_ (w_ rfl ?_)
        exact Y_ ⟨(k + 1, sv_Rfc, H_Rfc), hlx3, (by have q := hr_Rfc; rw [bo_ hx3, show (cG_ f x2) x3 = [] from (by unfold cG_; rw [if_neg (fun q => by first | exact absurd q.1 (by assumption) | exact absurd q.2.1 (by assumption) | exact absurd q.2.2 (by assumption))])]; simpa only [List.append_assoc, List.append_nil] using q)⟩ (by dsimp only; omega) ⟨rfl, rfl, rfl, rfl, rfl, rfl, rfl, rfl, rfl, trivial⟩ (m_ i_ (m_ i_ aE_)) (fun _ _ h => h)
       ·
        replace hr12 := eq_of_beq hr12
        refine ae_ 9 [7, 8, 9, 10, 11, 12, 13, 14, 15, 16] (by kernel_rfl) (fun _ a b => ⟨a, b⟩) (ay_ rfl rfl rfl (e_ rfl) rfl (ay_ rfl rfl rfl (e_ rfl) rfl (ay_ rfl rfl rfl (aa_ H_ L_ rfl rfl (fun v _ h => az_ (n := 10) Pc.cells_len (by decide) (by exact h.2.1) hx3) (by omega) (by first | omega | (simp; done))) rfl (ay_ rfl rfl rfl (bT_ k_ rfl rfl rfl j_) rfl (ay_ rfl rfl rfl (aL_ (ad := pad) q_ rfl (fun v _ h => by exact h.2.1) (ac_ Pc.cells_len hx3 4 _ rfl)) rfl (ay_ rfl rfl rfl (l_ n_ rfl rfl rfl j_) rfl (ay_ rfl rfl rfl (t_ 0 q_ rfl rfl rfl) rfl ?_)))))))
        refine cY_ rfl rfl rfl (ap_ rfl rfl) rfl fun r13 hr13 => ?_
        refine o_ rfl (G_ rfl rfl) rfl (o_ rfl (e_ rfl) rfl (ad_ ?_))
        cases r13
        ·
         replace hr13 := ne_of_beq_false hr13
         refine ae_ 0 [17, 18, 19, 20, 21, 22, 23, 24, 25] (by kernel_rfl) (fun _ a b => ⟨a, b⟩) (aD_ rfl rfl rfl rfl rfl (aD_ rfl rfl rfl rfl rfl (aD_ rfl rfl rfl rfl rfl (aD_ rfl rfl rfl rfl rfl (aD_ rfl rfl rfl rfl rfl (aD_ rfl rfl rfl rfl rfl (aD_ rfl rfl rfl rfl rfl (aD_ rfl rfl rfl rfl rfl (o_ rfl (A_ rfl rfl) rfl ?_)))))))))
         refine ad_ (ab_ (by kernel_rfl) (b_ rfl (v_ rfl (B_ (b_ rfl (c_ (a_ (e_ rfl) rfl (a_ (O_ rfl rfl rfl (af_ (by omega) (by omega))) rfl (a_ (g_ rfl) rfl ?_)))))))))
         refine d_ (w_ rfl ?_)
         exact Y_ ⟨(k + 1, sv_Rfc, H_Rfc), hlx3, (by have q := hr_Rfc; rw [bo_ hx3, show (cG_ f x2) x3 = [] from (by unfold cG_; rw [if_neg (fun q => by first | exact absurd q.1 (by assumption) | exact absurd q.2.1 (by assumption) | exact absurd q.2.2 (by assumption))])]; simpa only [List.append_assoc, List.append_nil] using q)⟩ (by dsimp only; omega) ⟨rfl, rfl, rfl, rfl, rfl, rfl, rfl, rfl, rfl, trivial⟩ (m_ i_ (m_ i_ aE_)) (fun _ _ h => h)
        ·
         replace hr13 := eq_of_beq hr13
         refine ae_ 0 [17, 18, 19, 20, 21, 22, 23, 24, 25] (by kernel_rfl) (fun _ a b => ⟨a, b⟩) (ay_ rfl rfl rfl (e_ rfl) rfl (ay_ rfl rfl rfl (e_ rfl) rfl (ay_ rfl rfl rfl (aa_ H_ L_ rfl rfl (fun v _ h => az_ (n := 10) Pc.cells_len (by decide) (by exact h.2.1) hx3) (by omega) (by first | omega | (simp; done))) rfl (ay_ rfl rfl rfl (bT_ k_ rfl rfl rfl j_) rfl (ay_ rfl rfl rfl (aL_ (ad := pad) q_ rfl (fun v _ h => by exact h.2.1) (ac_ Pc.cells_len hx3 1 _ rfl)) rfl (ay_ rfl rfl rfl (l_ n_ rfl rfl rfl j_) rfl (ay_ rfl rfl rfl (t_ 1 q_ rfl rfl rfl) rfl ?_)))))))
         refine cY_ rfl rfl rfl (ap_ rfl rfl) rfl fun r14 hr14 => ?_
         refine o_ rfl (G_ rfl rfl) rfl (ad_ (ab_ (by kernel_rfl) (b_ rfl ?_)))
         cases r14
         ·
          replace hr14 := ne_of_beq_false hr14
          refine v_ rfl (B_ (b_ rfl (c_ (a_ (e_ rfl) rfl (a_ (O_ rfl rfl rfl (af_ (by omega) (by omega))) rfl (a_ (g_ rfl) rfl (d_ (w_ rfl ?_))))))))
          exact Y_ ⟨(k + 1, sv_Rfc, H_Rfc), hlx3, (by have q := hr_Rfc; rw [bo_ hx3, show (cG_ f x2) x3 = [] from (by unfold cG_; rw [if_neg (fun q => by first | exact absurd q.1 (by assumption) | exact absurd q.2.1 (by assumption) | exact absurd q.2.2 (by assumption))])]; simpa only [List.append_assoc, List.append_nil] using q)⟩ (by dsimp only; omega) ⟨rfl, rfl, rfl, rfl, rfl, rfl, rfl, rfl, rfl, trivial⟩ (m_ i_ (m_ i_ aE_)) (fun _ _ h => h)
         ·
          replace hr14 := eq_of_beq hr14
          refine u_ rfl ?_
          refine aS_ ((b3, .cells (Fc.cells x2).toArray 41 (0, 0)) :: ((b1, .cells (Fc.cells f).toArray 41 (0, 0)) :: [])) (by kernel_rfl) ?_
          refine ae_ 4 [0, 1, 2, 3, 4, 5, 6, 7] (by kernel_rfl) (fun _ a b => ⟨Vw.sat.sub (a.perm (m_ i_ i_)), b⟩) (o_ rfl (e_ rfl) rfl (o_ rfl (l_ n_ rfl rfl rfl j_) rfl (o_ rfl (t_ 0 q_ rfl rfl rfl) rfl (o_ rfl (e_ rfl) rfl (o_ rfl (e_ rfl) rfl (o_ rfl (aa_ H_ L_ rfl rfl (fun v _ h => az_ (n := 10) Pc.cells_len (by decide) (by exact h.2.1) hx3) (by omega) (by first | omega | (simp; done))) rfl (o_ rfl (bT_ k_ rfl rfl rfl j_) rfl (o_ rfl (aL_ (ad := pad) q_ rfl (fun v _ h => by exact h.2.1) (ac_ Pc.cells_len hx3 3 _ rfl)) rfl (ad_ ?_)))))))))
          refine W_ 8 rfl (by kernel_rfl) (V_ (dR_ (Fc.a x2) (Pc.c x3)) rfl I_ (fun _ _ _ => by exact trivial) rfl fun _ => ?_)
          refine d_ (w_ rfl (N_ (fun _ a b => ⟨Vw.sat.sub (a.perm (m_ i_ i_)), b⟩) (W_ 9 rfl (by kernel_rfl) (aJ_ F_ D_ ag_ rfl rfl rfl rfl rfl rfl fun b6 => ?_))))
          refine bw_ (List.flatMap Fc.cells [(aj_ (Fc.a x2) (Pc.c x3))]) i_ rfl ?_
          refine d_ (w_ rfl (N_ (fun _ a b => ⟨Vw.sat.sub (a.perm (m_ i_ i_)), b.2⟩) (W_ 10 rfl (by kernel_rfl) (aK_ (news := List.flatMap Fc.cells [(aj_ (Fc.a x2) (Pc.c x3))]) cc_ hr_Rfc rfl rfl (fun q => by cases q) (by simp) (f_ S_) (by rw [bp_ Fc.cells 6 Fc.cells_len]; rfl) (fun v _ h => by exact h.1) (fun u hu => aN_ Fc.cells_one hu) (by simp only [maxLen]; ((try simp only [List.length_append, List.length_cons, List.length_nil]); omega)) (by ((try simp only [List.length_append, List.length_cons, List.length_nil]); omega)) rfl fun sv7 Hr7 hr7 => ?_))))
          refine al_ List.perm_append_comm ?_
          have hq7 : aR_ 41 6 sv7 (List.length ((((List.flatMap (cq_ l f) p ++ List.flatMap (subB p f) (List.take j l)) ++ [(aj_ (Fc.a x2) [33])]) ++ List.flatMap (cG_ f x2) (List.take k p)) ++ [(aj_ (Fc.a x2) (Pc.c x3))])) (List.flatMap Fc.cells ((((List.flatMap (cq_ l f) p ++ List.flatMap (subB p f) (List.take j l)) ++ [(aj_ (Fc.a x2) [33])]) ++ List.flatMap (cG_ f x2) (List.take k p)) ++ [(aj_ (Fc.a x2) (Pc.c x3))])) Hr7 := by rw [List.length_append, List.flatMap_append]; exact hr7
          refine d_ (w_ rfl (N_ (fun _ a b => ⟨Vw.sat.sub (a.perm (m_ i_ i_)), b.2⟩) (ae_ 0 [11] (by kernel_rfl) (fun _ a b => ⟨Vw.sat.sub (a.perm (m_ i_ i_)), b.2⟩) (o_ rfl (g_ rfl) rfl (ad_ (ab_ (by kernel_rfl) (b_ rfl (c_ (a_ (e_ rfl) rfl ?_)))))))))
          refine a_ (O_ rfl rfl rfl (af_ (by omega) (by omega))) rfl (a_ (g_ rfl) rfl (d_ (w_ rfl ?_)))
          exact Y_ ⟨(k + 1, sv7, Hr7), hlx3, (by have q := hq7; rw [bo_ hx3, show (cG_ f x2) x3 = [(aj_ (Fc.a x2) (Pc.c x3))] from (by unfold cG_; rw [if_pos ⟨by assumption, by assumption, by assumption⟩])]; simpa only [List.append_assoc, List.append_nil] using q)⟩ (by dsimp only; omega) ⟨rfl, rfl, rfl, rfl, rfl, rfl, rfl, rfl, rfl, trivial⟩ (m_ i_ (m_ i_ aE_)) (fun _ _ h => h.2)
    ·
     simp at hr4
     refine u_ rfl (at_ rfl (b_ rfl (c_ (a_ (e_ rfl) rfl (a_ (O_ rfl rfl rfl (af_ (by omega) (by omega))) rfl (a_ (g_ rfl) rfl (d_ (w_ rfl ?_))))))))
     exact Y_ ⟨(j + 1, sv_Rfc, H_Rfc), hlx2, (by have q := hr_Rfc; rw [bo_ hx2, show (subB p f) x2 = [] from (by rw [ik_, if_pos (by first | assumption | simpa using hr4)])]; simpa only [List.append_assoc, List.append_nil] using q)⟩ (by dsimp only; omega) ⟨rfl, rfl, rfl, rfl, rfl, rfl, rfl, trivial⟩ (m_ (f_ i_) S_) (fun _ _ h => h)
 ·
  replace hr1 := of_decide_eq_true hr1
  have hlx1 : i < List.length p := by omega
  obtain ⟨x1, hx1⟩ : ∃ e0, p[i]? = some e0 := ⟨_, List.getElem?_eq_getElem hlx1⟩
  have hmx1 : x1 ∈ p := List.mem_of_getElem? hx1
  refine u_ rfl (B_ (b_ rfl (h_ (Q_ (h_ (c_ (a_ (e_ rfl) rfl (a_ (e_ rfl) rfl (a_ (aa_ H_ L_ rfl rfl (fun v _ h => az_ (n := 10) Pc.cells_len (by decide) (by exact h.1) hx1) (by omega) (by first | omega | (simp; done))) rfl ?_)))))))))
  refine a_ (aT_ (ad := pad) (us := Pc.cells x1) aH_ L_ rfl (fun v _ h => by exact h.1) (Pc.cells_len _) (ac_ Pc.cells_len hx1)) rfl (ao_ bd_ rfl fun b7 => ?_)
  refine T_ 0 L_ rfl rfl rfl rfl rfl rfl (d_ (b_ rfl (Q_ (h_ (c_ (a_ (l_ k_ rfl rfl rfl K_) rfl (a_ (t_ 0 P_ rfl rfl rfl) rfl (x_ (aI_ rfl rfl) rfl fun r15 hr15 => ?_))))))))
  refine a_ (e_ rfl) rfl ?_
  refine aQ_ 6 (((Pc.kind x1) == 1) && ((Pc.a x1) == (Fc.b f))) (fun r => [(0, .slice pad (List.length p) pcap), (1, .slice lad (List.length l) lcap), (5, zp_ b1 0), (6, .slice none 0 0), (7, sv_Rfc), (8, .int .i64 (i : Int)), (9, zp_ b7 0), (34, .bool r)]) ?_ fun r16 hr16 => ?_
  ·
   cases r15
   ·
    have qr16 := hr15
    replace hr15 := ne_of_beq_false hr15
    refine r_ rfl rfl rfl rfl (r_ rfl rfl rfl rfl (r_ rfl rfl rfl rfl (r_ rfl rfl rfl rfl (r_ rfl rfl rfl rfl (a_ (A_ rfl rfl) rfl (d_ (w_ rfl ?_)))))))
    exact met ⟨rfl, rfl, rfl, rfl, rfl, rfl, rfl, (y_ rfl (jaf qr16)), trivial⟩
   ·
    have qr16 := hr15
    replace hr15 := eq_of_beq hr15
    refine p_ rfl rfl (a_ (l_ k_ rfl rfl rfl j_) rfl (p_ rfl rfl (a_ (t_ 0 q_ rfl rfl rfl) rfl (p_ rfl rfl (a_ (l_ n_ rfl rfl rfl j_) rfl (p_ rfl rfl (a_ (t_ 1 q_ rfl rfl rfl) rfl (p_ rfl rfl (x_ (ap_ rfl rfl) rfl fun r17 hr17 => ?_)))))))))
    refine a_ (G_ rfl rfl) rfl (d_ (w_ rfl ?_))
    exact met ⟨rfl, rfl, rfl, rfl, rfl, rfl, rfl, (y_ rfl (jat qr16 hr17)), trivial⟩
  ·
   refine a_ (g_ rfl) rfl (d_ (b_ rfl ?_))
   cases r16
   ·
    simp at hr16
    refine v_ rfl (h_ (c_ (a_ (l_ k_ rfl rfl rfl K_) rfl (a_ (t_ 0 P_ rfl rfl rfl) rfl (x_ (aI_ rfl rfl) rfl fun r18 hr18 => ?_)))))
    refine a_ (e_ rfl) rfl ?_
    refine aQ_ 31 (((Pc.kind x1) == 2) && ((((((Pc.a x1) == (Fc.b f)) && (decide ((aj_ (Fc.a f) (Pc.b x1)) ∈ l)))) || ((((Pc.b x1) == (Fc.b f)) && (decide ((aj_ (Fc.a f) (Pc.a x1)) ∈ l))))))) (fun r => [(0, .slice pad (List.length p) pcap), (1, .slice lad (List.length l) lcap), (5, zp_ b1 0), (6, .slice none 0 0), (7, sv_Rfc), (8, .int .i64 (i : Int)), (9, zp_ b7 0), (78, .bool r)]) ?_ fun r19 hr19 => ?_
    ·
     cases r18
     ·
      have qr19 := hr18
      replace hr18 := ne_of_beq_false hr18
      refine r_ rfl rfl rfl rfl (r_ rfl rfl rfl rfl (r_ rfl rfl rfl rfl (r_ rfl rfl rfl rfl (r_ rfl rfl rfl rfl (r_ rfl rfl rfl rfl (r_ rfl rfl rfl rfl (r_ rfl rfl rfl rfl (r_ rfl rfl rfl rfl (r_ rfl rfl rfl rfl ?_)))))))))
      refine r_ rfl rfl rfl rfl (r_ rfl rfl rfl rfl (r_ rfl rfl rfl rfl (r_ rfl rfl rfl rfl (r_ rfl rfl rfl rfl (r_ rfl rfl rfl rfl (r_ rfl rfl rfl rfl (r_ rfl rfl rfl rfl (r_ rfl rfl rfl rfl (r_ rfl rfl rfl rfl ?_)))))))))
      refine r_ rfl rfl rfl rfl (r_ rfl rfl rfl rfl (r_ rfl rfl rfl rfl (r_ rfl rfl rfl rfl (r_ rfl rfl rfl rfl (r_ rfl rfl rfl rfl (r_ rfl rfl rfl rfl (r_ rfl rfl rfl rfl (r_ rfl rfl rfl rfl (r_ rfl rfl rfl rfl ?_)))))))))
      refine a_ (A_ rfl rfl) rfl (d_ (w_ rfl ?_))
      exact met ⟨rfl, rfl, rfl, rfl, rfl, rfl, rfl, (y_ rfl (jaf qr19)), trivial⟩
     ·
      have qr19 := hr18
      replace hr18 := eq_of_beq hr18
      refine p_ rfl rfl (a_ (l_ k_ rfl rfl rfl j_) rfl (p_ rfl rfl (a_ (t_ 0 q_ rfl rfl rfl) rfl (p_ rfl rfl (a_ (l_ n_ rfl rfl rfl j_) rfl (p_ rfl rfl (a_ (t_ 1 q_ rfl rfl rfl) rfl (p_ rfl rfl (x_ (ap_ rfl rfl) rfl fun r20 hr20 => ?_)))))))))
      refine p_ rfl rfl (a_ (e_ rfl) rfl ?_)
      refine aQ_ 8 (((Pc.a x1) == (Fc.b f)) && (decide ((aj_ (Fc.a f) (Pc.b x1)) ∈ l))) (fun r => [(0, .slice pad (List.length p) pcap), (1, .slice lad (List.length l) lcap), (5, zp_ b1 0), (6, .slice none 0 0), (7, sv_Rfc), (8, .int .i64 (i : Int)), (9, zp_ b7 0), (47, .bool true), (61, .bool r)]) ?_ fun r21 hr21 => ?_
      ·
       cases r20
       ·
        have qr21 := hr20
        replace hr20 := ne_of_beq_false hr20
        refine r_ rfl rfl rfl rfl (r_ rfl rfl rfl rfl (r_ rfl rfl rfl rfl (r_ rfl rfl rfl rfl (r_ rfl rfl rfl rfl (r_ rfl rfl rfl rfl (r_ rfl rfl rfl rfl (p_ rfl rfl (a_ (A_ rfl rfl) rfl (d_ ?_)))))))))
        refine w_ rfl ?_
        exact met ⟨rfl, rfl, rfl, rfl, rfl, rfl, rfl, rfl, (y_ rfl (jaf qr21)), trivial⟩
       ·
        have qr21 := hr20
        replace hr20 := eq_of_beq hr20
        refine p_ rfl rfl (a_ (e_ rfl) rfl (p_ rfl rfl (a_ (l_ n_ rfl rfl rfl j_) rfl (p_ rfl rfl (a_ (t_ 1 q_ rfl rfl rfl) rfl (p_ rfl rfl (a_ (l_ k_ rfl rfl rfl j_) rfl (p_ rfl rfl (a_ (t_ 0 q_ rfl rfl rfl) rfl ?_)))))))))
        refine p_ rfl rfl (V_ (dR_ (Fc.a f) (Pc.b x1)) rfl I_ (fun _ _ _ => by exact trivial) rfl fun _ => ?_)
        refine p_ rfl rfl (au_ (kc_ l lad lcap (aj_ (Fc.a f) (Pc.b x1)) (by omega) hs) rfl I_ (fun v _ h => by exact ⟨h.2.1, trivial⟩) rfl fun r22 hr22 => ?_)
        refine p_ rfl rfl (a_ (G_ rfl rfl) rfl (d_ (w_ rfl ?_)))
        exact met ⟨rfl, rfl, rfl, rfl, rfl, rfl, rfl, rfl, (y_ rfl (jat qr21 hr22)), trivial⟩
      ·
       refine p_ rfl rfl (a_ (e_ rfl) rfl ?_)
       refine aQ_ 15 (((((Pc.a x1) == (Fc.b f)) && (decide ((aj_ (Fc.a f) (Pc.b x1)) ∈ l)))) || ((((Pc.b x1) == (Fc.b f)) && (decide ((aj_ (Fc.a f) (Pc.a x1)) ∈ l))))) (fun r => [(0, .slice pad (List.length p) pcap), (1, .slice lad (List.length l) lcap), (5, zp_ b1 0), (6, .slice none 0 0), (7, sv_Rfc), (8, .int .i64 (i : Int)), (9, zp_ b7 0), (47, .bool true), (77, .bool r)]) ?_ fun r23 hr23 => ?_
       ·
        cases r21
        ·
         have qr23 := hr21
         simp at hr21
         refine p_ rfl rfl (a_ (l_ k_ rfl rfl rfl j_) rfl (p_ rfl rfl (a_ (t_ 0 q_ rfl rfl rfl) rfl (p_ rfl rfl (a_ (l_ n_ rfl rfl rfl j_) rfl (p_ rfl rfl (a_ (t_ 1 q_ rfl rfl rfl) rfl (p_ rfl rfl (x_ (ap_ rfl rfl) rfl fun r24 hr24 => ?_)))))))))
         refine p_ rfl rfl (a_ (e_ rfl) rfl ?_)
         refine aQ_ 8 (((Pc.b x1) == (Fc.b f)) && (decide ((aj_ (Fc.a f) (Pc.a x1)) ∈ l))) (fun r => [(0, .slice pad (List.length p) pcap), (1, .slice lad (List.length l) lcap), (5, zp_ b1 0), (6, .slice none 0 0), (7, sv_Rfc), (8, .int .i64 (i : Int)), (9, zp_ b7 0), (47, .bool true), (62, .bool false), (76, .bool r)]) ?_ fun r25 hr25 => ?_
         ·
          cases r24
          ·
           have qr25 := hr24
           replace hr24 := ne_of_beq_false hr24
           refine r_ rfl rfl rfl rfl (r_ rfl rfl rfl rfl (r_ rfl rfl rfl rfl (r_ rfl rfl rfl rfl (r_ rfl rfl rfl rfl (r_ rfl rfl rfl rfl (r_ rfl rfl rfl rfl (p_ rfl rfl (a_ (A_ rfl rfl) rfl (d_ ?_)))))))))
           refine w_ rfl ?_
           exact met ⟨rfl, rfl, rfl, rfl, rfl, rfl, rfl, rfl, rfl, (y_ rfl (jaf qr25)), trivial⟩
          ·
           have qr25 := hr24
           replace hr24 := eq_of_beq hr24
           refine p_ rfl rfl (a_ (e_ rfl) rfl (p_ rfl rfl (a_ (l_ n_ rfl rfl rfl j_) rfl (p_ rfl rfl (a_ (t_ 1 q_ rfl rfl rfl) rfl (p_ rfl rfl (a_ (l_ k_ rfl rfl rfl j_) rfl (p_ rfl rfl (a_ (t_ 0 q_ rfl rfl rfl) rfl ?_)))))))))
           refine p_ rfl rfl (V_ (dR_ (Fc.a f) (Pc.a x1)) rfl I_ (fun _ _ _ => by exact trivial) rfl fun _ => ?_)
           refine p_ rfl rfl (au_ (kc_ l lad lcap (aj_ (Fc.a f) (Pc.a x1)) (by omega) hs) rfl I_ (fun v _ h => by exact ⟨h.2.1, trivial⟩) rfl fun r26 hr26 => ?_)
           refine p_ rfl rfl (a_ (G_ rfl rfl) rfl (d_ (w_ rfl ?_)))
           exact met ⟨rfl, rfl, rfl, rfl, rfl, rfl, rfl, rfl, rfl, (y_ rfl (jat qr25 hr26)), trivial⟩
         ·
          refine p_ rfl rfl (a_ (A_ rfl rfl) rfl (d_ (w_ rfl ?_)))
          exact met ⟨rfl, rfl, rfl, rfl, rfl, rfl, rfl, rfl, (y_ rfl (jof qr23 hr25)), trivial⟩
        ·
         have qr23 := hr21
         simp at hr21
         refine r_ rfl rfl rfl rfl (r_ rfl rfl rfl rfl (r_ rfl rfl rfl rfl (r_ rfl rfl rfl rfl (r_ rfl rfl rfl rfl (r_ rfl rfl rfl rfl (r_ rfl rfl rfl rfl (r_ rfl rfl rfl rfl (r_ rfl rfl rfl rfl (r_ rfl rfl rfl rfl ?_)))))))))
         refine r_ rfl rfl rfl rfl (r_ rfl rfl rfl rfl (r_ rfl rfl rfl rfl (r_ rfl rfl rfl rfl (p_ rfl rfl (a_ (G_ rfl rfl) rfl (d_ (w_ rfl ?_)))))))
         exact met ⟨rfl, rfl, rfl, rfl, rfl, rfl, rfl, rfl, (y_ rfl (jot qr23)), trivial⟩
       ·
        refine a_ (G_ rfl rfl) rfl (d_ (w_ rfl ?_))
        exact met ⟨rfl, rfl, rfl, rfl, rfl, rfl, rfl, (y_ rfl (jat qr19 hr23)), trivial⟩
    ·
     refine a_ (g_ rfl) rfl (d_ (b_ rfl ?_))
     cases r19
     ·
      simp at hr19
      refine v_ rfl (h_ (c_ (a_ (l_ k_ rfl rfl rfl K_) rfl (a_ (t_ 0 P_ rfl rfl rfl) rfl (x_ (aI_ rfl rfl) rfl fun r27 hr27 => ?_)))))
      refine a_ (e_ rfl) rfl ?_
      refine aQ_ 6 (((Pc.kind x1) == 3) && ((Pc.a x1) == (Fc.b f))) (fun r => [(0, .slice pad (List.length p) pcap), (1, .slice lad (List.length l) lcap), (5, zp_ b1 0), (6, .slice none 0 0), (7, sv_Rfc), (8, .int .i64 (i : Int)), (9, zp_ b7 0), (97, .bool r)]) ?_ fun r28 hr28 => ?_
      ·
       cases r27
       ·
        have qr28 := hr27
        replace hr27 := ne_of_beq_false hr27
        refine r_ rfl rfl rfl rfl (r_ rfl rfl rfl rfl (r_ rfl rfl rfl rfl (r_ rfl rfl rfl rfl (r_ rfl rfl rfl rfl (a_ (A_ rfl rfl) rfl (d_ (w_ rfl ?_)))))))
        exact met ⟨rfl, rfl, rfl, rfl, rfl, rfl, rfl, (y_ rfl (jaf qr28)), trivial⟩
       ·
        have qr28 := hr27
        replace hr27 := eq_of_beq hr27
        refine p_ rfl rfl (a_ (l_ k_ rfl rfl rfl j_) rfl (p_ rfl rfl (a_ (t_ 0 q_ rfl rfl rfl) rfl (p_ rfl rfl (a_ (l_ n_ rfl rfl rfl j_) rfl (p_ rfl rfl (a_ (t_ 1 q_ rfl rfl rfl) rfl (p_ rfl rfl (x_ (ap_ rfl rfl) rfl fun r29 hr29 => ?_)))))))))
        refine a_ (G_ rfl rfl) rfl (d_ (w_ rfl ?_))
        exact met ⟨rfl, rfl, rfl, rfl, rfl, rfl, rfl, (y_ rfl (jat qr28 hr29)), trivial⟩
      ·
       refine a_ (g_ rfl) rfl (d_ (b_ rfl ?_))
       cases r28
       ·
        simp at hr28
        refine v_ rfl (h_ (c_ (a_ (l_ k_ rfl rfl rfl K_) rfl (a_ (t_ 0 P_ rfl rfl rfl) rfl (x_ (aI_ rfl rfl) rfl fun r30 hr30 => ?_)))))
        refine a_ (e_ rfl) rfl ?_
        refine aQ_ 6 (((Pc.kind x1) == 8) && ((Pc.a x1) == (Fc.b f))) (fun r => [(0, .slice pad (List.length p) pcap), (1, .slice lad (List.length l) lcap), (5, zp_ b1 0), (6, .slice none 0 0), (7, sv_Rfc), (8, .int .i64 (i : Int)), (9, zp_ b7 0), (118, .bool r)]) ?_ fun r31 hr31 => ?_
        ·
         cases r30
         ·
          have qr31 := hr30
          replace hr30 := ne_of_beq_false hr30
          refine r_ rfl rfl rfl rfl (r_ rfl rfl rfl rfl (r_ rfl rfl rfl rfl (r_ rfl rfl rfl rfl (r_ rfl rfl rfl rfl (a_ (A_ rfl rfl) rfl (d_ (w_ rfl ?_)))))))
          exact met ⟨rfl, rfl, rfl, rfl, rfl, rfl, rfl, (y_ rfl (jaf qr31)), trivial⟩
         ·
          have qr31 := hr30
          replace hr30 := eq_of_beq hr30
          refine p_ rfl rfl (a_ (l_ k_ rfl rfl rfl j_) rfl (p_ rfl rfl (a_ (t_ 0 q_ rfl rfl rfl) rfl (p_ rfl rfl (a_ (l_ n_ rfl rfl rfl j_) rfl (p_ rfl rfl (a_ (t_ 1 q_ rfl rfl rfl) rfl (p_ rfl rfl (x_ (ap_ rfl rfl) rfl fun r32 hr32 => ?_)))))))))
          refine a_ (G_ rfl rfl) rfl (d_ (w_ rfl ?_))
          exact met ⟨rfl, rfl, rfl, rfl, rfl, rfl, rfl, (y_ rfl (jat qr31 hr32)), trivial⟩
        ·
         refine a_ (g_ rfl) rfl (d_ (b_ rfl ?_))
         cases r31
         ·
          simp at hr31
          refine v_ rfl (B_ (b_ rfl (c_ (a_ (e_ rfl) rfl (a_ (O_ rfl rfl rfl (af_ (by omega) (by omega))) rfl (a_ (g_ rfl) rfl (d_ (w_ rfl ?_))))))))
          exact Y_ ⟨(i + 1, sv_Rfc, H_Rfc), hlx1, (by have q := hr_Rfc; rw [bo_ hx1, show (cq_ l f) x1 = [] from (by unfold cq_; rw [if_neg (by first | assumption | simpa using hr16 | simp [*]), if_neg (by first | assumption | simpa using hr19 | simp [*]), if_neg (by first | assumption | simpa using hr28 | simp [*]), if_neg (by first | assumption | simpa using hr31 | simp [*])])]; simpa only [List.append_assoc, List.append_nil] using q)⟩ (by dsimp only; omega) ⟨rfl, rfl, rfl, rfl, rfl, rfl, trivial⟩ (m_ (f_ i_) S_) (fun _ _ h => h)
         ·
          simp at hr31
          refine u_ rfl (c_ (a_ (e_ rfl) rfl (a_ (l_ n_ rfl rfl rfl j_) rfl (a_ (t_ 1 q_ rfl rfl rfl) rfl (a_ (l_ k_ rfl rfl rfl j_) rfl (a_ (t_ 0 q_ rfl rfl rfl) rfl (a_ (l_ k_ rfl rfl rfl K_) rfl (a_ (t_ 0 P_ rfl rfl rfl) rfl (a_ (l_ k_ rfl rfl rfl K_) rfl ?_)))))))))
          refine a_ (t_ 0 P_ rfl rfl rfl) rfl (V_ (mM_ (Fc.a f) (Pc.r x1) (Pc.lo x1) (Pc.hi x1)) rfl I_ (fun _ _ _ => by exact trivial) rfl fun _ => ?_)
          refine aJ_ F_ D_ ag_ rfl rfl rfl rfl rfl rfl fun b8 => ?_
          refine bw_ (List.flatMap Fc.cells [(aO_ (Fc.a f) (Pc.r x1) (Pc.lo x1) (Pc.hi x1))]) i_ rfl ?_
          refine aK_ (news := List.flatMap Fc.cells [(aO_ (Fc.a f) (Pc.r x1) (Pc.lo x1) (Pc.hi x1))]) cc_ hr_Rfc rfl rfl (fun q => by cases q) (by simp) (f_ S_) (by rw [bp_ Fc.cells 6 Fc.cells_len]; rfl) (fun v _ h => by exact h.1) (fun u hu => aN_ Fc.cells_one hu) (by simp only [maxLen]; ((try simp only [List.length_append, List.length_cons, List.length_nil]); omega)) (by ((try simp only [List.length_append, List.length_cons, List.length_nil]); omega)) rfl fun sv8 Hr8 hr8 => ?_
          refine al_ List.perm_append_comm ?_
          have hq8 : aR_ 41 6 sv8 (List.length ((List.flatMap (cq_ l f) (List.take i p)) ++ [(aO_ (Fc.a f) (Pc.r x1) (Pc.lo x1) (Pc.hi x1))])) (List.flatMap Fc.cells ((List.flatMap (cq_ l f) (List.take i p)) ++ [(aO_ (Fc.a f) (Pc.r x1) (Pc.lo x1) (Pc.hi x1))])) Hr8 := by rw [List.length_append, List.flatMap_append]; exact hr8
          refine a_ (g_ rfl) rfl (d_ (b_ rfl (c_ (a_ (e_ rfl) rfl (a_ (O_ rfl rfl rfl (af_ (by omega) (by omega))) rfl (a_ (g_ rfl) rfl (d_ (w_ rfl ?_))))))))
          exact Y_ ⟨(i + 1, sv8, Hr8), hlx1, (by have q := hq8; rw [bo_ hx1, show (cq_ l f) x1 = [(aO_ (Fc.a f) (Pc.r x1) (Pc.lo x1) (Pc.hi x1))] from (by unfold cq_; rw [if_neg (by first | assumption | simpa using hr16 | simp [*]), if_neg (by first | assumption | simpa using hr19 | simp [*]), if_neg (by first | assumption | simpa using hr28 | simp [*]), if_pos (by first | assumption | simpa using hr31 | simp [*])])]; simpa only [List.append_assoc, List.append_nil] using q)⟩ (by dsimp only; omega) ⟨rfl, rfl, rfl, rfl, rfl, rfl, trivial⟩ (m_ (f_ i_) S_) (fun _ _ h => h.2)
       ·
        simp at hr28
        refine u_ rfl (c_ (a_ (e_ rfl) rfl (a_ (l_ n_ rfl rfl rfl j_) rfl (a_ (t_ 1 q_ rfl rfl rfl) rfl (a_ (l_ k_ rfl rfl rfl j_) rfl (a_ (t_ 0 q_ rfl rfl rfl) rfl (a_ (l_ k_ rfl rfl rfl j_) rfl (a_ (t_ 0 q_ rfl rfl rfl) rfl (V_ (eG_ (Fc.a f) (Pc.r x1) (Pc.c x1)) rfl I_ (fun _ _ _ => by exact trivial) rfl fun _ => ?_)))))))))
        refine aJ_ F_ D_ ag_ rfl rfl rfl rfl rfl rfl fun b9 => ?_
        refine bw_ (List.flatMap Fc.cells [(aw_ (Fc.a f) (Pc.r x1) (Pc.c x1))]) i_ rfl ?_
        refine aK_ (news := List.flatMap Fc.cells [(aw_ (Fc.a f) (Pc.r x1) (Pc.c x1))]) cc_ hr_Rfc rfl rfl (fun q => by cases q) (by simp) (f_ S_) (by rw [bp_ Fc.cells 6 Fc.cells_len]; rfl) (fun v _ h => by exact h.1) (fun u hu => aN_ Fc.cells_one hu) (by simp only [maxLen]; ((try simp only [List.length_append, List.length_cons, List.length_nil]); omega)) (by ((try simp only [List.length_append, List.length_cons, List.length_nil]); omega)) rfl fun sv9 Hr9 hr9 => ?_
        refine al_ List.perm_append_comm ?_
        have hq9 : aR_ 41 6 sv9 (List.length ((List.flatMap (cq_ l f) (List.take i p)) ++ [(aw_ (Fc.a f) (Pc.r x1) (Pc.c x1))])) (List.flatMap Fc.cells ((List.flatMap (cq_ l f) (List.take i p)) ++ [(aw_ (Fc.a f) (Pc.r x1) (Pc.c x1))])) Hr9 := by rw [List.length_append, List.flatMap_append]; exact hr9
        refine a_ (g_ rfl) rfl (d_ (b_ rfl (c_ (a_ (e_ rfl) rfl (a_ (O_ rfl rfl rfl (af_ (by omega) (by omega))) rfl (a_ (g_ rfl) rfl (d_ (w_ rfl ?_))))))))
        exact Y_ ⟨(i + 1, sv9, Hr9), hlx1, (by have q := hq9; rw [bo_ hx1, show (cq_ l f) x1 = [(aw_ (Fc.a f) (Pc.r x1) (Pc.c x1))] from (by unfold cq_; rw [if_neg (by first | assumption | simpa using hr16 | simp [*]), if_neg (by first | assumption | simpa using hr19 | simp [*]), if_pos (by first | assumption | simpa using hr28 | simp [*])])]; simpa only [List.append_assoc, List.append_nil] using q)⟩ (by dsimp only; omega) ⟨rfl, rfl, rfl, rfl, rfl, rfl, trivial⟩ (m_ (f_ i_) S_) (fun _ _ h => h.2)
     ·
      simp at hr19
      refine u_ rfl (c_ (a_ (e_ rfl) rfl (a_ (l_ n_ rfl rfl rfl j_) rfl (a_ (t_ 1 q_ rfl rfl rfl) rfl (a_ (l_ k_ rfl rfl rfl j_) rfl (a_ (t_ 0 q_ rfl rfl rfl) rfl (V_ (dR_ (Fc.a f) (Pc.c x1)) rfl I_ (fun _ _ _ => by exact trivial) rfl fun _ => ?_)))))))
      refine aJ_ F_ D_ ag_ rfl rfl rfl rfl rfl rfl fun b10 => ?_
      refine bw_ (List.flatMap Fc.cells [(aj_ (Fc.a f) (Pc.c x1))]) i_ rfl ?_
      refine aK_ (news := List.flatMap Fc.cells [(aj_ (Fc.a f) (Pc.c x1))]) cc_ hr_Rfc rfl rfl (fun q => by cases q) (by simp) (f_ S_) (by rw [bp_ Fc.cells 6 Fc.cells_len]; rfl) (fun v _ h => by exact h.1) (fun u hu => aN_ Fc.cells_one hu) (by simp only [maxLen]; ((try simp only [List.length_append, List.length_cons, List.length_nil]); omega)) (by ((try simp only [List.length_append, List.length_cons, List.length_nil]); omega)) rfl fun sv10 Hr10 hr10 => ?_
      refine al_ List.perm_append_comm ?_
      have hq10 : aR_ 41 6 sv10 (List.length ((List.flatMap (cq_ l f) (List.take i p)) ++ [(aj_ (Fc.a f) (Pc.c x1))])) (List.flatMap Fc.cells ((List.flatMap (cq_ l f) (List.take i p)) ++ [(aj_ (Fc.a f) (Pc.c x1))])) Hr10 := by rw [List.length_append, List.flatMap_append]; exact hr10
      refine a_ (g_ rfl) rfl (d_ (b_ rfl (c_ (a_ (e_ rfl) rfl (a_ (O_ rfl rfl rfl (af_ (by omega) (by omega))) rfl (a_ (g_ rfl) rfl (d_ (w_ rfl ?_))))))))
      exact Y_ ⟨(i + 1, sv10, Hr10), hlx1, (by have q := hq10; rw [bo_ hx1, show (cq_ l f) x1 = [(aj_ (Fc.a f) (Pc.c x1))] from (by unfold cq_; rw [if_neg (by first | assumption | simpa using hr16 | simp [*]), if_pos (by first | assumption | simpa using hr19 | simp [*])])]; simpa only [List.append_assoc, List.append_nil] using q)⟩ (by dsimp only; omega) ⟨rfl, rfl, rfl, rfl, rfl, rfl, trivial⟩ (m_ (f_ i_) S_) (fun _ _ h => h.2)
   ·
    simp at hr16
    refine u_ rfl (c_ (a_ (e_ rfl) rfl (a_ (l_ n_ rfl rfl rfl j_) rfl (a_ (t_ 1 q_ rfl rfl rfl) rfl (a_ (l_ k_ rfl rfl rfl j_) rfl (a_ (t_ 0 q_ rfl rfl rfl) rfl (V_ (dR_ (Fc.a f) (Pc.c x1)) rfl I_ (fun _ _ _ => by exact trivial) rfl fun _ => ?_)))))))
    refine aJ_ F_ D_ ag_ rfl rfl rfl rfl rfl rfl fun b11 => ?_
    refine bw_ (List.flatMap Fc.cells [(aj_ (Fc.a f) (Pc.c x1))]) i_ rfl ?_
    refine aK_ (news := List.flatMap Fc.cells [(aj_ (Fc.a f) (Pc.c x1))]) cc_ hr_Rfc rfl rfl (fun q => by cases q) (by simp) (f_ S_) (by rw [bp_ Fc.cells 6 Fc.cells_len]; rfl) (fun v _ h => by exact h.1) (fun u hu => aN_ Fc.cells_one hu) (by simp only [maxLen]; ((try simp only [List.length_append, List.length_cons, List.length_nil]); omega)) (by ((try simp only [List.length_append, List.length_cons, List.length_nil]); omega)) rfl fun sv11 Hr11 hr11 => ?_
    refine al_ List.perm_append_comm ?_
    have hq11 : aR_ 41 6 sv11 (List.length ((List.flatMap (cq_ l f) (List.take i p)) ++ [(aj_ (Fc.a f) (Pc.c x1))])) (List.flatMap Fc.cells ((List.flatMap (cq_ l f) (List.take i p)) ++ [(aj_ (Fc.a f) (Pc.c x1))])) Hr11 := by rw [List.length_append, List.flatMap_append]; exact hr11
    refine a_ (g_ rfl) rfl (d_ (b_ rfl (c_ (a_ (e_ rfl) rfl (a_ (O_ rfl rfl rfl (af_ (by omega) (by omega))) rfl (a_ (g_ rfl) rfl (d_ (w_ rfl ?_))))))))
    exact Y_ ⟨(i + 1, sv11, Hr11), hlx1, (by have q := hq11; rw [bo_ hx1, show (cq_ l f) x1 = [(aj_ (Fc.a f) (Pc.c x1))] from (by unfold cq_; rw [if_pos (by first | assumption | simpa using hr16 | simp [*])])]; simpa only [List.append_assoc, List.append_nil] using q)⟩ (by dsimp only; omega) ⟨rfl, rfl, rfl, rfl, rfl, rfl, trivial⟩ (m_ (f_ i_) S_) (fun _ _ h => h.2)
theorem oL_ (p : List Pc) (pad : Option Addr) (pcap : Nat) (l : List Fc) (lad : Option Addr) (lcap : Nat) (f : Fc) (hp : p.length ≤ 100) (hl : l.length ≤ 65536) (hs : Srt l) : Tri Tryz.prog 119 #[.slice pad (List.length p) pcap, .slice lad (List.length l) lcap, Fc.val f] [] [aC_ pad (List.flatMap Pc.cells p), aC_ lad (List.flatMap Fc.cells l)] (fun y : {y : Option Addr × Nat // ((fw_ p l f)).length ≤ y.2 ∧ y.2 ≤ maxLen ∧ (y.1 = none → y.2 = 0)} => .slice y.1.1 ((fw_ p l f)).length y.1.2) (fun _ => []) (fun y => [aC_ y.1.1 (((fw_ p l f)).flatMap Fc.cells)]) := by
 refine R_ Tryz.func119 rfl rfl Tryz.ntmps119 rfl fun v0 => ?_
 refine h_ (c_ (bn_ rfl rfl fun b1 => ?_))
 refine a_ (g_ rfl) rfl (d_ (b_ rfl (h_ (c_ (cW_ F_ D_ rfl fun b2 => ?_)))))
 refine al_ i_ (a_ (g_ rfl) rfl (d_ (b_ rfl (h_ (al_ (dh_ bi_) (h_ (c_ (a_ (e_ rfl) rfl (a_ (l_ n_ rfl rfl rfl j_) rfl ?_)))))))))
 refine a_ (t_ 0 q_ rfl rfl rfl) rfl (V_ (dR_ (Fc.b f) [33]) rfl I_ (fun _ _ _ => by exact trivial) rfl fun _ => ?_)
 refine au_ (kc_ l lad lcap (aj_ (Fc.b f) [33]) (by omega) hs) rfl I_ (fun v _ h => by exact ⟨h.2.1, trivial⟩) rfl fun r1 hr1 => ?_
 refine d_ (b_ rfl ?_)
 cases r1
 ·
  replace hr1 := dF hr1
  refine v_ rfl (B_ (b_ rfl (h_ (h_ (c_ (a_ (g_ rfl) rfl (d_ (b_ rfl (Q_ ?_)))))))))
  have hw1 : aR_ 41 6 (.slice (some ⟨b2, 0, none⟩) 0 0) (List.length (([] : List Fc) ++ List.flatMap (bD_ l f) (List.take 0 p))) (List.flatMap Fc.cells (([] : List Fc) ++ List.flatMap (bD_ l f) (List.take 0 p))) [(b2, .cells #[] 41 (0, 0))] := by have q := (dP_ b2 41 6); simpa only [List.take_zero, List.flatMap_nil, List.append_nil, List.length_nil] using q
  refine aG_ (ι := {y : Nat × Value × Hp // y.1 ≤ List.length p ∧ aR_ 41 6 y.2.1 (List.length (([] : List Fc) ++ List.flatMap (bD_ l f) (List.take y.1 p))) (List.flatMap Fc.cells (([] : List Fc) ++ List.flatMap (bD_ l f) (List.take y.1 p))) y.2.2}) (fun y => [(0, .slice pad (List.length p) pcap), (1, .slice lad (List.length l) lcap), (5, zp_ b1 0), (6, .slice none 0 0), (7, y.1.2.1), (8, .int .i64 (y.1.1 : Int))]) (fun y => ((b1, .cells (Fc.cells f).toArray 41 (0, 0)) :: y.1.2.2)) (fun y => [aC_ pad (List.flatMap Pc.cells p), aC_ lad (List.flatMap Fc.cells l)]) (fun y => List.length p - y.1.1) ⟨((0 : Nat), (.slice (some ⟨b2, 0, none⟩) 0 0), [(b2, .cells #[] 41 (0, 0))]), by simp, hw1⟩ ⟨rfl, rfl, rfl, rfl, rfl, rfl, trivial⟩ (m_ i_ aE_) (fun _ _ h => h) ?_
  rintro ⟨⟨i, sv_Rfc, H_Rfc⟩, hi_i, hr_Rfc⟩
  dsimp only at hi_i hr_Rfc ⊢
  have hb1 := dE_ (g := bD_ l f) (n := 131072) (List.take i p) (fun x _ => jY_ hl f x)
  rw [List.length_take] at hb1
  refine h_ (h_ (c_ (a_ (e_ rfl) rfl (a_ (e_ rfl) rfl (a_ (ak_ H_ rfl) rfl (x_ (ax_ rfl rfl) rfl fun r2 hr2 => ?_))))))
  refine d_ (b_ rfl ?_)
  cases r2
  ·
   replace hr2 := of_decide_eq_false hr2
   rw [show List.take i p = p from List.take_of_length_le (by omega)] at hr_Rfc
   refine v_ rfl (at_ rfl (b_ rfl (h_ (c_ (a_ (e_ rfl) rfl (a_ (g_ rfl) rfl (d_ (b_ rfl (E_ ?_)))))))))
   have hw2 : aR_ 41 6 sv_Rfc (List.length (fw_ p l f)) (List.flatMap Fc.cells (fw_ p l f)) H_Rfc := by have q := hr_Rfc; unfold fw_; first | (rw [if_pos (by assumption)]; simpa only [List.nil_append] using q) | (rw [if_neg (by assumption)]; simpa only [List.nil_append] using q)
   refine bt_ hw2 S_ fun ad2 cp2 had2 hcad2 hmad2 hzad2 => ?_
   exact as_ Tryz.results119 ⟨(ad2, cp2), hcad2, hmad2, hzad2⟩ (bW_ rfl had2) I_ (fun v _ h => ⟨h.1, trivial⟩)
  ·
   replace hr2 := of_decide_eq_true hr2
   have hlx1 : i < List.length p := by omega
   obtain ⟨x1, hx1⟩ : ∃ e0, p[i]? = some e0 := ⟨_, List.getElem?_eq_getElem hlx1⟩
   have hmx1 : x1 ∈ p := List.mem_of_getElem? hx1
   refine u_ rfl (B_ (b_ rfl (h_ (Q_ (h_ (c_ (a_ (e_ rfl) rfl (a_ (e_ rfl) rfl (a_ (aa_ H_ L_ rfl rfl (fun v _ h => az_ (n := 10) Pc.cells_len (by decide) (by exact h.1) hx1) (by omega) (by first | omega | (simp; done))) rfl ?_)))))))))
   refine a_ (aT_ (ad := pad) (us := Pc.cells x1) aH_ L_ rfl (fun v _ h => by exact h.1) (Pc.cells_len _) (ac_ Pc.cells_len hx1)) rfl (ao_ bd_ rfl fun b3 => ?_)
   refine T_ 0 L_ rfl rfl rfl rfl rfl rfl (d_ (b_ rfl (Q_ (h_ (c_ (a_ (l_ k_ rfl rfl rfl K_) rfl (a_ (t_ 0 P_ rfl rfl rfl) rfl (x_ (aI_ rfl rfl) rfl fun r3 hr3 => ?_))))))))
   refine a_ (e_ rfl) rfl ?_
   refine aQ_ 6 (((Pc.kind x1) == 5) && ((Pc.r x1) == (Fc.r f))) (fun r => [(0, .slice pad (List.length p) pcap), (1, .slice lad (List.length l) lcap), (5, zp_ b1 0), (6, .slice none 0 0), (7, sv_Rfc), (8, .int .i64 (i : Int)), (9, zp_ b3 0), (44, .bool r)]) ?_ fun r4 hr4 => ?_
   ·
    cases r3
    ·
     have qr4 := hr3
     replace hr3 := ne_of_beq_false hr3
     refine r_ rfl rfl rfl rfl (r_ rfl rfl rfl rfl (r_ rfl rfl rfl rfl (r_ rfl rfl rfl rfl (r_ rfl rfl rfl rfl (a_ (A_ rfl rfl) rfl (d_ (w_ rfl ?_)))))))
     exact met ⟨rfl, rfl, rfl, rfl, rfl, rfl, rfl, (y_ rfl (jaf qr4)), trivial⟩
    ·
     have qr4 := hr3
     replace hr3 := eq_of_beq hr3
     refine p_ rfl rfl (a_ (l_ k_ rfl rfl rfl j_) rfl (p_ rfl rfl (a_ (t_ 0 q_ rfl rfl rfl) rfl (p_ rfl rfl (a_ (l_ n_ rfl rfl rfl j_) rfl (p_ rfl rfl (a_ (t_ 1 q_ rfl rfl rfl) rfl (p_ rfl rfl (x_ (ap_ rfl rfl) rfl fun r5 hr5 => ?_)))))))))
     refine a_ (G_ rfl rfl) rfl (d_ (w_ rfl ?_))
     exact met ⟨rfl, rfl, rfl, rfl, rfl, rfl, rfl, (y_ rfl (jat qr4 hr5)), trivial⟩
   ·
    refine a_ (g_ rfl) rfl (d_ (b_ rfl ?_))
    cases r4
    ·
     simp at hr4
     refine v_ rfl (h_ (c_ (a_ (l_ k_ rfl rfl rfl K_) rfl (a_ (t_ 0 P_ rfl rfl rfl) rfl (x_ (aI_ rfl rfl) rfl fun r6 hr6 => ?_)))))
     refine a_ (e_ rfl) rfl ?_
     refine aQ_ 6 (((Pc.kind x1) == 4) && ((Pc.r x1) == (Fc.r f))) (fun r => [(0, .slice pad (List.length p) pcap), (1, .slice lad (List.length l) lcap), (5, zp_ b1 0), (6, .slice none 0 0), (7, sv_Rfc), (8, .int .i64 (i : Int)), (9, zp_ b3 0), (65, .bool r)]) ?_ fun r7 hr7 => ?_
     ·
      cases r6
      ·
       have qr7 := hr6
       replace hr6 := ne_of_beq_false hr6
       refine r_ rfl rfl rfl rfl (r_ rfl rfl rfl rfl (r_ rfl rfl rfl rfl (r_ rfl rfl rfl rfl (r_ rfl rfl rfl rfl (a_ (A_ rfl rfl) rfl (d_ (w_ rfl ?_)))))))
       exact met ⟨rfl, rfl, rfl, rfl, rfl, rfl, rfl, (y_ rfl (jaf qr7)), trivial⟩
      ·
       have qr7 := hr6
       replace hr6 := eq_of_beq hr6
       refine p_ rfl rfl (a_ (l_ k_ rfl rfl rfl j_) rfl (p_ rfl rfl (a_ (t_ 0 q_ rfl rfl rfl) rfl (p_ rfl rfl (a_ (l_ n_ rfl rfl rfl j_) rfl (p_ rfl rfl (a_ (t_ 1 q_ rfl rfl rfl) rfl (p_ rfl rfl (x_ (ap_ rfl rfl) rfl fun r8 hr8 => ?_)))))))))
       refine a_ (G_ rfl rfl) rfl (d_ (w_ rfl ?_))
       exact met ⟨rfl, rfl, rfl, rfl, rfl, rfl, rfl, (y_ rfl (jat qr7 hr8)), trivial⟩
     ·
      refine a_ (e_ rfl) rfl ?_
      refine aQ_ 8 (((((Pc.kind x1) == 4) && ((Pc.r x1) == (Fc.r f)))) && (decide ((aj_ (Fc.b f) (Pc.a x1)) ∈ l))) (fun r => [(0, .slice pad (List.length p) pcap), (1, .slice lad (List.length l) lcap), (5, zp_ b1 0), (6, .slice none 0 0), (7, sv_Rfc), (8, .int .i64 (i : Int)), (9, zp_ b3 0), (74, .bool r)]) ?_ fun r9 hr9 => ?_
      ·
       cases r7
       ·
        have qr9 := hr7
        simp at hr7
        refine r_ rfl rfl rfl rfl (r_ rfl rfl rfl rfl (r_ rfl rfl rfl rfl (r_ rfl rfl rfl rfl (r_ rfl rfl rfl rfl (r_ rfl rfl rfl rfl (r_ rfl rfl rfl rfl (a_ (A_ rfl rfl) rfl (d_ (w_ rfl ?_)))))))))
        exact met ⟨rfl, rfl, rfl, rfl, rfl, rfl, rfl, (y_ rfl (jaf qr9)), trivial⟩
       ·
        have qr9 := hr7
        simp at hr7
        refine p_ rfl rfl (a_ (e_ rfl) rfl (p_ rfl rfl (a_ (l_ n_ rfl rfl rfl j_) rfl (p_ rfl rfl (a_ (t_ 1 q_ rfl rfl rfl) rfl (p_ rfl rfl (a_ (l_ k_ rfl rfl rfl j_) rfl (p_ rfl rfl (a_ (t_ 0 q_ rfl rfl rfl) rfl ?_)))))))))
        refine p_ rfl rfl (V_ (dR_ (Fc.b f) (Pc.a x1)) rfl I_ (fun _ _ _ => by exact trivial) rfl fun _ => ?_)
        refine p_ rfl rfl (au_ (kc_ l lad lcap (aj_ (Fc.b f) (Pc.a x1)) (by omega) hs) rfl I_ (fun v _ h => by exact ⟨h.2.1, trivial⟩) rfl fun r10 hr10 => ?_)
        refine a_ (G_ rfl rfl) rfl (d_ (w_ rfl ?_))
        exact met ⟨rfl, rfl, rfl, rfl, rfl, rfl, rfl, (y_ rfl (jat qr9 hr10)), trivial⟩
      ·
       refine a_ (g_ rfl) rfl (d_ (b_ rfl ?_))
       cases r9
       ·
        simp at hr9
        refine v_ rfl (h_ (c_ (a_ (l_ k_ rfl rfl rfl K_) rfl (a_ (t_ 0 P_ rfl rfl rfl) rfl (x_ (aI_ rfl rfl) rfl fun r11 hr11 => ?_)))))
        refine a_ (g_ rfl) rfl (d_ (b_ rfl ?_))
        cases r11
        ·
         replace hr11 := ne_of_beq_false hr11
         refine v_ rfl (B_ (b_ rfl (c_ (a_ (e_ rfl) rfl (a_ (O_ rfl rfl rfl (af_ (by omega) (by omega))) rfl (a_ (g_ rfl) rfl (d_ (w_ rfl ?_))))))))
         exact Y_ ⟨(i + 1, sv_Rfc, H_Rfc), hlx1, (by have q := hr_Rfc; rw [bo_ hx1, show (bD_ l f) x1 = [] from (by unfold bD_; rw [if_neg (by first | assumption | simpa using hr4 | simp [*]), if_neg (by first | assumption | simpa using hr9 | simp [*]), if_neg (by first | assumption | simpa using hr11 | simp [*])])]; simpa only [List.append_assoc, List.append_nil] using q)⟩ (by dsimp only; omega) ⟨rfl, rfl, rfl, rfl, rfl, rfl, trivial⟩ (m_ (f_ i_) S_) (fun _ _ h => h)
        ·
         replace hr11 := eq_of_beq hr11
         refine u_ rfl (h_ (c_ (a_ (g_ rfl) rfl (d_ (b_ rfl (Q_ ?_))))))
         have hw3 : aR_ 41 6 sv_Rfc (List.length ((([] : List Fc) ++ List.flatMap (bD_ l f) (List.take i p)) ++ List.flatMap (bP_ x1 f) (List.take 0 l))) (List.flatMap Fc.cells ((([] : List Fc) ++ List.flatMap (bD_ l f) (List.take i p)) ++ List.flatMap (bP_ x1 f) (List.take 0 l))) H_Rfc := by have q := hr_Rfc; simpa only [List.take_zero, List.flatMap_nil, List.append_nil, List.length_nil] using q
         refine aG_ (ι := {y : Nat × Value × Hp // y.1 ≤ List.length l ∧ aR_ 41 6 y.2.1 (List.length ((([] : List Fc) ++ List.flatMap (bD_ l f) (List.take i p)) ++ List.flatMap (bP_ x1 f) (List.take y.1 l))) (List.flatMap Fc.cells ((([] : List Fc) ++ List.flatMap (bD_ l f) (List.take i p)) ++ List.flatMap (bP_ x1 f) (List.take y.1 l))) y.2.2}) (fun y => [(0, .slice pad (List.length p) pcap), (1, .slice lad (List.length l) lcap), (5, zp_ b1 0), (6, .slice none 0 0), (7, y.1.2.1), (8, .int .i64 (i : Int)), (9, zp_ b3 0), (10, .int .i64 (y.1.1 : Int))]) (fun y => ((b3, .cells (Pc.cells x1).toArray 47 (0, 0)) :: ((b1, .cells (Fc.cells f).toArray 41 (0, 0)) :: y.1.2.2))) (fun y => [aC_ pad (List.flatMap Pc.cells p), aC_ lad (List.flatMap Fc.cells l)]) (fun y => List.length l - y.1.1) ⟨((0 : Nat), sv_Rfc, H_Rfc), by simp, hw3⟩ ⟨rfl, rfl, rfl, rfl, rfl, rfl, rfl, rfl, trivial⟩ (m_ i_ (m_ i_ aE_)) (fun _ _ h => h) ?_
         rintro ⟨⟨j, sv_Rfc, H_Rfc⟩, hi_j, hr_Rfc⟩
         dsimp only at hi_j hr_Rfc ⊢
         have hb2 := dE_ (g := bP_ x1 f) (n := 2) (List.take j l) (fun x _ => hP_ x1 f x)
         rw [List.length_take] at hb2
         refine h_ (h_ (c_ (a_ (e_ rfl) rfl (a_ (e_ rfl) rfl (a_ (ak_ F_ rfl) rfl (x_ (ax_ rfl rfl) rfl fun r12 hr12 => ?_))))))
         refine d_ (b_ rfl ?_)
         cases r12
         ·
          replace hr12 := of_decide_eq_false hr12
          rw [show List.take j l = l from List.take_of_length_le (by omega)] at hr_Rfc
          refine v_ rfl (at_ rfl (b_ rfl (c_ (a_ (e_ rfl) rfl (a_ (O_ rfl rfl rfl (af_ (by omega) (by omega))) rfl (a_ (g_ rfl) rfl (d_ (w_ rfl ?_))))))))
          exact Y_ ⟨(i + 1, sv_Rfc, H_Rfc), hlx1, (by have q := hr_Rfc; rw [bo_ hx1, show (bD_ l f) x1 = List.flatMap (bP_ x1 f) l from (by unfold bD_; rw [if_neg (by first | assumption | simpa using hr4 | simp [*]), if_neg (by first | assumption | simpa using hr9 | simp [*]), if_pos (by first | assumption | simpa using hr11 | simp [*])])]; simpa only [List.append_assoc, List.append_nil] using q)⟩ (by dsimp only; omega) ⟨rfl, rfl, rfl, rfl, rfl, rfl, trivial⟩ (m_ (f_ i_) S_) (fun _ _ h => h)
         ·
          replace hr12 := of_decide_eq_true hr12
          have hlx2 : j < List.length l := by omega
          obtain ⟨x2, hx2⟩ : ∃ e0, l[j]? = some e0 := ⟨_, List.getElem?_eq_getElem hlx2⟩
          have hmx2 : x2 ∈ l := List.mem_of_getElem? hx2
          refine u_ rfl (B_ (b_ rfl (h_ (Q_ (h_ (c_ (a_ (e_ rfl) rfl (a_ (e_ rfl) rfl (a_ (aa_ F_ D_ rfl rfl (fun v _ h => az_ (n := 6) Fc.cells_len (by decide) (by exact h.2.1) hx2) (by omega) (by first | omega | (simp; done))) rfl ?_)))))))))
          refine a_ (aT_ (ad := lad) (us := Fc.cells x2) ah_ D_ rfl (fun v _ h => by exact h.2.1) (Fc.cells_len _) (ac_ Fc.cells_len hx2)) rfl (ao_ ag_ rfl fun b4 => ?_)
          refine T_ 0 D_ rfl rfl rfl rfl rfl rfl (d_ (b_ rfl (h_ (h_ (c_ (a_ (l_ n_ rfl rfl rfl K_) rfl (a_ (t_ 0 P_ rfl rfl rfl) rfl (x_ (bN_ rfl rfl) rfl fun r13 hr13 => ?_))))))))
          refine d_ (b_ rfl ?_)
          cases r13
          ·
           replace hr13 := bb_ hr13
           refine v_ rfl (B_ (b_ rfl (h_ (h_ (c_ (a_ (l_ k_ rfl rfl rfl j_) rfl (a_ (t_ 1 q_ rfl rfl rfl) rfl (a_ (l_ n_ rfl rfl rfl j_) rfl (a_ (t_ 2 q_ rfl rfl rfl) rfl ?_)))))))))
           refine x_ (ap_ rfl rfl) rfl fun r14 hr14 => ?_
           refine a_ (e_ rfl) rfl ?_
           refine aQ_ 6 (((Pc.r x1) == (Fc.r f)) && ((Fc.a x2) == (Fc.b f))) (fun r => [(0, .slice pad (List.length p) pcap), (1, .slice lad (List.length l) lcap), (5, zp_ b1 0), (6, .slice none 0 0), (7, sv_Rfc), (8, .int .i64 (i : Int)), (9, zp_ b3 0), (10, .int .i64 (j : Int)), (11, zp_ b4 0), (111, .bool r)]) ?_ fun r15 hr15 => ?_
           ·
            cases r14
            ·
             have qr15 := hr14
             replace hr14 := ne_of_beq_false hr14
             refine r_ rfl rfl rfl rfl (r_ rfl rfl rfl rfl (r_ rfl rfl rfl rfl (r_ rfl rfl rfl rfl (r_ rfl rfl rfl rfl (a_ (A_ rfl rfl) rfl (d_ (w_ rfl ?_)))))))
             exact met ⟨rfl, rfl, rfl, rfl, rfl, rfl, rfl, rfl, rfl, (y_ rfl (jaf qr15)), trivial⟩
            ·
             have qr15 := hr14
             replace hr14 := eq_of_beq hr14
             refine p_ rfl rfl (a_ (l_ n_ rfl rfl rfl j_) rfl (p_ rfl rfl (a_ (t_ 0 q_ rfl rfl rfl) rfl (p_ rfl rfl (a_ (l_ n_ rfl rfl rfl j_) rfl (p_ rfl rfl (a_ (t_ 2 q_ rfl rfl rfl) rfl (p_ rfl rfl (x_ (ap_ rfl rfl) rfl fun r16 hr16 => ?_)))))))))
             refine a_ (G_ rfl rfl) rfl (d_ (w_ rfl ?_))
             exact met ⟨rfl, rfl, rfl, rfl, rfl, rfl, rfl, rfl, rfl, (y_ rfl (jat qr15 hr16)), trivial⟩
           ·
            refine a_ (e_ rfl) rfl ?_
            refine aQ_ 6 (((((Pc.r x1) == (Fc.r f)) && ((Fc.a x2) == (Fc.b f)))) && ((Fc.r x2) == (Pc.s x1))) (fun r => [(0, .slice pad (List.length p) pcap), (1, .slice lad (List.length l) lcap), (5, zp_ b1 0), (6, .slice none 0 0), (7, sv_Rfc), (8, .int .i64 (i : Int)), (9, zp_ b3 0), (10, .int .i64 (j : Int)), (11, zp_ b4 0), (118, .bool r)]) ?_ fun r17 hr17 => ?_
            ·
             cases r15
             ·
              have qr17 := hr15
              simp at hr15
              refine r_ rfl rfl rfl rfl (r_ rfl rfl rfl rfl (r_ rfl rfl rfl rfl (r_ rfl rfl rfl rfl (r_ rfl rfl rfl rfl (a_ (A_ rfl rfl) rfl (d_ (w_ rfl ?_)))))))
              exact met ⟨rfl, rfl, rfl, rfl, rfl, rfl, rfl, rfl, rfl, (y_ rfl (jaf qr17)), trivial⟩
             ·
              have qr17 := hr15
              simp at hr15
              refine p_ rfl rfl (a_ (l_ n_ rfl rfl rfl j_) rfl (p_ rfl rfl (a_ (t_ 0 q_ rfl rfl rfl) rfl (p_ rfl rfl (a_ (l_ k_ rfl rfl rfl j_) rfl (p_ rfl rfl (a_ (t_ 1 q_ rfl rfl rfl) rfl (p_ rfl rfl (x_ (ap_ rfl rfl) rfl fun r18 hr18 => ?_)))))))))
              refine a_ (G_ rfl rfl) rfl (d_ (w_ rfl ?_))
              exact met ⟨rfl, rfl, rfl, rfl, rfl, rfl, rfl, rfl, rfl, (y_ rfl (jat qr17 hr18)), trivial⟩
            ·
             refine d_ (b_ rfl ?_)
             cases r17
             ·
              simp at hr17
              refine v_ rfl (B_ (b_ rfl (h_ (c_ (a_ (l_ k_ rfl rfl rfl j_) rfl (a_ (t_ 1 q_ rfl rfl rfl) rfl (a_ (l_ n_ rfl rfl rfl j_) rfl (a_ (t_ 2 q_ rfl rfl rfl) rfl (x_ (ap_ rfl rfl) rfl fun r19 hr19 => ?_)))))))))
              refine a_ (e_ rfl) rfl ?_
              refine aQ_ 6 (((Pc.s x1) == (Fc.r f)) && ((Fc.b x2) == (Fc.a f))) (fun r => [(0, .slice pad (List.length p) pcap), (1, .slice lad (List.length l) lcap), (5, zp_ b1 0), (6, .slice none 0 0), (7, sv_Rfc), (8, .int .i64 (i : Int)), (9, zp_ b3 0), (10, .int .i64 (j : Int)), (11, zp_ b4 0), (140, .bool r)]) ?_ fun r20 hr20 => ?_
              ·
               cases r19
               ·
                have qr20 := hr19
                replace hr19 := ne_of_beq_false hr19
                refine r_ rfl rfl rfl rfl (r_ rfl rfl rfl rfl (r_ rfl rfl rfl rfl (r_ rfl rfl rfl rfl (r_ rfl rfl rfl rfl (a_ (A_ rfl rfl) rfl (d_ (w_ rfl ?_)))))))
                exact met ⟨rfl, rfl, rfl, rfl, rfl, rfl, rfl, rfl, rfl, (y_ rfl (jaf qr20)), trivial⟩
               ·
                have qr20 := hr19
                replace hr19 := eq_of_beq hr19
                refine p_ rfl rfl (a_ (l_ n_ rfl rfl rfl j_) rfl (p_ rfl rfl (a_ (t_ 0 q_ rfl rfl rfl) rfl (p_ rfl rfl (a_ (l_ n_ rfl rfl rfl j_) rfl (p_ rfl rfl (a_ (t_ 2 q_ rfl rfl rfl) rfl (p_ rfl rfl (x_ (ap_ rfl rfl) rfl fun r21 hr21 => ?_)))))))))
                refine a_ (G_ rfl rfl) rfl (d_ (w_ rfl ?_))
                exact met ⟨rfl, rfl, rfl, rfl, rfl, rfl, rfl, rfl, rfl, (y_ rfl (jat qr20 hr21)), trivial⟩
              ·
               refine a_ (e_ rfl) rfl ?_
               refine aQ_ 6 (((((Pc.s x1) == (Fc.r f)) && ((Fc.b x2) == (Fc.a f)))) && ((Fc.r x2) == (Pc.r x1))) (fun r => [(0, .slice pad (List.length p) pcap), (1, .slice lad (List.length l) lcap), (5, zp_ b1 0), (6, .slice none 0 0), (7, sv_Rfc), (8, .int .i64 (i : Int)), (9, zp_ b3 0), (10, .int .i64 (j : Int)), (11, zp_ b4 0), (147, .bool r)]) ?_ fun r22 hr22 => ?_
               ·
                cases r20
                ·
                 have qr22 := hr20
                 simp at hr20
                 refine r_ rfl rfl rfl rfl (r_ rfl rfl rfl rfl (r_ rfl rfl rfl rfl (r_ rfl rfl rfl rfl (r_ rfl rfl rfl rfl (a_ (A_ rfl rfl) rfl (d_ (w_ rfl ?_)))))))
                 exact met ⟨rfl, rfl, rfl, rfl, rfl, rfl, rfl, rfl, rfl, (y_ rfl (jaf qr22)), trivial⟩
                ·
                 have qr22 := hr20
                 simp at hr20
                 refine p_ rfl rfl (a_ (l_ n_ rfl rfl rfl j_) rfl (p_ rfl rfl (a_ (t_ 0 q_ rfl rfl rfl) rfl (p_ rfl rfl (a_ (l_ k_ rfl rfl rfl j_) rfl (p_ rfl rfl (a_ (t_ 1 q_ rfl rfl rfl) rfl (p_ rfl rfl (x_ (ap_ rfl rfl) rfl fun r23 hr23 => ?_)))))))))
                 refine a_ (G_ rfl rfl) rfl (d_ (w_ rfl ?_))
                 exact met ⟨rfl, rfl, rfl, rfl, rfl, rfl, rfl, rfl, rfl, (y_ rfl (jat qr22 hr23)), trivial⟩
               ·
                refine d_ (b_ rfl ?_)
                cases r22
                ·
                 simp at hr22
                 refine v_ rfl (B_ (b_ rfl (c_ (a_ (e_ rfl) rfl (a_ (O_ rfl rfl rfl (af_ (by omega) (by omega))) rfl (a_ (g_ rfl) rfl (d_ (w_ rfl ?_))))))))
                 exact Y_ ⟨(j + 1, sv_Rfc, H_Rfc), hlx2, (by have q := hr_Rfc; rw [bo_ hx2, show (bP_ x1 f) x2 = [] from (by unfold bP_; rw [if_neg (by simp [*]), if_neg (by first | assumption | simpa using hr17 | simp [*]), if_neg (by first | assumption | simpa using hr22 | simp [*])]; try rfl)]; simpa only [List.append_assoc, List.append_nil] using q)⟩ (by dsimp only; omega) ⟨rfl, rfl, rfl, rfl, rfl, rfl, rfl, rfl, trivial⟩ (m_ (f_ i_) (m_ (f_ i_) S_)) (fun _ _ h => h)
                ·
                 simp at hr22
                 refine u_ rfl (c_ (a_ (e_ rfl) rfl (a_ (l_ n_ rfl rfl rfl j_) rfl (a_ (t_ 0 q_ rfl rfl rfl) rfl (a_ (l_ k_ rfl rfl rfl j_) rfl (a_ (t_ 1 q_ rfl rfl rfl) rfl (a_ (l_ n_ rfl rfl rfl j_) rfl (a_ (t_ 2 q_ rfl rfl rfl) rfl (V_ (eG_ (Fc.a x2) (Pc.t x1) (Fc.b f)) rfl I_ (fun _ _ _ => by exact trivial) rfl fun _ => ?_)))))))))
                 refine aJ_ F_ D_ ag_ rfl rfl rfl rfl rfl rfl fun b5 => ?_
                 refine bw_ (List.flatMap Fc.cells [(aw_ (Fc.a x2) (Pc.t x1) (Fc.b f))]) i_ rfl ?_
                 refine aK_ (news := List.flatMap Fc.cells [(aw_ (Fc.a x2) (Pc.t x1) (Fc.b f))]) cc_ hr_Rfc rfl rfl (fun q => by cases q) (by simp) (f_ (f_ S_)) (by rw [bp_ Fc.cells 6 Fc.cells_len]; rfl) (fun v _ h => by exact h.1) (fun u hu => aN_ Fc.cells_one hu) (by simp only [maxLen]; ((try simp only [List.length_append, List.length_cons, List.length_nil]); omega)) (by ((try simp only [List.length_append, List.length_cons, List.length_nil]); omega)) rfl fun sv4 Hr4 hr4 => ?_
                 refine al_ List.perm_append_comm ?_
                 have hq4 : aR_ 41 6 sv4 (List.length (((([] : List Fc) ++ List.flatMap (bD_ l f) (List.take i p)) ++ List.flatMap (bP_ x1 f) (List.take j l)) ++ [(aw_ (Fc.a x2) (Pc.t x1) (Fc.b f))])) (List.flatMap Fc.cells (((([] : List Fc) ++ List.flatMap (bD_ l f) (List.take i p)) ++ List.flatMap (bP_ x1 f) (List.take j l)) ++ [(aw_ (Fc.a x2) (Pc.t x1) (Fc.b f))])) Hr4 := by rw [List.length_append, List.flatMap_append]; exact hr4
                 refine a_ (g_ rfl) rfl (d_ (b_ rfl (c_ (a_ (e_ rfl) rfl (a_ (O_ rfl rfl rfl (af_ (by omega) (by omega))) rfl (a_ (g_ rfl) rfl (d_ (w_ rfl ?_))))))))
                 exact Y_ ⟨(j + 1, sv4, Hr4), hlx2, (by have q := hq4; rw [bo_ hx2, show (bP_ x1 f) x2 = [(aw_ (Fc.a x2) (Pc.t x1) (Fc.b f))] from (by unfold bP_; rw [if_neg (by simp [*]), if_neg (by first | assumption | simpa using hr17 | simp [*]), if_pos (by first | assumption | simpa using hr22 | simp [*])]; try rfl)]; simpa only [List.append_assoc, List.append_nil] using q)⟩ (by dsimp only; omega) ⟨rfl, rfl, rfl, rfl, rfl, rfl, rfl, rfl, trivial⟩ (m_ (f_ i_) (m_ (f_ i_) S_)) (fun _ _ h => h.2)
             ·
              simp at hr17
              refine u_ rfl (c_ (a_ (e_ rfl) rfl (a_ (l_ n_ rfl rfl rfl j_) rfl (a_ (t_ 2 q_ rfl rfl rfl) rfl (a_ (l_ k_ rfl rfl rfl j_) rfl (a_ (t_ 1 q_ rfl rfl rfl) rfl (a_ (l_ n_ rfl rfl rfl j_) rfl (a_ (t_ 0 q_ rfl rfl rfl) rfl (V_ (eG_ (Fc.a f) (Pc.t x1) (Fc.b x2)) rfl I_ (fun _ _ _ => by exact trivial) rfl fun _ => ?_)))))))))
              refine aJ_ F_ D_ ag_ rfl rfl rfl rfl rfl rfl fun b6 => ?_
              refine bw_ (List.flatMap Fc.cells [(aw_ (Fc.a f) (Pc.t x1) (Fc.b x2))]) i_ rfl ?_
              refine aK_ (news := List.flatMap Fc.cells [(aw_ (Fc.a f) (Pc.t x1) (Fc.b x2))]) cc_ hr_Rfc rfl rfl (fun q => by cases q) (by simp) (f_ (f_ S_)) (by rw [bp_ Fc.cells 6 Fc.cells_len]; rfl) (fun v _ h => by exact h.1) (fun u hu => aN_ Fc.cells_one hu) (by simp only [maxLen]; ((try simp only [List.length_append, List.length_cons, List.length_nil]); omega)) (by ((try simp only [List.length_append, List.length_cons, List.length_nil]); omega)) rfl fun sv5 Hr5 hr5 => ?_
              refine al_ List.perm_append_comm ?_
              have hq5 : aR_ 41 6 sv5 (List.length (((([] : List Fc) ++ List.flatMap (bD_ l f) (List.take i p)) ++ List.flatMap (bP_ x1 f) (List.take j l)) ++ [(aw_ (Fc.a f) (Pc.t x1) (Fc.b x2))])) (List.flatMap Fc.cells (((([] : List Fc) ++ List.flatMap (bD_ l f) (List.take i p)) ++ List.flatMap (bP_ x1 f) (List.take j l)) ++ [(aw_ (Fc.a f) (Pc.t x1) (Fc.b x2))])) Hr5 := by rw [List.length_append, List.flatMap_append]; exact hr5
              refine a_ (g_ rfl) rfl (d_ (b_ rfl (h_ (c_ (a_ (l_ k_ rfl rfl rfl j_) rfl (a_ (t_ 1 q_ rfl rfl rfl) rfl (a_ (l_ n_ rfl rfl rfl j_) rfl (a_ (t_ 2 q_ rfl rfl rfl) rfl (x_ (ap_ rfl rfl) rfl fun r24 hr24 => ?_)))))))))
              refine a_ (e_ rfl) rfl ?_
              refine aQ_ 6 (((Pc.s x1) == (Fc.r f)) && ((Fc.b x2) == (Fc.a f))) (fun r => [(0, .slice pad (List.length p) pcap), (1, .slice lad (List.length l) lcap), (5, zp_ b1 0), (6, .slice none 0 0), (7, sv5), (8, .int .i64 (i : Int)), (9, zp_ b3 0), (10, .int .i64 (j : Int)), (11, zp_ b4 0), (140, .bool r)]) ?_ fun r25 hr25 => ?_
              ·
               cases r24
               ·
                have qr25 := hr24
                replace hr24 := ne_of_beq_false hr24
                refine r_ rfl rfl rfl rfl (r_ rfl rfl rfl rfl (r_ rfl rfl rfl rfl (r_ rfl rfl rfl rfl (r_ rfl rfl rfl rfl (a_ (A_ rfl rfl) rfl (d_ (w_ rfl ?_)))))))
                exact met ⟨rfl, rfl, rfl, rfl, rfl, rfl, rfl, rfl, rfl, (y_ rfl (jaf qr25)), trivial⟩
               ·
                have qr25 := hr24
                replace hr24 := eq_of_beq hr24
                refine p_ rfl rfl (a_ (l_ n_ rfl rfl rfl j_) rfl (p_ rfl rfl (a_ (t_ 0 q_ rfl rfl rfl) rfl (p_ rfl rfl (a_ (l_ n_ rfl rfl rfl j_) rfl (p_ rfl rfl (a_ (t_ 2 q_ rfl rfl rfl) rfl (p_ rfl rfl (x_ (ap_ rfl rfl) rfl fun r26 hr26 => ?_)))))))))
                refine a_ (G_ rfl rfl) rfl (d_ (w_ rfl ?_))
                exact met ⟨rfl, rfl, rfl, rfl, rfl, rfl, rfl, rfl, rfl, (y_ rfl (jat qr25 hr26)), trivial⟩
              ·
               refine a_ (e_ rfl) rfl ?_
               refine aQ_ 6 (((((Pc.s x1) == (Fc.r f)) && ((Fc.b x2) == (Fc.a f)))) && ((Fc.r x2) == (Pc.r x1))) (fun r => [(0, .slice pad (List.length p) pcap), (1, .slice lad (List.length l) lcap), (5, zp_ b1 0), (6, .slice none 0 0), (7, sv5), (8, .int .i64 (i : Int)), (9, zp_ b3 0), (10, .int .i64 (j : Int)), (11, zp_ b4 0), (147, .bool r)]) ?_ fun r27 hr27 => ?_
               ·
                cases r25
                ·
                 have qr27 := hr25
                 simp at hr25
                 refine r_ rfl rfl rfl rfl (r_ rfl rfl rfl rfl (r_ rfl rfl rfl rfl (r_ rfl rfl rfl rfl (r_ rfl rfl rfl rfl (a_ (A_ rfl rfl) rfl (d_ (w_ rfl ?_)))))))
                 exact met ⟨rfl, rfl, rfl, rfl, rfl, rfl, rfl, rfl, rfl, (y_ rfl (jaf qr27)), trivial⟩
                ·
                 have qr27 := hr25
                 simp at hr25
                 refine p_ rfl rfl (a_ (l_ n_ rfl rfl rfl j_) rfl (p_ rfl rfl (a_ (t_ 0 q_ rfl rfl rfl) rfl (p_ rfl rfl (a_ (l_ k_ rfl rfl rfl j_) rfl (p_ rfl rfl (a_ (t_ 1 q_ rfl rfl rfl) rfl (p_ rfl rfl (x_ (ap_ rfl rfl) rfl fun r28 hr28 => ?_)))))))))
                 refine a_ (G_ rfl rfl) rfl (d_ (w_ rfl ?_))
                 exact met ⟨rfl, rfl, rfl, rfl, rfl, rfl, rfl, rfl, rfl, (y_ rfl (jat qr27 hr28)), trivial⟩
               ·
                refine d_ (b_ rfl ?_)
                cases r27
                ·
                 simp at hr27
                 refine v_ rfl (B_ (b_ rfl (c_ (a_ (e_ rfl) rfl (a_ (O_ rfl rfl rfl (af_ (by omega) (by omega))) rfl (a_ (g_ rfl) rfl (d_ (w_ rfl ?_))))))))
                 exact Y_ ⟨(j + 1, sv5, Hr5), hlx2, (by have q := hq5; rw [bo_ hx2, show (bP_ x1 f) x2 = [(aw_ (Fc.a f) (Pc.t x1) (Fc.b x2))] from (by unfold bP_; rw [if_neg (by simp [*]), if_pos (by first | assumption | simpa using hr17 | simp [*]), if_neg (by first | assumption | simpa using hr27 | simp [*])]; try rfl)]; simpa only [List.append_assoc, List.append_nil] using q)⟩ (by dsimp only; omega) ⟨rfl, rfl, rfl, rfl, rfl, rfl, rfl, rfl, trivial⟩ (m_ (f_ i_) (m_ (f_ i_) S_)) (fun _ _ h => h.2)
                ·
                 simp at hr27
                 refine u_ rfl (c_ (a_ (e_ rfl) rfl (a_ (l_ n_ rfl rfl rfl j_) rfl (a_ (t_ 0 q_ rfl rfl rfl) rfl (a_ (l_ k_ rfl rfl rfl j_) rfl (a_ (t_ 1 q_ rfl rfl rfl) rfl (a_ (l_ n_ rfl rfl rfl j_) rfl (a_ (t_ 2 q_ rfl rfl rfl) rfl (V_ (eG_ (Fc.a x2) (Pc.t x1) (Fc.b f)) rfl I_ (fun _ _ _ => by exact trivial) rfl fun _ => ?_)))))))))
                 refine aJ_ F_ D_ ag_ rfl rfl rfl rfl rfl rfl fun b7 => ?_
                 refine bw_ (List.flatMap Fc.cells [(aw_ (Fc.a x2) (Pc.t x1) (Fc.b f))]) i_ rfl ?_
                 refine aK_ (news := List.flatMap Fc.cells [(aw_ (Fc.a x2) (Pc.t x1) (Fc.b f))]) cc_ hq5 rfl rfl (fun q => by cases q) (by simp) (f_ (f_ S_)) (by rw [bp_ Fc.cells 6 Fc.cells_len]; rfl) (fun v _ h => by exact h.1) (fun u hu => aN_ Fc.cells_one hu) (by simp only [maxLen]; ((try simp only [List.length_append, List.length_cons, List.length_nil]); omega)) (by ((try simp only [List.length_append, List.length_cons, List.length_nil]); omega)) rfl fun sv6 Hr6 hr6 => ?_
                 refine al_ List.perm_append_comm ?_
                 have hq6 : aR_ 41 6 sv6 (List.length ((((([] : List Fc) ++ List.flatMap (bD_ l f) (List.take i p)) ++ List.flatMap (bP_ x1 f) (List.take j l)) ++ [(aw_ (Fc.a f) (Pc.t x1) (Fc.b x2))]) ++ [(aw_ (Fc.a x2) (Pc.t x1) (Fc.b f))])) (List.flatMap Fc.cells ((((([] : List Fc) ++ List.flatMap (bD_ l f) (List.take i p)) ++ List.flatMap (bP_ x1 f) (List.take j l)) ++ [(aw_ (Fc.a f) (Pc.t x1) (Fc.b x2))]) ++ [(aw_ (Fc.a x2) (Pc.t x1) (Fc.b f))])) Hr6 := by rw [List.length_append, List.flatMap_append]; exact hr6
                 refine a_ (g_ rfl) rfl (d_ (b_ rfl (c_ (a_ (e_ rfl) rfl (a_ (O_ rfl rfl rfl (af_ (by omega) (by omega))) rfl (a_ (g_ rfl) rfl (d_ (w_ rfl ?_))))))))
                 exact Y_ ⟨(j + 1, sv6, Hr6), hlx2, (by have q := hq6; rw [bo_ hx2, show (bP_ x1 f) x2 = [(aw_ (Fc.a f) (Pc.t x1) (Fc.b x2))] ++ [(aw_ (Fc.a x2) (Pc.t x1) (Fc.b f))] from (by unfold bP_; rw [if_neg (by simp [*]), if_pos (by first | assumption | simpa using hr17 | simp [*]), if_pos (by first | assumption | simpa using hr27 | simp [*])]; try rfl)]; simpa only [List.append_assoc, List.append_nil] using q)⟩ (by dsimp only; omega) ⟨rfl, rfl, rfl, rfl, rfl, rfl, rfl, rfl, trivial⟩ (m_ (f_ i_) (m_ (f_ i_) S_)) (fun _ _ h => h.2.2)
          ·
           replace hr13 := ba_ hr13
           refine u_ rfl (at_ rfl (b_ rfl (c_ (a_ (e_ rfl) rfl (a_ (O_ rfl rfl rfl (af_ (by omega) (by omega))) rfl (a_ (g_ rfl) rfl (d_ (w_ rfl ?_))))))))
           exact Y_ ⟨(j + 1, sv_Rfc, H_Rfc), hlx2, (by have q := hr_Rfc; rw [bo_ hx2, show (bP_ x1 f) x2 = [] from (by unfold bP_; rw [if_pos (by assumption)])]; simpa only [List.append_assoc, List.append_nil] using q)⟩ (by dsimp only; omega) ⟨rfl, rfl, rfl, rfl, rfl, rfl, rfl, rfl, trivial⟩ (m_ (f_ i_) (m_ (f_ i_) S_)) (fun _ _ h => h)
       ·
        simp at hr9
        refine u_ rfl (c_ (a_ (e_ rfl) rfl (a_ (l_ n_ rfl rfl rfl j_) rfl (a_ (t_ 1 q_ rfl rfl rfl) rfl (a_ (l_ k_ rfl rfl rfl j_) rfl (a_ (t_ 0 q_ rfl rfl rfl) rfl (V_ (dR_ (Fc.a f) (Pc.c x1)) rfl I_ (fun _ _ _ => by exact trivial) rfl fun _ => ?_)))))))
        refine aJ_ F_ D_ ag_ rfl rfl rfl rfl rfl rfl fun b8 => ?_
        refine bw_ (List.flatMap Fc.cells [(aj_ (Fc.a f) (Pc.c x1))]) i_ rfl ?_
        refine aK_ (news := List.flatMap Fc.cells [(aj_ (Fc.a f) (Pc.c x1))]) cc_ hr_Rfc rfl rfl (fun q => by cases q) (by simp) (f_ S_) (by rw [bp_ Fc.cells 6 Fc.cells_len]; rfl) (fun v _ h => by exact h.1) (fun u hu => aN_ Fc.cells_one hu) (by simp only [maxLen]; ((try simp only [List.length_append, List.length_cons, List.length_nil]); omega)) (by ((try simp only [List.length_append, List.length_cons, List.length_nil]); omega)) rfl fun sv7 Hr7 hr7 => ?_
        refine al_ List.perm_append_comm ?_
        have hq7 : aR_ 41 6 sv7 (List.length ((([] : List Fc) ++ List.flatMap (bD_ l f) (List.take i p)) ++ [(aj_ (Fc.a f) (Pc.c x1))])) (List.flatMap Fc.cells ((([] : List Fc) ++ List.flatMap (bD_ l f) (List.take i p)) ++ [(aj_ (Fc.a f) (Pc.c x1))])) Hr7 := by rw [List.length_append, List.flatMap_append]; exact hr7
        refine a_ (g_ rfl) rfl (d_ (b_ rfl (c_ (a_ (e_ rfl) rfl (a_ (O_ rfl rfl rfl (af_ (by omega) (by omega))) rfl (a_ (g_ rfl) rfl (d_ (w_ rfl ?_))))))))
        exact Y_ ⟨(i + 1, sv7, Hr7), hlx1, (by have q := hq7; rw [bo_ hx1, show (bD_ l f) x1 = [(aj_ (Fc.a f) (Pc.c x1))] from (by unfold bD_; rw [if_neg (by first | assumption | simpa using hr4 | simp [*]), if_pos (by first | assumption | simpa using hr9 | simp [*])])]; simpa only [List.append_assoc, List.append_nil] using q)⟩ (by dsimp only; omega) ⟨rfl, rfl, rfl, rfl, rfl, rfl, trivial⟩ (m_ (f_ i_) S_) (fun _ _ h => h.2)
    ·
     simp at hr4
     refine u_ rfl (c_ (a_ (e_ rfl) rfl (a_ (l_ n_ rfl rfl rfl j_) rfl (a_ (t_ 1 q_ rfl rfl rfl) rfl (a_ (l_ k_ rfl rfl rfl j_) rfl (a_ (t_ 0 q_ rfl rfl rfl) rfl (a_ (l_ n_ rfl rfl rfl j_) rfl (a_ (t_ 1 q_ rfl rfl rfl) rfl (V_ (eG_ (Fc.a f) (Pc.t x1) (Fc.b f)) rfl I_ (fun _ _ _ => by exact trivial) rfl fun _ => ?_)))))))))
     refine aJ_ F_ D_ ag_ rfl rfl rfl rfl rfl rfl fun b9 => ?_
     refine bw_ (List.flatMap Fc.cells [(aw_ (Fc.a f) (Pc.t x1) (Fc.b f))]) i_ rfl ?_
     refine aK_ (news := List.flatMap Fc.cells [(aw_ (Fc.a f) (Pc.t x1) (Fc.b f))]) cc_ hr_Rfc rfl rfl (fun q => by cases q) (by simp) (f_ S_) (by rw [bp_ Fc.cells 6 Fc.cells_len]; rfl) (fun v _ h => by exact h.1) (fun u hu => aN_ Fc.cells_one hu) (by simp only [maxLen]; ((try simp only [List.length_append, List.length_cons, List.length_nil]); omega)) (by ((try simp only [List.length_append, List.length_cons, List.length_nil]); omega)) rfl fun sv8 Hr8 hr8 => ?_
     refine al_ List.perm_append_comm ?_
     have hq8 : aR_ 41 6 sv8 (List.length ((([] : List Fc) ++ List.flatMap (bD_ l f) (List.take i p)) ++ [(aw_ (Fc.a f) (Pc.t x1) (Fc.b f))])) (List.flatMap Fc.cells ((([] : List Fc) ++ List.flatMap (bD_ l f) (List.take i p)) ++ [(aw_ (Fc.a f) (Pc.t x1) (Fc.b f))])) Hr8 := by rw [List.length_append, List.flatMap_append]; exact hr8
     refine a_ (g_ rfl) rfl (d_ (b_ rfl (c_ (a_ (e_ rfl) rfl (a_ (O_ rfl rfl rfl (af_ (by omega) (by omega))) rfl (a_ (g_ rfl) rfl (d_ (w_ rfl ?_))))))))
     exact Y_ ⟨(i + 1, sv8, Hr8), hlx1, (by have q := hq8; rw [bo_ hx1, show (bD_ l f) x1 = [(aw_ (Fc.a f) (Pc.t x1) (Fc.b f))] from (by unfold bD_; rw [if_pos (by first | assumption | simpa using hr4 | simp [*])])]; simpa only [List.append_assoc, List.append_nil] using q)⟩ (by dsimp only; omega) ⟨rfl, rfl, rfl, rfl, rfl, rfl, trivial⟩ (m_ (f_ i_) S_) (fun _ _ h => h.2)
 ·
  replace hr1 := dT hr1
  refine u_ rfl (c_ (a_ (e_ rfl) rfl (a_ (l_ n_ rfl rfl rfl j_) rfl (a_ (t_ 0 q_ rfl rfl rfl) rfl (V_ (dR_ (Fc.a f) [33]) rfl I_ (fun _ _ _ => by exact trivial) rfl fun _ => ?_)))))
  refine aJ_ F_ D_ ag_ rfl rfl rfl rfl rfl rfl fun b10 => ?_
  refine bw_ (List.flatMap Fc.cells [(aj_ (Fc.a f) [33])]) i_ rfl ?_
  refine aK_ (news := List.flatMap Fc.cells [(aj_ (Fc.a f) [33])]) cc_ (dP_ b2 41 6) rfl rfl (fun q => by cases q) (by simp) S_ (by rw [bp_ Fc.cells 6 Fc.cells_len]; rfl) (fun v _ h => by exact h.1) (fun u hu => aN_ Fc.cells_one hu) (by simp only [maxLen]; ((try simp only [List.length_append, List.length_cons, List.length_nil]); omega)) (by ((try simp only [List.length_append, List.length_cons, List.length_nil]); omega)) rfl fun sv9 Hr9 hr9 => ?_
  refine al_ List.perm_append_comm ?_
  have hq9 : aR_ 41 6 sv9 (List.length (([] : List Fc) ++ [(aj_ (Fc.a f) [33])])) (List.flatMap Fc.cells (([] : List Fc) ++ [(aj_ (Fc.a f) [33])])) Hr9 := by rw [List.length_append, List.flatMap_append]; exact hr9
  refine a_ (g_ rfl) rfl (d_ (b_ rfl (h_ (h_ (c_ (a_ (g_ rfl) rfl (d_ (b_ rfl (Q_ ?_)))))))))
  have hw10 : aR_ 41 6 sv9 (List.length ((([] : List Fc) ++ [(aj_ (Fc.a f) [33])]) ++ List.flatMap (bD_ l f) (List.take 0 p))) (List.flatMap Fc.cells ((([] : List Fc) ++ [(aj_ (Fc.a f) [33])]) ++ List.flatMap (bD_ l f) (List.take 0 p))) Hr9 := by have q := hq9; simpa only [List.take_zero, List.flatMap_nil, List.append_nil, List.length_nil] using q
  refine aG_ (ι := {y : Nat × Value × Hp // y.1 ≤ List.length p ∧ aR_ 41 6 y.2.1 (List.length ((([] : List Fc) ++ [(aj_ (Fc.a f) [33])]) ++ List.flatMap (bD_ l f) (List.take y.1 p))) (List.flatMap Fc.cells ((([] : List Fc) ++ [(aj_ (Fc.a f) [33])]) ++ List.flatMap (bD_ l f) (List.take y.1 p))) y.2.2}) (fun y => [(0, .slice pad (List.length p) pcap), (1, .slice lad (List.length l) lcap), (5, zp_ b1 0), (6, .slice none 0 0), (7, y.1.2.1), (8, .int .i64 (y.1.1 : Int))]) (fun y => ((b1, .cells (Fc.cells f).toArray 41 (0, 0)) :: y.1.2.2)) (fun y => [aC_ (some ⟨b10, 0, none⟩) (List.flatMap Fc.cells [(aj_ (Fc.a f) [33])]), aC_ pad (List.flatMap Pc.cells p), aC_ lad (List.flatMap Fc.cells l)]) (fun y => List.length p - y.1.1) ⟨((0 : Nat), sv9, Hr9), by simp, hw10⟩ ⟨rfl, rfl, rfl, rfl, rfl, rfl, trivial⟩ (m_ i_ aE_) (fun _ _ h => h) ?_
  rintro ⟨⟨i, sv_Rfc, H_Rfc⟩, hi_i, hr_Rfc⟩
  dsimp only at hi_i hr_Rfc ⊢
  have hb1 := dE_ (g := bD_ l f) (n := 131072) (List.take i p) (fun x _ => jY_ hl f x)
  rw [List.length_take] at hb1
  refine h_ (h_ (c_ (a_ (e_ rfl) rfl (a_ (e_ rfl) rfl (a_ (ak_ H_ rfl) rfl (x_ (ax_ rfl rfl) rfl fun r29 hr29 => ?_))))))
  refine d_ (b_ rfl ?_)
  cases r29
  ·
   replace hr29 := of_decide_eq_false hr29
   rw [show List.take i p = p from List.take_of_length_le (by omega)] at hr_Rfc
   refine v_ rfl (at_ rfl (b_ rfl (h_ (c_ (a_ (e_ rfl) rfl (a_ (g_ rfl) rfl (d_ (b_ rfl (E_ ?_)))))))))
   have hw11 : aR_ 41 6 sv_Rfc (List.length (fw_ p l f)) (List.flatMap Fc.cells (fw_ p l f)) H_Rfc := by have q := hr_Rfc; unfold fw_; first | (rw [if_pos (by assumption)]; simpa only [List.nil_append] using q) | (rw [if_neg (by assumption)]; simpa only [List.nil_append] using q)
   refine bt_ hw11 S_ fun ad2 cp2 had2 hcad2 hmad2 hzad2 => ?_
   exact as_ Tryz.results119 ⟨(ad2, cp2), hcad2, hmad2, hzad2⟩ (bW_ rfl had2) I_ (fun v _ h => ⟨h.1, trivial⟩)
  ·
   replace hr29 := of_decide_eq_true hr29
   have hlx1 : i < List.length p := by omega
   obtain ⟨x1, hx1⟩ : ∃ e0, p[i]? = some e0 := ⟨_, List.getElem?_eq_getElem hlx1⟩
   have hmx1 : x1 ∈ p := List.mem_of_getElem? hx1
   refine u_ rfl (B_ (b_ rfl (h_ (Q_ (h_ (c_ (a_ (e_ rfl) rfl (a_ (e_ rfl) rfl (a_ (aa_ H_ L_ rfl rfl (fun v _ h => az_ (n := 10) Pc.cells_len (by decide) (by exact h.2.1) hx1) (by omega) (by first | omega | (simp; done))) rfl ?_)))))))))
   refine a_ (aT_ (ad := pad) (us := Pc.cells x1) aH_ L_ rfl (fun v _ h => by exact h.2.1) (Pc.cells_len _) (ac_ Pc.cells_len hx1)) rfl (ao_ bd_ rfl fun b11 => ?_)
   refine T_ 0 L_ rfl rfl rfl rfl rfl rfl (d_ (b_ rfl (Q_ (h_ (c_ (a_ (l_ k_ rfl rfl rfl K_) rfl (a_ (t_ 0 P_ rfl rfl rfl) rfl (x_ (aI_ rfl rfl) rfl fun r30 hr30 => ?_))))))))
   refine a_ (e_ rfl) rfl ?_
   refine aQ_ 6 (((Pc.kind x1) == 5) && ((Pc.r x1) == (Fc.r f))) (fun r => [(0, .slice pad (List.length p) pcap), (1, .slice lad (List.length l) lcap), (5, zp_ b1 0), (6, .slice none 0 0), (7, sv_Rfc), (8, .int .i64 (i : Int)), (9, zp_ b11 0), (44, .bool r)]) ?_ fun r31 hr31 => ?_
   ·
    cases r30
    ·
     have qr31 := hr30
     replace hr30 := ne_of_beq_false hr30
     refine r_ rfl rfl rfl rfl (r_ rfl rfl rfl rfl (r_ rfl rfl rfl rfl (r_ rfl rfl rfl rfl (r_ rfl rfl rfl rfl (a_ (A_ rfl rfl) rfl (d_ (w_ rfl ?_)))))))
     exact met ⟨rfl, rfl, rfl, rfl, rfl, rfl, rfl, (y_ rfl (jaf qr31)), trivial⟩
    ·
     have qr31 := hr30
     replace hr30 := eq_of_beq hr30
     refine p_ rfl rfl (a_ (l_ k_ rfl rfl rfl j_) rfl (p_ rfl rfl (a_ (t_ 0 q_ rfl rfl rfl) rfl (p_ rfl rfl (a_ (l_ n_ rfl rfl rfl j_) rfl (p_ rfl rfl (a_ (t_ 1 q_ rfl rfl rfl) rfl (p_ rfl rfl (x_ (ap_ rfl rfl) rfl fun r32 hr32 => ?_)))))))))
     refine a_ (G_ rfl rfl) rfl (d_ (w_ rfl ?_))
     exact met ⟨rfl, rfl, rfl, rfl, rfl, rfl, rfl, (y_ rfl (jat qr31 hr32)), trivial⟩
   ·
    refine a_ (g_ rfl) rfl (d_ (b_ rfl ?_))
    cases r31
    ·
     simp at hr31
     refine v_ rfl (h_ (c_ (a_ (l_ k_ rfl rfl rfl K_) rfl (a_ (t_ 0 P_ rfl rfl rfl) rfl (x_ (aI_ rfl rfl) rfl fun r33 hr33 => ?_)))))
     refine a_ (e_ rfl) rfl ?_
     refine aQ_ 6 (((Pc.kind x1) == 4) && ((Pc.r x1) == (Fc.r f))) (fun r => [(0, .slice pad (List.length p) pcap), (1, .slice lad (List.length l) lcap), (5, zp_ b1 0), (6, .slice none 0 0), (7, sv_Rfc), (8, .int .i64 (i : Int)), (9, zp_ b11 0), (65, .bool r)]) ?_ fun r34 hr34 => ?_
     ·
      cases r33
      ·
       have qr34 := hr33
       replace hr33 := ne_of_beq_false hr33
       refine r_ rfl rfl rfl rfl (r_ rfl rfl rfl rfl (r_ rfl rfl rfl rfl (r_ rfl rfl rfl rfl (r_ rfl rfl rfl rfl (a_ (A_ rfl rfl) rfl (d_ (w_ rfl ?_)))))))
       exact met ⟨rfl, rfl, rfl, rfl, rfl, rfl, rfl, (y_ rfl (jaf qr34)), trivial⟩
      ·
       have qr34 := hr33
       replace hr33 := eq_of_beq hr33
       refine p_ rfl rfl (a_ (l_ k_ rfl rfl rfl j_) rfl (p_ rfl rfl (a_ (t_ 0 q_ rfl rfl rfl) rfl (p_ rfl rfl (a_ (l_ n_ rfl rfl rfl j_) rfl (p_ rfl rfl (a_ (t_ 1 q_ rfl rfl rfl) rfl (p_ rfl rfl (x_ (ap_ rfl rfl) rfl fun r35 hr35 => ?_)))))))))
       refine a_ (G_ rfl rfl) rfl (d_ (w_ rfl ?_))
       exact met ⟨rfl, rfl, rfl, rfl, rfl, rfl, rfl, (y_ rfl (jat qr34 hr35)), trivial⟩
     ·
      refine a_ (e_ rfl) rfl ?_
      refine aQ_ 8 (((((Pc.kind x1) == 4) && ((Pc.r x1) == (Fc.r f)))) && (decide ((aj_ (Fc.b f) (Pc.a x1)) ∈ l))) (fun r => [(0, .slice pad (List.length p) pcap), (1, .slice lad (List.length l) lcap), (5, zp_ b1 0), (6, .slice none 0 0), (7, sv_Rfc), (8, .int .i64 (i : Int)), (9, zp_ b11 0), (74, .bool r)]) ?_ fun r36 hr36 => ?_
      ·
       cases r34
       ·
        have qr36 := hr34
        simp at hr34
        refine r_ rfl rfl rfl rfl (r_ rfl rfl rfl rfl (r_ rfl rfl rfl rfl (r_ rfl rfl rfl rfl (r_ rfl rfl rfl rfl (r_ rfl rfl rfl rfl (r_ rfl rfl rfl rfl (a_ (A_ rfl rfl) rfl (d_ (w_ rfl ?_)))))))))
        exact met ⟨rfl, rfl, rfl, rfl, rfl, rfl, rfl, (y_ rfl (jaf qr36)), trivial⟩
       ·
        have qr36 := hr34
        simp at hr34
        refine p_ rfl rfl (a_ (e_ rfl) rfl (p_ rfl rfl (a_ (l_ n_ rfl rfl rfl j_) rfl (p_ rfl rfl (a_ (t_ 1 q_ rfl rfl rfl) rfl (p_ rfl rfl (a_ (l_ k_ rfl rfl rfl j_) rfl (p_ rfl rfl (a_ (t_ 0 q_ rfl rfl rfl) rfl ?_)))))))))
        refine p_ rfl rfl (V_ (dR_ (Fc.b f) (Pc.a x1)) rfl I_ (fun _ _ _ => by exact trivial) rfl fun _ => ?_)
        refine p_ rfl rfl (au_ (kc_ l lad lcap (aj_ (Fc.b f) (Pc.a x1)) (by omega) hs) rfl I_ (fun v _ h => by exact ⟨h.2.2.1, trivial⟩) rfl fun r37 hr37 => ?_)
        refine a_ (G_ rfl rfl) rfl (d_ (w_ rfl ?_))
        exact met ⟨rfl, rfl, rfl, rfl, rfl, rfl, rfl, (y_ rfl (jat qr36 hr37)), trivial⟩
      ·
       refine a_ (g_ rfl) rfl (d_ (b_ rfl ?_))
       cases r36
       ·
        simp at hr36
        refine v_ rfl (h_ (c_ (a_ (l_ k_ rfl rfl rfl K_) rfl (a_ (t_ 0 P_ rfl rfl rfl) rfl (x_ (aI_ rfl rfl) rfl fun r38 hr38 => ?_)))))
        refine a_ (g_ rfl) rfl (d_ (b_ rfl ?_))
        cases r38
        ·
         replace hr38 := ne_of_beq_false hr38
         refine v_ rfl (B_ (b_ rfl (c_ (a_ (e_ rfl) rfl (a_ (O_ rfl rfl rfl (af_ (by omega) (by omega))) rfl (a_ (g_ rfl) rfl (d_ (w_ rfl ?_))))))))
         exact Y_ ⟨(i + 1, sv_Rfc, H_Rfc), hlx1, (by have q := hr_Rfc; rw [bo_ hx1, show (bD_ l f) x1 = [] from (by unfold bD_; rw [if_neg (by first | assumption | simpa using hr31 | simp [*]), if_neg (by first | assumption | simpa using hr36 | simp [*]), if_neg (by first | assumption | simpa using hr38 | simp [*])])]; simpa only [List.append_assoc, List.append_nil] using q)⟩ (by dsimp only; omega) ⟨rfl, rfl, rfl, rfl, rfl, rfl, trivial⟩ (m_ (f_ i_) S_) (fun _ _ h => h)
        ·
         replace hr38 := eq_of_beq hr38
         refine u_ rfl (h_ (c_ (a_ (g_ rfl) rfl (d_ (b_ rfl (Q_ ?_))))))
         have hw12 : aR_ 41 6 sv_Rfc (List.length (((([] : List Fc) ++ [(aj_ (Fc.a f) [33])]) ++ List.flatMap (bD_ l f) (List.take i p)) ++ List.flatMap (bP_ x1 f) (List.take 0 l))) (List.flatMap Fc.cells (((([] : List Fc) ++ [(aj_ (Fc.a f) [33])]) ++ List.flatMap (bD_ l f) (List.take i p)) ++ List.flatMap (bP_ x1 f) (List.take 0 l))) H_Rfc := by have q := hr_Rfc; simpa only [List.take_zero, List.flatMap_nil, List.append_nil, List.length_nil] using q
         refine aG_ (ι := {y : Nat × Value × Hp // y.1 ≤ List.length l ∧ aR_ 41 6 y.2.1 (List.length (((([] : List Fc) ++ [(aj_ (Fc.a f) [33])]) ++ List.flatMap (bD_ l f) (List.take i p)) ++ List.flatMap (bP_ x1 f) (List.take y.1 l))) (List.flatMap Fc.cells (((([] : List Fc) ++ [(aj_ (Fc.a f) [33])]) ++ List.flatMap (bD_ l f) (List.take i p)) ++ List.flatMap (bP_ x1 f) (List.take y.1 l))) y.2.2}) (fun y => [(0, .slice pad (List.length p) pcap), (1, .slice lad (List.length l) lcap), (5, zp_ b1 0), (6, .slice none 0 0), (7, y.1.2.1), (8, .int .i64 (i : Int)), (9, zp_ b11 0), (10, .int .i64 (y.1.1 : Int))]) (fun y => ((b11, .cells (Pc.cells x1).toArray 47 (0, 0)) :: ((b1, .cells (Fc.cells f).toArray 41 (0, 0)) :: y.1.2.2))) (fun y => [aC_ (some ⟨b10, 0, none⟩) (List.flatMap Fc.cells [(aj_ (Fc.a f) [33])]), aC_ pad (List.flatMap Pc.cells p), aC_ lad (List.flatMap Fc.cells l)]) (fun y => List.length l - y.1.1) ⟨((0 : Nat), sv_Rfc, H_Rfc), by simp, hw12⟩ ⟨rfl, rfl, rfl, rfl, rfl, rfl, rfl, rfl, trivial⟩ (m_ i_ (m_ i_ aE_)) (fun _ _ h => h) ?_
         rintro ⟨⟨j, sv_Rfc, H_Rfc⟩, hi_j, hr_Rfc⟩
         dsimp only at hi_j hr_Rfc ⊢
         have hb2 := dE_ (g := bP_ x1 f) (n := 2) (List.take j l) (fun x _ => hP_ x1 f x)
         rw [List.length_take] at hb2
         refine h_ (h_ (c_ (a_ (e_ rfl) rfl (a_ (e_ rfl) rfl (a_ (ak_ F_ rfl) rfl (x_ (ax_ rfl rfl) rfl fun r39 hr39 => ?_))))))
         refine d_ (b_ rfl ?_)
         cases r39
         ·
          replace hr39 := of_decide_eq_false hr39
          rw [show List.take j l = l from List.take_of_length_le (by omega)] at hr_Rfc
          refine v_ rfl (at_ rfl (b_ rfl (c_ (a_ (e_ rfl) rfl (a_ (O_ rfl rfl rfl (af_ (by omega) (by omega))) rfl (a_ (g_ rfl) rfl (d_ (w_ rfl ?_))))))))
          exact Y_ ⟨(i + 1, sv_Rfc, H_Rfc), hlx1, (by have q := hr_Rfc; rw [bo_ hx1, show (bD_ l f) x1 = List.flatMap (bP_ x1 f) l from (by unfold bD_; rw [if_neg (by first | assumption | simpa using hr31 | simp [*]), if_neg (by first | assumption | simpa using hr36 | simp [*]), if_pos (by first | assumption | simpa using hr38 | simp [*])])]; simpa only [List.append_assoc, List.append_nil] using q)⟩ (by dsimp only; omega) ⟨rfl, rfl, rfl, rfl, rfl, rfl, trivial⟩ (m_ (f_ i_) S_) (fun _ _ h => h)
         ·
          replace hr39 := of_decide_eq_true hr39
          have hlx2 : j < List.length l := by omega
          obtain ⟨x2, hx2⟩ : ∃ e0, l[j]? = some e0 := ⟨_, List.getElem?_eq_getElem hlx2⟩
          have hmx2 : x2 ∈ l := List.mem_of_getElem? hx2
          refine u_ rfl (B_ (b_ rfl (h_ (Q_ (h_ (c_ (a_ (e_ rfl) rfl (a_ (e_ rfl) rfl (a_ (aa_ F_ D_ rfl rfl (fun v _ h => az_ (n := 6) Fc.cells_len (by decide) (by exact h.2.2.1) hx2) (by omega) (by first | omega | (simp; done))) rfl ?_)))))))))
          refine a_ (aT_ (ad := lad) (us := Fc.cells x2) ah_ D_ rfl (fun v _ h => by exact h.2.2.1) (Fc.cells_len _) (ac_ Fc.cells_len hx2)) rfl (ao_ ag_ rfl fun b12 => ?_)
          refine T_ 0 D_ rfl rfl rfl rfl rfl rfl (d_ (b_ rfl (h_ (h_ (c_ (a_ (l_ n_ rfl rfl rfl K_) rfl (a_ (t_ 0 P_ rfl rfl rfl) rfl (x_ (bN_ rfl rfl) rfl fun r40 hr40 => ?_))))))))
          refine d_ (b_ rfl ?_)
          cases r40
          ·
           replace hr40 := bb_ hr40
           refine v_ rfl (B_ (b_ rfl (h_ (h_ (c_ (a_ (l_ k_ rfl rfl rfl j_) rfl (a_ (t_ 1 q_ rfl rfl rfl) rfl (a_ (l_ n_ rfl rfl rfl j_) rfl (a_ (t_ 2 q_ rfl rfl rfl) rfl ?_)))))))))
           refine x_ (ap_ rfl rfl) rfl fun r41 hr41 => ?_
           refine a_ (e_ rfl) rfl ?_
           refine aQ_ 6 (((Pc.r x1) == (Fc.r f)) && ((Fc.a x2) == (Fc.b f))) (fun r => [(0, .slice pad (List.length p) pcap), (1, .slice lad (List.length l) lcap), (5, zp_ b1 0), (6, .slice none 0 0), (7, sv_Rfc), (8, .int .i64 (i : Int)), (9, zp_ b11 0), (10, .int .i64 (j : Int)), (11, zp_ b12 0), (111, .bool r)]) ?_ fun r42 hr42 => ?_
           ·
            cases r41
            ·
             have qr42 := hr41
             replace hr41 := ne_of_beq_false hr41
             refine r_ rfl rfl rfl rfl (r_ rfl rfl rfl rfl (r_ rfl rfl rfl rfl (r_ rfl rfl rfl rfl (r_ rfl rfl rfl rfl (a_ (A_ rfl rfl) rfl (d_ (w_ rfl ?_)))))))
             exact met ⟨rfl, rfl, rfl, rfl, rfl, rfl, rfl, rfl, rfl, (y_ rfl (jaf qr42)), trivial⟩
            ·
             have qr42 := hr41
             replace hr41 := eq_of_beq hr41
             refine p_ rfl rfl (a_ (l_ n_ rfl rfl rfl j_) rfl (p_ rfl rfl (a_ (t_ 0 q_ rfl rfl rfl) rfl (p_ rfl rfl (a_ (l_ n_ rfl rfl rfl j_) rfl (p_ rfl rfl (a_ (t_ 2 q_ rfl rfl rfl) rfl (p_ rfl rfl (x_ (ap_ rfl rfl) rfl fun r43 hr43 => ?_)))))))))
             refine a_ (G_ rfl rfl) rfl (d_ (w_ rfl ?_))
             exact met ⟨rfl, rfl, rfl, rfl, rfl, rfl, rfl, rfl, rfl, (y_ rfl (jat qr42 hr43)), trivial⟩
           ·
            refine a_ (e_ rfl) rfl ?_
            refine aQ_ 6 (((((Pc.r x1) == (Fc.r f)) && ((Fc.a x2) == (Fc.b f)))) && ((Fc.r x2) == (Pc.s x1))) (fun r => [(0, .slice pad (List.length p) pcap), (1, .slice lad (List.length l) lcap), (5, zp_ b1 0), (6, .slice none 0 0), (7, sv_Rfc), (8, .int .i64 (i : Int)), (9, zp_ b11 0), (10, .int .i64 (j : Int)), (11, zp_ b12 0), (118, .bool r)]) ?_ fun r44 hr44 => ?_
            ·
             cases r42
             ·
              have qr44 := hr42
              simp at hr42
              refine r_ rfl rfl rfl rfl (r_ rfl rfl rfl rfl (r_ rfl rfl rfl rfl (r_ rfl rfl rfl rfl (r_ rfl rfl rfl rfl (a_ (A_ rfl rfl) rfl (d_ (w_ rfl ?_)))))))
              exact met ⟨rfl, rfl, rfl, rfl, rfl, rfl, rfl, rfl, rfl, (y_ rfl (jaf qr44)), trivial⟩
             ·
              have qr44 := hr42
              simp at hr42
              refine p_ rfl rfl (a_ (l_ n_ rfl rfl rfl j_) rfl (p_ rfl rfl (a_ (t_ 0 q_ rfl rfl rfl) rfl (p_ rfl rfl (a_ (l_ k_ rfl rfl rfl j_) rfl (p_ rfl rfl (a_ (t_ 1 q_ rfl rfl rfl) rfl (p_ rfl rfl (x_ (ap_ rfl rfl) rfl fun r45 hr45 => ?_)))))))))
              refine a_ (G_ rfl rfl) rfl (d_ (w_ rfl ?_))
              exact met ⟨rfl, rfl, rfl, rfl, rfl, rfl, rfl, rfl, rfl, (y_ rfl (jat qr44 hr45)), trivial⟩
            ·
             refine d_ (b_ rfl ?_)
             cases r44
             ·
              simp at hr44
              refine v_ rfl (B_ (b_ rfl (h_ (c_ (a_ (l_ k_ rfl rfl rfl j_) rfl (a_ (t_ 1 q_ rfl rfl rfl) rfl (a_ (l_ n_ rfl rfl rfl j_) rfl (a_ (t_ 2 q_ rfl rfl rfl) rfl (x_ (ap_ rfl rfl) rfl fun r46 hr46 => ?_)))))))))
              refine a_ (e_ rfl) rfl ?_
              refine aQ_ 6 (((Pc.s x1) == (Fc.r f)) && ((Fc.b x2) == (Fc.a f))) (fun r => [(0, .slice pad (List.length p) pcap), (1, .slice lad (List.length l) lcap), (5, zp_ b1 0), (6, .slice none 0 0), (7, sv_Rfc), (8, .int .i64 (i : Int)), (9, zp_ b11 0), (10, .int .i64 (j : Int)), (11, zp_ b12 0), (140, .bool r)]) ?_ fun r47 hr47 => ?_
              ·
               cases r46
               ·
                have qr47 := hr46
                replace hr46 := ne_of_beq_false hr46
                refine r_ rfl rfl rfl rfl (r_ rfl rfl rfl rfl (r_ rfl rfl rfl rfl (r_ rfl rfl rfl rfl (r_ rfl rfl rfl rfl (a_ (A_ rfl rfl) rfl (d_ (w_ rfl ?_)))))))
                exact met ⟨rfl, rfl, rfl, rfl, rfl, rfl, rfl, rfl, rfl, (y_ rfl (jaf qr47)), trivial⟩
               ·
                have qr47 := hr46
                replace hr46 := eq_of_beq hr46
                refine p_ rfl rfl (a_ (l_ n_ rfl rfl rfl j_) rfl (p_ rfl rfl (a_ (t_ 0 q_ rfl rfl rfl) rfl (p_ rfl rfl (a_ (l_ n_ rfl rfl rfl j_) rfl (p_ rfl rfl (a_ (t_ 2 q_ rfl rfl rfl) rfl (p_ rfl rfl (x_ (ap_ rfl rfl) rfl fun r48 hr48 => ?_)))))))))
                refine a_ (G_ rfl rfl) rfl (d_ (w_ rfl ?_))
                exact met ⟨rfl, rfl, rfl, rfl, rfl, rfl, rfl, rfl, rfl, (y_ rfl (jat qr47 hr48)), trivial⟩
              ·
               refine a_ (e_ rfl) rfl ?_
               refine aQ_ 6 (((((Pc.s x1) == (Fc.r f)) && ((Fc.b x2) == (Fc.a f)))) && ((Fc.r x2) == (Pc.r x1))) (fun r => [(0, .slice pad (List.length p) pcap), (1, .slice lad (List.length l) lcap), (5, zp_ b1 0), (6, .slice none 0 0), (7, sv_Rfc), (8, .int .i64 (i : Int)), (9, zp_ b11 0), (10, .int .i64 (j : Int)), (11, zp_ b12 0), (147, .bool r)]) ?_ fun r49 hr49 => ?_
               ·
                cases r47
                ·
                 have qr49 := hr47
                 simp at hr47
                 refine r_ rfl rfl rfl rfl (r_ rfl rfl rfl rfl (r_ rfl rfl rfl rfl (r_ rfl rfl rfl rfl (r_ rfl rfl rfl rfl (a_ (A_ rfl rfl) rfl (d_ (w_ rfl ?_)))))))
                 exact met ⟨rfl, rfl, rfl, rfl, rfl, rfl, rfl, rfl, rfl, (y_ rfl (jaf qr49)), trivial⟩
                ·
                 have qr49 := hr47
                 simp at hr47
                 refine p_ rfl rfl (a_ (l_ n_ rfl rfl rfl j_) rfl (p_ rfl rfl (a_ (t_ 0 q_ rfl rfl rfl) rfl (p_ rfl rfl (a_ (l_ k_ rfl rfl rfl j_) rfl (p_ rfl rfl (a_ (t_ 1 q_ rfl rfl rfl) rfl (p_ rfl rfl (x_ (ap_ rfl rfl) rfl fun r50 hr50 => ?_)))))))))
                 refine a_ (G_ rfl rfl) rfl (d_ (w_ rfl ?_))
                 exact met ⟨rfl, rfl, rfl, rfl, rfl, rfl, rfl, rfl, rfl, (y_ rfl (jat qr49 hr50)), trivial⟩
               ·
                refine d_ (b_ rfl ?_)
                cases r49
                ·
                 simp at hr49
                 refine v_ rfl (B_ (b_ rfl (c_ (a_ (e_ rfl) rfl (a_ (O_ rfl rfl rfl (af_ (by omega) (by omega))) rfl (a_ (g_ rfl) rfl (d_ (w_ rfl ?_))))))))
                 exact Y_ ⟨(j + 1, sv_Rfc, H_Rfc), hlx2, (by have q := hr_Rfc; rw [bo_ hx2, show (bP_ x1 f) x2 = [] from (by unfold bP_; rw [if_neg (by simp [*]), if_neg (by first | assumption | simpa using hr44 | simp [*]), if_neg (by first | assumption | simpa using hr49 | simp [*])]; try rfl)]; simpa only [List.append_assoc, List.append_nil] using q)⟩ (by dsimp only; omega) ⟨rfl, rfl, rfl, rfl, rfl, rfl, rfl, rfl, trivial⟩ (m_ (f_ i_) (m_ (f_ i_) S_)) (fun _ _ h => h)
                ·
                 simp at hr49
                 refine u_ rfl (c_ (a_ (e_ rfl) rfl (a_ (l_ n_ rfl rfl rfl j_) rfl (a_ (t_ 0 q_ rfl rfl rfl) rfl (a_ (l_ k_ rfl rfl rfl j_) rfl (a_ (t_ 1 q_ rfl rfl rfl) rfl (a_ (l_ n_ rfl rfl rfl j_) rfl (a_ (t_ 2 q_ rfl rfl rfl) rfl (V_ (eG_ (Fc.a x2) (Pc.t x1) (Fc.b f)) rfl I_ (fun _ _ _ => by exact trivial) rfl fun _ => ?_)))))))))
                 refine aJ_ F_ D_ ag_ rfl rfl rfl rfl rfl rfl fun b13 => ?_
                 refine bw_ (List.flatMap Fc.cells [(aw_ (Fc.a x2) (Pc.t x1) (Fc.b f))]) i_ rfl ?_
                 refine aK_ (news := List.flatMap Fc.cells [(aw_ (Fc.a x2) (Pc.t x1) (Fc.b f))]) cc_ hr_Rfc rfl rfl (fun q => by cases q) (by simp) (f_ (f_ S_)) (by rw [bp_ Fc.cells 6 Fc.cells_len]; rfl) (fun v _ h => by exact h.1) (fun u hu => aN_ Fc.cells_one hu) (by simp only [maxLen]; ((try simp only [List.length_append, List.length_cons, List.length_nil]); omega)) (by ((try simp only [List.length_append, List.length_cons, List.length_nil]); omega)) rfl fun sv13 Hr13 hr13 => ?_
                 refine al_ List.perm_append_comm ?_
                 have hq13 : aR_ 41 6 sv13 (List.length ((((([] : List Fc) ++ [(aj_ (Fc.a f) [33])]) ++ List.flatMap (bD_ l f) (List.take i p)) ++ List.flatMap (bP_ x1 f) (List.take j l)) ++ [(aw_ (Fc.a x2) (Pc.t x1) (Fc.b f))])) (List.flatMap Fc.cells ((((([] : List Fc) ++ [(aj_ (Fc.a f) [33])]) ++ List.flatMap (bD_ l f) (List.take i p)) ++ List.flatMap (bP_ x1 f) (List.take j l)) ++ [(aw_ (Fc.a x2) (Pc.t x1) (Fc.b f))])) Hr13 := by rw [List.length_append, List.flatMap_append]; exact hr13
                 refine a_ (g_ rfl) rfl (d_ (b_ rfl (c_ (a_ (e_ rfl) rfl (a_ (O_ rfl rfl rfl (af_ (by omega) (by omega))) rfl (a_ (g_ rfl) rfl (d_ (w_ rfl ?_))))))))
                 exact Y_ ⟨(j + 1, sv13, Hr13), hlx2, (by have q := hq13; rw [bo_ hx2, show (bP_ x1 f) x2 = [(aw_ (Fc.a x2) (Pc.t x1) (Fc.b f))] from (by unfold bP_; rw [if_neg (by simp [*]), if_neg (by first | assumption | simpa using hr44 | simp [*]), if_pos (by first | assumption | simpa using hr49 | simp [*])]; try rfl)]; simpa only [List.append_assoc, List.append_nil] using q)⟩ (by dsimp only; omega) ⟨rfl, rfl, rfl, rfl, rfl, rfl, rfl, rfl, trivial⟩ (m_ (f_ i_) (m_ (f_ i_) S_)) (fun _ _ h => h.2)
             ·
              simp at hr44
              refine u_ rfl (c_ (a_ (e_ rfl) rfl (a_ (l_ n_ rfl rfl rfl j_) rfl (a_ (t_ 2 q_ rfl rfl rfl) rfl (a_ (l_ k_ rfl rfl rfl j_) rfl (a_ (t_ 1 q_ rfl rfl rfl) rfl (a_ (l_ n_ rfl rfl rfl j_) rfl (a_ (t_ 0 q_ rfl rfl rfl) rfl (V_ (eG_ (Fc.a f) (Pc.t x1) (Fc.b x2)) rfl I_ (fun _ _ _ => by exact trivial) rfl fun _ => ?_)))))))))
              refine aJ_ F_ D_ ag_ rfl rfl rfl rfl rfl rfl fun b14 => ?_
              refine bw_ (List.flatMap Fc.cells [(aw_ (Fc.a f) (Pc.t x1) (Fc.b x2))]) i_ rfl ?_
              refine aK_ (news := List.flatMap Fc.cells [(aw_ (Fc.a f) (Pc.t x1) (Fc.b x2))]) cc_ hr_Rfc rfl rfl (fun q => by cases q) (by simp) (f_ (f_ S_)) (by rw [bp_ Fc.cells 6 Fc.cells_len]; rfl) (fun v _ h => by exact h.1) (fun u hu => aN_ Fc.cells_one hu) (by simp only [maxLen]; ((try simp only [List.length_append, List.length_cons, List.length_nil]); omega)) (by ((try simp only [List.length_append, List.length_cons, List.length_nil]); omega)) rfl fun sv14 Hr14 hr14 => ?_
              refine al_ List.perm_append_comm ?_
              have hq14 : aR_ 41 6 sv14 (List.length ((((([] : List Fc) ++ [(aj_ (Fc.a f) [33])]) ++ List.flatMap (bD_ l f) (List.take i p)) ++ List.flatMap (bP_ x1 f) (List.take j l)) ++ [(aw_ (Fc.a f) (Pc.t x1) (Fc.b x2))])) (List.flatMap Fc.cells ((((([] : List Fc) ++ [(aj_ (Fc.a f) [33])]) ++ List.flatMap (bD_ l f) (List.take i p)) ++ List.flatMap (bP_ x1 f) (List.take j l)) ++ [(aw_ (Fc.a f) (Pc.t x1) (Fc.b x2))])) Hr14 := by rw [List.length_append, List.flatMap_append]; exact hr14
              refine a_ (g_ rfl) rfl (d_ (b_ rfl (h_ (c_ (a_ (l_ k_ rfl rfl rfl j_) rfl (a_ (t_ 1 q_ rfl rfl rfl) rfl (a_ (l_ n_ rfl rfl rfl j_) rfl (a_ (t_ 2 q_ rfl rfl rfl) rfl (x_ (ap_ rfl rfl) rfl fun r51 hr51 => ?_)))))))))
              refine a_ (e_ rfl) rfl ?_
              refine aQ_ 6 (((Pc.s x1) == (Fc.r f)) && ((Fc.b x2) == (Fc.a f))) (fun r => [(0, .slice pad (List.length p) pcap), (1, .slice lad (List.length l) lcap), (5, zp_ b1 0), (6, .slice none 0 0), (7, sv14), (8, .int .i64 (i : Int)), (9, zp_ b11 0), (10, .int .i64 (j : Int)), (11, zp_ b12 0), (140, .bool r)]) ?_ fun r52 hr52 => ?_
              ·
               cases r51
               ·
                have qr52 := hr51
                replace hr51 := ne_of_beq_false hr51
                refine r_ rfl rfl rfl rfl (r_ rfl rfl rfl rfl (r_ rfl rfl rfl rfl (r_ rfl rfl rfl rfl (r_ rfl rfl rfl rfl (a_ (A_ rfl rfl) rfl (d_ (w_ rfl ?_)))))))
                exact met ⟨rfl, rfl, rfl, rfl, rfl, rfl, rfl, rfl, rfl, (y_ rfl (jaf qr52)), trivial⟩
               ·
                have qr52 := hr51
                replace hr51 := eq_of_beq hr51
                refine p_ rfl rfl (a_ (l_ n_ rfl rfl rfl j_) rfl (p_ rfl rfl (a_ (t_ 0 q_ rfl rfl rfl) rfl (p_ rfl rfl (a_ (l_ n_ rfl rfl rfl j_) rfl (p_ rfl rfl (a_ (t_ 2 q_ rfl rfl rfl) rfl (p_ rfl rfl (x_ (ap_ rfl rfl) rfl fun r53 hr53 => ?_)))))))))
                refine a_ (G_ rfl rfl) rfl (d_ (w_ rfl ?_))
                exact met ⟨rfl, rfl, rfl, rfl, rfl, rfl, rfl, rfl, rfl, (y_ rfl (jat qr52 hr53)), trivial⟩
              ·
               refine a_ (e_ rfl) rfl ?_
               refine aQ_ 6 (((((Pc.s x1) == (Fc.r f)) && ((Fc.b x2) == (Fc.a f)))) && ((Fc.r x2) == (Pc.r x1))) (fun r => [(0, .slice pad (List.length p) pcap), (1, .slice lad (List.length l) lcap), (5, zp_ b1 0), (6, .slice none 0 0), (7, sv14), (8, .int .i64 (i : Int)), (9, zp_ b11 0), (10, .int .i64 (j : Int)), (11, zp_ b12 0), (147, .bool r)]) ?_ fun r54 hr54 => ?_
               ·
                cases r52
                ·
                 have qr54 := hr52
                 simp at hr52
                 refine r_ rfl rfl rfl rfl (r_ rfl rfl rfl rfl (r_ rfl rfl rfl rfl (r_ rfl rfl rfl rfl (r_ rfl rfl rfl rfl (a_ (A_ rfl rfl) rfl (d_ (w_ rfl ?_)))))))
                 exact met ⟨rfl, rfl, rfl, rfl, rfl, rfl, rfl, rfl, rfl, (y_ rfl (jaf qr54)), trivial⟩
                ·
                 have qr54 := hr52
                 simp at hr52
                 refine p_ rfl rfl (a_ (l_ n_ rfl rfl rfl j_) rfl (p_ rfl rfl (a_ (t_ 0 q_ rfl rfl rfl) rfl (p_ rfl rfl (a_ (l_ k_ rfl rfl rfl j_) rfl (p_ rfl rfl (a_ (t_ 1 q_ rfl rfl rfl) rfl (p_ rfl rfl (x_ (ap_ rfl rfl) rfl fun r55 hr55 => ?_)))))))))
                 refine a_ (G_ rfl rfl) rfl (d_ (w_ rfl ?_))
                 exact met ⟨rfl, rfl, rfl, rfl, rfl, rfl, rfl, rfl, rfl, (y_ rfl (jat qr54 hr55)), trivial⟩
               ·
                refine d_ (b_ rfl ?_)
                cases r54
                ·
                 simp at hr54
                 refine v_ rfl (B_ (b_ rfl (c_ (a_ (e_ rfl) rfl (a_ (O_ rfl rfl rfl (af_ (by omega) (by omega))) rfl (a_ (g_ rfl) rfl (d_ (w_ rfl ?_))))))))
                 exact Y_ ⟨(j + 1, sv14, Hr14), hlx2, (by have q := hq14; rw [bo_ hx2, show (bP_ x1 f) x2 = [(aw_ (Fc.a f) (Pc.t x1) (Fc.b x2))] from (by unfold bP_; rw [if_neg (by simp [*]), if_pos (by first | assumption | simpa using hr44 | simp [*]), if_neg (by first | assumption | simpa using hr54 | simp [*])]; try rfl)]; simpa only [List.append_assoc, List.append_nil] using q)⟩ (by dsimp only; omega) ⟨rfl, rfl, rfl, rfl, rfl, rfl, rfl, rfl, trivial⟩ (m_ (f_ i_) (m_ (f_ i_) S_)) (fun _ _ h => h.2)
                ·
                 simp at hr54
                 refine u_ rfl (c_ (a_ (e_ rfl) rfl (a_ (l_ n_ rfl rfl rfl j_) rfl (a_ (t_ 0 q_ rfl rfl rfl) rfl (a_ (l_ k_ rfl rfl rfl j_) rfl (a_ (t_ 1 q_ rfl rfl rfl) rfl (a_ (l_ n_ rfl rfl rfl j_) rfl (a_ (t_ 2 q_ rfl rfl rfl) rfl (V_ (eG_ (Fc.a x2) (Pc.t x1) (Fc.b f)) rfl I_ (fun _ _ _ => by exact trivial) rfl fun _ => ?_)))))))))
                 refine aJ_ F_ D_ ag_ rfl rfl rfl rfl rfl rfl fun b15 => ?_
                 refine bw_ (List.flatMap Fc.cells [(aw_ (Fc.a x2) (Pc.t x1) (Fc.b f))]) i_ rfl ?_
                 refine aK_ (news := List.flatMap Fc.cells [(aw_ (Fc.a x2) (Pc.t x1) (Fc.b f))]) cc_ hq14 rfl rfl (fun q => by cases q) (by simp) (f_ (f_ S_)) (by rw [bp_ Fc.cells 6 Fc.cells_len]; rfl) (fun v _ h => by exact h.1) (fun u hu => aN_ Fc.cells_one hu) (by simp only [maxLen]; ((try simp only [List.length_append, List.length_cons, List.length_nil]); omega)) (by ((try simp only [List.length_append, List.length_cons, List.length_nil]); omega)) rfl fun sv15 Hr15 hr15 => ?_
                 refine al_ List.perm_append_comm ?_
                 have hq15 : aR_ 41 6 sv15 (List.length (((((([] : List Fc) ++ [(aj_ (Fc.a f) [33])]) ++ List.flatMap (bD_ l f) (List.take i p)) ++ List.flatMap (bP_ x1 f) (List.take j l)) ++ [(aw_ (Fc.a f) (Pc.t x1) (Fc.b x2))]) ++ [(aw_ (Fc.a x2) (Pc.t x1) (Fc.b f))])) (List.flatMap Fc.cells (((((([] : List Fc) ++ [(aj_ (Fc.a f) [33])]) ++ List.flatMap (bD_ l f) (List.take i p)) ++ List.flatMap (bP_ x1 f) (List.take j l)) ++ [(aw_ (Fc.a f) (Pc.t x1) (Fc.b x2))]) ++ [(aw_ (Fc.a x2) (Pc.t x1) (Fc.b f))])) Hr15 := by rw [List.length_append, List.flatMap_append]; exact hr15
                 refine a_ (g_ rfl) rfl (d_ (b_ rfl (c_ (a_ (e_ rfl) rfl (a_ (O_ rfl rfl rfl (af_ (by omega) (by omega))) rfl (a_ (g_ rfl) rfl (d_ (w_ rfl ?_))))))))
                 exact Y_ ⟨(j + 1, sv15, Hr15), hlx2, (by have q := hq15; rw [bo_ hx2, show (bP_ x1 f) x2 = [(aw_ (Fc.a f) (Pc.t x1) (Fc.b x2))] ++ [(aw_ (Fc.a x2) (Pc.t x1) (Fc.b f))] from (by unfold bP_; rw [if_neg (by simp [*]), if_pos (by first | assumption | simpa using hr44 | simp [*]), if_pos (by first | assumption | simpa using hr54 | simp [*])]; try rfl)]; simpa only [List.append_assoc, List.append_nil] using q)⟩ (by dsimp only; omega) ⟨rfl, rfl, rfl, rfl, rfl, rfl, rfl, rfl, trivial⟩ (m_ (f_ i_) (m_ (f_ i_) S_)) (fun _ _ h => h.2.2)
          ·
           replace hr40 := ba_ hr40
           refine u_ rfl (at_ rfl (b_ rfl (c_ (a_ (e_ rfl) rfl (a_ (O_ rfl rfl rfl (af_ (by omega) (by omega))) rfl (a_ (g_ rfl) rfl (d_ (w_ rfl ?_))))))))
           exact Y_ ⟨(j + 1, sv_Rfc, H_Rfc), hlx2, (by have q := hr_Rfc; rw [bo_ hx2, show (bP_ x1 f) x2 = [] from (by unfold bP_; rw [if_pos (by assumption)])]; simpa only [List.append_assoc, List.append_nil] using q)⟩ (by dsimp only; omega) ⟨rfl, rfl, rfl, rfl, rfl, rfl, rfl, rfl, trivial⟩ (m_ (f_ i_) (m_ (f_ i_) S_)) (fun _ _ h => h)
       ·
        simp at hr36
        refine u_ rfl (c_ (a_ (e_ rfl) rfl (a_ (l_ n_ rfl rfl rfl j_) rfl (a_ (t_ 1 q_ rfl rfl rfl) rfl (a_ (l_ k_ rfl rfl rfl j_) rfl (a_ (t_ 0 q_ rfl rfl rfl) rfl (V_ (dR_ (Fc.a f) (Pc.c x1)) rfl I_ (fun _ _ _ => by exact trivial) rfl fun _ => ?_)))))))
        refine aJ_ F_ D_ ag_ rfl rfl rfl rfl rfl rfl fun b16 => ?_
        refine bw_ (List.flatMap Fc.cells [(aj_ (Fc.a f) (Pc.c x1))]) i_ rfl ?_
        refine aK_ (news := List.flatMap Fc.cells [(aj_ (Fc.a f) (Pc.c x1))]) cc_ hr_Rfc rfl rfl (fun q => by cases q) (by simp) (f_ S_) (by rw [bp_ Fc.cells 6 Fc.cells_len]; rfl) (fun v _ h => by exact h.1) (fun u hu => aN_ Fc.cells_one hu) (by simp only [maxLen]; ((try simp only [List.length_append, List.length_cons, List.length_nil]); omega)) (by ((try simp only [List.length_append, List.length_cons, List.length_nil]); omega)) rfl fun sv16 Hr16 hr16 => ?_
        refine al_ List.perm_append_comm ?_
        have hq16 : aR_ 41 6 sv16 (List.length (((([] : List Fc) ++ [(aj_ (Fc.a f) [33])]) ++ List.flatMap (bD_ l f) (List.take i p)) ++ [(aj_ (Fc.a f) (Pc.c x1))])) (List.flatMap Fc.cells (((([] : List Fc) ++ [(aj_ (Fc.a f) [33])]) ++ List.flatMap (bD_ l f) (List.take i p)) ++ [(aj_ (Fc.a f) (Pc.c x1))])) Hr16 := by rw [List.length_append, List.flatMap_append]; exact hr16
        refine a_ (g_ rfl) rfl (d_ (b_ rfl (c_ (a_ (e_ rfl) rfl (a_ (O_ rfl rfl rfl (af_ (by omega) (by omega))) rfl (a_ (g_ rfl) rfl (d_ (w_ rfl ?_))))))))
        exact Y_ ⟨(i + 1, sv16, Hr16), hlx1, (by have q := hq16; rw [bo_ hx1, show (bD_ l f) x1 = [(aj_ (Fc.a f) (Pc.c x1))] from (by unfold bD_; rw [if_neg (by first | assumption | simpa using hr31 | simp [*]), if_pos (by first | assumption | simpa using hr36 | simp [*])])]; simpa only [List.append_assoc, List.append_nil] using q)⟩ (by dsimp only; omega) ⟨rfl, rfl, rfl, rfl, rfl, rfl, trivial⟩ (m_ (f_ i_) S_) (fun _ _ h => h.2)
    ·
     simp at hr31
     refine u_ rfl (c_ (a_ (e_ rfl) rfl (a_ (l_ n_ rfl rfl rfl j_) rfl (a_ (t_ 1 q_ rfl rfl rfl) rfl (a_ (l_ k_ rfl rfl rfl j_) rfl (a_ (t_ 0 q_ rfl rfl rfl) rfl (a_ (l_ n_ rfl rfl rfl j_) rfl (a_ (t_ 1 q_ rfl rfl rfl) rfl (V_ (eG_ (Fc.a f) (Pc.t x1) (Fc.b f)) rfl I_ (fun _ _ _ => by exact trivial) rfl fun _ => ?_)))))))))
     refine aJ_ F_ D_ ag_ rfl rfl rfl rfl rfl rfl fun b17 => ?_
     refine bw_ (List.flatMap Fc.cells [(aw_ (Fc.a f) (Pc.t x1) (Fc.b f))]) i_ rfl ?_
     refine aK_ (news := List.flatMap Fc.cells [(aw_ (Fc.a f) (Pc.t x1) (Fc.b f))]) cc_ hr_Rfc rfl rfl (fun q => by cases q) (by simp) (f_ S_) (by rw [bp_ Fc.cells 6 Fc.cells_len]; rfl) (fun v _ h => by exact h.1) (fun u hu => aN_ Fc.cells_one hu) (by simp only [maxLen]; ((try simp only [List.length_append, List.length_cons, List.length_nil]); omega)) (by ((try simp only [List.length_append, List.length_cons, List.length_nil]); omega)) rfl fun sv17 Hr17 hr17 => ?_
     refine al_ List.perm_append_comm ?_
     have hq17 : aR_ 41 6 sv17 (List.length (((([] : List Fc) ++ [(aj_ (Fc.a f) [33])]) ++ List.flatMap (bD_ l f) (List.take i p)) ++ [(aw_ (Fc.a f) (Pc.t x1) (Fc.b f))])) (List.flatMap Fc.cells (((([] : List Fc) ++ [(aj_ (Fc.a f) [33])]) ++ List.flatMap (bD_ l f) (List.take i p)) ++ [(aw_ (Fc.a f) (Pc.t x1) (Fc.b f))])) Hr17 := by rw [List.length_append, List.flatMap_append]; exact hr17
     refine a_ (g_ rfl) rfl (d_ (b_ rfl (c_ (a_ (e_ rfl) rfl (a_ (O_ rfl rfl rfl (af_ (by omega) (by omega))) rfl (a_ (g_ rfl) rfl (d_ (w_ rfl ?_))))))))
     exact Y_ ⟨(i + 1, sv17, Hr17), hlx1, (by have q := hq17; rw [bo_ hx1, show (bD_ l f) x1 = [(aw_ (Fc.a f) (Pc.t x1) (Fc.b f))] from (by unfold bD_; rw [if_pos (by first | assumption | simpa using hr31 | simp [*])])]; simpa only [List.append_assoc, List.append_nil] using q)⟩ (by dsimp only; omega) ⟨rfl, rfl, rfl, rfl, rfl, rfl, trivial⟩ (m_ (f_ i_) S_) (fun _ _ h => h.2)
theorem nC_ (p : List Pc) (pad : Option Addr) (pcap : Nat) (l : List Fc) (lad : Option Addr) (lcap : Nat) (f : Fc) (hp : p.length ≤ 100) (hl : l.length ≤ 65536) (hs : Srt l) : Tri Tryz.prog 120 #[.slice pad (List.length p) pcap, .slice lad (List.length l) lcap, Fc.val f] [] [aC_ pad (List.flatMap Pc.cells p), aC_ lad (List.flatMap Fc.cells l)] (fun y : {y : Option Addr × Nat // ((fP_ p l f)).length ≤ y.2 ∧ y.2 ≤ maxLen ∧ (y.1 = none → y.2 = 0)} => .slice y.1.1 ((fP_ p l f)).length y.1.2) (fun _ => []) (fun y => [aC_ y.1.1 (((fP_ p l f)).flatMap Fc.cells)]) := by
 refine R_ Tryz.func120 rfl rfl Tryz.ntmps120 rfl fun v0 => ?_
 refine h_ (c_ (bn_ rfl rfl fun b1 => ?_))
 refine a_ (g_ rfl) rfl (d_ (b_ rfl (h_ (c_ (cW_ F_ D_ rfl fun b2 => ?_)))))
 refine al_ i_ (a_ (g_ rfl) rfl (d_ (b_ rfl (h_ (al_ (dh_ bi_) (h_ (c_ (a_ (g_ rfl) rfl (d_ ?_)))))))))
 refine b_ rfl (Q_ ?_)
 refine aG_ (ι := {y : Nat × Value × Hp // y.1 ≤ List.length l ∧ aR_ 41 6 y.2.1 (List.length (List.flatMap (cn_ f) (List.take y.1 l))) (List.flatMap Fc.cells (List.flatMap (cn_ f) (List.take y.1 l))) y.2.2}) (fun y => [(0, .slice pad (List.length p) pcap), (1, .slice lad (List.length l) lcap), (5, zp_ b1 0), (6, .slice none 0 0), (7, y.1.2.1), (8, .int .i64 (y.1.1 : Int))]) (fun y => ((b1, .cells (Fc.cells f).toArray 41 (0, 0)) :: y.1.2.2)) (fun y => [aC_ pad (List.flatMap Pc.cells p), aC_ lad (List.flatMap Fc.cells l)]) (fun y => List.length l - y.1.1) ⟨((0 : Nat), (.slice (some ⟨b2, 0, none⟩) 0 0), [(b2, .cells #[] 41 (0, 0))]), by simp, (dP_ b2 41 6)⟩ ⟨rfl, rfl, rfl, rfl, rfl, rfl, trivial⟩ (m_ i_ aE_) (fun _ _ h => h) ?_
 rintro ⟨⟨j, sv_Rfc, H_Rfc⟩, hi_j, hr_Rfc⟩
 dsimp only at hi_j hr_Rfc ⊢
 have hb1 := dE_ (g := cn_ f) (n := 1) (List.take j l) (fun x _ => iF_ f x)
 rw [List.length_take] at hb1
 refine h_ (h_ (c_ (a_ (e_ rfl) rfl (a_ (e_ rfl) rfl (a_ (ak_ F_ rfl) rfl (x_ (ax_ rfl rfl) rfl fun r1 hr1 => ?_))))))
 refine d_ (b_ rfl ?_)
 cases r1
 ·
  replace hr1 := of_decide_eq_false hr1
  rw [show List.take j l = l from List.take_of_length_le (by omega)] at hr_Rfc
  refine v_ rfl (at_ rfl (b_ rfl (h_ (h_ (c_ (a_ (g_ rfl) rfl (d_ (b_ rfl (Q_ ?_)))))))))
  have hw1 : aR_ 41 6 sv_Rfc (List.length (List.flatMap (cn_ f) l ++ List.flatMap (cS_ f) (List.take 0 p))) (List.flatMap Fc.cells (List.flatMap (cn_ f) l ++ List.flatMap (cS_ f) (List.take 0 p))) H_Rfc := by have q := hr_Rfc; simpa only [List.take_zero, List.flatMap_nil, List.append_nil, List.length_nil] using q
  refine aG_ (ι := {y : Nat × Value × Hp // y.1 ≤ List.length p ∧ aR_ 41 6 y.2.1 (List.length (List.flatMap (cn_ f) l ++ List.flatMap (cS_ f) (List.take y.1 p))) (List.flatMap Fc.cells (List.flatMap (cn_ f) l ++ List.flatMap (cS_ f) (List.take y.1 p))) y.2.2}) (fun y => [(0, .slice pad (List.length p) pcap), (1, .slice lad (List.length l) lcap), (5, zp_ b1 0), (6, .slice none 0 0), (7, y.1.2.1), (8, .int .i64 (j : Int)), (12, .int .i64 (y.1.1 : Int))]) (fun y => ((b1, .cells (Fc.cells f).toArray 41 (0, 0)) :: y.1.2.2)) (fun y => [aC_ pad (List.flatMap Pc.cells p), aC_ lad (List.flatMap Fc.cells l)]) (fun y => List.length p - y.1.1) ⟨((0 : Nat), sv_Rfc, H_Rfc), by simp, hw1⟩ ⟨rfl, rfl, rfl, rfl, rfl, rfl, rfl, trivial⟩ (m_ i_ aE_) (fun _ _ h => h) ?_
  rintro ⟨⟨i, sv_Rfc, H_Rfc⟩, hi_i, hr_Rfc⟩
  dsimp only at hi_i hr_Rfc ⊢
  have hb0 := dE_ (g := cn_ f) (n := 1) l (fun x _ => iF_ f x)
  have hb2 := dE_ (g := cS_ f) (n := 1) (List.take i p) (fun x _ => mg_ f x)
  rw [List.length_take] at hb2
  refine h_ (h_ (c_ (a_ (e_ rfl) rfl (a_ (e_ rfl) rfl (a_ (ak_ H_ rfl) rfl (x_ (ax_ rfl rfl) rfl fun r2 hr2 => ?_))))))
  refine d_ (b_ rfl ?_)
  cases r2
  ·
   replace hr2 := of_decide_eq_false hr2
   rw [show List.take i p = p from List.take_of_length_le (by omega)] at hr_Rfc
   refine v_ rfl (at_ rfl (b_ rfl (h_ (c_ (a_ (e_ rfl) rfl (a_ (g_ rfl) rfl (d_ (b_ rfl (E_ ?_)))))))))
   have hw2 : aR_ 41 6 sv_Rfc (List.length (fP_ p l f)) (List.flatMap Fc.cells (fP_ p l f)) H_Rfc := by have q := hr_Rfc; exact q
   refine bt_ hw2 S_ fun ad2 cp2 had2 hcad2 hmad2 hzad2 => ?_
   exact as_ Tryz.results120 ⟨(ad2, cp2), hcad2, hmad2, hzad2⟩ (bW_ rfl had2) I_ (fun v _ h => ⟨h.1, trivial⟩)
  ·
   replace hr2 := of_decide_eq_true hr2
   have hlx1 : i < List.length p := by omega
   obtain ⟨x1, hx1⟩ : ∃ e0, p[i]? = some e0 := ⟨_, List.getElem?_eq_getElem hlx1⟩
   have hmx1 : x1 ∈ p := List.mem_of_getElem? hx1
   refine u_ rfl (B_ (b_ rfl (h_ (Q_ (h_ ?_)))))
   refine aP_ (by kernel_rfl) ?_
   refine ae_ 29 [0, 1, 2, 3, 4, 5, 6] (by kernel_rfl) (fun _ a b => ⟨a, b⟩) (o_ rfl (e_ rfl) rfl (o_ rfl (e_ rfl) rfl (o_ rfl (aa_ H_ L_ rfl rfl (fun v _ h => az_ (n := 10) Pc.cells_len (by decide) (by exact h.1) hx1) (by omega) (by first | omega | (simp; done))) rfl (o_ rfl (bT_ k_ rfl rfl rfl K_) rfl (o_ rfl (aL_ (ad := pad) P_ rfl (fun v _ h => by exact h.1) (ac_ Pc.cells_len hx1 0 _ rfl)) rfl ?_)))))
   refine ck_ rfl (aI_ rfl rfl) rfl fun r3 hr3 => ?_
   refine o_ rfl (e_ rfl) rfl (ad_ ?_)
   cases r3
   ·
    replace hr3 := ne_of_beq_false hr3
    refine ae_ 0 [7, 8, 9, 10, 11, 12, 13, 14, 15, 16, 17, 18, 19, 20, 21, 22, 23, 24, 25, 26, 27, 28, 29, 30, 31, 32, 33, 34, 35] (by kernel_rfl) (fun _ a b => ⟨a, b⟩) (aD_ rfl rfl rfl rfl rfl (aD_ rfl rfl rfl rfl rfl (aD_ rfl rfl rfl rfl rfl (aD_ rfl rfl rfl rfl rfl (aD_ rfl rfl rfl rfl rfl (aD_ rfl rfl rfl rfl rfl (aD_ rfl rfl rfl rfl rfl (aD_ rfl rfl rfl rfl rfl (o_ rfl (A_ rfl rfl) rfl ?_)))))))))
    refine o_ rfl (e_ rfl) rfl (aD_ rfl rfl rfl rfl rfl (aD_ rfl rfl rfl rfl rfl (aD_ rfl rfl rfl rfl rfl (aD_ rfl rfl rfl rfl rfl (aD_ rfl rfl rfl rfl rfl (aD_ rfl rfl rfl rfl rfl (aD_ rfl rfl rfl rfl rfl (aD_ rfl rfl rfl rfl rfl (o_ rfl (A_ rfl rfl) rfl ?_)))))))))
    refine o_ rfl (e_ rfl) rfl (aD_ rfl rfl rfl rfl rfl (aD_ rfl rfl rfl rfl rfl (aD_ rfl rfl rfl rfl rfl (aD_ rfl rfl rfl rfl rfl (aD_ rfl rfl rfl rfl rfl (aD_ rfl rfl rfl rfl rfl (aD_ rfl rfl rfl rfl rfl (aD_ rfl rfl rfl rfl rfl (o_ rfl (A_ rfl rfl) rfl ?_)))))))))
    refine ad_ (ab_ (by kernel_rfl) (b_ rfl (v_ rfl (B_ (b_ rfl (c_ (a_ (e_ rfl) rfl (a_ (O_ rfl rfl rfl (af_ (by omega) (by omega))) rfl (a_ (g_ rfl) rfl ?_)))))))))
    refine d_ (w_ rfl ?_)
    exact Y_ ⟨(i + 1, sv_Rfc, H_Rfc), hlx1, (by have q := hr_Rfc; rw [bo_ hx1, show (cS_ f) x1 = [] from (by unfold cS_; rw [if_neg (fun q => by first | exact absurd q.1 (by assumption) | exact absurd q.2.1 (by assumption) | exact absurd q.2.2.1 (by assumption) | exact absurd q.2.2.2 (by assumption))])]; simpa only [List.append_assoc, List.append_nil] using q)⟩ (by dsimp only; omega) ⟨rfl, rfl, rfl, rfl, rfl, rfl, rfl, trivial⟩ (m_ i_ aE_) (fun _ _ h => h)
   ·
    replace hr3 := eq_of_beq hr3
    refine ae_ 19 [7, 8, 9, 10, 11, 12, 13, 14, 15, 16] (by kernel_rfl) (fun _ a b => ⟨a, b⟩) (ay_ rfl rfl rfl (e_ rfl) rfl (ay_ rfl rfl rfl (e_ rfl) rfl (ay_ rfl rfl rfl (aa_ H_ L_ rfl rfl (fun v _ h => az_ (n := 10) Pc.cells_len (by decide) (by exact h.1) hx1) (by omega) (by first | omega | (simp; done))) rfl (ay_ rfl rfl rfl (bT_ k_ rfl rfl rfl j_) rfl (ay_ rfl rfl rfl (aL_ (ad := pad) q_ rfl (fun v _ h => by exact h.1) (ac_ Pc.cells_len hx1 4 _ rfl)) rfl (ay_ rfl rfl rfl (l_ n_ rfl rfl rfl j_) rfl (ay_ rfl rfl rfl (t_ 0 q_ rfl rfl rfl) rfl ?_)))))))
    refine cY_ rfl rfl rfl (ap_ rfl rfl) rfl fun r4 hr4 => ?_
    refine o_ rfl (G_ rfl rfl) rfl (o_ rfl (e_ rfl) rfl (ad_ ?_))
    cases r4
    ·
     replace hr4 := ne_of_beq_false hr4
     refine ae_ 0 [17, 18, 19, 20, 21, 22, 23, 24, 25, 26, 27, 28, 29, 30, 31, 32, 33, 34, 35] (by kernel_rfl) (fun _ a b => ⟨a, b⟩) (aD_ rfl rfl rfl rfl rfl (aD_ rfl rfl rfl rfl rfl (aD_ rfl rfl rfl rfl rfl (aD_ rfl rfl rfl rfl rfl (aD_ rfl rfl rfl rfl rfl (aD_ rfl rfl rfl rfl rfl (aD_ rfl rfl rfl rfl rfl (aD_ rfl rfl rfl rfl rfl (o_ rfl (A_ rfl rfl) rfl ?_)))))))))
     refine o_ rfl (e_ rfl) rfl (aD_ rfl rfl rfl rfl rfl (aD_ rfl rfl rfl rfl rfl (aD_ rfl rfl rfl rfl rfl (aD_ rfl rfl rfl rfl rfl (aD_ rfl rfl rfl rfl rfl (aD_ rfl rfl rfl rfl rfl (aD_ rfl rfl rfl rfl rfl (aD_ rfl rfl rfl rfl rfl (o_ rfl (A_ rfl rfl) rfl ?_)))))))))
     refine ad_ (ab_ (by kernel_rfl) (b_ rfl (v_ rfl (B_ (b_ rfl (c_ (a_ (e_ rfl) rfl (a_ (O_ rfl rfl rfl (af_ (by omega) (by omega))) rfl (a_ (g_ rfl) rfl ?_)))))))))
     refine d_ (w_ rfl ?_)
     exact Y_ ⟨(i + 1, sv_Rfc, H_Rfc), hlx1, (by have q := hr_Rfc; rw [bo_ hx1, show (cS_ f) x1 = [] from (by unfold cS_; rw [if_neg (fun q => by first | exact absurd q.1 (by assumption) | exact absurd q.2.1 (by assumption) | exact absurd q.2.2.1 (by assumption) | exact absurd q.2.2.2 (by assumption))])]; simpa only [List.append_assoc, List.append_nil] using q)⟩ (by dsimp only; omega) ⟨rfl, rfl, rfl, rfl, rfl, rfl, rfl, trivial⟩ (m_ i_ aE_) (fun _ _ h => h)
    ·
     replace hr4 := eq_of_beq hr4
     refine ae_ 9 [17, 18, 19, 20, 21, 22, 23, 24, 25, 26] (by kernel_rfl) (fun _ a b => ⟨a, b⟩) (ay_ rfl rfl rfl (e_ rfl) rfl (ay_ rfl rfl rfl (e_ rfl) rfl (ay_ rfl rfl rfl (aa_ H_ L_ rfl rfl (fun v _ h => az_ (n := 10) Pc.cells_len (by decide) (by exact h.1) hx1) (by omega) (by first | omega | (simp; done))) rfl (ay_ rfl rfl rfl (bT_ k_ rfl rfl rfl K_) rfl (ay_ rfl rfl rfl (aL_ (ad := pad) P_ rfl (fun v _ h => by exact h.1) (ac_ Pc.cells_len hx1 7 _ rfl)) rfl (ay_ rfl rfl rfl (l_ n_ rfl rfl rfl K_) rfl (ay_ rfl rfl rfl (t_ 0 P_ rfl rfl rfl) rfl ?_)))))))
     refine cY_ rfl rfl rfl (bS_ rfl rfl) rfl fun r5 hr5 => ?_
     refine o_ rfl (G_ rfl rfl) rfl (o_ rfl (e_ rfl) rfl (ad_ ?_))
     cases r5
     ·
      replace hr5 := of_decide_eq_false hr5
      refine ae_ 0 [27, 28, 29, 30, 31, 32, 33, 34, 35] (by kernel_rfl) (fun _ a b => ⟨a, b⟩) (aD_ rfl rfl rfl rfl rfl (aD_ rfl rfl rfl rfl rfl (aD_ rfl rfl rfl rfl rfl (aD_ rfl rfl rfl rfl rfl (aD_ rfl rfl rfl rfl rfl (aD_ rfl rfl rfl rfl rfl (aD_ rfl rfl rfl rfl rfl (aD_ rfl rfl rfl rfl rfl (o_ rfl (A_ rfl rfl) rfl ?_)))))))))
      refine ad_ (ab_ (by kernel_rfl) (b_ rfl (v_ rfl (B_ (b_ rfl (c_ (a_ (e_ rfl) rfl (a_ (O_ rfl rfl rfl (af_ (by omega) (by omega))) rfl (a_ (g_ rfl) rfl ?_)))))))))
      refine d_ (w_ rfl ?_)
      exact Y_ ⟨(i + 1, sv_Rfc, H_Rfc), hlx1, (by have q := hr_Rfc; rw [bo_ hx1, show (cS_ f) x1 = [] from (by unfold cS_; rw [if_neg (fun q => by first | exact absurd q.1 (by assumption) | exact absurd q.2.1 (by assumption) | exact absurd q.2.2.1 (by assumption) | exact absurd q.2.2.2 (by assumption))])]; simpa only [List.append_assoc, List.append_nil] using q)⟩ (by dsimp only; omega) ⟨rfl, rfl, rfl, rfl, rfl, rfl, rfl, trivial⟩ (m_ i_ aE_) (fun _ _ h => h)
     ·
      replace hr5 := of_decide_eq_true hr5
      refine ae_ 0 [27, 28, 29, 30, 31, 32, 33, 34, 35] (by kernel_rfl) (fun _ a b => ⟨a, b⟩) (ay_ rfl rfl rfl (l_ n_ rfl rfl rfl K_) rfl (ay_ rfl rfl rfl (t_ 0 P_ rfl rfl rfl) rfl (ay_ rfl rfl rfl (e_ rfl) rfl (ay_ rfl rfl rfl (e_ rfl) rfl (ay_ rfl rfl rfl (aa_ H_ L_ rfl rfl (fun v _ h => az_ (n := 10) Pc.cells_len (by decide) (by exact h.1) hx1) (by omega) (by first | omega | (simp; done))) rfl (ay_ rfl rfl rfl (bT_ k_ rfl rfl rfl K_) rfl (ay_ rfl rfl rfl (aL_ (ad := pad) P_ rfl (fun v _ h => by exact h.1) (ac_ Pc.cells_len hx1 8 _ rfl)) rfl ?_)))))))
      refine cY_ rfl rfl rfl (bS_ rfl rfl) rfl fun r6 hr6 => ?_
      refine o_ rfl (G_ rfl rfl) rfl (ad_ (ab_ (by kernel_rfl) (b_ rfl ?_)))
      cases r6
      ·
       replace hr6 := of_decide_eq_false hr6
       refine v_ rfl (B_ (b_ rfl (c_ (a_ (e_ rfl) rfl (a_ (O_ rfl rfl rfl (af_ (by omega) (by omega))) rfl (a_ (g_ rfl) rfl (d_ (w_ rfl ?_))))))))
       exact Y_ ⟨(i + 1, sv_Rfc, H_Rfc), hlx1, (by have q := hr_Rfc; rw [bo_ hx1, show (cS_ f) x1 = [] from (by unfold cS_; rw [if_neg (fun q => by first | exact absurd q.1 (by assumption) | exact absurd q.2.1 (by assumption) | exact absurd q.2.2.1 (by assumption) | exact absurd q.2.2.2 (by assumption))])]; simpa only [List.append_assoc, List.append_nil] using q)⟩ (by dsimp only; omega) ⟨rfl, rfl, rfl, rfl, rfl, rfl, rfl, trivial⟩ (m_ i_ aE_) (fun _ _ h => h)
      ·
       replace hr6 := of_decide_eq_true hr6
       refine u_ rfl ?_
       refine aS_ ((b1, .cells (Fc.cells f).toArray 41 (0, 0)) :: []) (by kernel_rfl) ?_
       refine ae_ 4 [0, 1, 2, 3, 4, 5, 6, 7] (by kernel_rfl) (fun _ a b => ⟨Vw.sat.sub (a.perm i_), b⟩) (o_ rfl (e_ rfl) rfl (o_ rfl (l_ n_ rfl rfl rfl j_) rfl (o_ rfl (t_ 0 q_ rfl rfl rfl) rfl (o_ rfl (e_ rfl) rfl (o_ rfl (e_ rfl) rfl (o_ rfl (aa_ H_ L_ rfl rfl (fun v _ h => az_ (n := 10) Pc.cells_len (by decide) (by exact h.1) hx1) (by omega) (by first | omega | (simp; done))) rfl (o_ rfl (bT_ k_ rfl rfl rfl j_) rfl (o_ rfl (aL_ (ad := pad) q_ rfl (fun v _ h => by exact h.1) (ac_ Pc.cells_len hx1 3 _ rfl)) rfl (ad_ ?_)))))))))
       refine W_ 8 rfl (by kernel_rfl) (V_ (dR_ (Fc.a f) (Pc.c x1)) rfl I_ (fun _ _ _ => by exact trivial) rfl fun _ => ?_)
       refine d_ (w_ rfl (N_ (fun _ a b => ⟨Vw.sat.sub (a.perm i_), b⟩) (W_ 9 rfl (by kernel_rfl) (aJ_ F_ D_ ag_ rfl rfl rfl rfl rfl rfl fun b3 => ?_))))
       refine bw_ (List.flatMap Fc.cells [(aj_ (Fc.a f) (Pc.c x1))]) i_ rfl ?_
       refine d_ (w_ rfl (N_ (fun _ a b => ⟨Vw.sat.sub (a.perm i_), b.2⟩) (W_ 10 rfl (by kernel_rfl) (aK_ (news := List.flatMap Fc.cells [(aj_ (Fc.a f) (Pc.c x1))]) cc_ hr_Rfc rfl rfl (fun q => by cases q) (by simp) S_ (by rw [bp_ Fc.cells 6 Fc.cells_len]; rfl) (fun v _ h => by exact h.1) (fun u hu => aN_ Fc.cells_one hu) (by simp only [maxLen]; ((try simp only [List.length_append, List.length_cons, List.length_nil]); omega)) (by ((try simp only [List.length_append, List.length_cons, List.length_nil]); omega)) rfl fun sv3 Hr3 hr3 => ?_))))
       refine al_ List.perm_append_comm ?_
       have hq3 : aR_ 41 6 sv3 (List.length ((List.flatMap (cn_ f) l ++ List.flatMap (cS_ f) (List.take i p)) ++ [(aj_ (Fc.a f) (Pc.c x1))])) (List.flatMap Fc.cells ((List.flatMap (cn_ f) l ++ List.flatMap (cS_ f) (List.take i p)) ++ [(aj_ (Fc.a f) (Pc.c x1))])) Hr3 := by rw [List.length_append, List.flatMap_append]; exact hr3
       refine d_ (w_ rfl (N_ (fun _ a b => ⟨Vw.sat.sub (a.perm i_), b.2⟩) (ae_ 0 [11] (by kernel_rfl) (fun _ a b => ⟨Vw.sat.sub (a.perm i_), b.2⟩) (o_ rfl (g_ rfl) rfl (ad_ (ab_ (by kernel_rfl) (b_ rfl (c_ (a_ (e_ rfl) rfl ?_)))))))))
       refine a_ (O_ rfl rfl rfl (af_ (by omega) (by omega))) rfl (a_ (g_ rfl) rfl (d_ (w_ rfl ?_)))
       exact Y_ ⟨(i + 1, sv3, Hr3), hlx1, (by have q := hq3; rw [bo_ hx1, show (cS_ f) x1 = [(aj_ (Fc.a f) (Pc.c x1))] from (by unfold cS_; rw [if_pos ⟨by assumption, by assumption, by assumption, by assumption⟩])]; simpa only [List.append_assoc, List.append_nil] using q)⟩ (by dsimp only; omega) ⟨rfl, rfl, rfl, rfl, rfl, rfl, rfl, trivial⟩ (m_ i_ aE_) (fun _ _ h => h.2)
 ·
  replace hr1 := of_decide_eq_true hr1
  have hlx2 : j < List.length l := by omega
  obtain ⟨x2, hx2⟩ : ∃ e0, l[j]? = some e0 := ⟨_, List.getElem?_eq_getElem hlx2⟩
  have hmx2 : x2 ∈ l := List.mem_of_getElem? hx2
  refine u_ rfl (B_ (b_ rfl (h_ (Q_ (h_ (c_ (a_ (e_ rfl) rfl (a_ (e_ rfl) rfl (a_ (aa_ F_ D_ rfl rfl (fun v _ h => az_ (n := 6) Fc.cells_len (by decide) (by exact h.2.1) hx2) (by omega) (by first | omega | (simp; done))) rfl ?_)))))))))
  refine a_ (aT_ (ad := lad) (us := Fc.cells x2) ah_ D_ rfl (fun v _ h => by exact h.2.1) (Fc.cells_len _) (ac_ Fc.cells_len hx2)) rfl (ao_ ag_ rfl fun b4 => ?_)
  refine T_ 0 D_ rfl rfl rfl rfl rfl rfl (d_ (b_ rfl (h_ (h_ (c_ (a_ (l_ n_ rfl rfl rfl K_) rfl (a_ (t_ 0 P_ rfl rfl rfl) rfl (x_ (bN_ rfl rfl) rfl fun r7 hr7 => ?_))))))))
  refine a_ (e_ rfl) rfl ?_
  cases r7
  ·
   replace hr7 := bb_ hr7
   refine p_ rfl rfl (a_ (l_ n_ rfl rfl rfl j_) rfl (p_ rfl rfl (a_ (t_ 0 q_ rfl rfl rfl) rfl (p_ rfl rfl (a_ (l_ n_ rfl rfl rfl j_) rfl (p_ rfl rfl (a_ (t_ 1 q_ rfl rfl rfl) rfl (p_ rfl rfl (x_ (dK_ rfl rfl) rfl fun r8 hr8 => ?_)))))))))
   refine a_ (A_ rfl rfl) rfl (a_ (e_ rfl) rfl ?_)
   cases r8
   ·
    replace hr8 := bb_ hr8
    refine p_ rfl rfl (a_ (l_ n_ rfl rfl rfl j_) rfl (p_ rfl rfl (a_ (t_ 0 q_ rfl rfl rfl) rfl (p_ rfl rfl (a_ (l_ n_ rfl rfl rfl j_) rfl (p_ rfl rfl (a_ (t_ 1 q_ rfl rfl rfl) rfl (p_ rfl rfl (x_ (dK_ rfl rfl) rfl fun r9 hr9 => ?_)))))))))
    refine a_ (A_ rfl rfl) rfl (d_ (b_ rfl ?_))
    cases r9
    ·
     replace hr9 := bb_ hr9
     refine v_ rfl (B_ (b_ rfl (h_ (c_ (a_ (l_ n_ rfl rfl rfl K_) rfl (a_ (t_ 1 P_ rfl rfl rfl) rfl (a_ (l_ n_ rfl rfl rfl K_) rfl (a_ (t_ 0 P_ rfl rfl rfl) rfl (a_ (hd_ rfl rfl) rfl ?_)))))))))
     refine a_ (g_ rfl) rfl (d_ (b_ rfl (h_ (c_ (a_ (l_ n_ rfl rfl rfl K_) rfl (a_ (t_ 1 P_ rfl rfl rfl) rfl (a_ (l_ n_ rfl rfl rfl K_) rfl (a_ (t_ 0 P_ rfl rfl rfl) rfl (a_ (gf_ rfl rfl) rfl ?_)))))))))
     refine a_ (g_ rfl) rfl (d_ (b_ rfl (h_ (c_ (a_ (e_ rfl) rfl (a_ (e_ rfl) rfl (x_ (bS_ rfl rfl) rfl fun r10 hr10 => ?_)))))))
     refine d_ (b_ rfl ?_)
     cases r10
     ·
      replace hr10 := of_decide_eq_false hr10
      refine v_ rfl (c_ (a_ (e_ rfl) rfl (a_ (l_ n_ rfl rfl rfl j_) rfl (a_ (t_ 1 q_ rfl rfl rfl) rfl (V_ (dR_ (Fc.a f) [33]) rfl I_ (fun _ _ _ => by exact trivial) rfl fun _ => ?_)))))
      refine aJ_ F_ D_ ag_ rfl rfl rfl rfl rfl rfl fun b5 => ?_
      refine bw_ (List.flatMap Fc.cells [(aj_ (Fc.a f) [33])]) i_ rfl ?_
      refine aK_ (news := List.flatMap Fc.cells [(aj_ (Fc.a f) [33])]) cc_ hr_Rfc rfl rfl (fun q => by cases q) (by simp) (f_ S_) (by rw [bp_ Fc.cells 6 Fc.cells_len]; rfl) (fun v _ h => by exact h.1) (fun u hu => aN_ Fc.cells_one hu) (by simp only [maxLen]; ((try simp only [List.length_append, List.length_cons, List.length_nil]); omega)) (by ((try simp only [List.length_append, List.length_cons, List.length_nil]); omega)) rfl fun sv4 Hr4 hr4 => ?_
      refine al_ List.perm_append_comm ?_
      have hq4 : aR_ 41 6 sv4 (List.length ((List.flatMap (cn_ f) (List.take j l)) ++ [(aj_ (Fc.a f) [33])])) (List.flatMap Fc.cells ((List.flatMap (cn_ f) (List.take j l)) ++ [(aj_ (Fc.a f) [33])])) Hr4 := by rw [List.length_append, List.flatMap_append]; exact hr4
      refine a_ (g_ rfl) rfl (d_ (b_ rfl (c_ (a_ (e_ rfl) rfl (a_ (O_ rfl rfl rfl (af_ (by omega) (by omega))) rfl (a_ (g_ rfl) rfl (d_ (w_ rfl ?_))))))))
      exact Y_ ⟨(j + 1, sv4, Hr4), hlx2, (by have q := hq4; rw [bo_ hx2, show (cn_ f) x2 = [(aj_ (Fc.a f) [33])] from (by unfold cn_; rw [if_neg (by simp [*]), if_neg (by assumption)])]; simpa only [List.append_assoc, List.append_nil] using q)⟩ (by dsimp only; omega) ⟨rfl, rfl, rfl, rfl, rfl, rfl, trivial⟩ (m_ (f_ i_) S_) (fun _ _ h => h.2)
     ·
      replace hr10 := of_decide_eq_true hr10
      refine u_ rfl (c_ (a_ (e_ rfl) rfl (a_ (l_ n_ rfl rfl rfl j_) rfl (a_ (t_ 1 q_ rfl rfl rfl) rfl (a_ (l_ n_ rfl rfl rfl j_) rfl (a_ (t_ 1 q_ rfl rfl rfl) rfl (a_ (e_ rfl) rfl (a_ (e_ rfl) rfl (V_ (mM_ (Fc.a f) (Fc.r f) (max (Fc.lo f) (Fc.lo x2)) (min (Fc.hi f) (Fc.hi x2))) rfl I_ (fun _ _ _ => by exact trivial) rfl fun _ => ?_)))))))))
      refine aJ_ F_ D_ ag_ rfl rfl rfl rfl rfl rfl fun b6 => ?_
      refine bw_ (List.flatMap Fc.cells [(aO_ (Fc.a f) (Fc.r f) (max (Fc.lo f) (Fc.lo x2)) (min (Fc.hi f) (Fc.hi x2)))]) i_ rfl ?_
      refine aK_ (news := List.flatMap Fc.cells [(aO_ (Fc.a f) (Fc.r f) (max (Fc.lo f) (Fc.lo x2)) (min (Fc.hi f) (Fc.hi x2)))]) cc_ hr_Rfc rfl rfl (fun q => by cases q) (by simp) (f_ S_) (by rw [bp_ Fc.cells 6 Fc.cells_len]; rfl) (fun v _ h => by exact h.1) (fun u hu => aN_ Fc.cells_one hu) (by simp only [maxLen]; ((try simp only [List.length_append, List.length_cons, List.length_nil]); omega)) (by ((try simp only [List.length_append, List.length_cons, List.length_nil]); omega)) rfl fun sv5 Hr5 hr5 => ?_
      refine al_ List.perm_append_comm ?_
      have hq5 : aR_ 41 6 sv5 (List.length ((List.flatMap (cn_ f) (List.take j l)) ++ [(aO_ (Fc.a f) (Fc.r f) (max (Fc.lo f) (Fc.lo x2)) (min (Fc.hi f) (Fc.hi x2)))])) (List.flatMap Fc.cells ((List.flatMap (cn_ f) (List.take j l)) ++ [(aO_ (Fc.a f) (Fc.r f) (max (Fc.lo f) (Fc.lo x2)) (min (Fc.hi f) (Fc.hi x2)))])) Hr5 := by rw [List.length_append, List.flatMap_append]; exact hr5
      refine a_ (g_ rfl) rfl (d_ (b_ rfl (c_ (a_ (e_ rfl) rfl (a_ (O_ rfl rfl rfl (af_ (by omega) (by omega))) rfl (a_ (g_ rfl) rfl (d_ (w_ rfl ?_))))))))
      exact Y_ ⟨(j + 1, sv5, Hr5), hlx2, (by have q := hq5; rw [bo_ hx2, show (cn_ f) x2 = [(aO_ (Fc.a f) (Fc.r f) (max (Fc.lo f) (Fc.lo x2)) (min (Fc.hi f) (Fc.hi x2)))] from (by unfold cn_; rw [if_neg (by simp [*]), if_pos (by assumption)]; try rfl)]; simpa only [List.append_assoc, List.append_nil] using q)⟩ (by dsimp only; omega) ⟨rfl, rfl, rfl, rfl, rfl, rfl, trivial⟩ (m_ (f_ i_) S_) (fun _ _ h => h.2)
    ·
     replace hr9 := ba_ hr9
     refine u_ rfl (at_ rfl (b_ rfl (c_ (a_ (e_ rfl) rfl (a_ (O_ rfl rfl rfl (af_ (by omega) (by omega))) rfl (a_ (g_ rfl) rfl (d_ (w_ rfl ?_))))))))
     exact Y_ ⟨(j + 1, sv_Rfc, H_Rfc), hlx2, (by have q := hr_Rfc; rw [bo_ hx2, show (cn_ f) x2 = [] from (by unfold cn_; rw [if_pos (by simp [*])])]; simpa only [List.append_assoc, List.append_nil] using q)⟩ (by dsimp only; omega) ⟨rfl, rfl, rfl, rfl, rfl, rfl, trivial⟩ (m_ (f_ i_) S_) (fun _ _ h => h)
   ·
    replace hr8 := ba_ hr8
    refine r_ rfl rfl rfl rfl (r_ rfl rfl rfl rfl (r_ rfl rfl rfl rfl (r_ rfl rfl rfl rfl (r_ rfl rfl rfl rfl (a_ (G_ rfl rfl) rfl (d_ (b_ rfl (u_ rfl (at_ rfl ?_)))))))))
    refine b_ rfl (c_ (a_ (e_ rfl) rfl (a_ (O_ rfl rfl rfl (af_ (by omega) (by omega))) rfl (a_ (g_ rfl) rfl (d_ (w_ rfl ?_))))))
    exact Y_ ⟨(j + 1, sv_Rfc, H_Rfc), hlx2, (by have q := hr_Rfc; rw [bo_ hx2, show (cn_ f) x2 = [] from (by unfold cn_; rw [if_pos (by simp [*])])]; simpa only [List.append_assoc, List.append_nil] using q)⟩ (by dsimp only; omega) ⟨rfl, rfl, rfl, rfl, rfl, rfl, trivial⟩ (m_ (f_ i_) S_) (fun _ _ h => h)
  ·
   replace hr7 := ba_ hr7
   refine r_ rfl rfl rfl rfl (r_ rfl rfl rfl rfl (r_ rfl rfl rfl rfl (r_ rfl rfl rfl rfl (r_ rfl rfl rfl rfl (a_ (G_ rfl rfl) rfl (a_ (e_ rfl) rfl (r_ rfl rfl rfl rfl (r_ rfl rfl rfl rfl (r_ rfl rfl rfl rfl ?_)))))))))
   refine r_ rfl rfl rfl rfl (r_ rfl rfl rfl rfl (a_ (G_ rfl rfl) rfl (d_ (b_ rfl (u_ rfl (at_ rfl (b_ rfl (c_ (a_ (e_ rfl) rfl ?_)))))))))
   refine a_ (O_ rfl rfl rfl (af_ (by omega) (by omega))) rfl (a_ (g_ rfl) rfl (d_ (w_ rfl ?_)))
   exact Y_ ⟨(j + 1, sv_Rfc, H_Rfc), hlx2, (by have q := hr_Rfc; rw [bo_ hx2, show (cn_ f) x2 = [] from (by unfold cn_; rw [if_pos (by simp [*])])]; simpa only [List.append_assoc, List.append_nil] using q)⟩ (by dsimp only; omega) ⟨rfl, rfl, rfl, rfl, rfl, rfl, trivial⟩ (m_ (f_ i_) S_) (fun _ _ h => h)
theorem oi_ (p : List Pc) (pad : Option Addr) (pcap : Nat) (l : List Fc) (lad : Option Addr) (lcap : Nat) (f : Fc) (hp : p.length ≤ 100) (hl : l.length ≤ 65536) (hs : Srt l) : Tri Tryz.prog 65 #[.slice pad (List.length p) pcap, .slice lad (List.length l) lcap, Fc.val f] [] [aC_ pad (List.flatMap Pc.cells p), aC_ lad (List.flatMap Fc.cells l)] (fun y : {y : Option Addr × Nat // ((cx_ p l f)).length ≤ y.2 ∧ y.2 ≤ maxLen ∧ (y.1 = none → y.2 = 0)} => .slice y.1.1 ((cx_ p l f)).length y.1.2) (fun _ => []) (fun y => [aC_ y.1.1 (((cx_ p l f)).flatMap Fc.cells)]) := by
  refine R_ Tryz.func65 rfl rfl Tryz.ntmps65 rfl fun v0 => ?_
  refine h_ (c_ (bn_ rfl rfl fun b1 => ?_))
  refine a_ (g_ rfl) rfl (d_ (b_ rfl (h_ (h_ (c_ (a_ (l_ n_ rfl rfl rfl K_) rfl (a_ (t_ 0 P_ rfl rfl rfl) rfl (d_ (b_ rfl ?_)))))))))
  refine Q_ (h_ (c_ (x_ (aI_ rfl rfl) rfl fun r1 hr1 => ?_)))
  refine a_ (g_ rfl) rfl (d_ (b_ rfl ?_))
  cases r1
  · skip
    replace hr1 := ne_of_beq_false hr1
    refine v_ rfl (h_ (c_ (x_ (aI_ rfl rfl) rfl fun r2 hr2 => ?_)))
    refine a_ (g_ rfl) rfl (d_ (b_ rfl ?_))
    cases r2
    · skip
      replace hr2 := ne_of_beq_false hr2
      refine v_ rfl (B_ (b_ rfl (h_ (c_ (a_ (e_ rfl) rfl (a_ (e_ rfl) rfl (a_ (X_ 0 ah_ D_ rfl rfl rfl) rfl (V_ (nC_ p pad pcap l lad lcap f hp hl hs) rfl I_ (fun v _ h => by exact ⟨h.1, h.2.1, trivial⟩) rfl fun ⟨⟨sad1, scap1⟩, hsc⟩ => ?_))))))))
      dsimp only
      dsimp only at hsc
      refine a_ (g_ rfl) rfl (d_ (b_ rfl (E_ ?_)))
      have e0 : cx_ p l f = (fP_ p l f) := by unfold cx_; rw [if_neg (by omega), if_neg (by omega)]
      rw [← e0] at hsc
      exact as_ Tryz.results65 ⟨(sad1, scap1), hsc⟩ (bW_ rfl (by dsimp only; rw [e0])) I_ (fun v _ h => ⟨by show bq_ v sad1 (List.flatMap Fc.cells (cx_ p l f)); rw [e0]; exact h.1, trivial⟩)
    · skip
      replace hr2 := eq_of_beq hr2
      refine u_ rfl (h_ (c_ (a_ (e_ rfl) rfl (a_ (e_ rfl) rfl (a_ (X_ 0 ah_ D_ rfl rfl rfl) rfl (V_ (oL_ p pad pcap l lad lcap f hp hl hs) rfl I_ (fun v _ h => by exact ⟨h.1, h.2.1, trivial⟩) rfl fun ⟨⟨sad1, scap1⟩, hsc⟩ => ?_))))))
      dsimp only
      dsimp only at hsc
      refine a_ (g_ rfl) rfl (d_ (b_ rfl (E_ ?_)))
      have e0 : cx_ p l f = (fw_ p l f) := by unfold cx_; rw [if_neg (by omega), if_pos (by assumption)]
      rw [← e0] at hsc
      exact as_ Tryz.results65 ⟨(sad1, scap1), hsc⟩ (bW_ rfl (by dsimp only; rw [e0])) I_ (fun v _ h => ⟨by show bq_ v sad1 (List.flatMap Fc.cells (cx_ p l f)); rw [e0]; exact h.1, trivial⟩)
  · skip
    replace hr1 := eq_of_beq hr1
    refine u_ rfl (h_ (c_ (a_ (e_ rfl) rfl (a_ (e_ rfl) rfl (a_ (X_ 0 ah_ D_ rfl rfl rfl) rfl (V_ (pY_ p pad pcap l lad lcap f hp hl hs) rfl I_ (fun v _ h => by exact ⟨h.1, h.2.1, trivial⟩) rfl fun ⟨⟨sad1, scap1⟩, hsc⟩ => ?_))))))
    dsimp only
    dsimp only at hsc
    refine a_ (g_ rfl) rfl (d_ (b_ rfl (E_ ?_)))
    have e0 : cx_ p l f = (kh_ p l f) := by unfold cx_; rw [if_pos (by assumption)]
    rw [← e0] at hsc
    exact as_ Tryz.results65 ⟨(sad1, scap1), hsc⟩ (bW_ rfl (by dsimp only; rw [e0])) I_ (fun v _ h => ⟨by show bq_ v sad1 (List.flatMap Fc.cells (cx_ p l f)); rw [e0]; exact h.1, trivial⟩)
end Go.Proofs.YtpdbbglpbngeiaaGreatDoor
namespace Go.Proofs.YtpdbbglpbngeiaaGreatDoor
open Go Go.Sx Go.Proofs
attribute [local irreducible] Code.wp wpList wpAnyH
open Go.Vs
theorem iA_ {e : TypeId} {sz n b : Nat} {xs : List Value} (h : xs.length = n * sz) (hn : n ≤ maxLen) : aR_ e sz (.slice (some ⟨b, 0, none⟩) n n) n xs [(b, .cells xs.toArray e (0, 0))] :=
  ⟨h, .inr ⟨b, n, xs.toArray, rfl, rfl, Nat.le_refl _, hn, by simpa using h, by rw [List.toList_toArray]; exact List.take_of_length_le (by omega)⟩⟩
def bX_ (p : List Pc) : List Str := [[33], [42]] ++ cN_ p
def cw_ (L : List Str) : List Str := L.foldl bu_ []
theorem dY_ {L : List Str} {i : Nat} {x : Str} (h : L[i]? = some x) : cw_ (L.take (i + 1)) = bu_ (cw_ (L.take i)) x := by
  unfold cw_; rw [List.take_add_one, h, Option.toList_some, List.foldl_append]; rfl
theorem mY_ : ∀ (L A : List Str), mE_ A → mE_ (L.foldl bu_ A) ∧ (∀ x, x ∈ L.foldl bu_ A ↔ x ∈ A ∨ (x ∈ L ∧ x ≠ [])) ∧ (L.foldl bu_ A).length ≤ A.length + L.length
  | [], A, h => ⟨h, by simp, by simp⟩
  | y :: L, A, h => by
    obtain ⟨h1, h2, h3⟩ := mY_ L (bu_ A y) (hf_ h)
    refine ⟨h1, fun x => ?_, ?_⟩
    · rw [List.foldl_cons, h2, gx_]
      simp only [List.mem_cons]
      constructor
      · rintro ((h | ⟨rfl, h⟩) | ⟨h, h'⟩)
        · exact .inl h
        · exact .inr ⟨.inl rfl, h⟩
        · exact .inr ⟨.inr h, h'⟩
      · rintro (h | ⟨rfl | h, h'⟩)
        · exact .inl (.inl h)
        · exact .inl (.inr ⟨rfl, h'⟩)
        · exact .inr ⟨h, h'⟩
    · have := ew_ A y
      simp only [List.foldl_cons, List.length_cons]
      omega
theorem pd_ (L : List Str) : (cw_ L).length ≤ L.length := by have := (mY_ L [] List.Pairwise.nil).2.2; unfold cw_; simpa using this
theorem pc_ (L : List Str) : mE_ (cw_ L) := (mY_ L [] List.Pairwise.nil).1
theorem kH_ {p : List Pc} : ∀ x ∈ bX_ p, x ≠ [] := fun x hx => by
  unfold bX_ at hx
  rcases List.mem_append.1 hx with h | h
  · simp at h; rcases h with rfl | rfl <;> simp
  · rw [← js_] at h; exact nT_ h
theorem qp_ (p : List Pc) : cw_ (bX_ p) = atS p :=
  ey_ eg_ List.lt_trans (pc_ _) (jt_ p) fun x => by
    rw [iq_, cw_, (mY_ _ [] List.Pairwise.nil).2.1]
    constructor
    · rintro (h | ⟨h, _⟩)
      · simp at h
      · unfold bX_ at h
        rcases List.mem_append.1 h with h | h
        · simp at h; exact .inr h.symm
        · rw [← js_] at h; exact .inl h
    · intro h
      refine .inr ?_
      have hm : x ∈ bX_ p := by
        unfold bX_
        rcases h with h | h
        · rw [js_] at h; exact List.mem_append_right _ h
        · exact List.mem_append_left _ (by simp; exact h.symm)
      exact ⟨hm, kH_ x hm⟩
theorem pp_ (p : List Pc) : (bX_ p).length ≤ 3 * p.length + 2 := by
  have := gY_ p
  unfold bX_; rw [List.length_append]; simp only [List.length_cons, List.length_nil]; omega
theorem kW_yes {l : List Str} {s : Str} {k : Nat} (hk : kS l s = k) (h : l[k]? = some s) : bu_ l s = l := by unfold bu_; rw [hk, if_pos (.inr h)]
theorem qA_ {l : List Str} {s : Str} {k : Nat} (hs : s ≠ []) (hk : kS l s = k) (h : l[k]? ≠ some s) : bu_ l s = l.take k ++ ([s] ++ l.drop k) := by unfold bu_; rw [hk, if_neg (by rintro (q | q); exact hs q; exact h q), List.append_assoc]
theorem bq_.pre {α : Type} {f : α → List Value} {n : Nat} (hf : ∀ x, (f x).length = n) {l : List α} {v : Vw} {ad : Option Addr} (h : bq_ v ad (l.flatMap f)) (j : Nat) : bq_ v ad ((l.take j).flatMap f) :=
  h.part fun k x hx => by
    have e : l.flatMap f = (l.take j).flatMap f ++ (l.drop j).flatMap f := by rw [← List.flatMap_append, List.take_append_drop]
    rw [e, List.getElem?_append_left (List.getElem?_eq_some_iff.1 hx).1]
    exact hx
theorem pS_ (p : List Pc) (pad : Option Addr) (pcap : Nat) (hp : p.length ≤ 1000) : Tri Tryz.prog 63 #[.slice pad (List.length p) pcap] [] [aC_ pad (List.flatMap Pc.cells p)] (fun y : {y : Option Addr × Nat // ((atS p)).length ≤ y.2 ∧ y.2 ≤ maxLen ∧ (y.1 = none → y.2 = 0)} => .slice y.1.1 ((atS p)).length y.1.2) (fun _ => []) (fun y => [aC_ y.1.1 (((atS p)).flatMap aM_)]) := by
 refine R_ Tryz.func63 rfl rfl Tryz.ntmps63 rfl fun v0 => ?_
 refine h_ (c_ (a_ (g_ rfl) rfl (d_ (b_ rfl (h_ (c_ (cW_ z_ j_ rfl fun b1 => ?_)))))))
 refine al_ i_ (a_ (g_ rfl) rfl (d_ (b_ rfl (h_ (c_ (aJ_ z_ j_ bj_ rfl rfl rfl rfl rfl rfl fun b2 => ?_))))))
 have hL1 : aR_ 9 1 (.slice (some ⟨b2, 0, none⟩) 2 2) (List.length [[33], [42]]) (List.flatMap aM_ [[33], [42]]) [(b2, .cells (List.flatMap aM_ [[33], [42]]).toArray 9 (0, 0))] := iA_ rfl (by simp [maxLen])
 refine al_ i_ (a_ (e_ rfl) rfl (V_ (oz_ p pad pcap (by omega)) rfl I_ (fun v _ h => by exact ⟨h.1, trivial⟩) rfl fun ⟨⟨aad1, acap1⟩, hca1, hcm1, hcz1⟩ => ?_))
 dsimp only
 refine al_ hY_ ?_
 dsimp only at hca1 hcm1 hcz1
 have hfl := gY_ p
 refine aK_ (news := List.flatMap aM_ (cN_ p)) cI_ hL1 rfl rfl hcz1 hca1 C_ (by rw [bp_ aM_ 1 aq_]) (fun v _ h => by exact h.1) (fun u hu => aN_ cm_ hu) (by simp only [maxLen]; (simp only [List.length_append, List.length_cons, List.length_nil, List.length_take, List.length_drop]; omega)) (by (simp only [List.length_append, List.length_cons, List.length_nil, List.length_take, List.length_drop]; omega)) rfl fun sv2 Hr2 hr2 => ?_
 have hq2 : aR_ 9 1 sv2 (List.length ([[33], [42]] ++ (cN_ p))) (List.flatMap aM_ ([[33], [42]] ++ (cN_ p))) Hr2 := by rw [List.length_append, List.flatMap_append]; exact hr2
 refine a_ (g_ rfl) rfl (d_ (b_ rfl (h_ (h_ (c_ (a_ (g_ rfl) rfl (d_ (b_ rfl (Q_ ?_)))))))))
 refine bt_ hq2 C_ fun bad bcap hbad hcbad hmbad hzbad => ?_
 subst hbad
 refine gm_ (Γ' := [aC_ bad (List.flatMap aM_ (bX_ p)), aC_ pad (List.flatMap Pc.cells p)]) (fun v _ h => by exact ⟨h.1, h.2.2.1, trivial⟩) ?_
 refine bt_ (dP_ b1 9 1) aE_ fun oad0 ocap0 hoad0 hcoad0 hmoad0 hzoad0 => ?_
 obtain ⟨rfl, _, rfl⟩ := Value.slice.inj hoad0
 have hll := pp_ p
 refine gm_ (Γ' := [aC_ (some ⟨b1, 0, none⟩) (List.flatMap aM_ (cw_ (List.take (0 : Nat) (bX_ p)))), aC_ bad (List.flatMap aM_ (bX_ p)), aC_ pad (List.flatMap Pc.cells p)]) (fun _ _ h => h) ?_
 refine aG_ (ι := {y : Nat × Option Addr × Nat // y.1 ≤ List.length (bX_ p) ∧ ((cw_ (List.take y.1 (bX_ p))).length ≤ y.2.2 ∧ y.2.2 ≤ maxLen ∧ (y.2.1 = none → y.2.2 = 0))}) (fun y => [(0, .slice pad (List.length p) pcap), (2, .slice none 0 0), (3, .slice y.1.2.1 (List.length (cw_ (List.take y.1.1 (bX_ p)))) y.1.2.2), (4, .slice bad (List.length (bX_ p)) bcap), (5, .int .i64 (y.1.1 : Int))]) (fun y => ([])) (fun y => [aC_ bad (List.flatMap aM_ (bX_ p)), aC_ pad (List.flatMap Pc.cells p), aC_ y.1.2.1 (List.flatMap aM_ (cw_ (List.take y.1.1 (bX_ p))))]) (fun y => List.length (bX_ p) - y.1.1) ⟨((0 : Nat), (some ⟨b1, 0, none⟩), 0), Nat.zero_le _, ⟨hcoad0, hmoad0, hzoad0⟩⟩ ⟨rfl, rfl, rfl, rfl, rfl, trivial⟩ I_ (fun v _ h => by exact ⟨h.2.1, h.2.2.1, h.1, trivial⟩) ?_
 rintro ⟨⟨i, oad, ocap⟩, hi, hoc⟩
 dsimp only at hi hoc ⊢
 have ho1 := hoc.1
 have ho2 := hoc.2.1
 have ho3 := hoc.2.2
 have hol := pd_ (List.take i (bX_ p))
 rw [List.length_take] at hol
 refine h_ (h_ (c_ (a_ (e_ rfl) rfl (a_ (e_ rfl) rfl (a_ (ak_ z_ rfl) rfl (x_ (ax_ rfl rfl) rfl fun r1 hr1 => ?_))))))
 refine d_ (b_ rfl ?_)
 cases r1
 ·
  replace hr1 := of_decide_eq_false hr1
  refine v_ rfl (at_ rfl (b_ rfl (h_ (c_ (a_ (e_ rfl) rfl (a_ (g_ rfl) rfl (d_ (b_ rfl (E_ ?_)))))))))
  have e9 : (cw_ (List.take i (bX_ p))) = atS p := by rw [List.take_of_length_le (by omega)]; exact qp_ p
  rw [e9] at hoc
  exact as_ Tryz.results63 ⟨(oad, ocap), hoc⟩ (bW_ rfl (by rw [e9])) I_ (fun v _ h => ⟨by show bq_ v oad (List.flatMap aM_ (atS p)); rw [← e9]; exact h.2.2.1, trivial⟩)
 ·
  replace hr1 := of_decide_eq_true hr1
  have hlx1 : i < List.length (bX_ p) := by omega
  obtain ⟨x1, hx1⟩ : ∃ e0, (bX_ p)[i]? = some e0 := ⟨_, List.getElem?_eq_getElem hlx1⟩
  have hmx1 : x1 ∈ (bX_ p) := List.mem_of_getElem? hx1
  refine u_ rfl (B_ (b_ rfl (h_ (Q_ (h_ (c_ (a_ (g_ rfl) rfl (d_ (b_ rfl ?_)))))))))
  refine h_ (Q_ ?_)
  refine aG_ (ι := {y : Nat // y ≤ List.length (cw_ (List.take i (bX_ p))) ∧ (∀ x ∈ List.take y (cw_ (List.take i (bX_ p))), x < x1)}) (fun y => [(0, .slice pad (List.length p) pcap), (2, .slice none 0 0), (3, .slice oad (List.length (cw_ (List.take i (bX_ p)))) ocap), (4, .slice bad (List.length (bX_ p)) bcap), (5, .int .i64 (i : Int)), (6, .int .i64 (y.1 : Int))]) (fun y => ([])) (fun y => [aC_ bad (List.flatMap aM_ (bX_ p)), aC_ pad (List.flatMap Pc.cells p), aC_ oad (List.flatMap aM_ (cw_ (List.take i (bX_ p))))]) (fun y => List.length (cw_ (List.take i (bX_ p))) - y.1) ⟨(0 : Nat), Nat.zero_le _, by simp⟩ ⟨rfl, rfl, rfl, rfl, rfl, rfl, trivial⟩ I_ (fun _ _ h => h) ?_
  rintro ⟨k, hk, hlt⟩
  dsimp only at hk hlt ⊢
  refine h_ (h_ ?_)
  refine aP_ (by kernel_rfl) ?_
  refine ae_ 10 [0, 1, 2, 3, 4] (by kernel_rfl) (fun _ a b => ⟨bE_ a, b⟩) (o_ rfl (e_ rfl) rfl (o_ rfl (e_ rfl) rfl (o_ rfl (ak_ z_ rfl) rfl ?_)))
  refine ck_ rfl (ax_ rfl rfl) rfl fun r2 hr2 => ?_
  refine o_ rfl (e_ rfl) rfl (ad_ ?_)
  cases r2
  ·
   replace hr2 := of_decide_eq_false hr2
   refine ae_ 0 [5, 6, 7, 8, 9, 10, 11, 12, 13, 14] (by kernel_rfl) (fun _ a b => ⟨bE_ a, b⟩) (aD_ rfl rfl rfl rfl rfl (aD_ rfl rfl rfl rfl rfl (aD_ rfl rfl rfl rfl rfl (aD_ rfl rfl rfl rfl rfl (aD_ rfl rfl rfl rfl rfl (aD_ rfl rfl rfl rfl rfl (aD_ rfl rfl rfl rfl rfl (aD_ rfl rfl rfl rfl rfl (aD_ rfl rfl rfl rfl rfl ?_)))))))))
   refine o_ rfl (A_ rfl rfl) rfl (ad_ (ab_ (by kernel_rfl) (b_ rfl (v_ rfl (at_ rfl (b_ rfl (h_ ?_)))))))
   have hks : kS (cw_ (List.take i (bX_ p))) x1 = k := lJ_ hk hlt (fun x hx => by have := (List.getElem?_eq_some_iff.1 hx).1; omega)
   refine aP_ (by kernel_rfl) ?_
   refine ae_ 10 [0, 1, 2, 3, 4] (by kernel_rfl) (fun _ a b => ⟨bE_ a, b⟩) (o_ rfl (e_ rfl) rfl (o_ rfl (e_ rfl) rfl (o_ rfl (ak_ z_ rfl) rfl ?_)))
   refine ck_ rfl (aI_ rfl rfl) rfl fun r3 hr3 => ?_
   refine o_ rfl (e_ rfl) rfl (ad_ ?_)
   cases r3
   ·
    replace hr3 := ne_of_beq_false hr3
    exfalso; omega
   ·
    replace hr3 := eq_of_beq hr3
    refine ae_ 0 [5, 6, 7, 8, 9, 10, 11, 12, 13, 14] (by kernel_rfl) (fun _ a b => ⟨bE_ a, b⟩) (aD_ rfl rfl rfl rfl rfl (aD_ rfl rfl rfl rfl rfl (aD_ rfl rfl rfl rfl rfl (aD_ rfl rfl rfl rfl rfl (aD_ rfl rfl rfl rfl rfl (aD_ rfl rfl rfl rfl rfl (aD_ rfl rfl rfl rfl rfl (aD_ rfl rfl rfl rfl rfl (aD_ rfl rfl rfl rfl rfl ?_)))))))))
    refine o_ rfl (G_ rfl rfl) rfl (ad_ (ab_ (by kernel_rfl) (b_ rfl (u_ rfl (h_ ?_)))))
    have en : bu_ (cw_ (List.take i (bX_ p))) x1 = List.take k (cw_ (List.take i (bX_ p))) ++ ([x1] ++ List.drop k (cw_ (List.take i (bX_ p)))) := qA_ (kH_ x1 hmx1) hks (fun q => by have := (List.getElem?_eq_some_iff.1 q).1; omega)
    refine aS_ ([]) (by kernel_rfl) ?_
    refine ae_ 3 [0, 1, 2, 3, 5, 6, 7] (by kernel_rfl) (fun _ a b => ⟨bE_ a, b⟩) (o_ rfl (e_ rfl) rfl (o_ rfl (e_ rfl) rfl (o_ rfl (aa_ z_ j_ rfl rfl (fun v _ h => az_ (n := 1) aq_ (by decide) (by exact h.1) hx1) (by omega) (by first | omega | (simp; done))) rfl (o_ rfl (aL_ (ad := bad) q_ rfl (fun v _ h => by exact h.1) (ac_ aq_ hx1 0 _ rfl)) rfl (o_ rfl (e_ rfl) rfl (o_ rfl (e_ rfl) rfl (o_ rfl (bA_ (ch_ (i := k) (j := List.length (cw_ (List.take i (bX_ p)))) (kl := .i64) (kh := .i64) z_ j_ rfl rfl rfl (by omega) (by have := ho1; omega)) (show _ = Value.slice (sad oad ocap k 1) (List.length (List.drop k (cw_ (List.take i (bX_ p))))) (ocap - k) by rw [List.length_drop])) rfl (ad_ (W_ 4 rfl (by kernel_rfl) ?_)))))))))
    refine aJ_ z_ j_ bj_ rfl rfl rfl rfl rfl rfl fun b3 => ?_
    have hL3 : aR_ 9 1 (.slice (some ⟨b3, 0, none⟩) 1 1) (List.length [x1]) (List.flatMap aM_ [x1]) [(b3, .cells (List.flatMap aM_ [x1]).toArray 9 (0, 0))] := iA_ rfl (by simp [maxLen])
    refine al_ i_ (d_ (w_ rfl (N_ (fun _ a b => ⟨bE_ a, b⟩) (W_ 8 rfl (by kernel_rfl) (aK_ (news := List.flatMap aM_ (List.drop k (cw_ (List.take i (bX_ p))))) cI_ hL3 rfl rfl (fun q => by have := ho3 (dl_ q); omega) (by rw [List.length_drop]; have := ho1; omega) aE_ (by rw [bp_ aM_ 1 aq_]) (fun v _ h => by exact (bq_.rest aq_ h.2.2.1 ho1 k)) (fun u hu => aN_ cm_ hu) (by simp only [maxLen]; (simp only [List.length_append, List.length_cons, List.length_nil, List.length_take, List.length_drop]; omega)) (by (simp only [List.length_append, List.length_cons, List.length_nil, List.length_take, List.length_drop]; omega)) rfl fun sv4 Hr4 hr4 => ?_)))))
    refine al_ List.perm_append_comm ?_
    have hq4 : aR_ 9 1 sv4 (List.length ([x1] ++ (List.drop k (cw_ (List.take i (bX_ p)))))) (List.flatMap aM_ ([x1] ++ (List.drop k (cw_ (List.take i (bX_ p)))))) Hr4 := by rw [List.length_append, List.flatMap_append]; exact hr4
    refine d_ (w_ rfl (N_ (fun _ a b => ⟨bE_ a, b⟩) (ae_ 0 [9] (by kernel_rfl) (fun _ a b => ⟨bE_ a, b⟩) (o_ rfl (g_ rfl) rfl (ad_ (ab_ (by kernel_rfl) (b_ rfl (c_ (a_ (e_ rfl) rfl ?_)))))))))
    refine a_ (e_ rfl) rfl (a_ (e_ rfl) rfl (a_ (bA_ (is_ (j := k) (m := k) (kl := .i64) (kh := .i64) z_ j_ rfl rfl rfl (Nat.le_refl _) (by have := ho1; omega)) (show _ = Value.slice (sad oad k 0 1) (List.length (List.take k (cw_ (List.take i (bX_ p))))) k by rw [List.length_take, Nat.min_eq_left (by omega)])) rfl (a_ (e_ rfl) rfl (bt_ hq4 aE_ fun rad2 rcap2 hrad2 hcrad2 hmrad2 hzrad2 => ?_))))
    subst hrad2
    refine ia_ (n := List.length (List.take k (cw_ (List.take i (bX_ p))))) (m := List.length ([x1] ++ (List.drop k (cw_ (List.take i (bX_ p)))))) (olds := List.flatMap aM_ (List.take k (cw_ (List.take i (bX_ p))))) (news := List.flatMap aM_ ([x1] ++ (List.drop k (cw_ (List.take i (bX_ p)))))) cI_ rfl rfl (fun q => by have := ho3 (dl_ q); have := ho1; omega) (by rw [List.length_take]; omega) hzrad2 hcrad2 (by rw [bp_ aM_ 1 aq_]) (fun v _ h => by exact (sad0 (bq_.pre aq_ h.2.2.2.1 k))) (by rw [bp_ aM_ 1 aq_]) (fun v _ h => by exact h.1) (fun u hu => aN_ cm_ hu) (by rw [List.length_take]; simp only [List.length_append, List.length_cons, List.length_nil]; omega) (by simp only [maxLen]; (simp only [List.length_append, List.length_cons, List.length_nil, List.length_take, List.length_drop]; omega)) (by (simp only [List.length_append, List.length_cons, List.length_nil, List.length_take, List.length_drop]; omega)) rfl fun sv5 Hr5 hr5 => ?_
    have hq5 : aR_ 9 1 sv5 (List.length ((List.take k (cw_ (List.take i (bX_ p)))) ++ ([x1] ++ (List.drop k (cw_ (List.take i (bX_ p))))))) (List.flatMap aM_ ((List.take k (cw_ (List.take i (bX_ p)))) ++ ([x1] ++ (List.drop k (cw_ (List.take i (bX_ p))))))) Hr5 := by rw [List.length_append, List.flatMap_append]; exact hr5
    refine al_ ff_ (bt_ hq5 aE_ fun nad ncap hnad hcnad hmnad hznad => ?_)
    subst hnad
    refine a_ (g_ rfl) rfl (d_ (b_ rfl (c_ (a_ (e_ rfl) rfl (a_ (O_ rfl rfl rfl (af_ (by omega) (by omega))) rfl (a_ (g_ rfl) rfl (d_ (w_ rfl ?_))))))))
    exact Y_ ⟨(i + 1, nad, ncap), hlx1, (by dsimp only; rw [dY_ hx1, en]; exact ⟨hcnad, hmnad, hznad⟩)⟩ (by dsimp only; omega) ⟨rfl, rfl, (bW_ rfl (by dsimp only; rw [dY_ hx1, en])), rfl, rfl, trivial⟩ I_ (fun v _ h => by refine ⟨h.2.2.1, h.2.2.2.1, ?_, trivial⟩; show bq_ v nad (List.flatMap aM_ (cw_ (List.take (i + 1) (bX_ p)))); rw [dY_ hx1, en]; exact h.1)
  ·
   replace hr2 := of_decide_eq_true hr2
   have hlx2 : k < List.length (cw_ (List.take i (bX_ p))) := by omega
   obtain ⟨x2, hx2⟩ : ∃ e0, (cw_ (List.take i (bX_ p)))[k]? = some e0 := ⟨_, List.getElem?_eq_getElem hlx2⟩
   have hmx2 : x2 ∈ (cw_ (List.take i (bX_ p))) := List.mem_of_getElem? hx2
   refine ae_ 0 [5, 6, 7, 8, 9, 10, 11, 12, 13, 14] (by kernel_rfl) (fun _ a b => ⟨bE_ a, b⟩) (ay_ rfl rfl rfl (e_ rfl) rfl (ay_ rfl rfl rfl (e_ rfl) rfl (ay_ rfl rfl rfl (aa_ z_ j_ rfl rfl (fun v _ h => az_ (n := 1) aq_ (by decide) (by exact h.2.2.1) hx2) (by omega) (by first | omega | (simp; done))) rfl (ay_ rfl rfl rfl (aL_ (ad := oad) q_ rfl (fun v _ h => by exact h.2.2.1) (ac_ aq_ hx2 0 _ rfl)) rfl (ay_ rfl rfl rfl (e_ rfl) rfl (ay_ rfl rfl rfl (e_ rfl) rfl (ay_ rfl rfl rfl (aa_ z_ j_ rfl rfl (fun v _ h => az_ (n := 1) aq_ (by decide) (by exact h.1) hx1) (by omega) (by first | omega | (simp; done))) rfl (ay_ rfl rfl rfl (aL_ (ad := bad) q_ rfl (fun v _ h => by exact h.1) (ac_ aq_ hx1 0 _ rfl)) rfl ?_))))))))
   refine cY_ rfl rfl rfl (ge_ rfl rfl) rfl fun r4 hr4 => ?_
   refine o_ rfl (G_ rfl rfl) rfl (ad_ (ab_ (by kernel_rfl) (b_ rfl ?_)))
   cases r4
   ·
    replace hr4 := of_decide_eq_false hr4
    refine v_ rfl (at_ rfl (b_ rfl (h_ ?_)))
    have hks : kS (cw_ (List.take i (bX_ p))) x1 = k := lJ_ hk hlt (fun x hx => by rw [hx2] at hx; cases hx; assumption)
    refine aP_ (by kernel_rfl) ?_
    refine ae_ 10 [0, 1, 2, 3, 4] (by kernel_rfl) (fun _ a b => ⟨bE_ a, b⟩) (o_ rfl (e_ rfl) rfl (o_ rfl (e_ rfl) rfl (o_ rfl (ak_ z_ rfl) rfl ?_)))
    refine ck_ rfl (aI_ rfl rfl) rfl fun r5 hr5 => ?_
    refine o_ rfl (e_ rfl) rfl (ad_ ?_)
    cases r5
    ·
     replace hr5 := ne_of_beq_false hr5
     refine ae_ 0 [5, 6, 7, 8, 9, 10, 11, 12, 13, 14] (by kernel_rfl) (fun _ a b => ⟨bE_ a, b⟩) (ay_ rfl rfl rfl (e_ rfl) rfl (ay_ rfl rfl rfl (e_ rfl) rfl (ay_ rfl rfl rfl (aa_ z_ j_ rfl rfl (fun v _ h => az_ (n := 1) aq_ (by decide) (by exact h.2.2.1) hx2) (by omega) (by first | omega | (simp; done))) rfl (ay_ rfl rfl rfl (aL_ (ad := oad) q_ rfl (fun v _ h => by exact h.2.2.1) (ac_ aq_ hx2 0 _ rfl)) rfl (ay_ rfl rfl rfl (e_ rfl) rfl (ay_ rfl rfl rfl (e_ rfl) rfl (ay_ rfl rfl rfl (aa_ z_ j_ rfl rfl (fun v _ h => az_ (n := 1) aq_ (by decide) (by exact h.1) hx1) (by omega) (by first | omega | (simp; done))) rfl (ay_ rfl rfl rfl (aL_ (ad := bad) q_ rfl (fun v _ h => by exact h.1) (ac_ aq_ hx1 0 _ rfl)) rfl ?_))))))))
     refine cY_ rfl rfl rfl (dK_ rfl rfl) rfl fun r6 hr6 => ?_
     refine o_ rfl (A_ rfl rfl) rfl (ad_ (ab_ (by kernel_rfl) (b_ rfl ?_)))
     cases r6
     ·
      replace hr6 := bb_ hr6
      have ey : bu_ (cw_ (List.take i (bX_ p))) x1 = (cw_ (List.take i (bX_ p))) := kW_yes hks (by rw [hx2]; exact congrArg some hr6)
      refine v_ rfl (B_ (b_ rfl (c_ (a_ (e_ rfl) rfl (a_ (O_ rfl rfl rfl (af_ (by omega) (by omega))) rfl (a_ (g_ rfl) rfl (d_ (w_ rfl ?_))))))))
      exact Y_ ⟨(i + 1, oad, ocap), hlx1, (by dsimp only; rw [dY_ hx1, ey]; exact ⟨ho1, ho2, ho3⟩)⟩ (by dsimp only; omega) ⟨rfl, rfl, (bW_ rfl (by dsimp only; rw [dY_ hx1, ey])), rfl, rfl, trivial⟩ I_ (fun v _ h => by refine ⟨h.1, h.2.1, ?_, trivial⟩; show bq_ v oad (List.flatMap aM_ (cw_ (List.take (i + 1) (bX_ p)))); rw [dY_ hx1, ey]; exact h.2.2.1)
     ·
      replace hr6 := ba_ hr6
      refine u_ rfl (h_ ?_)
      have en : bu_ (cw_ (List.take i (bX_ p))) x1 = List.take k (cw_ (List.take i (bX_ p))) ++ ([x1] ++ List.drop k (cw_ (List.take i (bX_ p)))) := qA_ (kH_ x1 hmx1) hks (fun q => by rw [hx2] at q; cases q; simp_all)
      refine aS_ ([]) (by kernel_rfl) ?_
      refine ae_ 3 [0, 1, 2, 3, 5, 6, 7] (by kernel_rfl) (fun _ a b => ⟨bE_ a, b⟩) (o_ rfl (e_ rfl) rfl (o_ rfl (e_ rfl) rfl (o_ rfl (aa_ z_ j_ rfl rfl (fun v _ h => az_ (n := 1) aq_ (by decide) (by exact h.1) hx1) (by omega) (by first | omega | (simp; done))) rfl (o_ rfl (aL_ (ad := bad) q_ rfl (fun v _ h => by exact h.1) (ac_ aq_ hx1 0 _ rfl)) rfl (o_ rfl (e_ rfl) rfl (o_ rfl (e_ rfl) rfl (o_ rfl (bA_ (ch_ (i := k) (j := List.length (cw_ (List.take i (bX_ p)))) (kl := .i64) (kh := .i64) z_ j_ rfl rfl rfl (by omega) (by have := ho1; omega)) (show _ = Value.slice (sad oad ocap k 1) (List.length (List.drop k (cw_ (List.take i (bX_ p))))) (ocap - k) by rw [List.length_drop])) rfl (ad_ (W_ 4 rfl (by kernel_rfl) ?_)))))))))
      refine aJ_ z_ j_ bj_ rfl rfl rfl rfl rfl rfl fun b4 => ?_
      have hL6 : aR_ 9 1 (.slice (some ⟨b4, 0, none⟩) 1 1) (List.length [x1]) (List.flatMap aM_ [x1]) [(b4, .cells (List.flatMap aM_ [x1]).toArray 9 (0, 0))] := iA_ rfl (by simp [maxLen])
      refine al_ i_ (d_ (w_ rfl (N_ (fun _ a b => ⟨bE_ a, b⟩) (W_ 8 rfl (by kernel_rfl) (aK_ (news := List.flatMap aM_ (List.drop k (cw_ (List.take i (bX_ p))))) cI_ hL6 rfl rfl (fun q => by have := ho3 (dl_ q); omega) (by rw [List.length_drop]; have := ho1; omega) aE_ (by rw [bp_ aM_ 1 aq_]) (fun v _ h => by exact (bq_.rest aq_ h.2.2.1 ho1 k)) (fun u hu => aN_ cm_ hu) (by simp only [maxLen]; (simp only [List.length_append, List.length_cons, List.length_nil, List.length_take, List.length_drop]; omega)) (by (simp only [List.length_append, List.length_cons, List.length_nil, List.length_take, List.length_drop]; omega)) rfl fun sv7 Hr7 hr7 => ?_)))))
      refine al_ List.perm_append_comm ?_
      have hq7 : aR_ 9 1 sv7 (List.length ([x1] ++ (List.drop k (cw_ (List.take i (bX_ p)))))) (List.flatMap aM_ ([x1] ++ (List.drop k (cw_ (List.take i (bX_ p)))))) Hr7 := by rw [List.length_append, List.flatMap_append]; exact hr7
      refine d_ (w_ rfl (N_ (fun _ a b => ⟨bE_ a, b⟩) (ae_ 0 [9] (by kernel_rfl) (fun _ a b => ⟨bE_ a, b⟩) (o_ rfl (g_ rfl) rfl (ad_ (ab_ (by kernel_rfl) (b_ rfl (c_ (a_ (e_ rfl) rfl ?_)))))))))
      refine a_ (e_ rfl) rfl (a_ (e_ rfl) rfl (a_ (bA_ (is_ (j := k) (m := k) (kl := .i64) (kh := .i64) z_ j_ rfl rfl rfl (Nat.le_refl _) (by have := ho1; omega)) (show _ = Value.slice (sad oad k 0 1) (List.length (List.take k (cw_ (List.take i (bX_ p))))) k by rw [List.length_take, Nat.min_eq_left (by omega)])) rfl (a_ (e_ rfl) rfl (bt_ hq7 aE_ fun rad2 rcap2 hrad2 hcrad2 hmrad2 hzrad2 => ?_))))
      subst hrad2
      refine ia_ (n := List.length (List.take k (cw_ (List.take i (bX_ p))))) (m := List.length ([x1] ++ (List.drop k (cw_ (List.take i (bX_ p)))))) (olds := List.flatMap aM_ (List.take k (cw_ (List.take i (bX_ p))))) (news := List.flatMap aM_ ([x1] ++ (List.drop k (cw_ (List.take i (bX_ p)))))) cI_ rfl rfl (fun q => by have := ho3 (dl_ q); have := ho1; omega) (by rw [List.length_take]; omega) hzrad2 hcrad2 (by rw [bp_ aM_ 1 aq_]) (fun v _ h => by exact (sad0 (bq_.pre aq_ h.2.2.2.1 k))) (by rw [bp_ aM_ 1 aq_]) (fun v _ h => by exact h.1) (fun u hu => aN_ cm_ hu) (by rw [List.length_take]; simp only [List.length_append, List.length_cons, List.length_nil]; omega) (by simp only [maxLen]; (simp only [List.length_append, List.length_cons, List.length_nil, List.length_take, List.length_drop]; omega)) (by (simp only [List.length_append, List.length_cons, List.length_nil, List.length_take, List.length_drop]; omega)) rfl fun sv8 Hr8 hr8 => ?_
      have hq8 : aR_ 9 1 sv8 (List.length ((List.take k (cw_ (List.take i (bX_ p)))) ++ ([x1] ++ (List.drop k (cw_ (List.take i (bX_ p))))))) (List.flatMap aM_ ((List.take k (cw_ (List.take i (bX_ p)))) ++ ([x1] ++ (List.drop k (cw_ (List.take i (bX_ p))))))) Hr8 := by rw [List.length_append, List.flatMap_append]; exact hr8
      refine al_ ff_ (bt_ hq8 aE_ fun nad ncap hnad hcnad hmnad hznad => ?_)
      subst hnad
      refine a_ (g_ rfl) rfl (d_ (b_ rfl (c_ (a_ (e_ rfl) rfl (a_ (O_ rfl rfl rfl (af_ (by omega) (by omega))) rfl (a_ (g_ rfl) rfl (d_ (w_ rfl ?_))))))))
      exact Y_ ⟨(i + 1, nad, ncap), hlx1, (by dsimp only; rw [dY_ hx1, en]; exact ⟨hcnad, hmnad, hznad⟩)⟩ (by dsimp only; omega) ⟨rfl, rfl, (bW_ rfl (by dsimp only; rw [dY_ hx1, en])), rfl, rfl, trivial⟩ I_ (fun v _ h => by refine ⟨h.2.2.1, h.2.2.2.1, ?_, trivial⟩; show bq_ v nad (List.flatMap aM_ (cw_ (List.take (i + 1) (bX_ p)))); rw [dY_ hx1, en]; exact h.1)
    ·
     replace hr5 := eq_of_beq hr5
     exfalso; omega
   ·
    replace hr4 := of_decide_eq_true hr4
    refine u_ rfl (B_ (b_ rfl (Q_ (c_ (a_ (e_ rfl) rfl (a_ (O_ rfl rfl rfl (af_ (by omega) (by omega))) rfl (a_ (g_ rfl) rfl (d_ (w_ rfl ?_)))))))))
    exact Y_ ⟨k + 1, hlx2, fun x hx => by rw [List.take_add_one, hx2] at hx; simp only [Option.toList_some, List.mem_append, List.mem_singleton] at hx; rcases hx with hx | rfl; exact hlt x hx; assumption⟩ (by dsimp only; omega) ⟨rfl, rfl, rfl, rfl, rfl, rfl, trivial⟩ I_ (fun _ _ h => h)
end Go.Proofs.YtpdbbglpbngeiaaGreatDoor
namespace Go.Proofs.YtpdbbglpbngeiaaGreatDoor
open Go Go.Sx Go.Proofs
attribute [local irreducible] Code.wp wpList wpAnyH
open Go.Vs
theorem kK_ {p : List Pc} {bu : Int} {m : Nat} {e : Int} (hc : bK_ p = 0) (h1 : ¬ bu < 0) (h2 : ¬ 1073741824 < bu) (hm : min bu 65536 = (m : Int)) (he : e = if bu < 65536 then 3 else 2) (h : dp_ p (atS p) m none) : dG_ p bu Cl.no e := by
  unfold dG_
  rw [if_neg (by simp [hc]), if_neg (by omega)]
  exact .inr ⟨rfl, he, by rw [hm]; simpa using h⟩
theorem ps_ {p : List Pc} {bu : Int} {m : Nat} {c : Cl} (hc : bK_ p = 0) (h1 : ¬ bu < 0) (h2 : ¬ 1073741824 < bu) (hm : min bu 65536 = (m : Int)) (hk : c.ok) (ha : c.atoms = atS p) (h : dp_ p (atS p) m (some c.facts)) : dG_ p bu c 0 := by
  unfold dG_
  rw [if_neg (by simp [hc]), if_neg (by omega)]
  exact .inl ⟨rfl, hk, ha, by rw [hm]; simpa using h⟩
def ml_ (m : Nat) (L t : List Fc) : Nat := (m - L.length) * 14000001 + t.length
theorem oP_ {m : Nat} {L t : List Fc} {f : Fc} : ml_ m L t < ml_ m L (f :: t) := by unfold ml_; simp only [List.length_cons]; omega
theorem lD_ {m : Nat} {L t s : List Fc} {f : Fc} (hf : f ∉ L) (hm : L.length < m) (hs : s.length ≤ 14000000) : ml_ m (cQ_ L f) (t ++ s) < ml_ m L (f :: t) := by
  unfold ml_
  rw [eJ_ hf]
  simp only [List.length_cons, List.length_append]
  omega
theorem mx_ {p : List Pc} {A : List Str} (hp : p.length ≤ 100) (hA : A.length ≤ 1000) : (eD_ p A).length ≤ 102000 := by
  have := dE_ (g := dV_ p) (n := 102) A fun x _ => jh_ hp x
  rw [ke_]
  omega
set_option maxHeartbeats 1000000 in
theorem mh_ (p : List Pc) (pad : Option Addr) (pcap : Nat) (bu : Int) (hsm : ∀ x ∈ p, x.sm) (hp : p.length ≤ 100) : Tri Tryz.prog 19 #[.slice pad (List.length p) pcap, .int .i64 bu] [] [aC_ pad (List.flatMap Pc.cells p)] (fun y : {y : Cl × Int // dG_ p bu y.1 y.2} => .tuple #[y.1.1.val, .int .i64 y.1.2]) (fun _ => []) (fun y => y.1.1.row) := by
 refine R_ Tryz.func19 rfl rfl Tryz.ntmps19 rfl fun v0 => ?_
 refine h_ (c_ (ao_ dq_ rfl fun b1 => ?_))
 refine a_ (g_ rfl) rfl (d_ (b_ rfl (h_ (c_ (a_ (av_ ep_ rfl rfl) rfl (ao_ dq_ rfl fun b2 => ?_))))))
 refine T_ 0 Z_ rfl rfl rfl rfl rfl rfl (d_ (b_ rfl (h_ (c_ (a_ (e_ rfl) rfl (V_ (lq_ p pad pcap (by omega) hsm) rfl I_ (fun v _ h => by exact ⟨h.1, trivial⟩) rfl fun _ => ?_))))))
 refine a_ (g_ rfl) rfl (d_ (b_ rfl (h_ (h_ (c_ (a_ (e_ rfl) rfl (x_ (bN_ rfl rfl) rfl fun r1 hr1 => ?_)))))))
 refine d_ (b_ rfl ?_)
 cases r1
 ·
  replace hr1 := bb_ hr1
  have hchk := hr1
  refine v_ rfl (B_ (b_ rfl (h_ (h_ (c_ (a_ (e_ rfl) rfl (x_ (ax_ rfl rfl) rfl fun r2 hr2 => ?_)))))))
  refine a_ (e_ rfl) rfl ?_
  cases r2
  ·
   replace hr2 := of_decide_eq_false hr2
   have hb0 := hr2
   refine p_ rfl rfl (a_ (e_ rfl) rfl (p_ rfl rfl (x_ (cd_ rfl rfl) rfl fun r3 hr3 => ?_)))
   refine a_ (A_ rfl rfl) rfl (d_ (b_ rfl ?_))
   cases r3
   ·
    replace hr3 := of_decide_eq_false hr3
    have hb1 := hr3
    refine v_ rfl (B_ (b_ rfl (h_ (c_ (a_ (e_ rfl) rfl (V_ (pS_ p pad pcap (by omega)) rfl I_ (fun v _ h => by exact ⟨h.1, trivial⟩) rfl fun ⟨⟨aad, acap⟩, hat1, hat2, hat3⟩ => ?_))))))
    dsimp only
    dsimp only at hat1 hat2 hat3
    have hatl := kG_ p
    refine a_ (av_ ep_ rfl rfl) rfl (ao_ dq_ rfl fun b3 => ?_)
    refine T_ 0 Z_ rfl rfl rfl rfl rfl rfl (d_ (b_ rfl (h_ (c_ (a_ (e_ rfl) rfl (a_ (l_ aB_ rfl rfl rfl cA_) rfl (a_ (t_ 0 eC_ rfl rfl rfl) rfl (V_ (ou_ p pad pcap (atS p) aad acap (by omega) (by omega)) rfl I_ (fun v _ h => by exact ⟨h.2.1, h.1, trivial⟩) rfl fun ⟨⟨svf9, Hf9⟩, hf9⟩ => ?_))))))))
    dsimp only
    dsimp only at hf9
    refine a_ (g_ rfl) rfl (d_ (b_ rfl (h_ (Q_ ?_))))
    obtain ⟨m, hm0⟩ : ∃ m : Nat, min bu 65536 = (m : Int) := ⟨(min bu 65536).toNat, by omega⟩
    have hfll := mx_ (p := p) (A := atS p) hp (by omega)
    refine aG_ (ι := {y : List Fc × Value × Hp × List Fc × Option Addr × Nat // ORow 41 6 y.2.1 (List.length y.1) (List.flatMap Fc.cells y.1) y.2.2.1 ∧ InvR p (atS p) m y.2.2.2.1 y.1 ∧ (y.2.2.2.1.length ≤ y.2.2.2.2.2 ∧ y.2.2.2.2.2 ≤ maxLen ∧ (y.2.2.2.2.1 = none → y.2.2.2.2.2 = 0)) ∧ List.length y.1 ≤ 14000000 * (List.length y.2.2.2.1 + 1)}) (fun y => [(0, .slice pad (List.length p) pcap), (1, .int .i64 bu), (4, zp_ b1 0), (5, .int .i64 0), (6, zp_ b2 0), (8, zp_ b3 0), (9, y.1.2.1)]) (fun y => ((b3, .cells #[.slice aad (List.length (atS p)) acap, .slice y.1.2.2.2.2.1 (List.length y.1.2.2.2.1) y.1.2.2.2.2.2] 28 (0, 0)) :: ((b2, .cells #[.slice none 0 0, .slice none 0 0] 28 (0, 0)) :: ((b1, .cells #[.slice none 0 0, .slice none 0 0] 28 (0, 0)) :: y.1.2.2.1)))) (fun y => [aC_ aad (List.flatMap aM_ (atS p)), aC_ pad (List.flatMap Pc.cells p), aC_ y.1.2.2.2.2.1 (List.flatMap Fc.cells y.1.2.2.2.1)]) (fun y => ml_ m y.1.2.2.2.1 y.1.1) ⟨((eD_ p (atS p)), svf9, Hf9, ([] : List Fc), none, 0), ORow.row hf9, mu_ m, ⟨Nat.le_refl _, Nat.zero_le _, fun _ => rfl⟩, by simp only [List.length_nil]; omega⟩ ⟨rfl, rfl, rfl, rfl, rfl, rfl, rfl, trivial⟩ (m_ (s_ i_) (m_ (s_ i_) (m_ bi_ aE_))) (fun v _ h => by exact ⟨h.1, h.2.1, (.inl rfl), trivial⟩) ?_
    rintro ⟨⟨t, svt, Ht, L, lad, lcap⟩, hot, hI, hlk, htl⟩
    dsimp only at hot hI hlk htl ⊢
    have hLm := hI.len
    refine h_ (h_ (c_ (a_ (e_ rfl) rfl (a_ (nY_ hot F_ rfl) rfl (x_ (cd_ rfl rfl) rfl fun r4 hr4 => ?_)))))
    refine d_ (b_ rfl ?_)
    cases r4
    ·
     replace hr4 := of_decide_eq_false hr4
     have ht0 : t = [] := List.eq_nil_of_length_eq_zero (by omega)
     subst ht0
     refine v_ rfl (at_ rfl (b_ rfl (h_ (c_ (a_ (X_ 0 aU_ Z_ rfl rfl rfl) rfl (T_ 2 Z_ rfl rfl rfl rfl rfl rfl (a_ (g_ rfl) rfl (d_ (b_ rfl ?_)))))))))
     refine E_ ?_
     exact dn_ ⟨((Cl.mk (atS p) aad acap L lad lcap), 0), ps_ hchk hb0 hb1 hm0 ⟨hat1, hat2, hat3, hlk.1, hlk.2.1, hlk.2.2⟩ rfl (nK_ hI)⟩ (fun aa v h1 h2 => db_ (us := Cl.cells (Cl.mk (atS p) aad acap L lad lcap)) 2 gj_ aU_ Z_ rfl rfl rfl rfl aa v h1 h2) I_ (fun v _ h => by exact ⟨h.1, h.2.2.1, trivial⟩)
    ·
     replace hr4 := of_decide_eq_true hr4
     obtain ⟨f, t, rfl⟩ : ∃ f t0, t = f :: t0 := by cases t with | nil => simp at * | cons f t0 => exact ⟨f, t0, rfl⟩
     refine u_ rfl (B_ (b_ rfl (Q_ (h_ (c_ (a_ (e_ rfl) rfl (a_ (pA_ hot F_ D_ rfl rfl (by decide) (by simp only [List.length_cons]; omega)) rfl (a_ (pz_ (k := (0 : Int).toNat * 6) hot (f_ (f_ S_)) ah_ D_ rfl (Fc.cells_len _) (by decide) (ac_ (l := f :: t) Fc.cells_len (i := (0 : Int).toNat) rfl)) rfl (ao_ ag_ rfl fun b4 => ?_)))))))))
     refine T_ 0 D_ rfl rfl rfl rfl rfl rfl (d_ (b_ rfl (h_ (c_ (a_ (e_ rfl) rfl (oI_ (i := 1) (kl := .i64) hot F_ D_ rfl rfl (by simp only [List.length_cons]; omega) rfl fun sv2 ho2 => ?_))))))
     have hot2 : ORow 41 6 sv2 (List.length t) (List.flatMap Fc.cells t) Ht := by have q := ho2; rw [List.flatMap_cons, Nat.one_mul, List.drop_left' (Fc.cells_len f)] at q; simpa using q
     refine a_ (g_ rfl) rfl (d_ (b_ rfl (h_ (h_ (c_ (a_ (l_ aB_ rfl rfl rfl bs_) rfl (a_ (t_ 1 bB_ rfl rfl rfl) rfl (a_ (X_ 0 ah_ D_ rfl rfl rfl) rfl (au_ (kc_ L lad lcap f (by omega) hI.srt) rfl I_ (fun v _ h => by exact ⟨h.2.2.1, trivial⟩) rfl fun r5 hr5 => ?_)))))))))
     refine d_ (b_ rfl ?_)
     cases r5
     ·
      replace hr5 := dF hr5
      have hfn : f ∉ L := hr5
      refine v_ rfl (B_ (b_ rfl (h_ (h_ (c_ (a_ (l_ aB_ rfl rfl rfl bs_) rfl (a_ (t_ 1 bB_ rfl rfl rfl) rfl (a_ (ak_ F_ rfl) rfl (a_ (e_ rfl) rfl ?_)))))))))
      refine x_ (cC_ rfl rfl) rfl fun r6 hr6 => ?_
      refine a_ (e_ rfl) rfl ?_
      cases r6
      ·
       replace hr6 := of_decide_eq_false hr6
       refine r_ rfl rfl rfl rfl (r_ rfl rfl rfl rfl (a_ (A_ rfl rfl) rfl (d_ (b_ rfl (v_ rfl (B_ (b_ rfl (h_ (h_ ?_)))))))))
       refine c_ (a_ (l_ aB_ rfl rfl rfl bs_) rfl (a_ (t_ 1 bB_ rfl rfl rfl) rfl (a_ (ak_ F_ rfl) rfl (x_ (cC_ rfl rfl) rfl fun r7 hr7 => ?_))))
       refine d_ (b_ rfl ?_)
       cases r7
       ·
        replace hr7 := of_decide_eq_false hr7
        refine v_ rfl (B_ (b_ rfl (h_ ?_)))
        have hLm3 : List.length L < m := by omega
        have hI3 := lO_ (eX_ hchk) hI hfn hLm3
        refine c_ (a_ (l_ aB_ rfl rfl rfl bs_) rfl (a_ (t_ 1 bB_ rfl rfl rfl) rfl (a_ (X_ 0 ah_ D_ rfl rfl rfl) rfl (V_ (qC_ L lad lcap f (by omega) hI.srt hlk) rfl I_ (fun v _ h => by exact ⟨h.2.2.1, trivial⟩) rfl fun ⟨⟨nad, ncap⟩, hnk⟩ => ?_))))
        dsimp only
        dsimp only at hnk
        refine a_ (l_ aB_ rfl rfl rfl bs_) rfl (T_ 1 bs_ rfl rfl rfl rfl rfl rfl (d_ (b_ rfl (c_ (a_ (e_ rfl) rfl (a_ (e_ rfl) rfl (a_ (l_ aB_ rfl rfl rfl bs_) rfl (a_ (t_ 1 bB_ rfl rfl rfl) rfl (a_ (X_ 0 ah_ D_ rfl rfl rfl) rfl ?_)))))))))
        refine V_ (oi_ p pad pcap (cQ_ L f) nad ncap f hp (by rw [eJ_ hfn]; omega) (ht_ f hI.srt)) rfl I_ (fun v _ h => by exact ⟨h.2.2.1, h.1, trivial⟩) rfl fun ⟨⟨sad1, scap1⟩, hsc1, hsc2, hsz3⟩ => ?_
        dsimp only
        dsimp only at hsc1 hsc2 hsz3
        have hsl := jJ_ (p := p) (l := cQ_ L f) (f := f) hp (by rw [eJ_ hfn]; omega)
        refine hZ_ (n := List.length t) (m := List.length (cx_ p (cQ_ L f) f)) (news := List.flatMap Fc.cells (cx_ p (cQ_ L f) f)) cc_ hot2 rfl rfl hsz3 hsc1 (f_ (f_ (f_ S_))) (by rw [bp_ Fc.cells 6 Fc.cells_len]) (fun v _ h => by exact h.1) (fun u hu => aN_ Fc.cells_one hu) (by simp only [maxLen]; simp only [List.length_cons] at htl; omega) (by simp only [List.length_cons] at htl; omega) rfl fun sv3 Ht3 ho3 => ?_
        have hot3 : ORow 41 6 sv3 (List.length (t ++ (cx_ p (cQ_ L f) f))) (List.flatMap Fc.cells (t ++ (cx_ p (cQ_ L f) f))) Ht3 := by rw [List.length_append, List.flatMap_append]; exact ho3
        refine a_ (g_ rfl) rfl (d_ (w_ rfl ?_))
        exact Y_ ⟨((t ++ cx_ p (cQ_ L f) f), sv3, Ht3, (cQ_ L f), nad, ncap), hot3, hI3, hnk, by dsimp only; rw [List.length_append, eJ_ hfn]; simp only [List.length_cons] at htl; omega⟩ (lD_ hfn hLm3 hsl) ⟨rfl, rfl, rfl, rfl, rfl, rfl, rfl, trivial⟩ (m_ (s_ (f_ i_)) (m_ (s_ (f_ i_)) (m_ (s_ (f_ i_)) C_))) (fun v _ h => by exact ⟨h.2.2.1, h.2.2.2.1, h.2.1, trivial⟩)
       ·
        replace hr7 := of_decide_eq_true hr7
        refine u_ rfl (h_ (c_ (a_ (X_ 2 aU_ Z_ rfl rfl rfl) rfl (T_ 3 Z_ rfl rfl rfl rfl rfl rfl (a_ (g_ rfl) rfl (d_ (b_ rfl (E_ ?_))))))))
        exact dn_ ⟨((Cl.mk [] none 0 [] none 0), 2), kK_ hchk hb0 hb1 hm0 (by rw [if_neg (by omega)]) (hS_ hI hfn (by omega))⟩ (fun aa v h1 h2 => db_ (us := Cl.cells (Cl.mk [] none 0 [] none 0)) 3 gj_ aU_ Z_ rfl rfl rfl rfl aa v h1 h2) I_ (fun v _ h => by exact ⟨.inl rfl, .inl rfl, trivial⟩)
      ·
       replace hr6 := of_decide_eq_true hr6
       refine p_ rfl rfl (a_ (e_ rfl) rfl (p_ rfl rfl (x_ (ax_ rfl rfl) rfl fun r8 hr8 => ?_)))
       refine a_ (G_ rfl rfl) rfl (d_ (b_ rfl ?_))
       cases r8
       ·
        replace hr8 := of_decide_eq_false hr8
        refine v_ rfl (B_ (b_ rfl (h_ (h_ (c_ (a_ (l_ aB_ rfl rfl rfl bs_) rfl (a_ (t_ 1 bB_ rfl rfl rfl) rfl (a_ (ak_ F_ rfl) rfl (x_ (cC_ rfl rfl) rfl fun r9 hr9 => ?_)))))))))
        refine d_ (b_ rfl ?_)
        cases r9
        ·
         replace hr9 := of_decide_eq_false hr9
         refine v_ rfl (B_ (b_ rfl (h_ ?_)))
         have hLm3 : List.length L < m := by omega
         have hI3 := lO_ (eX_ hchk) hI hfn hLm3
         refine c_ (a_ (l_ aB_ rfl rfl rfl bs_) rfl (a_ (t_ 1 bB_ rfl rfl rfl) rfl (a_ (X_ 0 ah_ D_ rfl rfl rfl) rfl (V_ (qC_ L lad lcap f (by omega) hI.srt hlk) rfl I_ (fun v _ h => by exact ⟨h.2.2.1, trivial⟩) rfl fun ⟨⟨nad, ncap⟩, hnk⟩ => ?_))))
         dsimp only
         dsimp only at hnk
         refine a_ (l_ aB_ rfl rfl rfl bs_) rfl (T_ 1 bs_ rfl rfl rfl rfl rfl rfl (d_ (b_ rfl (c_ (a_ (e_ rfl) rfl (a_ (e_ rfl) rfl (a_ (l_ aB_ rfl rfl rfl bs_) rfl (a_ (t_ 1 bB_ rfl rfl rfl) rfl (a_ (X_ 0 ah_ D_ rfl rfl rfl) rfl ?_)))))))))
         refine V_ (oi_ p pad pcap (cQ_ L f) nad ncap f hp (by rw [eJ_ hfn]; omega) (ht_ f hI.srt)) rfl I_ (fun v _ h => by exact ⟨h.2.2.1, h.1, trivial⟩) rfl fun ⟨⟨sad1, scap1⟩, hsc1, hsc2, hsz3⟩ => ?_
         dsimp only
         dsimp only at hsc1 hsc2 hsz3
         have hsl := jJ_ (p := p) (l := cQ_ L f) (f := f) hp (by rw [eJ_ hfn]; omega)
         refine hZ_ (n := List.length t) (m := List.length (cx_ p (cQ_ L f) f)) (news := List.flatMap Fc.cells (cx_ p (cQ_ L f) f)) cc_ hot2 rfl rfl hsz3 hsc1 (f_ (f_ (f_ S_))) (by rw [bp_ Fc.cells 6 Fc.cells_len]) (fun v _ h => by exact h.1) (fun u hu => aN_ Fc.cells_one hu) (by simp only [maxLen]; simp only [List.length_cons] at htl; omega) (by simp only [List.length_cons] at htl; omega) rfl fun sv3 Ht3 ho3 => ?_
         have hot3 : ORow 41 6 sv3 (List.length (t ++ (cx_ p (cQ_ L f) f))) (List.flatMap Fc.cells (t ++ (cx_ p (cQ_ L f) f))) Ht3 := by rw [List.length_append, List.flatMap_append]; exact ho3
         refine a_ (g_ rfl) rfl (d_ (w_ rfl ?_))
         exact Y_ ⟨((t ++ cx_ p (cQ_ L f) f), sv3, Ht3, (cQ_ L f), nad, ncap), hot3, hI3, hnk, by dsimp only; rw [List.length_append, eJ_ hfn]; simp only [List.length_cons] at htl; omega⟩ (lD_ hfn hLm3 hsl) ⟨rfl, rfl, rfl, rfl, rfl, rfl, rfl, trivial⟩ (m_ (s_ (f_ i_)) (m_ (s_ (f_ i_)) (m_ (s_ (f_ i_)) C_))) (fun v _ h => by exact ⟨h.2.2.1, h.2.2.2.1, h.2.1, trivial⟩)
        ·
         replace hr9 := of_decide_eq_true hr9
         refine u_ rfl (h_ (c_ (a_ (X_ 2 aU_ Z_ rfl rfl rfl) rfl (T_ 3 Z_ rfl rfl rfl rfl rfl rfl (a_ (g_ rfl) rfl (d_ (b_ rfl (E_ ?_))))))))
         exact dn_ ⟨((Cl.mk [] none 0 [] none 0), 2), kK_ hchk hb0 hb1 hm0 (by rw [if_neg (by omega)]) (hS_ hI hfn (by omega))⟩ (fun aa v h1 h2 => db_ (us := Cl.cells (Cl.mk [] none 0 [] none 0)) 3 gj_ aU_ Z_ rfl rfl rfl rfl aa v h1 h2) I_ (fun v _ h => by exact ⟨.inl rfl, .inl rfl, trivial⟩)
       ·
        replace hr8 := of_decide_eq_true hr8
        refine u_ rfl (h_ (c_ (a_ (X_ 2 aU_ Z_ rfl rfl rfl) rfl (T_ 3 Z_ rfl rfl rfl rfl rfl rfl (a_ (g_ rfl) rfl (d_ (b_ rfl (E_ ?_))))))))
        exact dn_ ⟨((Cl.mk [] none 0 [] none 0), 3), kK_ hchk hb0 hb1 hm0 (by rw [if_pos (by omega)]) (hS_ hI hfn (by omega))⟩ (fun aa v h1 h2 => db_ (us := Cl.cells (Cl.mk [] none 0 [] none 0)) 3 gj_ aU_ Z_ rfl rfl rfl rfl aa v h1 h2) I_ (fun v _ h => by exact ⟨.inl rfl, .inl rfl, trivial⟩)
     ·
      replace hr5 := dT hr5
      refine u_ rfl (at_ rfl (w_ rfl ?_))
      exact Y_ ⟨(t, sv2, Ht, L, lad, lcap), hot2, pb_ hI (by assumption), hlk, by dsimp only; simp only [List.length_cons] at htl; omega⟩ oP_ ⟨rfl, rfl, rfl, rfl, rfl, rfl, rfl, trivial⟩ (m_ (f_ i_) (m_ (f_ i_) (m_ (f_ i_) S_))) (fun _ _ h => h)
   ·
    replace hr3 := of_decide_eq_true hr3
    refine u_ rfl (h_ (c_ (a_ (X_ 0 aU_ Z_ rfl rfl rfl) rfl (T_ 1 Z_ rfl rfl rfl rfl rfl rfl (a_ (g_ rfl) rfl (d_ (b_ rfl (E_ ?_))))))))
    exact dn_ ⟨((Cl.mk [] none 0 [] none 0), 1), hF_ (by assumption) (by omega)⟩ (fun aa v h1 h2 => db_ (us := Cl.cells (Cl.mk [] none 0 [] none 0)) 1 gj_ aU_ Z_ rfl rfl rfl rfl aa v h1 h2) I_ (fun v _ h => by exact ⟨.inl rfl, .inl rfl, trivial⟩)
  ·
   replace hr2 := of_decide_eq_true hr2
   refine r_ rfl rfl rfl rfl (r_ rfl rfl rfl rfl (a_ (G_ rfl rfl) rfl (d_ (b_ rfl (u_ rfl (h_ (c_ (a_ (X_ 0 aU_ Z_ rfl rfl rfl) rfl (T_ 1 Z_ rfl rfl rfl rfl rfl rfl ?_)))))))))
   refine a_ (g_ rfl) rfl (d_ (b_ rfl (E_ ?_)))
   exact dn_ ⟨((Cl.mk [] none 0 [] none 0), 1), hF_ (by assumption) (by omega)⟩ (fun aa v h1 h2 => db_ (us := Cl.cells (Cl.mk [] none 0 [] none 0)) 1 gj_ aU_ Z_ rfl rfl rfl rfl aa v h1 h2) I_ (fun v _ h => by exact ⟨.inl rfl, .inl rfl, trivial⟩)
 ·
  replace hr1 := ba_ hr1
  refine u_ rfl (h_ (c_ (a_ (X_ 0 aU_ Z_ rfl rfl rfl) rfl (a_ (e_ rfl) rfl (T_ 1 Z_ rfl rfl rfl rfl rfl rfl (a_ (g_ rfl) rfl (d_ (b_ rfl (E_ ?_)))))))))
  exact dn_ ⟨((Cl.mk [] none 0 [] none 0), (bK_ p)), lY_ (by assumption)⟩ (fun aa v h1 h2 => db_ (us := Cl.cells (Cl.mk [] none 0 [] none 0)) 1 gj_ aU_ Z_ rfl rfl rfl rfl aa v h1 h2) I_ (fun v _ h => by exact ⟨.inl rfl, .inl rfl, trivial⟩)
end Go.Proofs.YtpdbbglpbngeiaaGreatDoor
namespace Go.Proofs.YtpdbbglpbngeiaaGreatDoor
open Go Go.Sx Go.Proofs
attribute [local irreducible] Code.wp wpList wpAnyH
open Go.Vs
theorem mR_ {α : Type} {lt : α → α → Prop} (ht : ∀ {x y z}, lt x y → lt y z → lt x z) {l : List α} {j : Nat} {b : α} (h : (l.take j).Pairwise lt) (hb : l[j]? = some b) (hab : ∀ a, 0 < j → l[j - 1]? = some a → lt a b) : (l.take (j + 1)).Pairwise lt := by
  cases j with
  | zero => exact pw_one l
  | succ k =>
    have hk := (List.getElem?_eq_some_iff.1 hb).1
    obtain ⟨a, ha⟩ : ∃ a, l[k]? = some a := ⟨_, List.getElem?_eq_getElem (by omega)⟩
    exact pT_ (lt := lt) ht h ha hb (hab a (by omega) ha)
theorem oA_ {α : Type} {lt : α → α → Prop} {l : List α} {j : Nat} {a b : α} (hj : 0 < j) (ha : l[j - 1]? = some a) (hb : l[j]? = some b) (hab : ¬ lt a b) : ¬ l.Pairwise lt := by
  obtain ⟨k, rfl⟩ : ∃ k, j = k + 1 := ⟨j - 1, by omega⟩
  exact pw_not ha hb hab
theorem kg_ {p : List Pc} {bu : Int} {c d : Cl} {e f : Int} (h : dG_ p bu c e) (k : dG_ p bu d f) : c.atoms = d.atoms ∧ c.facts = d.facts ∧ e = f := by
  by_cases h1 : bK_ p = 0
  · by_cases h2 : bu < 0 ∨ 1073741824 < bu
    · unfold dG_ at h k
      rw [if_neg (by simp [h1]), if_pos h2] at h k
      obtain ⟨rfl, rfl⟩ := h
      obtain ⟨rfl, rfl⟩ := k
      exact ⟨rfl, rfl, rfl⟩
    · exact nX_ (fp_.rfl' p) (fp_.rfl' p) h k h1 h1 (by omega) (by omega)
  · unfold dG_ at h k
    rw [if_pos h1] at h k
    obtain ⟨rfl, rfl⟩ := h
    obtain ⟨rfl, rfl⟩ := k
    exact ⟨rfl, rfl, rfl⟩
end Go.Proofs.YtpdbbglpbngeiaaGreatDoor
