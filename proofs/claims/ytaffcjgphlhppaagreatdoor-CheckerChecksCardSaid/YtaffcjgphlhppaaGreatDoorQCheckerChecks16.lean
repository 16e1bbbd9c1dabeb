/-
  Part of the proof of the law CheckerChecks over this seat: the small logic, the data, the contracts of functions (no condition).
-/
import Derived.Test.YtaffcjgphlhppaaGreatDoorQCheckerChecks15
import Derived.Test.YtaffcjgphlhppaaGreatDoorQCheckerChecks5
import Derived.Test.YtaffcjgphlhppaaGreatDoorQCheckerChecks8
import Derived.Test.YtaffcjgphlhppaaGreatDoorQCheckerChecks3
import Derived.Test.YtaffcjgphlhppaaGreatDoorRows
set_option linter.unusedVariables false
set_option linter.unusedSimpArgs false
set_option linter.unusedSectionVars false
namespace Go.Proofs.YtaffcjgphlhppaaGreatDoor
open Go Go.Sx Go.Proofs
attribute [local irreducible] Code.wp wpList wpAnyH
open Go.Vs
def ofC (L : List Fc) : List Value := Fc.cells (L.getD 0 zfc) ++ Fc.cells (L.getD 1 zfc)
theorem kN_ (k : Int) : 0 ≤ dk_ k ∧ dk_ k ≤ 2 := by unfold dk_; split <;> (try split) <;> omega
theorem iW_ {fs : List Fc} {frm : List Int} {i : Nat} {x : Int} {g : Fc} (hx : frm[i]? = some x) (hg : fs[x.toNat]? = some g) : ba_ fs (List.take (i + 1) frm) = ba_ fs (List.take i frm) ++ [g] := by
  unfold ba_
  rw [List.take_add_one, hx]
  simp [hg]
theorem iU_ (fs : List Fc) {frm : List Int} {i : Nat} (h : i ≤ frm.length) : (ba_ fs (List.take i frm)).length = i := by
  simp [ba_]; omega
section
variable {P : Program} {N : Nf} {v0 : Vw} {H0 : Hp} {R : Exit → Act → World → Prop} {K : List Kt} {fr : Fr} {H F : Hp} {Γ : List Fct} {ops : Array Oper} {l : List Oper} {ty : TypeId} {ps : String} {af : Array Edge}
theorem hr_ {t : TypeId} {x y : Operand} {b i : Nat} {L L' : List Fc} {g : Fc} {T : TypeId} (hs : ∀ w, (sizeOf t).run P w = .ok 6 w)
    (hx : Fr.ev fr x = some (.pointer (some ⟨b, 0 + (i : Int).toNat * 6, none⟩))) (hy : Fr.ev fr y = some (Fc.val g)) (hp : H.Perm ([(b, .cells (List.toArray (ofC L)) T (0, 0))] ++ F)) (hL : L.length = i) (hi : i < 2) (hL' : L' = L ++ [g])
    (hk : Ops P R N v0 H0 ops l K fr ((b, .cells (List.toArray (ofC L')) T (0, 0)) :: F) Γ) :
    Ops P R N v0 H0 ops (⟨none, .store t x y, ty, ps, af, none⟩ :: l) K fr H Γ := by
  refine bj_ hp ?_
  subst hL'
  match L, hL with
  | [], hL =>
    obtain rfl : i = 0 := hL.symm
    exact W_ 0 hs hx hy rfl rfl rfl rfl hk
  | [a], hL =>
    obtain rfl : i = 1 := hL.symm
    exact W_ 0 hs hx hy rfl rfl rfl rfl hk
  | _ :: _ :: _, hL => simp at hL; omega
end
theorem lv_ (p : List Pc) (pad : Option Addr) (pcap : Nat) (fs : List Fc) (fad : Option Addr) (fcap : Nat) (s : Stp) (hpl : p.length ≤ 10000000) (hfl : fs.length ≤ 10000000) (hfr : s.frm.length ≤ 1000000) (hfs : ∀ x ∈ fs, x.sml) (hsf : s.fact.sml) : Tri Tryz.prog 34 #[.slice pad (List.length p) pcap, .slice fad (List.length fs) fcap, Stp.val s] [] [aW_ pad (List.flatMap Pc.cells p), aW_ fad (List.flatMap Fc.cells fs), aW_ (Stp.ad s) (List.flatMap df_ (Stp.frm s))] (fun _ : Unit => .bool (dH_ p fs s)) (fun _ => []) (fun _ => []) := by
 refine V_ Tryz.func34 rfl rfl Tryz.ntmps34 rfl fun v0 => ?_
 refine g_ (c_ (aO_ rfl rfl fun b1 => ?_))
 refine a_ (e_ rfl) rfl (d_ (b_ rfl (g_ (g_ ?_))))
 refine aw_ (by kernel_rfl) ?_
 refine I_ 19 [0, 1, 2, 3] (by kernel_rfl) (fun _ a b => ⟨a, b⟩) (l_ rfl (h_ K_ rfl rfl rfl w_) rfl (l_ rfl (m_ 0 E_ rfl rfl rfl) rfl ?_))
 refine bf_ rfl (as_ rfl rfl) rfl fun r1 hr1 => ?_
 refine l_ rfl (f_ rfl) rfl (H_ ?_)
 cases r1
 ·
  replace hr1 := of_decide_eq_false hr1
  refine I_ 14 [4, 5, 6, 7, 8] (by kernel_rfl) (fun _ a b => ⟨a, b⟩) (u_ rfl rfl rfl (h_ K_ rfl rfl rfl w_) rfl (u_ rfl rfl rfl (m_ 0 E_ rfl rfl rfl) rfl ?_))
  refine ai_ rfl rfl rfl (bD_ rfl rfl) rfl fun r2 hr2 => ?_
  refine l_ rfl (p_ rfl rfl) rfl (l_ rfl (f_ rfl) rfl (H_ ?_))
  cases r2
  ·
   replace hr2 := of_decide_eq_false hr2
   refine I_ 12 [9, 10] (by kernel_rfl) (fun _ a b => ⟨a, b⟩) (u_ rfl rfl rfl (h_ K_ rfl rfl rfl n_) rfl (u_ rfl rfl rfl (M_ 0 N_ n_ rfl rfl rfl) rfl (H_ (P_ 11 rfl (by kernel_rfl) (i_ rfl rfl (X_ (jI_ (Stp.fact s) (hsf)) rfl D_ (fun _ _ _ => by exact trivial) rfl fun r3 hr3 => ?_))))))
   refine d_ (z_ rfl (F_ (fun _ a b => ⟨a, b⟩) (I_ 8 [12, 13, 14] (by kernel_rfl) (fun _ a b => ⟨a, b⟩) (u_ rfl rfl rfl (bq_ rfl) rfl (l_ rfl (p_ rfl rfl) rfl (l_ rfl (f_ rfl) rfl (H_ ?_)))))))
   cases r3
   ·
    refine I_ 0 [15, 16, 17, 18, 19, 20, 21, 22] (by kernel_rfl) (fun _ a b => ⟨a, b⟩) (t_ rfl rfl rfl rfl rfl (t_ rfl rfl rfl rfl rfl (t_ rfl rfl rfl rfl rfl (t_ rfl rfl rfl rfl rfl (t_ rfl rfl rfl rfl rfl (t_ rfl rfl rfl rfl rfl (t_ rfl rfl rfl rfl rfl (l_ rfl (A_ rfl rfl) rfl (H_ ?_)))))))))
    refine R_ (by kernel_rfl) (b_ rfl (v_ rfl (g_ (c_ (a_ (e_ rfl) rfl (d_ (b_ rfl (y_ ?_))))))))
    exact U_ bU_ () (q_ rfl ((oE_ hr3).symm)) D_ (fun _ _ _ => trivial)
   ·
    have wf : wf2 (Stp.fact s) = true := hr3
    refine I_ 3 [15, 16, 17, 18, 19] (by kernel_rfl) (fun _ a b => ⟨a, b⟩) (u_ rfl rfl rfl (h_ K_ rfl rfl rfl aY_) rfl (u_ rfl rfl rfl (m_ 0 bv_ rfl rfl rfl) rfl (u_ rfl rfl rfl (aC_ an_ rfl) rfl (u_ rfl rfl rfl (h_ K_ rfl rfl rfl w_) rfl (u_ rfl rfl rfl (m_ 0 E_ rfl rfl rfl) rfl (H_ (P_ 20 rfl (by kernel_rfl) (i_ rfl rfl (S_ (pk_ (Stp.rule s)) rfl D_ (fun _ _ _ => by exact trivial) rfl fun _ => ?_)))))))))
    refine d_ (z_ rfl (F_ (fun _ a b => ⟨a, b⟩) (I_ 0 [21, 22] (by kernel_rfl) (fun _ a b => ⟨a, b⟩) ?_)))
    refine ai_ rfl rfl rfl (bA_ rfl rfl) rfl fun r4 hr4 => ?_
    refine l_ rfl (p_ rfl rfl) rfl (H_ (R_ (by kernel_rfl) (b_ rfl ?_)))
    cases r4
    ·
     replace hr4 := bt_ hr4
     have hlm : (List.length (Stp.frm s) : Int) = dk_ (Stp.rule s) := by omega
     have hru : 1 ≤ Stp.rule s ∧ Stp.rule s ≤ 16 := by omega
     refine B_ rfl (J_ (b_ rfl (g_ (c_ (a_ (ax_ nz_ rfl rfl) rfl (am_ eK_ rfl fun b2 => ?_))))))
     refine W_ 0 Y_ rfl rfl rfl rfl rfl rfl (d_ (b_ rfl (g_ (c_ (a_ (h_ K_ rfl rfl rfl w_) rfl (a_ (m_ 1 E_ rfl rfl rfl) rfl (S_ (nW_ (Stp.rule s)) rfl D_ (fun _ _ _ => by exact trivial) rfl fun _ => ?_)))))))
     refine a_ (e_ rfl) rfl (d_ (b_ rfl (g_ (g_ (c_ (a_ (f_ rfl) rfl (C_ (ab_ rfl rfl) rfl fun r5 hr5 => ?_)))))))
     refine a_ (f_ rfl) rfl ?_
     cases r5
     ·
      replace hr5 := ne_of_beq_false hr5
      have hz : ci_ (Stp.rule s) ≠ 0 := hr5
      refine j_ rfl rfl rfl rfl (j_ rfl rfl rfl rfl (j_ rfl rfl rfl rfl (a_ (p_ rfl rfl) rfl (a_ (f_ rfl) rfl (i_ rfl rfl (a_ (f_ rfl) rfl (i_ rfl rfl (C_ (bA_ rfl rfl) rfl fun r6 hr6 => ?_))))))))
      refine i_ rfl rfl (a_ (f_ rfl) rfl ?_)
      cases r6
      ·
       replace hr6 := bt_ hr6
       exact absurd hr6 hz
      ·
       replace hr6 := bs_ hr6
       refine i_ rfl rfl (a_ (h_ K_ rfl rfl rfl w_) rfl (i_ rfl rfl (a_ (m_ 1 E_ rfl rfl rfl) rfl (i_ rfl rfl (C_ (as_ rfl rfl) rfl fun r7 hr7 => ?_)))))
       refine i_ rfl rfl (a_ (f_ rfl) rfl ?_)
       cases r7
       ·
        replace hr7 := of_decide_eq_false hr7
        refine i_ rfl rfl (a_ (h_ K_ rfl rfl rfl w_) rfl (i_ rfl rfl (a_ (m_ 1 E_ rfl rfl rfl) rfl (i_ rfl rfl (a_ (f_ rfl) rfl (i_ rfl rfl (a_ (aC_ aG_ rfl) rfl (i_ rfl rfl (C_ (bQ_ rfl rfl) rfl fun r8 hr8 => ?_)))))))))
        refine i_ rfl rfl (a_ (p_ rfl rfl) rfl (i_ rfl rfl (a_ (A_ rfl rfl) rfl (a_ (p_ rfl rfl) rfl (d_ (b_ rfl ?_))))))
        cases r8
        ·
         replace hr8 := of_decide_eq_false hr8
         have hlx9 : (Int.toNat (Stp.piece s)) < List.length p := by omega
         obtain ⟨x9, hx9⟩ : ∃ e0, p[(Int.toNat (Stp.piece s))]? = some e0 := ⟨_, List.getElem?_eq_getElem hlx9⟩
         have hmx9 : x9 ∈ p := List.mem_of_getElem? hx9
         refine B_ rfl (J_ (b_ rfl (g_ (g_ (c_ (a_ (f_ rfl) rfl (C_ (bA_ rfl rfl) rfl fun r9 hr9 => ?_)))))))
         refine d_ (b_ rfl ?_)
         cases r9
         ·
          replace hr9 := bt_ hr9
          exact absurd hr9 hz
         ·
          replace hr9 := bs_ hr9
          refine v_ rfl (c_ (a_ (f_ rfl) rfl (a_ (h_ K_ rfl rfl rfl w_) rfl (a_ (m_ 1 E_ rfl rfl rfl) rfl (a_ (ag_ aG_ Y_ rfl rfl (fun v _ h => aH_ (n := 10) Pc.cells_len (by decide) (by exact h.1) hx9) (by omega) (by first | omega | (simp; done))) rfl (a_ (aM_ (ad := pad) (us := Pc.cells x9) bi_ Y_ rfl (fun v _ h => by exact h.1) (Pc.cells_len _) (ak_ Pc.cells_len hx9)) rfl (W_ 0 Y_ rfl rfl rfl rfl rfl rfl (d_ (b_ rfl ?_)))))))))
          refine g_ (c_ (am_ Tryz.zeroValue147 rfl fun b3 => ?_))
          refine d_ (b_ rfl (g_ (g_ (c_ (a_ (e_ rfl) rfl (d_ (b_ rfl (ae_ ?_))))))))
          have hm2 := kN_ (Stp.rule s)
          refine bF_ (ι := {y : Nat // y ≤ List.length (Stp.frm s) ∧ el_ fs (List.take y (Stp.frm s)) = true}) (fun y => [(0, .slice pad (List.length p) pcap), (1, .slice fad (List.length fs) fcap), (5, zp_ b1 0), (6, .bool false), (7, zp_ b2 0), (8, .int .i64 (ci_ (Stp.rule s))), (9, zp_ b3 0), (10, .int .i64 (y.1 : Int))]) (fun y => ((b2, .cells (Pc.cells x9).toArray 73 (0, 0)) :: ((b1, .cells #[.int .i64 (Stp.rule s), .int .i64 (Fc.kind (Stp.fact s)), str (Fc.a (Stp.fact s)), str (Fc.b (Stp.fact s)), str (Fc.r (Stp.fact s)), .int .i64 (Fc.lo (Stp.fact s)), .int .i64 (Fc.hi (Stp.fact s)), .int .i64 (Stp.piece s), .slice (Stp.ad s) (List.length (Stp.frm s)) (Stp.cap s)] 36 (0, 0)) :: ((b3, .cells (List.toArray (ofC (ba_ fs (List.take y.1 (Stp.frm s))))) 147 (0, 0)) :: [])))) (fun y => [aW_ pad (List.flatMap Pc.cells p), aW_ fad (List.flatMap Fc.cells fs), aW_ (Stp.ad s) (List.flatMap df_ (Stp.frm s))]) (fun y => List.length (Stp.frm s) - y.1) ⟨(0 : Nat), by simp, by simp [el_]⟩ ⟨rfl, rfl, rfl, rfl, rfl, rfl, rfl, rfl, trivial⟩ (T_ (O_ G_) (T_ (O_ G_) G_)) (fun _ _ h => h) ?_
          rintro ⟨i, hi_i, hpB⟩
          dsimp only at hi_i hpB ⊢
          refine g_ (g_ (c_ (a_ (f_ rfl) rfl (a_ (h_ K_ rfl rfl rfl aY_) rfl (a_ (m_ 1 bv_ rfl rfl rfl) rfl (a_ (aC_ an_ rfl) rfl (C_ (as_ rfl rfl) rfl fun r10 hr10 => ?_)))))))
          refine d_ (b_ rfl ?_)
          cases r10
          ·
           replace hr10 := of_decide_eq_false hr10
           refine B_ rfl (bd_ rfl (b_ rfl (g_ ?_)))
           have e9 : List.take i (Stp.frm s) = Stp.frm s := List.take_of_length_le (by omega)
           rw [e9] at hpB
           have hPm : ho_ fs (Stp.frm s) (dk_ (Stp.rule s)) := ⟨by omega, hpB⟩
           refine bj_ (show List.Perm _ ((b2, .cells (Pc.cells x9).toArray 73 (0, 0)) :: ((b1, .cells #[.int .i64 (Stp.rule s), .int .i64 (Fc.kind (Stp.fact s)), str (Fc.a (Stp.fact s)), str (Fc.b (Stp.fact s)), str (Fc.r (Stp.fact s)), .int .i64 (Fc.lo (Stp.fact s)), .int .i64 (Fc.hi (Stp.fact s)), .int .i64 (Stp.piece s), .slice (Stp.ad s) (List.length (Stp.frm s)) (Stp.cap s)] 36 (0, 0)) :: ((b3, .cells #[.int .i64 (Fc.kind (List.getD (ba_ fs (Stp.frm s)) 0 zfc)), str (Fc.a (List.getD (ba_ fs (Stp.frm s)) 0 zfc)), str (Fc.b (List.getD (ba_ fs (Stp.frm s)) 0 zfc)), str (Fc.r (List.getD (ba_ fs (Stp.frm s)) 0 zfc)), .int .i64 (Fc.lo (List.getD (ba_ fs (Stp.frm s)) 0 zfc)), .int .i64 (Fc.hi (List.getD (ba_ fs (Stp.frm s)) 0 zfc)), .int .i64 (Fc.kind (List.getD (ba_ fs (Stp.frm s)) 1 zfc)), str (Fc.a (List.getD (ba_ fs (Stp.frm s)) 1 zfc)), str (Fc.b (List.getD (ba_ fs (Stp.frm s)) 1 zfc)), str (Fc.r (List.getD (ba_ fs (Stp.frm s)) 1 zfc)), .int .i64 (Fc.lo (List.getD (ba_ fs (Stp.frm s)) 1 zfc)), .int .i64 (Fc.hi (List.getD (ba_ fs (Stp.frm s)) 1 zfc))] 147 (0, 0)) :: []))) from by rw [e9]; exact .refl _) ?_
           refine c_ (a_ (h_ r_ rfl rfl rfl w_) rfl (a_ (m_ 0 E_ rfl rfl rfl) rfl (a_ (f_ rfl) rfl (C_ (ab_ rfl rfl) rfl fun r11 hr11 => ?_))))
           refine a_ (f_ rfl) rfl ?_
           cases r11
           ·
            replace hr11 := ne_of_beq_false hr11
            refine j_ rfl rfl rfl rfl (j_ rfl rfl rfl rfl (j_ rfl rfl rfl rfl (j_ rfl rfl rfl rfl (j_ rfl rfl rfl rfl (j_ rfl rfl rfl rfl (j_ rfl rfl rfl rfl (j_ rfl rfl rfl rfl (j_ rfl rfl rfl rfl (j_ rfl rfl rfl rfl ?_)))))))))
            refine j_ rfl rfl rfl rfl (a_ (p_ rfl rfl) rfl (a_ (e_ rfl) rfl (d_ (b_ rfl (y_ ?_)))))
            exact U_ bU_ () (q_ rfl ((hk_ (by rw [Bool.eq_false_iff]; intro q; have z := ((eZ_ hz).1 q).2.2; rw [dD_ hx9] at z; exact hr11 z)).symm)) D_ (fun _ _ _ => trivial)
           ·
            replace hr11 := eq_of_beq hr11
            have hk9 : Pc.kind x9 = ci_ (Stp.rule s) := hr11
            refine i_ rfl rfl (a_ (f_ rfl) rfl (i_ rfl rfl (a_ (h_ K_ rfl rfl rfl w_) rfl (i_ rfl rfl (a_ (m_ 1 E_ rfl rfl rfl) rfl (i_ rfl rfl (a_ (M_ 0 bi_ Y_ rfl rfl rfl) rfl (i_ rfl rfl (a_ (h_ K_ rfl rfl rfl n_) rfl ?_)))))))))
            refine i_ rfl rfl (a_ (M_ 1 N_ n_ rfl rfl rfl) rfl (i_ rfl rfl (a_ (bP_ (cD_ ek_ n_ rfl rfl (by decide) (by decide)) (show _ = zp_ b3 0 from rfl)) rfl (i_ rfl rfl (a_ (M_ 2 N_ n_ rfl rfl rfl) rfl (i_ rfl rfl (a_ (bP_ (cD_ ek_ n_ rfl rfl (by decide) (by decide)) (show _ = zp_ b3 6 from rfl)) rfl (i_ rfl rfl (a_ (M_ 2 N_ n_ rfl rfl rfl) rfl ?_)))))))))
            refine i_ rfl rfl (X_ (mk_ p pad pcap (Stp.rule s) x9 (Stp.fact s) (List.getD (ba_ fs (Stp.frm s)) 0 zfc) (List.getD (ba_ fs (Stp.frm s)) 1 zfc) hpl) rfl D_ (fun v _ h => by exact ⟨h.1, trivial⟩) rfl fun r12 hr12 => ?_)
            refine a_ (A_ rfl rfl) rfl (a_ (e_ rfl) rfl (d_ (b_ rfl (y_ ?_))))
            exact U_ bU_ () (q_ rfl (((gg_ hru wf hPm ((eZ_ hz).2 ⟨by omega, by omega, by rw [dD_ hx9]; exact hk9⟩)).trans (by rw [show gm_ p (Stp.rule s) (Stp.piece s) = x9 from by unfold gm_; rw [if_neg hz, dD_ hx9]]; exact hr12)).symm)) D_ (fun _ _ _ => trivial)
          ·
           replace hr10 := of_decide_eq_true hr10
           have hlx1 : i < List.length (Stp.frm s) := by omega
           obtain ⟨x1, hx1⟩ : ∃ e0, (Stp.frm s)[i]? = some e0 := ⟨_, List.getElem?_eq_getElem hlx1⟩
           have hmx1 : x1 ∈ (Stp.frm s) := List.mem_of_getElem? hx1
           refine v_ rfl (J_ (b_ rfl (g_ (ae_ (g_ (g_ (c_ (a_ (h_ K_ rfl rfl rfl aY_) rfl (a_ (m_ 1 bv_ rfl rfl rfl) rfl ?_)))))))))
           refine a_ (f_ rfl) rfl (a_ (ag_ an_ w_ rfl rfl (fun v _ h => aH_ (n := 1) bL_ (by decide) (by exact h.2.2.1) hx1) (by omega) (by first | omega | (simp; done))) rfl (a_ (bb_ (ad := (Stp.ad s)) E_ rfl (fun v _ h => by exact h.2.2.1) (ak_ bL_ hx1 0 _ rfl)) rfl (C_ (as_ rfl rfl) rfl fun r13 hr13 => ?_)))
           refine a_ (f_ rfl) rfl ?_
           cases r13
           ·
            replace hr13 := of_decide_eq_false hr13
            refine i_ rfl rfl (a_ (h_ K_ rfl rfl rfl aY_) rfl (i_ rfl rfl (a_ (m_ 1 bv_ rfl rfl rfl) rfl (i_ rfl rfl (a_ (f_ rfl) rfl (i_ rfl rfl (a_ (ag_ an_ w_ rfl rfl (fun v _ h => aH_ (n := 1) bL_ (by decide) (by exact h.2.2.1) hx1) (by omega) (by first | omega | (simp; done))) rfl (i_ rfl rfl (a_ (bb_ (ad := (Stp.ad s)) E_ rfl (fun v _ h => by exact h.2.2.1) (ak_ bL_ hx1 0 _ rfl)) rfl ?_)))))))))
            refine i_ rfl rfl (a_ (f_ rfl) rfl (i_ rfl rfl (a_ (aC_ ad_ rfl) rfl (i_ rfl rfl (C_ (bQ_ rfl rfl) rfl fun r14 hr14 => ?_)))))
            refine a_ (p_ rfl rfl) rfl (a_ (f_ rfl) rfl ?_)
            cases r14
            ·
             replace hr14 := of_decide_eq_false hr14
             have hlg1 : (Int.toNat x1) < List.length fs := by omega
             obtain ⟨g1, hg1⟩ : ∃ e0, fs[(Int.toNat x1)]? = some e0 := ⟨_, List.getElem?_eq_getElem hlg1⟩
             have hmg1 : g1 ∈ fs := List.mem_of_getElem? hg1
             refine i_ rfl rfl (a_ (f_ rfl) rfl (i_ rfl rfl (a_ (h_ K_ rfl rfl rfl aY_) rfl (i_ rfl rfl (a_ (m_ 1 bv_ rfl rfl rfl) rfl (i_ rfl rfl (a_ (f_ rfl) rfl (i_ rfl rfl (a_ (ag_ an_ w_ rfl rfl (fun v _ h => aH_ (n := 1) bL_ (by decide) (by exact h.2.2.1) hx1) (by omega) (by first | omega | (simp; done))) rfl ?_)))))))))
             refine i_ rfl rfl (a_ (bb_ (ad := (Stp.ad s)) E_ rfl (fun v _ h => by exact h.2.2.1) (ak_ bL_ hx1 0 _ rfl)) rfl (i_ rfl rfl (a_ (ag_ ad_ n_ rfl rfl (fun v _ h => aH_ (n := 6) Fc.cells_len (by decide) (by exact h.2.1) hg1) (by omega) (by first | omega | (simp; done))) rfl (i_ rfl rfl (a_ (aM_ (ad := fad) (us := Fc.cells g1) N_ n_ rfl (fun v _ h => by exact h.2.1) (Fc.cells_len _) (ak_ Fc.cells_len hg1)) rfl (i_ rfl rfl (X_ (jI_ g1 (hfs g1 hmg1)) rfl D_ (fun _ _ _ => by exact trivial) rfl fun r15 hr15 => ?_)))))))
             refine i_ rfl rfl (a_ (bq_ rfl) rfl (a_ (p_ rfl rfl) rfl (d_ (b_ rfl ?_))))
             cases r15
             ·
              refine v_ rfl (g_ (c_ (a_ (e_ rfl) rfl (d_ (b_ rfl (y_ ?_))))))
              exact U_ bU_ () (q_ rfl ((fS_ (fun q => by have z := cT_ q.2 hmx1; have w := z.2.2; rw [dD_ hg1] at w; rw [w] at hr15; cases hr15)).symm)) D_ (fun _ _ _ => trivial)
             ·
              refine B_ rfl (J_ (b_ rfl (c_ (a_ (f_ rfl) rfl (a_ (f_ rfl) rfl (a_ (h_ K_ rfl rfl rfl aY_) rfl (a_ (m_ 1 bv_ rfl rfl rfl) rfl (a_ (f_ rfl) rfl (a_ (ag_ an_ w_ rfl rfl (fun v _ h => aH_ (n := 1) bL_ (by decide) (by exact h.2.2.1) hx1) (by omega) (by first | omega | (simp; done))) rfl ?_)))))))))
              refine a_ (bb_ (ad := (Stp.ad s)) E_ rfl (fun v _ h => by exact h.2.2.1) (ak_ bL_ hx1 0 _ rfl)) rfl (a_ (ag_ ad_ n_ rfl rfl (fun v _ h => aH_ (n := 6) Fc.cells_len (by decide) (by exact h.2.1) hg1) (by omega) (by first | omega | (simp; done))) rfl (a_ (aM_ (ad := fad) (us := Fc.cells g1) N_ n_ rfl (fun v _ h => by exact h.2.1) (Fc.cells_len _) (ak_ Fc.cells_len hg1)) rfl (a_ (cD_ ek_ n_ rfl rfl (by omega) (by omega)) rfl (hr_ (i := i) (L := ba_ fs (List.take i (Stp.frm s))) (L' := ba_ fs (List.take (i + 1) (Stp.frm s))) n_ rfl rfl (O_ (O_ G_)) (iU_ fs hi_i) (by omega) (iW_ hx1 hg1) (d_ (b_ rfl (c_ (a_ (f_ rfl) rfl (a_ (ac_ rfl rfl rfl (aE_ (by omega) (by omega))) rfl ?_)))))))))
              refine a_ (e_ rfl) rfl (d_ (z_ rfl ?_))
              exact aP_ ⟨i + 1, hlx1, fJ_ hpB hx1 (by omega) (by omega) hg1 (by assumption)⟩ (by dsimp only; omega) ⟨rfl, rfl, rfl, rfl, rfl, rfl, rfl, rfl, trivial⟩ (T_ (O_ G_) (T_ (O_ G_) G_)) (fun _ _ h => h)
            ·
             replace hr14 := of_decide_eq_true hr14
             refine j_ rfl rfl rfl rfl (j_ rfl rfl rfl rfl (j_ rfl rfl rfl rfl (j_ rfl rfl rfl rfl (j_ rfl rfl rfl rfl (j_ rfl rfl rfl rfl (j_ rfl rfl rfl rfl (j_ rfl rfl rfl rfl (j_ rfl rfl rfl rfl (j_ rfl rfl rfl rfl ?_)))))))))
             refine a_ (A_ rfl rfl) rfl (d_ (b_ rfl (v_ rfl (g_ (c_ (a_ (e_ rfl) rfl (d_ (b_ rfl (y_ ?_)))))))))
             exact U_ bU_ () (q_ rfl ((fS_ (fun q => by have z := cT_ q.2 hmx1; omega)).symm)) D_ (fun _ _ _ => trivial)
           ·
            replace hr13 := of_decide_eq_true hr13
            refine j_ rfl rfl rfl rfl (j_ rfl rfl rfl rfl (j_ rfl rfl rfl rfl (j_ rfl rfl rfl rfl (j_ rfl rfl rfl rfl (j_ rfl rfl rfl rfl (j_ rfl rfl rfl rfl (j_ rfl rfl rfl rfl (a_ (A_ rfl rfl) rfl (a_ (f_ rfl) rfl ?_)))))))))
            refine j_ rfl rfl rfl rfl (j_ rfl rfl rfl rfl (j_ rfl rfl rfl rfl (j_ rfl rfl rfl rfl (j_ rfl rfl rfl rfl (j_ rfl rfl rfl rfl (j_ rfl rfl rfl rfl (j_ rfl rfl rfl rfl (j_ rfl rfl rfl rfl (j_ rfl rfl rfl rfl ?_)))))))))
            refine a_ (A_ rfl rfl) rfl (d_ (b_ rfl (v_ rfl (g_ (c_ (a_ (e_ rfl) rfl (d_ (b_ rfl (y_ ?_)))))))))
            exact U_ bU_ () (q_ rfl ((fS_ (fun q => by have z := cT_ q.2 hmx1; omega)).symm)) D_ (fun _ _ _ => trivial)
        ·
         replace hr8 := of_decide_eq_true hr8
         refine v_ rfl (g_ (c_ (a_ (e_ rfl) rfl (d_ (b_ rfl (y_ ?_))))))
         exact U_ bU_ () (q_ rfl ((hk_ (by rw [Bool.eq_false_iff]; intro q; have z := (eZ_ hz).1 q; have z1 := z.1; have z2 := z.2.1; omega)).symm)) D_ (fun _ _ _ => trivial)
       ·
        replace hr7 := of_decide_eq_true hr7
        refine j_ rfl rfl rfl rfl (j_ rfl rfl rfl rfl (j_ rfl rfl rfl rfl (j_ rfl rfl rfl rfl (j_ rfl rfl rfl rfl (i_ rfl rfl (a_ (A_ rfl rfl) rfl (i_ rfl rfl (a_ (A_ rfl rfl) rfl (a_ (p_ rfl rfl) rfl ?_)))))))))
        refine d_ (b_ rfl (v_ rfl (g_ (c_ (a_ (e_ rfl) rfl (d_ (b_ rfl (y_ ?_))))))))
        exact U_ bU_ () (q_ rfl ((hk_ (by rw [Bool.eq_false_iff]; intro q; have z := (eZ_ hz).1 q; have z1 := z.1; have z2 := z.2.1; omega)).symm)) D_ (fun _ _ _ => trivial)
     ·
      replace hr5 := eq_of_beq hr5
      have hz : ci_ (Stp.rule s) = 0 := hr5
      refine i_ rfl rfl (a_ (h_ K_ rfl rfl rfl w_) rfl (i_ rfl rfl (a_ (m_ 1 E_ rfl rfl rfl) rfl (i_ rfl rfl (C_ (bA_ rfl rfl) rfl fun r16 hr16 => ?_)))))
      refine a_ (A_ rfl rfl) rfl (a_ (f_ rfl) rfl ?_)
      cases r16
      ·
       replace hr16 := bt_ hr16
       refine i_ rfl rfl (a_ (f_ rfl) rfl (i_ rfl rfl (C_ (bA_ rfl rfl) rfl fun r17 hr17 => ?_)))
       refine i_ rfl rfl (a_ (f_ rfl) rfl ?_)
       cases r17
       ·
        replace hr17 := bt_ hr17
        refine j_ rfl rfl rfl rfl (j_ rfl rfl rfl rfl (j_ rfl rfl rfl rfl (j_ rfl rfl rfl rfl (j_ rfl rfl rfl rfl (j_ rfl rfl rfl rfl (j_ rfl rfl rfl rfl (j_ rfl rfl rfl rfl (j_ rfl rfl rfl rfl (j_ rfl rfl rfl rfl ?_)))))))))
        refine i_ rfl rfl (a_ (p_ rfl rfl) rfl (a_ (p_ rfl rfl) rfl (d_ (b_ rfl (B_ rfl (J_ (b_ rfl (g_ (g_ ?_)))))))))
        refine c_ (a_ (f_ rfl) rfl (C_ (bA_ rfl rfl) rfl fun r18 hr18 => ?_))
        refine d_ (b_ rfl ?_)
        cases r18
        ·
         replace hr18 := bt_ hr18
         refine B_ rfl (J_ (b_ rfl (g_ (c_ (am_ Tryz.zeroValue147 rfl fun b4 => ?_)))))
         refine d_ (b_ rfl (g_ (g_ (c_ (a_ (e_ rfl) rfl (d_ (b_ rfl (ae_ ?_))))))))
         have hm2 := kN_ (Stp.rule s)
         refine bF_ (ι := {y : Nat // y ≤ List.length (Stp.frm s) ∧ el_ fs (List.take y (Stp.frm s)) = true}) (fun y => [(0, .slice pad (List.length p) pcap), (1, .slice fad (List.length fs) fcap), (5, zp_ b1 0), (6, .bool false), (7, zp_ b2 0), (8, .int .i64 (ci_ (Stp.rule s))), (9, zp_ b4 0), (10, .int .i64 (y.1 : Int))]) (fun y => ((b2, .cells #[.int .i64 0, str [], str [], str [], str [], str [], str [], .int .i64 0, .int .i64 0, .int .i64 0] 73 (0, 0)) :: ((b1, .cells #[.int .i64 (Stp.rule s), .int .i64 (Fc.kind (Stp.fact s)), str (Fc.a (Stp.fact s)), str (Fc.b (Stp.fact s)), str (Fc.r (Stp.fact s)), .int .i64 (Fc.lo (Stp.fact s)), .int .i64 (Fc.hi (Stp.fact s)), .int .i64 (Stp.piece s), .slice (Stp.ad s) (List.length (Stp.frm s)) (Stp.cap s)] 36 (0, 0)) :: ((b4, .cells (List.toArray (ofC (ba_ fs (List.take y.1 (Stp.frm s))))) 147 (0, 0)) :: [])))) (fun y => [aW_ pad (List.flatMap Pc.cells p), aW_ fad (List.flatMap Fc.cells fs), aW_ (Stp.ad s) (List.flatMap df_ (Stp.frm s))]) (fun y => List.length (Stp.frm s) - y.1) ⟨(0 : Nat), by simp, by simp [el_]⟩ ⟨rfl, rfl, rfl, rfl, rfl, rfl, rfl, rfl, trivial⟩ (T_ (O_ G_) (T_ (O_ G_) G_)) (fun _ _ h => h) ?_
         rintro ⟨i, hi_i, hpB⟩
         dsimp only at hi_i hpB ⊢
         refine g_ (g_ (c_ (a_ (f_ rfl) rfl (a_ (h_ K_ rfl rfl rfl aY_) rfl (a_ (m_ 1 bv_ rfl rfl rfl) rfl (a_ (aC_ an_ rfl) rfl (C_ (as_ rfl rfl) rfl fun r19 hr19 => ?_)))))))
         refine d_ (b_ rfl ?_)
         cases r19
         ·
          replace hr19 := of_decide_eq_false hr19
          refine B_ rfl (bd_ rfl (b_ rfl (g_ ?_)))
          have e9 : List.take i (Stp.frm s) = Stp.frm s := List.take_of_length_le (by omega)
          rw [e9] at hpB
          have hPm : ho_ fs (Stp.frm s) (dk_ (Stp.rule s)) := ⟨by omega, hpB⟩
          refine bj_ (show List.Perm _ ((b2, .cells #[.int .i64 0, str [], str [], str [], str [], str [], str [], .int .i64 0, .int .i64 0, .int .i64 0] 73 (0, 0)) :: ((b1, .cells #[.int .i64 (Stp.rule s), .int .i64 (Fc.kind (Stp.fact s)), str (Fc.a (Stp.fact s)), str (Fc.b (Stp.fact s)), str (Fc.r (Stp.fact s)), .int .i64 (Fc.lo (Stp.fact s)), .int .i64 (Fc.hi (Stp.fact s)), .int .i64 (Stp.piece s), .slice (Stp.ad s) (List.length (Stp.frm s)) (Stp.cap s)] 36 (0, 0)) :: ((b4, .cells #[.int .i64 (Fc.kind (List.getD (ba_ fs (Stp.frm s)) 0 zfc)), str (Fc.a (List.getD (ba_ fs (Stp.frm s)) 0 zfc)), str (Fc.b (List.getD (ba_ fs (Stp.frm s)) 0 zfc)), str (Fc.r (List.getD (ba_ fs (Stp.frm s)) 0 zfc)), .int .i64 (Fc.lo (List.getD (ba_ fs (Stp.frm s)) 0 zfc)), .int .i64 (Fc.hi (List.getD (ba_ fs (Stp.frm s)) 0 zfc)), .int .i64 (Fc.kind (List.getD (ba_ fs (Stp.frm s)) 1 zfc)), str (Fc.a (List.getD (ba_ fs (Stp.frm s)) 1 zfc)), str (Fc.b (List.getD (ba_ fs (Stp.frm s)) 1 zfc)), str (Fc.r (List.getD (ba_ fs (Stp.frm s)) 1 zfc)), .int .i64 (Fc.lo (List.getD (ba_ fs (Stp.frm s)) 1 zfc)), .int .i64 (Fc.hi (List.getD (ba_ fs (Stp.frm s)) 1 zfc))] 147 (0, 0)) :: []))) from by rw [e9]; exact .refl _) ?_
          refine c_ (a_ (h_ r_ rfl rfl rfl w_) rfl (a_ (m_ 0 E_ rfl rfl rfl) rfl (a_ (f_ rfl) rfl (C_ (ab_ rfl rfl) rfl fun r20 hr20 => ?_))))
          refine a_ (f_ rfl) rfl ?_
          cases r20
          ·
           replace hr20 := ne_of_beq_false hr20
           exact absurd hz.symm hr20
          ·
           replace hr20 := eq_of_beq hr20
           refine i_ rfl rfl (a_ (f_ rfl) rfl (i_ rfl rfl (a_ (h_ K_ rfl rfl rfl w_) rfl (i_ rfl rfl (a_ (m_ 1 E_ rfl rfl rfl) rfl (i_ rfl rfl (a_ (M_ 0 bi_ Y_ rfl rfl rfl) rfl (i_ rfl rfl (a_ (h_ K_ rfl rfl rfl n_) rfl ?_)))))))))
           refine i_ rfl rfl (a_ (M_ 1 N_ n_ rfl rfl rfl) rfl (i_ rfl rfl (a_ (bP_ (cD_ ek_ n_ rfl rfl (by decide) (by decide)) (show _ = zp_ b4 0 from rfl)) rfl (i_ rfl rfl (a_ (M_ 2 N_ n_ rfl rfl rfl) rfl (i_ rfl rfl (a_ (bP_ (cD_ ek_ n_ rfl rfl (by decide) (by decide)) (show _ = zp_ b4 6 from rfl)) rfl (i_ rfl rfl (a_ (M_ 2 N_ n_ rfl rfl rfl) rfl ?_)))))))))
           refine i_ rfl rfl (X_ (mk_ p pad pcap (Stp.rule s) (Pc.mk 0 [] [] [] [] [] [] 0 0 0) (Stp.fact s) (List.getD (ba_ fs (Stp.frm s)) 0 zfc) (List.getD (ba_ fs (Stp.frm s)) 1 zfc) hpl) rfl D_ (fun v _ h => by exact ⟨h.1, trivial⟩) rfl fun r21 hr21 => ?_)
           refine a_ (A_ rfl rfl) rfl (a_ (e_ rfl) rfl (d_ (b_ rfl (y_ ?_))))
           exact U_ bU_ () (q_ rfl (((gg_ hru wf hPm (by rw [gF_ hz]; exact decide_eq_true (by omega))).trans (by rw [show gm_ p (Stp.rule s) (Stp.piece s) = zpc from if_pos hz]; exact hr21)).symm)) D_ (fun _ _ _ => trivial)
         ·
          replace hr19 := of_decide_eq_true hr19
          have hlx1 : i < List.length (Stp.frm s) := by omega
          obtain ⟨x1, hx1⟩ : ∃ e0, (Stp.frm s)[i]? = some e0 := ⟨_, List.getElem?_eq_getElem hlx1⟩
          have hmx1 : x1 ∈ (Stp.frm s) := List.mem_of_getElem? hx1
          refine v_ rfl (J_ (b_ rfl (g_ (ae_ (g_ (g_ (c_ (a_ (h_ K_ rfl rfl rfl aY_) rfl (a_ (m_ 1 bv_ rfl rfl rfl) rfl ?_)))))))))
          refine a_ (f_ rfl) rfl (a_ (ag_ an_ w_ rfl rfl (fun v _ h => aH_ (n := 1) bL_ (by decide) (by exact h.2.2.1) hx1) (by omega) (by first | omega | (simp; done))) rfl (a_ (bb_ (ad := (Stp.ad s)) E_ rfl (fun v _ h => by exact h.2.2.1) (ak_ bL_ hx1 0 _ rfl)) rfl (C_ (as_ rfl rfl) rfl fun r22 hr22 => ?_)))
          refine a_ (f_ rfl) rfl ?_
          cases r22
          ·
           replace hr22 := of_decide_eq_false hr22
           refine i_ rfl rfl (a_ (h_ K_ rfl rfl rfl aY_) rfl (i_ rfl rfl (a_ (m_ 1 bv_ rfl rfl rfl) rfl (i_ rfl rfl (a_ (f_ rfl) rfl (i_ rfl rfl (a_ (ag_ an_ w_ rfl rfl (fun v _ h => aH_ (n := 1) bL_ (by decide) (by exact h.2.2.1) hx1) (by omega) (by first | omega | (simp; done))) rfl (i_ rfl rfl (a_ (bb_ (ad := (Stp.ad s)) E_ rfl (fun v _ h => by exact h.2.2.1) (ak_ bL_ hx1 0 _ rfl)) rfl ?_)))))))))
           refine i_ rfl rfl (a_ (f_ rfl) rfl (i_ rfl rfl (a_ (aC_ ad_ rfl) rfl (i_ rfl rfl (C_ (bQ_ rfl rfl) rfl fun r23 hr23 => ?_)))))
           refine a_ (p_ rfl rfl) rfl (a_ (f_ rfl) rfl ?_)
           cases r23
           ·
            replace hr23 := of_decide_eq_false hr23
            have hlg1 : (Int.toNat x1) < List.length fs := by omega
            obtain ⟨g1, hg1⟩ : ∃ e0, fs[(Int.toNat x1)]? = some e0 := ⟨_, List.getElem?_eq_getElem hlg1⟩
            have hmg1 : g1 ∈ fs := List.mem_of_getElem? hg1
            refine i_ rfl rfl (a_ (f_ rfl) rfl (i_ rfl rfl (a_ (h_ K_ rfl rfl rfl aY_) rfl (i_ rfl rfl (a_ (m_ 1 bv_ rfl rfl rfl) rfl (i_ rfl rfl (a_ (f_ rfl) rfl (i_ rfl rfl (a_ (ag_ an_ w_ rfl rfl (fun v _ h => aH_ (n := 1) bL_ (by decide) (by exact h.2.2.1) hx1) (by omega) (by first | omega | (simp; done))) rfl ?_)))))))))
            refine i_ rfl rfl (a_ (bb_ (ad := (Stp.ad s)) E_ rfl (fun v _ h => by exact h.2.2.1) (ak_ bL_ hx1 0 _ rfl)) rfl (i_ rfl rfl (a_ (ag_ ad_ n_ rfl rfl (fun v _ h => aH_ (n := 6) Fc.cells_len (by decide) (by exact h.2.1) hg1) (by omega) (by first | omega | (simp; done))) rfl (i_ rfl rfl (a_ (aM_ (ad := fad) (us := Fc.cells g1) N_ n_ rfl (fun v _ h => by exact h.2.1) (Fc.cells_len _) (ak_ Fc.cells_len hg1)) rfl (i_ rfl rfl (X_ (jI_ g1 (hfs g1 hmg1)) rfl D_ (fun _ _ _ => by exact trivial) rfl fun r24 hr24 => ?_)))))))
            refine i_ rfl rfl (a_ (bq_ rfl) rfl (a_ (p_ rfl rfl) rfl (d_ (b_ rfl ?_))))
            cases r24
            ·
             refine v_ rfl (g_ (c_ (a_ (e_ rfl) rfl (d_ (b_ rfl (y_ ?_))))))
             exact U_ bU_ () (q_ rfl ((fS_ (fun q => by have z := cT_ q.2 hmx1; have w := z.2.2; rw [dD_ hg1] at w; rw [w] at hr24; cases hr24)).symm)) D_ (fun _ _ _ => trivial)
            ·
             refine B_ rfl (J_ (b_ rfl (c_ (a_ (f_ rfl) rfl (a_ (f_ rfl) rfl (a_ (h_ K_ rfl rfl rfl aY_) rfl (a_ (m_ 1 bv_ rfl rfl rfl) rfl (a_ (f_ rfl) rfl (a_ (ag_ an_ w_ rfl rfl (fun v _ h => aH_ (n := 1) bL_ (by decide) (by exact h.2.2.1) hx1) (by omega) (by first | omega | (simp; done))) rfl ?_)))))))))
             refine a_ (bb_ (ad := (Stp.ad s)) E_ rfl (fun v _ h => by exact h.2.2.1) (ak_ bL_ hx1 0 _ rfl)) rfl (a_ (ag_ ad_ n_ rfl rfl (fun v _ h => aH_ (n := 6) Fc.cells_len (by decide) (by exact h.2.1) hg1) (by omega) (by first | omega | (simp; done))) rfl (a_ (aM_ (ad := fad) (us := Fc.cells g1) N_ n_ rfl (fun v _ h => by exact h.2.1) (Fc.cells_len _) (ak_ Fc.cells_len hg1)) rfl (a_ (cD_ ek_ n_ rfl rfl (by omega) (by omega)) rfl (hr_ (i := i) (L := ba_ fs (List.take i (Stp.frm s))) (L' := ba_ fs (List.take (i + 1) (Stp.frm s))) n_ rfl rfl (O_ (O_ G_)) (iU_ fs hi_i) (by omega) (iW_ hx1 hg1) (d_ (b_ rfl (c_ (a_ (f_ rfl) rfl (a_ (ac_ rfl rfl rfl (aE_ (by omega) (by omega))) rfl ?_)))))))))
             refine a_ (e_ rfl) rfl (d_ (z_ rfl ?_))
             exact aP_ ⟨i + 1, hlx1, fJ_ hpB hx1 (by omega) (by omega) hg1 (by assumption)⟩ (by dsimp only; omega) ⟨rfl, rfl, rfl, rfl, rfl, rfl, rfl, rfl, trivial⟩ (T_ (O_ G_) (T_ (O_ G_) G_)) (fun _ _ h => h)
           ·
            replace hr23 := of_decide_eq_true hr23
            refine j_ rfl rfl rfl rfl (j_ rfl rfl rfl rfl (j_ rfl rfl rfl rfl (j_ rfl rfl rfl rfl (j_ rfl rfl rfl rfl (j_ rfl rfl rfl rfl (j_ rfl rfl rfl rfl (j_ rfl rfl rfl rfl (j_ rfl rfl rfl rfl (j_ rfl rfl rfl rfl ?_)))))))))
            refine a_ (A_ rfl rfl) rfl (d_ (b_ rfl (v_ rfl (g_ (c_ (a_ (e_ rfl) rfl (d_ (b_ rfl (y_ ?_)))))))))
            exact U_ bU_ () (q_ rfl ((fS_ (fun q => by have z := cT_ q.2 hmx1; omega)).symm)) D_ (fun _ _ _ => trivial)
          ·
           replace hr22 := of_decide_eq_true hr22
           refine j_ rfl rfl rfl rfl (j_ rfl rfl rfl rfl (j_ rfl rfl rfl rfl (j_ rfl rfl rfl rfl (j_ rfl rfl rfl rfl (j_ rfl rfl rfl rfl (j_ rfl rfl rfl rfl (j_ rfl rfl rfl rfl (a_ (A_ rfl rfl) rfl (a_ (f_ rfl) rfl ?_)))))))))
           refine j_ rfl rfl rfl rfl (j_ rfl rfl rfl rfl (j_ rfl rfl rfl rfl (j_ rfl rfl rfl rfl (j_ rfl rfl rfl rfl (j_ rfl rfl rfl rfl (j_ rfl rfl rfl rfl (j_ rfl rfl rfl rfl (j_ rfl rfl rfl rfl (j_ rfl rfl rfl rfl ?_)))))))))
           refine a_ (A_ rfl rfl) rfl (d_ (b_ rfl (v_ rfl (g_ (c_ (a_ (e_ rfl) rfl (d_ (b_ rfl (y_ ?_)))))))))
           exact U_ bU_ () (q_ rfl ((fS_ (fun q => by have z := cT_ q.2 hmx1; omega)).symm)) D_ (fun _ _ _ => trivial)
        ·
         replace hr18 := bs_ hr18
         exact absurd hz hr18
       ·
        replace hr17 := bs_ hr17
        exact absurd hz hr17
      ·
       replace hr16 := bs_ hr16
       refine j_ rfl rfl rfl rfl (j_ rfl rfl rfl rfl (j_ rfl rfl rfl rfl (j_ rfl rfl rfl rfl (j_ rfl rfl rfl rfl (j_ rfl rfl rfl rfl (j_ rfl rfl rfl rfl (j_ rfl rfl rfl rfl (j_ rfl rfl rfl rfl (j_ rfl rfl rfl rfl ?_)))))))))
       refine j_ rfl rfl rfl rfl (j_ rfl rfl rfl rfl (j_ rfl rfl rfl rfl (j_ rfl rfl rfl rfl (a_ (A_ rfl rfl) rfl (d_ (b_ rfl (v_ rfl (g_ (c_ ?_)))))))))
       refine a_ (e_ rfl) rfl (d_ (b_ rfl (y_ ?_)))
       exact U_ bU_ () (q_ rfl ((hk_ (by rw [gF_ hz]; exact decide_eq_false (by omega))).symm)) D_ (fun _ _ _ => trivial)
    ·
     replace hr4 := bs_ hr4
     refine v_ rfl (g_ (c_ (a_ (e_ rfl) rfl (d_ (b_ rfl (y_ ?_))))))
     exact U_ bU_ () (q_ rfl ((fS_ (fun q => by have := q.1; omega)).symm)) D_ (fun _ _ _ => trivial)
  ·
   replace hr2 := of_decide_eq_true hr2
   refine I_ 0 [9, 10, 11, 12, 13, 14, 15, 16, 17, 18, 19, 20, 21, 22] (by kernel_rfl) (fun _ a b => ⟨a, b⟩) (t_ rfl rfl rfl rfl rfl (t_ rfl rfl rfl rfl rfl (t_ rfl rfl rfl rfl rfl (t_ rfl rfl rfl rfl rfl (l_ rfl (A_ rfl rfl) rfl (l_ rfl (f_ rfl) rfl (t_ rfl rfl rfl rfl rfl (t_ rfl rfl rfl rfl rfl (t_ rfl rfl rfl rfl rfl ?_)))))))))
   refine t_ rfl rfl rfl rfl rfl (t_ rfl rfl rfl rfl rfl (t_ rfl rfl rfl rfl rfl (t_ rfl rfl rfl rfl rfl (l_ rfl (A_ rfl rfl) rfl (H_ (R_ (by kernel_rfl) (b_ rfl (v_ rfl (g_ ?_)))))))))
   refine c_ (a_ (e_ rfl) rfl (d_ (b_ rfl (y_ ?_))))
   exact U_ bU_ () (q_ rfl ((jY_ (by omega)).symm)) D_ (fun _ _ _ => trivial)
 ·
  replace hr1 := of_decide_eq_true hr1
  refine I_ 0 [4, 5, 6, 7, 8, 9, 10, 11, 12, 13, 14, 15, 16, 17, 18, 19, 20, 21, 22] (by kernel_rfl) (fun _ a b => ⟨a, b⟩) (t_ rfl rfl rfl rfl rfl (t_ rfl rfl rfl rfl rfl (t_ rfl rfl rfl rfl rfl (l_ rfl (A_ rfl rfl) rfl (l_ rfl (f_ rfl) rfl (t_ rfl rfl rfl rfl rfl (t_ rfl rfl rfl rfl rfl (t_ rfl rfl rfl rfl rfl (t_ rfl rfl rfl rfl rfl ?_)))))))))
  refine l_ rfl (A_ rfl rfl) rfl (l_ rfl (f_ rfl) rfl (t_ rfl rfl rfl rfl rfl (t_ rfl rfl rfl rfl rfl (t_ rfl rfl rfl rfl rfl (t_ rfl rfl rfl rfl rfl (t_ rfl rfl rfl rfl rfl (t_ rfl rfl rfl rfl rfl (t_ rfl rfl rfl rfl rfl (l_ rfl (A_ rfl rfl) rfl ?_)))))))))
  refine H_ (R_ (by kernel_rfl) (b_ rfl (v_ rfl (g_ (c_ (a_ (e_ rfl) rfl (d_ (b_ rfl (y_ ?_)))))))))
  exact U_ bU_ () (q_ rfl ((jY_ (by omega)).symm)) D_ (fun _ _ _ => trivial)
end Go.Proofs.YtaffcjgphlhppaaGreatDoor
namespace Go.Proofs.YtaffcjgphlhppaaGreatDoor
open Go Go.Sx Go.Proofs
attribute [local irreducible] Code.wp wpList wpAnyH
open Go.Vs
theorem nX_ (p : List Pc) (pad : Option Addr) (pcap : Nat) (fs : List Fc) (sv : Value) (HF : Hp) (hr : bE_ 24 6 sv fs.length (List.flatMap Fc.cells fs) HF) (s : Stp) (hpl : p.length ≤ 10000000) (hfl : fs.length ≤ 10000000) (hfr : s.frm.length ≤ 1000000) (hfs : ∀ x ∈ fs, x.sml) (hsf : s.fact.sml) : Tri Tryz.prog 34 #[.slice pad p.length pcap, sv, Stp.val s] HF [aW_ pad (List.flatMap Pc.cells p), aW_ (Stp.ad s) (List.flatMap df_ (Stp.frm s))] (fun _ : Unit => .bool (dH_ p fs s)) (fun _ => HF) (fun _ => []) := by
  obtain ⟨fad, fcap, rfl, hrow⟩ := fX_ hr
  have T := hM_ (Γ0 := [aW_ pad (List.flatMap Pc.cells p), aW_ (Stp.ad s) (List.flatMap df_ (Stp.frm s))]) HF (lv_ p pad pcap fs fad fcap s hpl hfl hfr hfs hsf) (fun v hB hv => ⟨hv.1, hrow v (fun x hx => hB x hx), hv.2.1, trivial⟩)
  simpa using T
theorem ld_ {l : List Stp} {n : Nat} {x : Fc} (h : (fcs l)[n]? = some x) (hn : n = l.length - 1) : ∃ t, l[l.length - 1]? = some t ∧ t.fact = x := by
  subst hn
  rw [fcs, List.getElem?_map] at h
  cases ht : l[l.length - 1]? with
  | none => rw [ht] at h; cases h
  | some t => rw [ht] at h; exact ⟨t, rfl, Option.some.inj h⟩
theorem lw_ (p : List Pc) (pad : Option Addr) (pcap : Nat) (f : Fc) (l : List Stp) (ad : Option Addr) (cap : Nat) (hpl : p.length ≤ 10000000) (hsm : ∀ x ∈ p, x.sm) (hll : l.length ≤ 10000000) (hfr : ∀ s ∈ l, s.frm.length ≤ 1000000) (hsf : ∀ s ∈ l, s.fact.sml) : Tri Tryz.prog 13 #[.slice pad (List.length p) pcap, Fc.val f, .agg #[.slice ad (List.length l) cap]] [] [aW_ pad (List.flatMap Pc.cells p), aW_ ad (List.flatMap Stp.cells l), da_ l] (fun y : {e : Int // lW_ p f l e} => .int .i64 y.1) (fun _ => []) (fun _ => []) := by
 refine V_ Tryz.func13 rfl rfl Tryz.ntmps13 rfl fun v0 => ?_
 refine g_ (c_ (aO_ rfl rfl fun b1 => ?_))
 refine aO_ rfl rfl fun b2 => ?_
 refine a_ (e_ rfl) rfl (d_ (b_ rfl (g_ (c_ (a_ (f_ rfl) rfl (S_ (nY_ p pad pcap (by omega) hsm) rfl D_ (fun v _ h => by exact ⟨h.1, trivial⟩) rfl fun _ => ?_))))))
 refine a_ (e_ rfl) rfl (d_ (b_ rfl (g_ (g_ (c_ (a_ (f_ rfl) rfl (C_ (bA_ rfl rfl) rfl fun r1 hr1 => ?_)))))))
 refine d_ (b_ rfl ?_)
 cases r1
 ·
  replace hr1 := bt_ hr1
  have hc : cp_ p = 0 := by omega
  refine B_ rfl (J_ (b_ rfl (g_ (g_ (c_ (a_ (h_ aj_ rfl rfl rfl at_) rfl (a_ (m_ 0 be_ rfl rfl rfl) rfl (a_ (aC_ ao_ rfl) rfl (C_ (bD_ rfl rfl) rfl fun r2 hr2 => ?_)))))))))
  refine d_ (b_ rfl ?_)
  cases r2
  ·
   replace hr2 := of_decide_eq_false hr2
   have hl6 : List.length l ≤ 65536 := by omega
   refine B_ rfl (J_ (b_ rfl (g_ (c_ (a_ (e_ rfl) rfl (d_ (b_ rfl (g_ (g_ ?_)))))))))
   refine c_ (a_ (e_ rfl) rfl (d_ (b_ rfl (ae_ ?_))))
   refine bF_ (ι := {y : Nat × Value × Hp // y.1 ≤ List.length l ∧ (∀ (j : Nat) (s9 : Stp), l[j]? = some s9 → j < y.1 → dH_ p (fcs (List.take j l)) s9 = true) ∧ bE_ 24 6 y.2.1 (List.length (fcs (List.take y.1 l))) (List.flatMap Fc.cells (fcs (List.take y.1 l))) y.2.2}) (fun y => [(0, .slice pad (List.length p) pcap), (4, zp_ b1 0), (5, zp_ b2 0), (6, .int .i64 0), (8, y.1.2.1), (9, .int .i64 (y.1.1 : Int))]) (fun y => ((b2, .cells #[.slice ad (List.length l) cap] 27 (0, 0)) :: ((b1, .cells (Fc.cells f).toArray 24 (0, 0)) :: y.1.2.2))) (fun y => [aW_ pad (List.flatMap Pc.cells p), aW_ ad (List.flatMap Stp.cells l), da_ l]) (fun y => List.length l - y.1.1) ⟨((0 : Nat), (.slice none 0 0), []), by simp, fun j s9 _ h => by omega, (bE_.nil 24 6)⟩ ⟨rfl, rfl, rfl, rfl, rfl, rfl, trivial⟩ (T_ G_ G_) (fun _ _ h => h) ?_
   rintro ⟨⟨i, sv_F, H_F⟩, hi_i, hSt, hr_F⟩
   dsimp only at hi_i hSt hr_F ⊢
   refine g_ (g_ (c_ (a_ (f_ rfl) rfl (a_ (h_ aj_ rfl rfl rfl at_) rfl (a_ (m_ 0 be_ rfl rfl rfl) rfl (a_ (aC_ ao_ rfl) rfl (C_ (as_ rfl rfl) rfl fun r3 hr3 => ?_)))))))
   refine d_ (b_ rfl ?_)
   cases r3
   ·
    replace hr3 := of_decide_eq_false hr3
    have hw1 : bE_ 24 6 sv_F (List.length (fcs l)) (List.flatMap Fc.cells (fcs l)) H_F := by have q := hr_F; rw [List.take_of_length_le (by omega)] at q; exact q
    refine B_ rfl (bd_ rfl (b_ rfl (g_ (g_ ?_))))
    refine aw_ (by kernel_rfl) ?_
    refine I_ 9 [0, 1, 2, 3] (by kernel_rfl) (fun _ a b => ⟨a, b⟩) (l_ rfl (f_ rfl) rfl (l_ rfl (hJ_ hw1 ad_ rfl) rfl ?_))
    refine bf_ rfl (ab_ rfl rfl) rfl fun r4 hr4 => ?_
    refine l_ rfl (f_ rfl) rfl (H_ ?_)
    cases r4
    ·
     replace hr4 := ne_of_beq_false hr4
     have hfl9 := cP_ l
     have hlxl : (Int.toNat ((List.length (fcs l) : Int) - 1)) < List.length (fcs l) := by omega
     obtain ⟨xl, hxl⟩ : ∃ e0, (fcs l)[(Int.toNat ((List.length (fcs l) : Int) - 1))]? = some e0 := ⟨_, List.getElem?_eq_getElem hlxl⟩
     have hmxl : xl ∈ (fcs l) := List.mem_of_getElem? hxl
     refine I_ 0 [4, 5, 6, 7, 8, 9, 10, 11, 12] (by kernel_rfl) (fun _ a b => ⟨a, b⟩) (u_ rfl rfl rfl (f_ rfl) rfl (u_ rfl rfl rfl (f_ rfl) rfl (u_ rfl rfl rfl (hJ_ hw1 ad_ rfl) rfl (u_ rfl rfl rfl (ac_ rfl rfl rfl (aE_ (by omega) (by omega))) rfl (u_ rfl rfl rfl (mE_ hw1 ad_ n_ rfl rfl (by omega) (by omega)) rfl (u_ rfl rfl rfl (mD_ hw1 (O_ aZ_) N_ n_ rfl (Fc.cells_len _) (by decide) (ak_ Fc.cells_len hxl)) rfl (u_ rfl rfl rfl (M_ 1 N_ n_ rfl rfl rfl) rfl ?_)))))))
     refine ai_ rfl rfl rfl (gY_ (p := xl) (q := f) rfl rfl) rfl fun r5 hr5 => ?_
     refine l_ rfl (p_ rfl rfl) rfl (H_ (R_ (by kernel_rfl) (b_ rfl ?_)))
     cases r5
     ·
      replace hr5 := of_decide_eq_false hr5
      refine B_ rfl (J_ (b_ rfl (g_ (c_ (a_ (e_ rfl) rfl (d_ (b_ rfl (y_ ?_))))))))
      exact U_ hU_ ⟨0, .inr (.inr ⟨hc, hl6, .inl ⟨fun j s9 hj => hSt j s9 hj (by have := (List.getElem?_eq_some_iff.1 hj).1; omega), (by obtain ⟨t, ht, e⟩ := ld_ hxl (by omega); exact ⟨t, ht, e.trans (Decidable.not_not.1 hr5)⟩), rfl⟩⟩)⟩ rfl D_ (fun _ _ _ => trivial)
     ·
      replace hr5 := of_decide_eq_true hr5
      refine v_ rfl (g_ (c_ (a_ (e_ rfl) rfl (d_ (b_ rfl (y_ ?_))))))
      exact U_ hU_ ⟨120, .inr (.inr ⟨hc, hl6, .inr ⟨fun z => by obtain ⟨_, t9, h9, h8⟩ := z; obtain ⟨t, ht, e⟩ := ld_ hxl (by omega); rw [ht] at h9; obtain rfl := Option.some.inj h9; exact absurd (e.symm.trans h8) hr5, rfl⟩⟩)⟩ rfl D_ (fun _ _ _ => trivial)
    ·
     replace hr4 := eq_of_beq hr4
     refine I_ 0 [4, 5, 6, 7, 8, 9, 10, 11, 12] (by kernel_rfl) (fun _ a b => ⟨a, b⟩) (t_ rfl rfl rfl rfl rfl (t_ rfl rfl rfl rfl rfl (t_ rfl rfl rfl rfl rfl (t_ rfl rfl rfl rfl rfl (t_ rfl rfl rfl rfl rfl (t_ rfl rfl rfl rfl rfl (t_ rfl rfl rfl rfl rfl (t_ rfl rfl rfl rfl rfl (l_ rfl (A_ rfl rfl) rfl ?_)))))))))
     refine H_ (R_ (by kernel_rfl) (b_ rfl (v_ rfl (g_ (c_ (a_ (e_ rfl) rfl (d_ (b_ rfl (y_ ?_)))))))))
     exact U_ hU_ ⟨120, .inr (.inr ⟨hc, hl6, .inr ⟨fun z => by obtain ⟨_, t9, h9, h8⟩ := z; have := (List.getElem?_eq_some_iff.1 h9).1; have := cP_ l; omega, rfl⟩⟩)⟩ rfl D_ (fun _ _ _ => trivial)
   ·
    replace hr3 := of_decide_eq_true hr3
    have hlx1 : i < List.length l := by omega
    obtain ⟨x1, hx1⟩ : ∃ e0, l[i]? = some e0 := ⟨_, List.getElem?_eq_getElem hlx1⟩
    have hmx1 : x1 ∈ l := List.mem_of_getElem? hx1
    refine v_ rfl (J_ (b_ rfl (g_ (ae_ (g_ (g_ (c_ (a_ (f_ rfl) rfl (a_ (f_ rfl) rfl ?_)))))))))
    refine a_ (h_ aj_ rfl rfl rfl at_) rfl (a_ (m_ 0 be_ rfl rfl rfl) rfl (a_ (f_ rfl) rfl (a_ (ag_ ao_ aD_ rfl rfl (fun v _ h => aH_ (n := 9) Stp.cells_len (by decide) (by exact h.2.1) hx1) (by omega) (by first | omega | (simp; done))) rfl (a_ (aM_ (ad := ad) (us := Stp.cells x1) cH_ aD_ rfl (fun v _ h => by exact h.2.1) (Stp.cells_len _) (ak_ Stp.cells_len hx1)) rfl (X_ (nX_ p pad pcap (fcs (List.take i l)) sv_F H_F hr_F x1 hpl (by rw [cP_, List.length_take]; omega) (hfr x1 hmx1) (mx_ hsf) (hsf x1 hmx1)) rfl (O_ aZ_) (fun v _ h => by exact ⟨h.1, (h.2.2.1 x1 hmx1), trivial⟩) rfl fun r6 hr6 => ?_)))))
    refine a_ (bq_ rfl) rfl (d_ (b_ rfl ?_))
    cases r6
    ·
     refine v_ rfl (bj_ (dR_ (ca_ G_) (gG_ cJ_)) (g_ (c_ (a_ (e_ rfl) rfl (d_ (b_ rfl (y_ ?_)))))))
     exact U_ hU_ ⟨120, ju_ hc hl6 hx1 (by assumption)⟩ rfl D_ (fun _ _ _ => trivial)
    ·
     refine B_ rfl (J_ (b_ rfl (bj_ (dR_ (ca_ G_) (gG_ cJ_)) (c_ (a_ (f_ rfl) rfl (a_ (h_ aj_ rfl rfl rfl at_) rfl (a_ (m_ 0 be_ rfl rfl rfl) rfl (a_ (f_ rfl) rfl (a_ (ag_ ao_ aD_ rfl rfl (fun v _ h => aH_ (n := 9) Stp.cells_len (by decide) (by exact h.2.1) hx1) (by omega) (by first | omega | (simp; done))) rfl ?_)))))))))
     refine a_ (bR_ K_ rfl rfl rfl n_) rfl (a_ (aM_ (ad := ad) (us := Fc.cells (Stp.fact x1)) N_ n_ rfl (fun v _ h => by exact h.2.1) rfl (iP_ 1 (ak_ Stp.cells_len hx1) (Stp.fact_cells x1))) rfl (bk_ ad_ n_ bc_ rfl rfl rfl rfl rfl rfl fun b3 => ?_))
     refine bW_ (news := List.flatMap Fc.cells [(Stp.fact x1)]) jX_ hr_F rfl rfl (O_ (O_ aZ_)) rfl (cz_ 0 rfl) (fun u hu => cn_ Fc.cells_one hu) (by simp only [maxLen]; (first | omega | (rw [cP_, List.length_take]; omega) | (simp only [cP_, List.length_take]; omega))) (by (first | omega | (rw [cP_, List.length_take]; omega) | (simp only [cP_, List.length_take]; omega))) rfl fun sv2 Hr2 hr2 => ?_
     refine bj_ List.perm_append_comm ?_
     have hq2 : bE_ 24 6 sv2 (List.length ((fcs (List.take i l)) ++ [(Stp.fact x1)])) (List.flatMap Fc.cells ((fcs (List.take i l)) ++ [(Stp.fact x1)])) Hr2 := by rw [List.length_append, List.flatMap_append]; exact hr2
     refine a_ (e_ rfl) rfl (d_ (b_ rfl (c_ (a_ (f_ rfl) rfl (a_ (ac_ rfl rfl rfl (aE_ (by omega) (by omega))) rfl (a_ (e_ rfl) rfl (d_ (z_ rfl ?_))))))))
     exact aP_ ⟨(i + 1, sv2, Hr2), hlx1, (fun j s9 hj hji => by rcases Nat.lt_or_ge j i with z | z; exact hSt j s9 hj z; obtain rfl : j = i := (by omega); rw [hx1] at hj; obtain rfl := Option.some.inj hj; assumption), (by have z := hq2; rw [← iB_ hx1] at z; exact z)⟩ (by dsimp only; omega) ⟨rfl, rfl, rfl, rfl, rfl, rfl, trivial⟩ (T_ (O_ G_) (T_ (O_ G_) aZ_)) (fun _ _ h => h)
  ·
   replace hr2 := of_decide_eq_true hr2
   refine v_ rfl (g_ (c_ (a_ (e_ rfl) rfl (d_ (b_ rfl (y_ ?_))))))
   exact U_ hU_ ⟨2, .inr (.inl ⟨by omega, by omega, rfl⟩)⟩ rfl D_ (fun _ _ _ => trivial)
 ·
  replace hr1 := bs_ hr1
  refine v_ rfl (g_ (c_ (a_ (f_ rfl) rfl (a_ (e_ rfl) rfl (d_ (b_ rfl (y_ ?_)))))))
  exact U_ hU_ ⟨(cp_ p), .inl ⟨by omega, rfl⟩⟩ rfl D_ (fun _ _ _ => trivial)
end Go.Proofs.YtaffcjgphlhppaaGreatDoor
namespace Go.Proofs.YtaffcjgphlhppaaGreatDoor
open Go Go.Sx Go.Proofs
attribute [local irreducible] Code.wp wpList wpAnyH
open Go.Vs
theorem checkerChecks_c (p : List Pc) (pad : Option Addr) (pcap : Nat) (hp : p.length ≤ 1099511627744) (hbig : ∀ x ∈ p, x.lim) (f : Fc) (hf : f.lim) (l : List Stp) (ad : Option Addr) (cap : Nat) (hl : l.length ≤ 1256584717424) (hlim : ∀ s ∈ l, s.fact.lim) : Tri Tryz.prog 3 #[.slice pad (List.length p) pcap, Fc.val f, .agg #[.slice ad (List.length l) cap]] [] [aW_ pad (List.flatMap Pc.cells p), aW_ ad (List.flatMap Stp.cells l), da_ l, jA_, ha_] (fun _ : Unit => .bool true) (fun _ => []) (fun _ => []) := by
 refine V_ Tryz.func3 rfl rfl Tryz.ntmps3 rfl fun v0 => ?_
 obtain ⟨hfa, hfb, hfc⟩ := hf
 refine g_ (c_ (aO_ rfl rfl fun b1 => ?_))
 refine aO_ rfl rfl fun b2 => ?_
 refine a_ (e_ rfl) rfl (d_ (b_ rfl (g_ (g_ (c_ (S_ (nH_) rfl D_ (fun v _ h => by exact ⟨h.2.2.2.1, h.2.2.2.2.1, trivial⟩) rfl fun _ => ?_))))))
 refine a_ (bq_ rfl) rfl (d_ (b_ rfl (B_ rfl (J_ (b_ rfl (g_ (g_ (c_ (a_ (f_ rfl) rfl ?_)))))))))
 refine S_ (pe_ p pad pcap hp hbig) rfl D_ (fun v _ h => by exact ⟨h.1, trivial⟩) rfl fun ⟨sb, hsb⟩ => ?_
 dsimp only
 refine a_ (bq_ rfl) rfl (a_ (f_ rfl) rfl ?_)
 cases sb
 ·
  refine j_ rfl rfl rfl rfl (j_ rfl rfl rfl rfl (j_ rfl rfl rfl rfl (a_ (A_ rfl rfl) rfl (a_ (f_ rfl) rfl (j_ rfl rfl rfl rfl (j_ rfl rfl rfl rfl (j_ rfl rfl rfl rfl (j_ rfl rfl rfl rfl (j_ rfl rfl rfl rfl ?_)))))))))
  refine j_ rfl rfl rfl rfl (j_ rfl rfl rfl rfl (j_ rfl rfl rfl rfl (j_ rfl rfl rfl rfl (j_ rfl rfl rfl rfl (j_ rfl rfl rfl rfl (j_ rfl rfl rfl rfl (a_ (A_ rfl rfl) rfl (d_ (b_ rfl ?_)))))))))
  refine v_ rfl (g_ (c_ (a_ (e_ rfl) rfl (d_ (b_ rfl (y_ ?_))))))
  exact U_ Tryz.results3 () rfl D_ (fun _ _ _ => trivial)
 ·
  obtain ⟨hp60, hsm⟩ := hsb rfl
  refine i_ rfl rfl (a_ (M_ 0 dX_ ck_ rfl rfl rfl) rfl (i_ rfl rfl (S_ (pK_ l ad cap hl hlim) rfl D_ (fun v _ h => by exact ⟨h.2.1, h.2.2.1, trivial⟩) rfl fun ⟨fw, hfw⟩ => ?_)))
  dsimp only
  refine i_ rfl rfl (a_ (bq_ rfl) rfl (a_ (p_ rfl rfl) rfl (a_ (f_ rfl) rfl ?_)))
  cases fw
  ·
   refine j_ rfl rfl rfl rfl (j_ rfl rfl rfl rfl (j_ rfl rfl rfl rfl (j_ rfl rfl rfl rfl (j_ rfl rfl rfl rfl (j_ rfl rfl rfl rfl (j_ rfl rfl rfl rfl (j_ rfl rfl rfl rfl (j_ rfl rfl rfl rfl (j_ rfl rfl rfl rfl ?_)))))))))
   refine j_ rfl rfl rfl rfl (j_ rfl rfl rfl rfl (a_ (A_ rfl rfl) rfl (d_ (b_ rfl (v_ rfl (g_ (c_ (a_ (e_ rfl) rfl (d_ ?_)))))))))
   refine b_ rfl (y_ ?_)
   exact U_ Tryz.results3 () rfl D_ (fun _ _ _ => trivial)
  ·
   obtain ⟨hl60, hfew⟩ := hfw rfl
   have hfr : ∀ s ∈ l, s.frm.length ≤ 1000000 := fun s hs => by have := (hfew s hs).1; omega
   have hsml : ∀ s ∈ l, s.fact.sml := fun s hs => (hfew s hs).sml
   refine i_ rfl rfl (a_ (h_ k_ rfl rfl rfl o_) rfl (i_ rfl rfl (a_ (m_ 1 x_ rfl rfl rfl) rfl (i_ rfl rfl (a_ (bu_ Q_ rfl) rfl (i_ rfl rfl (a_ (h_ k_ rfl rfl rfl o_) rfl (i_ rfl rfl (a_ (m_ 1 x_ rfl rfl rfl) rfl ?_)))))))))
   refine i_ rfl rfl (a_ (bu_ Q_ rfl) rfl (i_ rfl rfl (a_ (ac_ rfl rfl rfl (aE_ (by omega) (by omega))) rfl (i_ rfl rfl (a_ (h_ k_ rfl rfl rfl o_) rfl (i_ rfl rfl (a_ (m_ 1 x_ rfl rfl rfl) rfl (i_ rfl rfl (a_ (bu_ Q_ rfl) rfl ?_)))))))))
   refine i_ rfl rfl (a_ (ac_ rfl rfl rfl (aE_ (by omega) (by omega))) rfl (i_ rfl rfl (C_ (bD_ rfl rfl) rfl fun r1 hr1 => ?_)))
   refine a_ (p_ rfl rfl) rfl (d_ (b_ rfl ?_))
   cases r1
   ·
    replace hr1 := of_decide_eq_false hr1
    refine B_ rfl (J_ (b_ rfl (g_ ?_)))
    refine aw_ (by kernel_rfl) ?_
    refine I_ 4 [0, 1, 2, 4, 5, 6] (by kernel_rfl) (fun _ a b => ⟨a, b⟩) (l_ rfl (f_ rfl) rfl (l_ rfl (M_ 1 N_ n_ rfl rfl rfl) rfl (l_ rfl (M_ 0 dX_ ck_ rfl rfl rfl) rfl (l_ rfl (f_ rfl) rfl (l_ rfl (M_ 1 N_ n_ rfl rfl rfl) rfl (l_ rfl (M_ 0 dX_ ck_ rfl rfl rfl) rfl (H_ (P_ 3 rfl (by kernel_rfl) (S_ (hm_ p pad pcap f l ad cap (by omega) hsm (by omega) hfr hsml) rfl D_ (fun v _ h => by exact ⟨h.1, h.2.1, h.2.2.1, h.2.2.2.1, trivial⟩) rfl fun ⟨e1, hC1⟩ => ?_)))))))))
    dsimp only
    try dsimp only at hC1
    refine d_ (z_ rfl (F_ (fun _ a b => ⟨a, b⟩) (P_ 7 rfl (by kernel_rfl) (S_ (lw_ p pad pcap f l ad cap (by omega) hsm (by omega) hfr hsml) rfl D_ (fun v _ h => by exact ⟨h.1, h.2.1, h.2.2.1, trivial⟩) rfl fun ⟨e2, hC2⟩ => ?_))))
    dsimp only
    try dsimp only at hC2
    have hee := hl_ hC1 hC2
    subst hee
    refine d_ (z_ rfl (F_ (fun _ a b => ⟨a, b⟩) (I_ 0 [8, 9] (by kernel_rfl) (fun _ a b => ⟨a, b⟩) ?_)))
    refine bf_ rfl (ab_ rfl rfl) rfl fun r2 hr2 => ?_
    refine l_ rfl (e_ rfl) rfl (H_ (R_ (by kernel_rfl) (b_ rfl (y_ ?_))))
    exact U_ Tryz.results3 () (q_ rfl (by rw [← hr2]; simp)) D_ (fun _ _ _ => trivial)
   ·
    replace hr1 := of_decide_eq_true hr1
    refine v_ rfl (g_ (c_ (a_ (e_ rfl) rfl (d_ (b_ rfl (y_ ?_))))))
    exact U_ Tryz.results3 () rfl D_ (fun _ _ _ => trivial)
end Go.Proofs.YtaffcjgphlhppaaGreatDoor
namespace Go.Proofs.YtaffcjgphlhppaaGreatDoor
open Go Go.Sx Go.Proofs
attribute [local irreducible] Code.wp wpList wpAnyH
open Go.Vs Go.ChangeShapes Go.WideShapes Go.ChangeAt Go.RowKit
structure TysR (P : Program) (tI tS tF tIs tX tXs tQ tU tUs : TypeId) : Prop where
  f : ∃ fs, P.underlying tF = some (.struct fs) ∧ fs.toList.map (fun f => (f.type, f.offset)) = [(tI, 0), (tS, 1), (tS, 2), (tS, 3), (tI, 4), (tI, 5)]
  cf : P.cellsOf tF = 6
  x : ∃ fs, P.underlying tX = some (.struct fs) ∧ fs.toList.map (fun f => (f.type, f.offset)) = [(tI, 0), (tF, 1), (tI, 7), (tIs, 8)]
  xs : P.underlying tXs = some (.slice tX)
  is : P.underlying tIs = some (.slice tI)
  q : ∃ fs, P.underlying tQ = some (.struct fs) ∧ fs.toList.map (fun f => (f.type, f.offset)) = [(tXs, 0)]
  u : P.underlying tU = some (.int .u8)
  us : P.underlying tUs = some (.slice tU)
  cis : P.cellsOf tIs = 1
  cx : P.cellsOf tX = 9
  cxs : P.cellsOf tXs = 1
  cq : P.cellsOf tQ = 1
  cu : P.cellsOf tU = 1
  bi : P.bytesOf tI = 8
  bx : P.bytesOf tX = 112
  bu : P.bytesOf tU = 1
structure frd (f : Fc) : Prop where
  lim : f.lim
  lo : I64 f.lo
  hi : I64 f.hi
structure srd (W : World) (s : Stp) : Prop where
  row : bX_ (vw W) s.ad (s.frm.flatMap df_)
  fact : frd s.fact
  le : s.frm.length ≤ s.cap
  mx : s.cap ≤ 17592186044416
section
variable {H : Type} {enc : TypeId × Value → H} {P : Program} {W : World} {tI tB tS tSs tC tCs tA tAs tP tPs tF tIs tX tXs tQ tU tUs : TypeId} (X : Tys P tI tB tS tSs tC tCs tA tAs tP tPs) (Y : TysR P tI tS tF tIs tX tXs tQ tU tUs)
include X Y
theorem nO_ {n : Nat} {cs : List Value} {x : DataW H × List MemPlace} (h : DataW.trod enc P W 0 (fun _ => true) true n tF cs = some x) (hw : wok (x.1.weights P tF)) : ∃ f : Fc, cs = f.cells ∧ frd f := by
  obtain ⟨fs, hu, hL⟩ := Y.f
  obtain ⟨xs, m, hn, hx, hl, hlen, hf, hwe⟩ := fields_of hu hL h
  rw [hwe] at hw
  match xs, hlen with
  | [x0, x1, x2, x3, x4, x5], _ =>
  simp only [List.map_cons, List.map_nil, DataW.weightsEach, dF_] at hw
  have f0 := hf 0 _ rfl; have f1 := hf 1 _ rfl; have f2 := hf 2 _ rfl; have f3 := hf 3 _ rfl; have f4 := hf 4 _ rfl; have f5 := hf 5 _ rfl
  simp only [List.getElem?_cons_zero, List.getElem?_cons_succ, X.ci, X.cs1] at f0 f1 f2 f3 f4 f5
  obtain ⟨k, e0, _, _⟩ := eT_ X f0
  obtain ⟨a, e1, n1⟩ := Go.Vs.str_of X f1 hw.2.1
  obtain ⟨b, e2, n2⟩ := Go.Vs.str_of X f2 hw.2.2.1
  obtain ⟨r, e3, n3⟩ := Go.Vs.str_of X f3 hw.2.2.2.1
  obtain ⟨lo, e4, l1, l2⟩ := eT_ X f4
  obtain ⟨hi, e5, l3, l4⟩ := eT_ X f5
  rw [Y.cf] at hl
  match cs, hl with
  | [c0, c1, c2, c3, c4, c5], _ =>
  simp only [List.drop_succ_cons, List.drop_zero, List.take_succ_cons, List.take_zero, List.cons.injEq, and_true] at e0 e1 e2 e3 e4 e5
  subst e0 e1 e2 e3 e4 e5
  exact ⟨⟨k, a, b, r, lo, hi⟩, rfl, ⟨n1, n2, n3⟩, ⟨l1, l2⟩, ⟨l3, l4⟩⟩
theorem nN_ {n : Nat} {cs : List Value} {x : DataW H × List MemPlace} (h : DataW.trod enc P W 0 (fun _ => true) true n tIs cs = some x) (hw : wok (x.1.weights P tIs)) :
    ∃ (l : List Int) (ad : Option Addr) (cap : Nat), cs = [.slice ad l.length cap] ∧ bX_ (vw W) ad (l.flatMap df_) ∧ l.length ≤ cap ∧ cap ≤ 17592186044416 := by
  obtain ⟨l, ad, cap, e, hrow, hq, hlc, hcap⟩ := jE_ df_ 1 bL_ (by decide) (fun y : Int => -9223372036854775808 ≤ y ∧ y ≤ 9223372036854775807) Y.is X.ci (fun m' _ cs' y hy _ => eT_ X hy) h hw
  rw [Y.bi] at hcap; simp only [reachBytes] at hcap
  exact ⟨l, ad, cap, e, hrow, hlc, by omega⟩
theorem pg_ {n : Nat} {cs : List Value} {x : DataW H × List MemPlace} (h : DataW.trod enc P W 0 (fun _ => true) true n tX cs = some x) (hw : wok (x.1.weights P tX)) : ∃ s : Stp, cs = s.cells ∧ srd W s := by
  obtain ⟨fs, hu, hL⟩ := Y.x
  obtain ⟨xs, m, hn, hx, hl, hlen, hf, hwe⟩ := fields_of hu hL h
  rw [hwe] at hw
  match xs, hlen with
  | [x0, x1, x2, x3], _ =>
  simp only [List.map_cons, List.map_nil, DataW.weightsEach, dF_] at hw
  have f0 := hf 0 _ rfl; have f1 := hf 1 _ rfl; have f2 := hf 2 _ rfl; have f3 := hf 3 _ rfl
  simp only [List.getElem?_cons_zero, List.getElem?_cons_succ, X.ci, Y.cf, Y.cis] at f0 f1 f2 f3
  obtain ⟨k, e0, _, _⟩ := eT_ X f0
  obtain ⟨f, e1, bf⟩ := nO_ X Y f1 hw.2.1
  obtain ⟨pc, e2, _, _⟩ := eT_ X f2
  obtain ⟨l, ad, cap, e3, r3, l3, m3⟩ := nN_ X Y f3 hw.2.2.2.1
  rw [Y.cx] at hl
  match cs, hl with
  | [c0, c1, c2, c3, c4, c5, c6, c7, c8], _ =>
  simp only [List.drop_succ_cons, List.drop_zero, List.take_succ_cons, List.take_zero, List.cons.injEq, and_true, Fc.cells] at e0 e1 e2 e3
  refine ⟨⟨k, f, pc, ad, cap, l⟩, ?_, r3, bf, l3, m3⟩
  obtain ⟨a1, a2, a3, a4, a5, a6⟩ := e1
  rw [e0, a1, a2, a3, a4, a5, a6, e2, e3]; rfl
theorem nM_ {n : Nat} {cs : List Value} {x : DataW H × List MemPlace} (h : DataW.trod enc P W 0 (fun _ => true) true n tXs cs = some x) (hw : wok (x.1.weights P tXs)) :
    ∃ (l : List Stp) (ad : Option Addr) (cap : Nat), cs = [.slice ad l.length cap] ∧ bX_ (vw W) ad (l.flatMap Stp.cells) ∧ (∀ y ∈ l, srd W y) ∧ l.length ≤ cap ∧ cap ≤ 1256584717424 := by
  have : Inhabited Stp := ⟨⟨0, zfc, 0, none, 0, []⟩⟩
  obtain ⟨l, ad, cap, e, hrow, hq, hlc, hcap⟩ := jE_ Stp.cells 9 Stp.cells_len (by decide) (srd W) Y.xs Y.cx (fun m' _ cs' y hy hwy => pg_ X Y hy hwy) h hw
  rw [Y.bx] at hcap; simp only [reachBytes] at hcap
  exact ⟨l, ad, cap, e, hrow, hq, hlc, by omega⟩
variable {base : Nat} {v : Value} {d : DataW H} {ps : List MemPlace}
theorem arg_fc (hval : Value.okWide P W .any base tF v) (h : DataW.Trod enc P W 0 (fun _ => true) true tF v d ps) (hw : wok (d.weights P tF)) : ∃ f : Fc, v = f.val ∧ frd f := by
  obtain ⟨fs, hu, _⟩ := Y.f
  unfold Value.okWide at hval
  rw [hu] at hval
  obtain ⟨cs, rfl, _⟩ := hval
  obtain ⟨n, hn⟩ := h
  obtain ⟨f, e, h1⟩ := nO_ X Y hn hw
  refine ⟨f, ?_, h1⟩
  simp only [Value.cells] at e
  rw [Fc.val, ← e]
theorem pT_ (hval : Value.okWide P W .any base tQ v) (h : DataW.Trod enc P W 0 (fun _ => true) true tQ v d ps) (hw : wok (d.weights P tQ)) :
    ∃ (l : List Stp) (ad : Option Addr) (cap : Nat), v = .agg #[.slice ad l.length cap] ∧ bX_ (vw W) ad (l.flatMap Stp.cells) ∧ (∀ y ∈ l, srd W y) ∧ l.length ≤ cap ∧ cap ≤ 1256584717424 := by
  obtain ⟨fs, hu, hL⟩ := Y.q
  unfold Value.okWide at hval
  rw [hu] at hval
  obtain ⟨cs, rfl, _⟩ := hval
  obtain ⟨n, hn⟩ := h
  simp only [Value.cells] at hn
  obtain ⟨xs, m, hn2, hx, hl, hlen, hf, hwe⟩ := fields_of hu hL hn
  rw [hwe] at hw
  match xs, hlen with
  | [x0], _ =>
  simp only [List.map_cons, List.map_nil, DataW.weightsEach, dF_] at hw
  have f0 := hf 0 _ rfl
  simp only [List.getElem?_cons_zero, Y.cxs] at f0
  obtain ⟨l, ad, cap, e0, h1⟩ := nM_ X Y f0 hw.1
  rw [Y.cq] at hl
  refine ⟨l, ad, cap, ?_, h1⟩
  rw [List.drop_zero, List.take_of_length_le (by omega)] at e0
  rw [← e0]
end
theorem nE_ {H : Type} {enc : TypeId × Value → H} {P : Program} {W : World} {ts te : TypeId} (hs : P.underlying ts = some (.slice te)) {n : Nat} {ad : Option Addr} {len cap : Nat} {x : DataW H × List MemPlace} (h : DataW.trod enc P W 0 (fun _ => true) true n ts [.slice ad len cap] = some x) : ad = none → cap = 0 := by
  intro e
  subst e
  rcases DataW.trod_slice hs h with ⟨h0, _⟩ | ⟨a, l, c, elems, rest, m, hn, h0, _⟩
  · cases h0; rfl
  · cases h0
section
variable {H : Type} {enc : TypeId × Value → H} {P : Program} {W : World} {tI tB tS tSs tC tCs tA tAs tP tPs : TypeId} (X : Tys P tI tB tS tSs tC tCs tA tAs tP tPs) {base : Nat} {v : Value} {d : DataW H} {ps : List MemPlace}
include X
theorem pU_ (hval : Value.okWide P W .any base tPs v) (h : DataW.Trod enc P W 0 (fun _ => true) true tPs v d ps) (hw : wok (d.weights P tPs)) :
    ∃ (l : List Pc) (ad : Option Addr) (cap : Nat), v = .slice ad l.length cap ∧ bX_ (vw W) ad (l.flatMap Pc.cells) ∧ (∀ y ∈ l, y.lim) ∧ l.length ≤ cap ∧ cap ≤ 1099511627744 ∧ (ad = none → cap = 0) := by
  obtain ⟨a, len, cap, rfl⟩ := okWide_slice X.ps hval
  obtain ⟨n, hn⟩ := h
  obtain ⟨l, ad, cap', e, h1, h2, h3, h4⟩ := pcs_of X hn hw
  have z := nE_ X.ps (e ▸ hn)
  simp only [Value.cells, List.cons.injEq, and_true] at e
  exact ⟨l, ad, cap', e, h1, fun y hy => by obtain ⟨q1, q2, q3, q4, q5, q6⟩ := h2 y hy; exact ⟨q1, q2, q3, q4, q5, q6⟩, h3, h4, z⟩
end
end Go.Proofs.YtaffcjgphlhppaaGreatDoor
namespace Go.Proofs.YtaffcjgphlhppaaGreatDoor
open Go Go.Sx Go.Proofs
attribute [local irreducible] Code.wp wpList wpAnyH
open Go.Vs Go.ChangeShapes Go.WideShapes Go.ChangeAt Go.RowKit
theorem own : ownKnob Tryz.prog.godebug = none := by kernel_rfl
def eP_ : List (String × DataW Unit) := [("math/bits.deBruijn32tab", Rows.laid_math_bits_deBruijn32tab), ("math/bits.deBruijn64tab", Rows.laid_math_bits_deBruijn64tab), ("internal/strconv.uint64pow10", Rows.laid_internal_strconv_uint64pow10), ("unicode/utf8.acceptRanges", Rows.laid_unicode_utf8_acceptRanges), ("veilstone/terms.needs", Rows.laid_veilstone_terms_needs), ("veilstone/terms.uses", Rows.laid_veilstone_terms_uses), ("veilstone/normal.uses", Rows.laid_veilstone_normal_uses), ("unicode/utf8.first", Rows.laid_unicode_utf8_first)]
theorem op_ : Kids Tryz.prog (· < Tryz.prog.types.size) := kids_rows (by kernel_rfl) (by kernel_rfl)
theorem full : ∀ t e, t < Tryz.prog.types.size → Tryz.prog.underlying t = some (.slice e) → 0 < Tryz.prog.cellsOf e := slices_full_of _ (by kernel_rfl)
theorem il_ : Tryz.prog.types.size = 305 := by kernel_rfl
theorem tysX : Tys Tryz.prog 3 4 9 46 56 54 58 53 73 22 where
  i := cc_
  b := Tryz.underlying4
  s := bT_
  ss := Tryz.underlying46
  c := ⟨_, Tryz.underlying56, rfl⟩
  cs := Tryz.underlying54
  a := ⟨_, Tryz.underlying58, rfl⟩
  axs := Tryz.underlying53
  p := ⟨_, Tryz.underlying73, rfl⟩
  ps := Tryz.underlying22
  ci := by kernel_rfl
  cb := by kernel_rfl
  cs1 := by kernel_rfl
  css := by kernel_rfl
  cc := by kernel_rfl
  ccs := by kernel_rfl
  ca := by kernel_rfl
  cp := by kernel_rfl
  bs := by kernel_rfl
  bc := by kernel_rfl
  ba := by kernel_rfl
  bp := by kernel_rfl
theorem hA_ {W : World} (h : laidMetH Tryz.prog eP_ W) : ∃ T fz, W.heap[2]? = some (.cells (dV_ (H := Unit) Rows.laid_veilstone_terms_needs).toArray T fz) := by
  rw [MakeChecks.laidMetH_plain _ _ _ (by kernel_rfl)] at h
  exact gx_ op_ (name := "veilstone/terms.needs") h (by simp [eP_]) (g := 2) (t := 216) (by kernel_rfl) (by kernel_rfl) (by rw [il_]; decide) (m := 4) (by kernel_rfl)
theorem hO_ {W : World} (h : laidMetH Tryz.prog eP_ W) : ∃ T fz, W.heap[0]? = some (.cells (dV_ (H := Unit) Rows.laid_veilstone_terms_uses).toArray T fz) := by
  rw [MakeChecks.laidMetH_plain _ _ _ (by kernel_rfl)] at h
  exact gx_ op_ (name := "veilstone/terms.uses") h (by simp [eP_]) (g := 0) (t := 136) (by kernel_rfl) (by kernel_rfl) (by rw [il_]; decide) (m := 4) (by kernel_rfl)
theorem hB_ {W : World} (h : laidMetH Tryz.prog eP_ W) : ∃ T fz, W.heap[1]? = some (.cells (dV_ (H := Unit) Rows.laid_veilstone_normal_uses).toArray T fz) := by
  rw [MakeChecks.laidMetH_plain _ _ _ (by kernel_rfl)] at h
  exact gx_ op_ (name := "veilstone/normal.uses") h (by simp [eP_]) (g := 1) (t := 151) (by kernel_rfl) (by kernel_rfl) (by rw [il_]; decide) (m := 4) (by kernel_rfl)
theorem eX_ {W : World} (h : laidMetH Tryz.prog eP_ W) : ∃ T fz, W.heap[6]? = some (.cells (dV_ (H := Unit) Rows.laid_internal_strconv_uint64pow10).toArray T fz) := by
  rw [MakeChecks.laidMetH_plain _ _ _ (by kernel_rfl)] at h
  exact gx_ op_ (name := "internal/strconv.uint64pow10") h (by simp [eP_]) (g := 6) (t := 289) (by kernel_rfl) (by kernel_rfl) (by rw [il_]; decide) (m := 4) (by kernel_rfl)
theorem jF_ {W : World} {g : Nat} {l : List Value} {d : List Value} (h : ∃ T fz, W.heap[g]? = some (.cells l.toArray T fz)) (e : l = d) : bX_ (vw W) (some ⟨g, 0, none⟩) d := by
  obtain ⟨T, fz, h⟩ := h
  subst e
  exact .inr ⟨g, 0, _, T, fz, rfl, (Array.getElem?_eq_some_iff.1 h).1, h, fun j x hj => by rw [Nat.zero_add]; simpa using hj⟩
theorem mb_ {W : World} (h : laidMetH Tryz.prog eP_ W) : ha_.p (vw W) := by
  refine ⟨jF_ (hA_ h) (by kernel_rfl), jF_ (hO_ h) (by kernel_rfl), jF_ (hB_ h) (by kernel_rfl), ?_⟩
  obtain ⟨T, fz, h2⟩ := eX_ h
  refine ⟨trivial, (Array.getElem?_eq_some_iff.1 h2).1, T, fz, ?_⟩
  rw [show (Lib.pow10Tab.map fun z => Value.int .u64 z) = dV_ (H := Unit) Rows.laid_internal_strconv_uint64pow10 by kernel_rfl]
  exact h2
theorem oW_ {W : World} (h : laidMetH Tryz.prog eP_ W) : jA_.p (vw W) := (mb_ h).2.2.1
theorem tysR : TysR Tryz.prog 3 9 24 34 36 25 27 5 39 where
  f := ⟨_, Tryz.underlying24, rfl⟩
  cf := by kernel_rfl
  x := ⟨_, Tryz.underlying36, rfl⟩
  xs := Tryz.underlying25
  is := Tryz.underlying34
  q := ⟨_, Tryz.underlying27, rfl⟩
  u := kk_
  us := iN_
  cis := by kernel_rfl
  cx := by kernel_rfl
  cxs := by kernel_rfl
  cq := by kernel_rfl
  cu := by kernel_rfl
  bi := by kernel_rfl
  bx := by kernel_rfl
  bu := by kernel_rfl
end Go.Proofs.YtaffcjgphlhppaaGreatDoor
namespace Go.Proofs.YtaffcjgphlhppaaGreatDoor
open Go Go.Sx Go.Proofs
attribute [local irreducible] Code.wp wpList wpAnyH
open Go.Vs
structure NewE where
  g : Nat
  pb : Nat
  kb : Nat
  ab : Nat
  ub : Nat
  ob : Nat
  ib : Nat
  rb : Nat
  sb : Nat
  fb : Nat
  lv : Value
  hm : Hp
  hl : Hp
def NewE.ok (ps : List Pc) (y : NewE) : Prop := iK_ Ky.val Pc.cells 73 10 (pmOf ps) y.pb y.hm ∧ bE_ 9 1 y.lv (List.length (mq_ ps)) (List.flatMap dx_ (mq_ ps)) y.hl
def NewE.own (y : NewE) : Hp := (y.g, .cells #[.map (some y.pb), y.lv, .map (some y.kb), .nilFunc, .map (some y.ab), .map (some y.ub), .map (some y.ob), .map (some y.ib), .map (some y.rb), .map (some y.sb), .map (some y.fb)] 111 (0, 0)) :: (y.kb, .map #[] 0) :: (y.ab, .map #[] 0) :: (y.ub, .map #[] 0) :: (y.ob, .map #[] 0) :: (y.ib, .map #[] 0) :: (y.rb, .map #[] 0) :: (y.sb, .map #[] 0) :: (y.fb, .map #[] 0) :: (y.hm ++ y.hl)
end Go.Proofs.YtaffcjgphlhppaaGreatDoor
