/-
  Part of the proof of the law CheckerBytes over this seat: the small logic, the data, the contracts of functions (no condition).
-/
import Derived.Test.YtaffcjgphlhppaaGreatDoorQCheckerBytes8
set_option linter.unusedVariables false
set_option linter.unusedSimpArgs false
set_option linter.unusedSectionVars false
namespace Go.Proofs.YtaffcjgphlhppaaGreatDoor
open Go Go.Sx Go.Proofs
attribute [local irreducible] Code.wp wpList wpAnyH
open Go.Vs
set_option maxHeartbeats 1000000 in
theorem oi_ (kn : Str → Bool) (q : List Str) (hkn : ∀ s, kn s = true ↔ s ∈ q) (es : Array MapEntry) (ec : Nat) (hE : SetE str es q) (vb ab : Nat) (pv fv : Value) (x : Pc) (f ga gb : Fc) (lad : Option Addr) (lcap : Nat) (wg : wf2 ga = true) (wh : wf2 gb = true) (wf : wf2 f = true) : TriX Tryz.prog 141 #[.agg #[zp_ vb 0, .int .i64 (Fc.kind f), str (Fc.a f), str (Fc.b f), str (Fc.r f), .int .i64 (Fc.lo f), .int .i64 (Fc.hi f), .slice lad (List.length [ga, gb]) lcap, .int .i64 (Pc.kind x), str (Pc.a x), str (Pc.b x), str (Pc.c x), str (Pc.r x), str (Pc.s x), str (Pc.t x), .int .i64 (Pc.lo x), .int .i64 (Pc.hi x), .int .i64 (Pc.frm x)]] [] [cp_ vb (.cells (dc_ pv ab fv).toArray 83 (0, 0)), cp_ ab (.map es ec), aY_ lad (List.flatMap Fc.cells [ga, gb])] (fun _ : Unit => .bool (kU_ kn x f ga gb)) (fun _ => []) (fun _ => []) (kU_ kn x f ga gb = false) := by
 refine bq_ Tryz.func141 rfl rfl Tryz.ntmps141 rfl fun v0 => ?_
 refine g_ (c_ (aM_ rfl rfl fun b1 => ?_))
 refine a_ (e_ rfl) rfl (d_ (b_ rfl (g_ ?_)))
 refine aW_ (by kernel_rfl) ?_
 refine P_ 9 [0, 1, 2, 3, 5, 6, 7, 8] (by kernel_rfl) (fun _ a b => ⟨a, b⟩) (m_ rfl (M_ 0 jQ_ hM_ rfl rfl rfl) rfl (m_ rfl (h_ j_ rfl rfl rfl l_) rfl (m_ rfl (h_ o_ rfl rfl rfl y_) rfl (m_ rfl (n_ 0 H_ rfl rfl rfl) rfl (m_ rfl (M_ 0 jQ_ hM_ rfl rfl rfl) rfl (m_ rfl (h_ j_ rfl rfl rfl l_) rfl (m_ rfl (h_ o_ rfl rfl rfl y_) rfl (m_ rfl (n_ 0 H_ rfl rfl rfl) rfl (O_ ?_)))))))))
 refine cm_ 4 14 rfl rfl (by kernel_rfl) ?_ ?_
 ·
  refine ao_ (dW_ (Fc.r f) kn q hkn es ec hE vb ab pv fv x f ga gb lad lcap) rfl x_ (fun v _ h => by exact ⟨h.1, h.2.1, h.2.2.1, trivial⟩) rfl (fun hb => cA_ ((by rw [Bool.eq_false_iff]; intro hq; exact hb ((da_ wf wg wh).1 hq).1))) fun ⟨_, hsp0⟩ => ?_
  try dsimp only
  refine d_ (p_ rfl (D_ (fun _ a b => ⟨a, b⟩) ?_))
  refine cm_ 9 14 rfl rfl (by kernel_rfl) ?_ ?_
  ·
   refine ao_ (cx_ (Fc.r f) kn q hkn es ec hE vb ab pv fv x f ga gb lad lcap) rfl x_ (fun v _ h => by exact ⟨h.1, h.2.1, h.2.2.1, trivial⟩) rfl (fun hb => cA_ ((by rw [Bool.eq_false_iff]; intro hq; exact hb ((da_ wf wg wh).1 hq).2.1))) fun ⟨_, hsp1⟩ => ?_
   try dsimp only
   refine d_ (p_ rfl (D_ (fun _ a b => ⟨a, b⟩) ?_))
   refine cm_ 10 14 rfl rfl (by kernel_rfl) ?_ ?_
   ·
    refine K_ (gx_ (Fc.lo ga, Fc.hi ga) (Fc.lo gb, Fc.hi gb) (dC_ wg (dp_ hsp0).1) (dC_ wh (dp_ hsp1).1)) rfl x_ (fun _ _ _ => by exact trivial) rfl fun ⟨⟨⟨mlo, mhi⟩, me⟩, hmv⟩ => ?_
    dsimp only
    refine d_ (p_ rfl (D_ (fun _ a b => ⟨a, b⟩) (P_ 3 [11, 12, 13] (by kernel_rfl) (fun _ a b => ⟨a, b⟩) (m_ rfl (f_ rfl) rfl (m_ rfl (V_ rfl rfl) rfl (m_ rfl (V_ rfl rfl) rfl (O_ (L_ 14 rfl (by kernel_rfl) (Z_ at_ rfl fun b2 => ?_)))))))))
    refine d_ (p_ rfl (D_ (fun _ a b => ⟨a.tail, b⟩) (L_ 15 rfl (by kernel_rfl) (Q_ 0 ad_ rfl rfl rfl rfl rfl rfl (d_ (p_ rfl (D_ (fun _ a b => ⟨a.tail, b⟩) (P_ 0 [16] (by kernel_rfl) (fun _ a b => ⟨a.tail, b⟩) (m_ rfl (e_ rfl) rfl ?_)))))))))
    refine O_ (T_ (by kernel_rfl) (b_ rfl (g_ ?_)))
    refine aW_ (by kernel_rfl) ?_
    refine P_ 16 [0, 1, 2] (by kernel_rfl) (fun _ a b => ⟨a, b⟩) (m_ rfl (f_ rfl) rfl ?_)
    refine bJ_ rfl (aG_ rfl rfl) rfl fun r1 hr1 => ?_
    refine m_ rfl (f_ rfl) rfl (O_ ?_)
    cases r1
    ·
     replace hr1 := ne_of_beq_false hr1
     refine P_ 0 [3, 4, 5, 6, 7, 8, 9, 10, 11, 12, 13, 14, 15, 16, 17, 18] (by kernel_rfl) (fun _ a b => ⟨a, b⟩) (z_ rfl rfl rfl rfl rfl (z_ rfl rfl rfl rfl rfl (z_ rfl rfl rfl rfl rfl (z_ rfl rfl rfl rfl rfl (z_ rfl rfl rfl rfl rfl (z_ rfl rfl rfl rfl rfl (z_ rfl rfl rfl rfl rfl (z_ rfl rfl rfl rfl rfl (z_ rfl rfl rfl rfl rfl ?_)))))))))
     refine z_ rfl rfl rfl rfl rfl (z_ rfl rfl rfl rfl rfl (z_ rfl rfl rfl rfl rfl (z_ rfl rfl rfl rfl rfl (z_ rfl rfl rfl rfl rfl (m_ rfl (t_ rfl rfl) rfl (m_ rfl (e_ rfl) rfl (O_ (T_ (by kernel_rfl) (b_ rfl ?_)))))))))
     refine u_ ?_
     refine ci_ ?_
     have hres : false = true ↔ ga = am_ (Fc.a f) (Fc.r f) (Fc.lo ga) (Fc.hi ga) ∧ gb = am_ (Fc.a f) (Fc.r f) (Fc.lo gb) (Fc.hi gb) ∧ max (Fc.lo ga) (Fc.lo gb) ≤ min (Fc.hi ga) (Fc.hi gb) ∧ f = am_ (Fc.a f) (Fc.r f) (max (Fc.lo ga) (Fc.lo gb)) (min (Fc.hi ga) (Fc.hi gb)) := by
      refine Iff.trans ?_ (and_iff_right hsp0).symm; refine Iff.trans ?_ (and_iff_right hsp1).symm; clear hsp0 hsp1; unfold ez_ at hmv; dsimp only at hmv; split at hmv <;> simp only [Prod.mk.injEq] at hmv <;> obtain ⟨⟨rfl, rfl⟩, rfl⟩ := hmv <;> (first | (simp_all; done) | (exfalso; omega; done) | exact ⟨fun hq => by simp_all, fun hq => absurd hq.1 (by first | assumption | omega)⟩)
     exact Y_ ed_ () (s_ rfl (Bool.eq_iff_iff.2 (hres.trans (da_ wf wg wh).symm))) x_ (fun _ _ _ => trivial)
    ·
     replace hr1 := eq_of_beq hr1
     refine P_ 4 [3, 4, 5, 6, 7, 8, 9, 10, 11, 12, 13, 14] (by kernel_rfl) (fun _ a b => ⟨a, b⟩) (r_ rfl rfl rfl (h_ j_ rfl rfl rfl l_) rfl (r_ rfl rfl rfl (M_ 1 U_ l_ rfl rfl rfl) rfl (r_ rfl rfl rfl (h_ j_ rfl rfl rfl l_) rfl (r_ rfl rfl rfl (h_ o_ rfl rfl rfl y_) rfl (r_ rfl rfl rfl (n_ 1 H_ rfl rfl rfl) rfl (r_ rfl rfl rfl (h_ j_ rfl rfl rfl l_) rfl (r_ rfl rfl rfl (h_ o_ rfl rfl rfl y_) rfl (r_ rfl rfl rfl (n_ 1 H_ rfl rfl rfl) rfl (r_ rfl rfl rfl (h_ I_ rfl rfl rfl q_) rfl ?_)))))))))
     refine r_ rfl rfl rfl (n_ 0 B_ rfl rfl rfl) rfl (r_ rfl rfl rfl (h_ I_ rfl rfl rfl q_) rfl (r_ rfl rfl rfl (n_ 0 B_ rfl rfl rfl) rfl (O_ (L_ 15 rfl (by kernel_rfl) (i_ rfl rfl (K_ (el_ (Fc.a f) (Fc.r f) mlo mhi) rfl x_ (fun _ _ _ => by exact trivial) rfl fun _ => ?_))))))
     refine d_ (p_ rfl (D_ (fun _ a b => ⟨a, b⟩) (P_ 0 [16, 17, 18] (by kernel_rfl) (fun _ a b => ⟨a, b⟩) ?_)))
     refine az_ rfl rfl rfl (av_ (p := f) (q := (am_ (Fc.a f) (Fc.r f) mlo mhi)) rfl rfl) rfl fun r2 hr2 => ?_
     refine m_ rfl (v_ rfl rfl) rfl (m_ rfl (e_ rfl) rfl (O_ (T_ (by kernel_rfl) (b_ rfl (u_ ?_)))))
     refine ci_ ?_
     have hres : r2 = true ↔ ga = am_ (Fc.a f) (Fc.r f) (Fc.lo ga) (Fc.hi ga) ∧ gb = am_ (Fc.a f) (Fc.r f) (Fc.lo gb) (Fc.hi gb) ∧ max (Fc.lo ga) (Fc.lo gb) ≤ min (Fc.hi ga) (Fc.hi gb) ∧ f = am_ (Fc.a f) (Fc.r f) (max (Fc.lo ga) (Fc.lo gb)) (min (Fc.hi ga) (Fc.hi gb)) := by
      refine Iff.trans ?_ (and_iff_right hsp0).symm; refine Iff.trans ?_ (and_iff_right hsp1).symm; clear hsp0 hsp1; rw [← hr2]; clear hr2; unfold ez_ at hmv; dsimp only at hmv; split at hmv <;> simp only [Prod.mk.injEq] at hmv <;> obtain ⟨⟨rfl, rfl⟩, rfl⟩ := hmv <;> (first | (simp_all; done) | (exfalso; omega; done) | exact ⟨fun hq => by simp_all, fun hq => absurd hq.1 (by first | assumption | omega)⟩)
     exact Y_ ed_ () (s_ rfl (Bool.eq_iff_iff.2 (hres.trans (da_ wf wg wh).symm))) x_ (fun _ _ _ => trivial)
   ·
    refine Z_ at_ rfl fun b3 => ?_
    refine d_ (p_ rfl (D_ (fun _ a b => ⟨a.tail, b⟩) (L_ 10 rfl (by kernel_rfl) (K_ (gx_ (Fc.lo ga, Fc.hi ga) (Fc.lo gb, Fc.hi gb) (dC_ wg (dp_ hsp0).1) (dC_ wh (dp_ hsp1).1)) rfl x_ (fun _ _ _ => by exact trivial) rfl fun ⟨⟨⟨mlo, mhi⟩, me⟩, hmv⟩ => ?_))))
    dsimp only
    refine d_ (p_ rfl (D_ (fun _ a b => ⟨a.tail, b⟩) (P_ 2 [11, 12, 13] (by kernel_rfl) (fun _ a b => ⟨a.tail, b⟩) (m_ rfl (f_ rfl) rfl (m_ rfl (V_ rfl rfl) rfl (m_ rfl (V_ rfl rfl) rfl (O_ (L_ 15 rfl (by kernel_rfl) (Q_ 0 ad_ rfl rfl rfl rfl rfl rfl ?_)))))))))
    refine d_ (p_ rfl (D_ (fun _ a b => ⟨a.tail, b⟩) (P_ 0 [16] (by kernel_rfl) (fun _ a b => ⟨a.tail, b⟩) (m_ rfl (e_ rfl) rfl (O_ (T_ (by kernel_rfl) (b_ rfl (g_ ?_))))))))
    refine aW_ (by kernel_rfl) ?_
    refine P_ 16 [0, 1, 2] (by kernel_rfl) (fun _ a b => ⟨a, b⟩) (m_ rfl (f_ rfl) rfl ?_)
    refine bJ_ rfl (aG_ rfl rfl) rfl fun r3 hr3 => ?_
    refine m_ rfl (f_ rfl) rfl (O_ ?_)
    cases r3
    ·
     replace hr3 := ne_of_beq_false hr3
     refine P_ 0 [3, 4, 5, 6, 7, 8, 9, 10, 11, 12, 13, 14, 15, 16, 17, 18] (by kernel_rfl) (fun _ a b => ⟨a, b⟩) (z_ rfl rfl rfl rfl rfl (z_ rfl rfl rfl rfl rfl (z_ rfl rfl rfl rfl rfl (z_ rfl rfl rfl rfl rfl (z_ rfl rfl rfl rfl rfl (z_ rfl rfl rfl rfl rfl (z_ rfl rfl rfl rfl rfl (z_ rfl rfl rfl rfl rfl (z_ rfl rfl rfl rfl rfl ?_)))))))))
     refine z_ rfl rfl rfl rfl rfl (z_ rfl rfl rfl rfl rfl (z_ rfl rfl rfl rfl rfl (z_ rfl rfl rfl rfl rfl (z_ rfl rfl rfl rfl rfl (m_ rfl (t_ rfl rfl) rfl (m_ rfl (e_ rfl) rfl (O_ (T_ (by kernel_rfl) (b_ rfl ?_)))))))))
     refine u_ ?_
     refine ci_ ?_
     have hres : false = true ↔ ga = am_ (Fc.a f) (Fc.r f) (Fc.lo ga) (Fc.hi ga) ∧ gb = am_ (Fc.a f) (Fc.r f) (Fc.lo gb) (Fc.hi gb) ∧ max (Fc.lo ga) (Fc.lo gb) ≤ min (Fc.hi ga) (Fc.hi gb) ∧ f = am_ (Fc.a f) (Fc.r f) (max (Fc.lo ga) (Fc.lo gb)) (min (Fc.hi ga) (Fc.hi gb)) := by
      refine Iff.trans ?_ (and_iff_right hsp0).symm; refine Iff.trans ?_ (and_iff_right hsp1).symm; clear hsp0 hsp1; unfold ez_ at hmv; dsimp only at hmv; split at hmv <;> simp only [Prod.mk.injEq] at hmv <;> obtain ⟨⟨rfl, rfl⟩, rfl⟩ := hmv <;> (first | (simp_all; done) | (exfalso; omega; done) | exact ⟨fun hq => by simp_all, fun hq => absurd hq.1 (by first | assumption | omega)⟩)
     exact Y_ ed_ () (s_ rfl (Bool.eq_iff_iff.2 (hres.trans (da_ wf wg wh).symm))) x_ (fun _ _ _ => trivial)
    ·
     replace hr3 := eq_of_beq hr3
     refine P_ 4 [3, 4, 5, 6, 7, 8, 9, 10, 11, 12, 13, 14] (by kernel_rfl) (fun _ a b => ⟨a, b⟩) (r_ rfl rfl rfl (h_ j_ rfl rfl rfl l_) rfl (r_ rfl rfl rfl (M_ 1 U_ l_ rfl rfl rfl) rfl (r_ rfl rfl rfl (h_ j_ rfl rfl rfl l_) rfl (r_ rfl rfl rfl (h_ o_ rfl rfl rfl y_) rfl (r_ rfl rfl rfl (n_ 1 H_ rfl rfl rfl) rfl (r_ rfl rfl rfl (h_ j_ rfl rfl rfl l_) rfl (r_ rfl rfl rfl (h_ o_ rfl rfl rfl y_) rfl (r_ rfl rfl rfl (n_ 1 H_ rfl rfl rfl) rfl (r_ rfl rfl rfl (h_ I_ rfl rfl rfl q_) rfl ?_)))))))))
     refine r_ rfl rfl rfl (n_ 0 B_ rfl rfl rfl) rfl (r_ rfl rfl rfl (h_ I_ rfl rfl rfl q_) rfl (r_ rfl rfl rfl (n_ 0 B_ rfl rfl rfl) rfl (O_ (L_ 15 rfl (by kernel_rfl) (i_ rfl rfl (K_ (el_ (Fc.a f) (Fc.r f) mlo mhi) rfl x_ (fun _ _ _ => by exact trivial) rfl fun _ => ?_))))))
     refine d_ (p_ rfl (D_ (fun _ a b => ⟨a, b⟩) (P_ 0 [16, 17, 18] (by kernel_rfl) (fun _ a b => ⟨a, b⟩) ?_)))
     refine az_ rfl rfl rfl (av_ (p := f) (q := (am_ (Fc.a f) (Fc.r f) mlo mhi)) rfl rfl) rfl fun r4 hr4 => ?_
     refine m_ rfl (v_ rfl rfl) rfl (m_ rfl (e_ rfl) rfl (O_ (T_ (by kernel_rfl) (b_ rfl (u_ ?_)))))
     refine ci_ ?_
     have hres : r4 = true ↔ ga = am_ (Fc.a f) (Fc.r f) (Fc.lo ga) (Fc.hi ga) ∧ gb = am_ (Fc.a f) (Fc.r f) (Fc.lo gb) (Fc.hi gb) ∧ max (Fc.lo ga) (Fc.lo gb) ≤ min (Fc.hi ga) (Fc.hi gb) ∧ f = am_ (Fc.a f) (Fc.r f) (max (Fc.lo ga) (Fc.lo gb)) (min (Fc.hi ga) (Fc.hi gb)) := by
      refine Iff.trans ?_ (and_iff_right hsp0).symm; refine Iff.trans ?_ (and_iff_right hsp1).symm; clear hsp0 hsp1; rw [← hr4]; clear hr4; unfold ez_ at hmv; dsimp only at hmv; split at hmv <;> simp only [Prod.mk.injEq] at hmv <;> obtain ⟨⟨rfl, rfl⟩, rfl⟩ := hmv <;> (first | (simp_all; done) | (exfalso; omega; done) | exact ⟨fun hq => by simp_all, fun hq => absurd hq.1 (by first | assumption | omega)⟩)
     exact Y_ ed_ () (s_ rfl (Bool.eq_iff_iff.2 (hres.trans (da_ wf wg wh).symm))) x_ (fun _ _ _ => trivial)
  ·
   refine Z_ at_ rfl fun b4 => ?_
   refine d_ (p_ rfl (D_ (fun _ a b => ⟨a.tail, b⟩) (L_ 9 rfl (by kernel_rfl) (ao_ (cx_ (Fc.r f) kn q hkn es ec hE vb ab pv fv x f ga gb lad lcap) rfl x_ (fun v _ h => by exact ⟨h.1, h.2.1, h.2.2.1, trivial⟩) rfl (fun hb => cA_ ((by rw [Bool.eq_false_iff]; intro hq; exact hb ((da_ wf wg wh).1 hq).2.1))) fun ⟨_, hsp1⟩ => ?_))))
   try dsimp only
   refine d_ (p_ rfl (D_ (fun _ a b => ⟨a.tail, b⟩) (L_ 10 rfl (by kernel_rfl) (K_ (gx_ (Fc.lo ga, Fc.hi ga) (Fc.lo gb, Fc.hi gb) (dC_ wg (dp_ hsp0).1) (dC_ wh (dp_ hsp1).1)) rfl x_ (fun _ _ _ => by exact trivial) rfl fun ⟨⟨⟨mlo, mhi⟩, me⟩, hmv⟩ => ?_))))
   dsimp only
   refine d_ (p_ rfl (D_ (fun _ a b => ⟨a.tail, b⟩) (P_ 2 [11, 12, 13] (by kernel_rfl) (fun _ a b => ⟨a.tail, b⟩) (m_ rfl (f_ rfl) rfl (m_ rfl (V_ rfl rfl) rfl (m_ rfl (V_ rfl rfl) rfl (O_ (L_ 15 rfl (by kernel_rfl) (Q_ 0 ad_ rfl rfl rfl rfl rfl rfl ?_)))))))))
   refine d_ (p_ rfl (D_ (fun _ a b => ⟨a.tail, b⟩) (P_ 0 [16] (by kernel_rfl) (fun _ a b => ⟨a.tail, b⟩) (m_ rfl (e_ rfl) rfl (O_ (T_ (by kernel_rfl) (b_ rfl (g_ ?_))))))))
   refine aW_ (by kernel_rfl) ?_
   refine P_ 16 [0, 1, 2] (by kernel_rfl) (fun _ a b => ⟨a, b⟩) (m_ rfl (f_ rfl) rfl ?_)
   refine bJ_ rfl (aG_ rfl rfl) rfl fun r5 hr5 => ?_
   refine m_ rfl (f_ rfl) rfl (O_ ?_)
   cases r5
   ·
    replace hr5 := ne_of_beq_false hr5
    refine P_ 0 [3, 4, 5, 6, 7, 8, 9, 10, 11, 12, 13, 14, 15, 16, 17, 18] (by kernel_rfl) (fun _ a b => ⟨a, b⟩) (z_ rfl rfl rfl rfl rfl (z_ rfl rfl rfl rfl rfl (z_ rfl rfl rfl rfl rfl (z_ rfl rfl rfl rfl rfl (z_ rfl rfl rfl rfl rfl (z_ rfl rfl rfl rfl rfl (z_ rfl rfl rfl rfl rfl (z_ rfl rfl rfl rfl rfl (z_ rfl rfl rfl rfl rfl ?_)))))))))
    refine z_ rfl rfl rfl rfl rfl (z_ rfl rfl rfl rfl rfl (z_ rfl rfl rfl rfl rfl (z_ rfl rfl rfl rfl rfl (z_ rfl rfl rfl rfl rfl (m_ rfl (t_ rfl rfl) rfl (m_ rfl (e_ rfl) rfl (O_ (T_ (by kernel_rfl) (b_ rfl ?_)))))))))
    refine u_ ?_
    refine ci_ ?_
    have hres : false = true ↔ ga = am_ (Fc.a f) (Fc.r f) (Fc.lo ga) (Fc.hi ga) ∧ gb = am_ (Fc.a f) (Fc.r f) (Fc.lo gb) (Fc.hi gb) ∧ max (Fc.lo ga) (Fc.lo gb) ≤ min (Fc.hi ga) (Fc.hi gb) ∧ f = am_ (Fc.a f) (Fc.r f) (max (Fc.lo ga) (Fc.lo gb)) (min (Fc.hi ga) (Fc.hi gb)) := by
     refine Iff.trans ?_ (and_iff_right hsp0).symm; refine Iff.trans ?_ (and_iff_right hsp1).symm; clear hsp0 hsp1; unfold ez_ at hmv; dsimp only at hmv; split at hmv <;> simp only [Prod.mk.injEq] at hmv <;> obtain ⟨⟨rfl, rfl⟩, rfl⟩ := hmv <;> (first | (simp_all; done) | (exfalso; omega; done) | exact ⟨fun hq => by simp_all, fun hq => absurd hq.1 (by first | assumption | omega)⟩)
    exact Y_ ed_ () (s_ rfl (Bool.eq_iff_iff.2 (hres.trans (da_ wf wg wh).symm))) x_ (fun _ _ _ => trivial)
   ·
    replace hr5 := eq_of_beq hr5
    refine P_ 4 [3, 4, 5, 6, 7, 8, 9, 10, 11, 12, 13, 14] (by kernel_rfl) (fun _ a b => ⟨a, b⟩) (r_ rfl rfl rfl (h_ j_ rfl rfl rfl l_) rfl (r_ rfl rfl rfl (M_ 1 U_ l_ rfl rfl rfl) rfl (r_ rfl rfl rfl (h_ j_ rfl rfl rfl l_) rfl (r_ rfl rfl rfl (h_ o_ rfl rfl rfl y_) rfl (r_ rfl rfl rfl (n_ 1 H_ rfl rfl rfl) rfl (r_ rfl rfl rfl (h_ j_ rfl rfl rfl l_) rfl (r_ rfl rfl rfl (h_ o_ rfl rfl rfl y_) rfl (r_ rfl rfl rfl (n_ 1 H_ rfl rfl rfl) rfl (r_ rfl rfl rfl (h_ I_ rfl rfl rfl q_) rfl ?_)))))))))
    refine r_ rfl rfl rfl (n_ 0 B_ rfl rfl rfl) rfl (r_ rfl rfl rfl (h_ I_ rfl rfl rfl q_) rfl (r_ rfl rfl rfl (n_ 0 B_ rfl rfl rfl) rfl (O_ (L_ 15 rfl (by kernel_rfl) (i_ rfl rfl (K_ (el_ (Fc.a f) (Fc.r f) mlo mhi) rfl x_ (fun _ _ _ => by exact trivial) rfl fun _ => ?_))))))
    refine d_ (p_ rfl (D_ (fun _ a b => ⟨a, b⟩) (P_ 0 [16, 17, 18] (by kernel_rfl) (fun _ a b => ⟨a, b⟩) ?_)))
    refine az_ rfl rfl rfl (av_ (p := f) (q := (am_ (Fc.a f) (Fc.r f) mlo mhi)) rfl rfl) rfl fun r6 hr6 => ?_
    refine m_ rfl (v_ rfl rfl) rfl (m_ rfl (e_ rfl) rfl (O_ (T_ (by kernel_rfl) (b_ rfl (u_ ?_)))))
    refine ci_ ?_
    have hres : r6 = true ↔ ga = am_ (Fc.a f) (Fc.r f) (Fc.lo ga) (Fc.hi ga) ∧ gb = am_ (Fc.a f) (Fc.r f) (Fc.lo gb) (Fc.hi gb) ∧ max (Fc.lo ga) (Fc.lo gb) ≤ min (Fc.hi ga) (Fc.hi gb) ∧ f = am_ (Fc.a f) (Fc.r f) (max (Fc.lo ga) (Fc.lo gb)) (min (Fc.hi ga) (Fc.hi gb)) := by
     refine Iff.trans ?_ (and_iff_right hsp0).symm; refine Iff.trans ?_ (and_iff_right hsp1).symm; clear hsp0 hsp1; rw [← hr6]; clear hr6; unfold ez_ at hmv; dsimp only at hmv; split at hmv <;> simp only [Prod.mk.injEq] at hmv <;> obtain ⟨⟨rfl, rfl⟩, rfl⟩ := hmv <;> (first | (simp_all; done) | (exfalso; omega; done) | exact ⟨fun hq => by simp_all, fun hq => absurd hq.1 (by first | assumption | omega)⟩)
    exact Y_ ed_ () (s_ rfl (Bool.eq_iff_iff.2 (hres.trans (da_ wf wg wh).symm))) x_ (fun _ _ _ => trivial)
 ·
  refine Z_ at_ rfl fun b5 => ?_
  refine d_ (p_ rfl (D_ (fun _ a b => ⟨a.tail, b⟩) (L_ 4 rfl (by kernel_rfl) (ao_ (dW_ (Fc.r f) kn q hkn es ec hE vb ab pv fv x f ga gb lad lcap) rfl x_ (fun v _ h => by exact ⟨h.1, h.2.1, h.2.2.1, trivial⟩) rfl (fun hb => cA_ ((by rw [Bool.eq_false_iff]; intro hq; exact hb ((da_ wf wg wh).1 hq).1))) fun ⟨_, hsp0⟩ => ?_))))
  try dsimp only
  refine d_ (p_ rfl (D_ (fun _ a b => ⟨a.tail, b⟩) (L_ 9 rfl (by kernel_rfl) (ao_ (cx_ (Fc.r f) kn q hkn es ec hE vb ab pv fv x f ga gb lad lcap) rfl x_ (fun v _ h => by exact ⟨h.1, h.2.1, h.2.2.1, trivial⟩) rfl (fun hb => cA_ ((by rw [Bool.eq_false_iff]; intro hq; exact hb ((da_ wf wg wh).1 hq).2.1))) fun ⟨_, hsp1⟩ => ?_))))
  try dsimp only
  refine d_ (p_ rfl (D_ (fun _ a b => ⟨a.tail, b⟩) (L_ 10 rfl (by kernel_rfl) (K_ (gx_ (Fc.lo ga, Fc.hi ga) (Fc.lo gb, Fc.hi gb) (dC_ wg (dp_ hsp0).1) (dC_ wh (dp_ hsp1).1)) rfl x_ (fun _ _ _ => by exact trivial) rfl fun ⟨⟨⟨mlo, mhi⟩, me⟩, hmv⟩ => ?_))))
  dsimp only
  refine d_ (p_ rfl (D_ (fun _ a b => ⟨a.tail, b⟩) (P_ 2 [11, 12, 13] (by kernel_rfl) (fun _ a b => ⟨a.tail, b⟩) (m_ rfl (f_ rfl) rfl (m_ rfl (V_ rfl rfl) rfl (m_ rfl (V_ rfl rfl) rfl (O_ (L_ 15 rfl (by kernel_rfl) (Q_ 0 ad_ rfl rfl rfl rfl rfl rfl ?_)))))))))
  refine d_ (p_ rfl (D_ (fun _ a b => ⟨a.tail, b⟩) (P_ 0 [16] (by kernel_rfl) (fun _ a b => ⟨a.tail, b⟩) (m_ rfl (e_ rfl) rfl (O_ (T_ (by kernel_rfl) (b_ rfl (g_ ?_))))))))
  refine aW_ (by kernel_rfl) ?_
  refine P_ 16 [0, 1, 2] (by kernel_rfl) (fun _ a b => ⟨a, b⟩) (m_ rfl (f_ rfl) rfl ?_)
  refine bJ_ rfl (aG_ rfl rfl) rfl fun r7 hr7 => ?_
  refine m_ rfl (f_ rfl) rfl (O_ ?_)
  cases r7
  ·
   replace hr7 := ne_of_beq_false hr7
   refine P_ 0 [3, 4, 5, 6, 7, 8, 9, 10, 11, 12, 13, 14, 15, 16, 17, 18] (by kernel_rfl) (fun _ a b => ⟨a, b⟩) (z_ rfl rfl rfl rfl rfl (z_ rfl rfl rfl rfl rfl (z_ rfl rfl rfl rfl rfl (z_ rfl rfl rfl rfl rfl (z_ rfl rfl rfl rfl rfl (z_ rfl rfl rfl rfl rfl (z_ rfl rfl rfl rfl rfl (z_ rfl rfl rfl rfl rfl (z_ rfl rfl rfl rfl rfl ?_)))))))))
   refine z_ rfl rfl rfl rfl rfl (z_ rfl rfl rfl rfl rfl (z_ rfl rfl rfl rfl rfl (z_ rfl rfl rfl rfl rfl (z_ rfl rfl rfl rfl rfl (m_ rfl (t_ rfl rfl) rfl (m_ rfl (e_ rfl) rfl (O_ (T_ (by kernel_rfl) (b_ rfl ?_)))))))))
   refine u_ ?_
   refine ci_ ?_
   have hres : false = true ↔ ga = am_ (Fc.a f) (Fc.r f) (Fc.lo ga) (Fc.hi ga) ∧ gb = am_ (Fc.a f) (Fc.r f) (Fc.lo gb) (Fc.hi gb) ∧ max (Fc.lo ga) (Fc.lo gb) ≤ min (Fc.hi ga) (Fc.hi gb) ∧ f = am_ (Fc.a f) (Fc.r f) (max (Fc.lo ga) (Fc.lo gb)) (min (Fc.hi ga) (Fc.hi gb)) := by
    refine Iff.trans ?_ (and_iff_right hsp0).symm; refine Iff.trans ?_ (and_iff_right hsp1).symm; clear hsp0 hsp1; unfold ez_ at hmv; dsimp only at hmv; split at hmv <;> simp only [Prod.mk.injEq] at hmv <;> obtain ⟨⟨rfl, rfl⟩, rfl⟩ := hmv <;> (first | (simp_all; done) | (exfalso; omega; done) | exact ⟨fun hq => by simp_all, fun hq => absurd hq.1 (by first | assumption | omega)⟩)
   exact Y_ ed_ () (s_ rfl (Bool.eq_iff_iff.2 (hres.trans (da_ wf wg wh).symm))) x_ (fun _ _ _ => trivial)
  ·
   replace hr7 := eq_of_beq hr7
   refine P_ 4 [3, 4, 5, 6, 7, 8, 9, 10, 11, 12, 13, 14] (by kernel_rfl) (fun _ a b => ⟨a, b⟩) (r_ rfl rfl rfl (h_ j_ rfl rfl rfl l_) rfl (r_ rfl rfl rfl (M_ 1 U_ l_ rfl rfl rfl) rfl (r_ rfl rfl rfl (h_ j_ rfl rfl rfl l_) rfl (r_ rfl rfl rfl (h_ o_ rfl rfl rfl y_) rfl (r_ rfl rfl rfl (n_ 1 H_ rfl rfl rfl) rfl (r_ rfl rfl rfl (h_ j_ rfl rfl rfl l_) rfl (r_ rfl rfl rfl (h_ o_ rfl rfl rfl y_) rfl (r_ rfl rfl rfl (n_ 1 H_ rfl rfl rfl) rfl (r_ rfl rfl rfl (h_ I_ rfl rfl rfl q_) rfl ?_)))))))))
   refine r_ rfl rfl rfl (n_ 0 B_ rfl rfl rfl) rfl (r_ rfl rfl rfl (h_ I_ rfl rfl rfl q_) rfl (r_ rfl rfl rfl (n_ 0 B_ rfl rfl rfl) rfl (O_ (L_ 15 rfl (by kernel_rfl) (i_ rfl rfl (K_ (el_ (Fc.a f) (Fc.r f) mlo mhi) rfl x_ (fun _ _ _ => by exact trivial) rfl fun _ => ?_))))))
   refine d_ (p_ rfl (D_ (fun _ a b => ⟨a, b⟩) (P_ 0 [16, 17, 18] (by kernel_rfl) (fun _ a b => ⟨a, b⟩) ?_)))
   refine az_ rfl rfl rfl (av_ (p := f) (q := (am_ (Fc.a f) (Fc.r f) mlo mhi)) rfl rfl) rfl fun r8 hr8 => ?_
   refine m_ rfl (v_ rfl rfl) rfl (m_ rfl (e_ rfl) rfl (O_ (T_ (by kernel_rfl) (b_ rfl (u_ ?_)))))
   refine ci_ ?_
   have hres : r8 = true ↔ ga = am_ (Fc.a f) (Fc.r f) (Fc.lo ga) (Fc.hi ga) ∧ gb = am_ (Fc.a f) (Fc.r f) (Fc.lo gb) (Fc.hi gb) ∧ max (Fc.lo ga) (Fc.lo gb) ≤ min (Fc.hi ga) (Fc.hi gb) ∧ f = am_ (Fc.a f) (Fc.r f) (max (Fc.lo ga) (Fc.lo gb)) (min (Fc.hi ga) (Fc.hi gb)) := by
    refine Iff.trans ?_ (and_iff_right hsp0).symm; refine Iff.trans ?_ (and_iff_right hsp1).symm; clear hsp0 hsp1; rw [← hr8]; clear hr8; unfold ez_ at hmv; dsimp only at hmv; split at hmv <;> simp only [Prod.mk.injEq] at hmv <;> obtain ⟨⟨rfl, rfl⟩, rfl⟩ := hmv <;> (first | (simp_all; done) | (exfalso; omega; done) | exact ⟨fun hq => by simp_all, fun hq => absurd hq.1 (by first | assumption | omega)⟩)
   exact Y_ ed_ () (s_ rfl (Bool.eq_iff_iff.2 (hres.trans (da_ wf wg wh).symm))) x_ (fun _ _ _ => trivial)
set_option maxHeartbeats 1000000 in
theorem oh_ (kn : Str → Bool) (q : List Str) (hkn : ∀ s, kn s = true ↔ s ∈ q) (es : Array MapEntry) (ec : Nat) (hE : SetE str es q) (vb ab : Nat) (pv fv : Value) (x : Pc) (f ga gb : Fc) (lad : Option Addr) (lcap : Nat) (wg : wf2 ga = true) (wh : wf2 gb = true) : TriX Tryz.prog 142 #[.agg #[zp_ vb 0, .int .i64 (Fc.kind f), str (Fc.a f), str (Fc.b f), str (Fc.r f), .int .i64 (Fc.lo f), .int .i64 (Fc.hi f), .slice lad (List.length [ga, gb]) lcap, .int .i64 (Pc.kind x), str (Pc.a x), str (Pc.b x), str (Pc.c x), str (Pc.r x), str (Pc.s x), str (Pc.t x), .int .i64 (Pc.lo x), .int .i64 (Pc.hi x), .int .i64 (Pc.frm x)]] [] [cp_ vb (.cells (dc_ pv ab fv).toArray 83 (0, 0)), cp_ ab (.map es ec), aY_ lad (List.flatMap Fc.cells [ga, gb])] (fun _ : Unit => .bool (kT_ kn x f ga gb)) (fun _ => []) (fun _ => []) (kT_ kn x f ga gb = false) := by
  refine bq_ Tryz.func142 rfl rfl Tryz.ntmps142 rfl fun v0 => ?_
  refine g_ (c_ (aM_ rfl rfl fun b1 => ?_))
  refine a_ (e_ rfl) rfl (d_ (b_ rfl (g_ ?_)))
  refine aW_ (by kernel_rfl) ?_
  refine P_ 6 [0, 1, 2, 3, 4, 5, 7, 8, 9, 10, 11, 12] (by kernel_rfl) (fun _ a b => ⟨a, b⟩) (m_ rfl (M_ 0 jQ_ hM_ rfl rfl rfl) rfl (m_ rfl (h_ j_ rfl rfl rfl aN_) rfl (m_ rfl (n_ 0 bn_ rfl rfl rfl) rfl (m_ rfl (an_ ai_ l_ rfl rfl (fun v _ h => ba_ (n := 6) Fc.cells_len (by decide) (by exact h.2.2.1) (show [ga, gb][0]? = some _ from rfl)) (by omega) (by first | omega | (simp; done))) rfl (m_ rfl (do_ o_ rfl rfl rfl y_) rfl (m_ rfl (bE_ (ad := lad) H_ rfl (fun v _ h => by exact h.2.2.1) (ar_ Fc.cells_len (show [ga, gb][0]? = some _ from rfl) 3 _ rfl)) rfl (m_ rfl (M_ 0 jQ_ hM_ rfl rfl rfl) rfl (m_ rfl (h_ j_ rfl rfl rfl aN_) rfl (m_ rfl (n_ 0 bn_ rfl rfl rfl) rfl ?_)))))))))
  refine m_ rfl (an_ ai_ l_ rfl rfl (fun v _ h => ba_ (n := 6) Fc.cells_len (by decide) (by exact h.2.2.1) (show [ga, gb][0]? = some _ from rfl)) (by omega) (by first | omega | (simp; done))) rfl (m_ rfl (do_ o_ rfl rfl rfl y_) rfl (m_ rfl (bE_ (ad := lad) H_ rfl (fun v _ h => by exact h.2.2.1) (ar_ Fc.cells_len (show [ga, gb][0]? = some _ from rfl) 3 _ rfl)) rfl (O_ (iv_ [6, 14, 15] (by kernel_rfl) (by simp) ?_))))
  intro i hi; simp only [List.mem_cons, List.not_mem_nil, or_false] at hi; rcases hi with rfl | rfl | rfl
  · refine ⟨_, rfl, ?_⟩
    refine ao_ (dW_ (Fc.r ga) kn q hkn es ec hE vb ab pv fv x f ga gb lad lcap) rfl x_ (fun v _ h => by exact ⟨h.1, h.2.1, h.2.2.1, trivial⟩) rfl (fun hb => cA_ ((by rw [Bool.eq_false_iff]; intro hq; exact hb ((aR_ wg wh).1 hq).1))) fun ⟨_, hsp0⟩ => ?_
    try dsimp only
    refine d_ (p_ rfl (D_ (fun _ a b => ⟨a, b⟩) (iv_ [13, 14, 15] (by kernel_rfl) (by simp) ?_)))
    intro i hi; simp only [List.mem_cons, List.not_mem_nil, or_false] at hi; rcases hi with rfl | rfl | rfl
    · refine ⟨_, rfl, ?_⟩
      refine ao_ (cx_ (Fc.r ga) kn q hkn es ec hE vb ab pv fv x f ga gb lad lcap) rfl x_ (fun v _ h => by exact ⟨h.1, h.2.1, h.2.2.1, trivial⟩) rfl (fun hb => cA_ ((by rw [Bool.eq_false_iff]; intro hq; exact hb ((aR_ wg wh).1 hq).2.1))) fun ⟨_, hsp1⟩ => ?_
      try dsimp only
      refine d_ (p_ rfl (D_ (fun _ a b => ⟨a, b⟩) ?_))
      refine cm_ 14 15 rfl rfl (by kernel_rfl) ?_ ?_
      · skip
        refine Z_ at_ rfl fun b2 => ?_
        refine d_ (p_ rfl (D_ (fun _ a b => ⟨a.tail, b⟩) (L_ 15 rfl (by kernel_rfl) (Z_ at_ rfl fun b3 => ?_))))
        refine d_ (p_ rfl (D_ (fun _ a b => ⟨a.tail.tail, b⟩) (L_ 16 rfl (by kernel_rfl) (Q_ 1 ad_ rfl rfl rfl rfl rfl rfl (d_ (p_ rfl (D_ (fun _ a b => ⟨a.tail.tail, b⟩) (L_ 17 rfl (by kernel_rfl) (Q_ 0 ad_ rfl rfl rfl rfl rfl rfl ?_)))))))))
        refine d_ (p_ rfl (D_ (fun _ a b => ⟨a.tail.tail, b⟩) (T_ (by kernel_rfl) (b_ rfl (g_ ?_)))))
        refine aW_ (by kernel_rfl) ?_
        refine P_ 16 [0, 1, 2, 3, 4, 5] (by kernel_rfl) (fun _ a b => ⟨a, b⟩) (m_ rfl (h_ I_ rfl rfl rfl q_) rfl (m_ rfl (n_ 1 B_ rfl rfl rfl) rfl (m_ rfl (h_ I_ rfl rfl rfl q_) rfl (m_ rfl (n_ 0 B_ rfl rfl rfl) rfl ?_))))
        refine bJ_ rfl (au_ rfl rfl) rfl fun r1 hr1 => ?_
        refine m_ rfl (f_ rfl) rfl (O_ ?_)
        cases r1
        · skip
          replace hr1 := of_decide_eq_false hr1
          refine P_ 9 [6, 7, 8, 9, 10, 11, 12] (by kernel_rfl) (fun _ a b => ⟨a, b⟩) (r_ rfl rfl rfl (h_ I_ rfl rfl rfl q_) rfl (r_ rfl rfl rfl (n_ 0 B_ rfl rfl rfl) rfl (r_ rfl rfl rfl (h_ I_ rfl rfl rfl q_) rfl (r_ rfl rfl rfl (n_ 1 B_ rfl rfl rfl) rfl ?_))))
          refine az_ rfl rfl rfl (au_ rfl rfl) rfl fun r2 hr2 => ?_
          refine m_ rfl (t_ rfl rfl) rfl (m_ rfl (f_ rfl) rfl (O_ ?_))
          cases r2
          · skip
            replace hr2 := of_decide_eq_false hr2
            refine P_ 0 [13, 14, 15, 16, 17, 18, 19, 20, 21] (by kernel_rfl) (fun _ a b => ⟨a, b⟩) (z_ rfl rfl rfl rfl rfl (z_ rfl rfl rfl rfl rfl (z_ rfl rfl rfl rfl rfl (z_ rfl rfl rfl rfl rfl (z_ rfl rfl rfl rfl rfl (z_ rfl rfl rfl rfl rfl (z_ rfl rfl rfl rfl rfl (m_ rfl (t_ rfl rfl) rfl (m_ rfl (e_ rfl) rfl ?_)))))))))
            refine O_ (T_ (by kernel_rfl) (b_ rfl (u_ ?_)))
            refine ci_ ?_
            have hres : false = true ↔ ga = am_ (Fc.a f) (Fc.r ga) (Fc.lo ga) (Fc.hi ga) ∧ gb = am_ (Fc.a f) (Fc.r ga) (Fc.lo gb) (Fc.hi gb) ∧ (Fc.hi ga < Fc.lo gb ∨ Fc.hi gb < Fc.lo ga) ∧ f = aL_ (Fc.a f) [33] := by
              refine Iff.trans ?_ (and_iff_right hsp0).symm; refine Iff.trans ?_ (and_iff_right hsp1).symm; clear hsp0 hsp1; simp [*]
            exact Y_ aw_ () (s_ rfl (Bool.eq_iff_iff.2 (hres.trans (aR_ wg wh).symm))) x_ (fun _ _ _ => trivial)
          · skip
            replace hr2 := of_decide_eq_true hr2
            refine P_ 4 [13, 14, 15, 16, 17] (by kernel_rfl) (fun _ a b => ⟨a, b⟩) (r_ rfl rfl rfl (h_ j_ rfl rfl rfl l_) rfl (r_ rfl rfl rfl (M_ 2 U_ l_ rfl rfl rfl) rfl (r_ rfl rfl rfl (h_ j_ rfl rfl rfl l_) rfl (r_ rfl rfl rfl (h_ o_ rfl rfl rfl y_) rfl (r_ rfl rfl rfl (n_ 2 H_ rfl rfl rfl) rfl (O_ (L_ 18 rfl (by kernel_rfl) (i_ rfl rfl (K_ (bO_ (Fc.a f) [33]) rfl x_ (fun _ _ _ => by exact trivial) rfl fun _ => ?_)))))))))
            refine d_ (p_ rfl (D_ (fun _ a b => ⟨a, b⟩) (P_ 0 [19, 20, 21] (by kernel_rfl) (fun _ a b => ⟨a, b⟩) ?_)))
            refine az_ rfl rfl rfl (av_ (p := f) (q := (aL_ (Fc.a f) [33])) rfl rfl) rfl fun r3 hr3 => ?_
            refine m_ rfl (v_ rfl rfl) rfl (m_ rfl (e_ rfl) rfl (O_ (T_ (by kernel_rfl) (b_ rfl (u_ ?_)))))
            refine ci_ ?_
            have hres : r3 = true ↔ ga = am_ (Fc.a f) (Fc.r ga) (Fc.lo ga) (Fc.hi ga) ∧ gb = am_ (Fc.a f) (Fc.r ga) (Fc.lo gb) (Fc.hi gb) ∧ (Fc.hi ga < Fc.lo gb ∨ Fc.hi gb < Fc.lo ga) ∧ f = aL_ (Fc.a f) [33] := by
              refine Iff.trans ?_ (and_iff_right hsp0).symm; refine Iff.trans ?_ (and_iff_right hsp1).symm; clear hsp0 hsp1; rw [← hr3]; clear hr3; simp [*]
            exact Y_ aw_ () (s_ rfl (Bool.eq_iff_iff.2 (hres.trans (aR_ wg wh).symm))) x_ (fun _ _ _ => trivial)
        · skip
          replace hr1 := of_decide_eq_true hr1
          refine P_ 4 [6, 7, 8, 9, 10, 11, 12, 13, 14, 15, 16, 17] (by kernel_rfl) (fun _ a b => ⟨a, b⟩) (z_ rfl rfl rfl rfl rfl (z_ rfl rfl rfl rfl rfl (z_ rfl rfl rfl rfl rfl (z_ rfl rfl rfl rfl rfl (z_ rfl rfl rfl rfl rfl (m_ rfl (v_ rfl rfl) rfl (m_ rfl (f_ rfl) rfl (r_ rfl rfl rfl (h_ j_ rfl rfl rfl l_) rfl (r_ rfl rfl rfl (M_ 2 U_ l_ rfl rfl rfl) rfl ?_)))))))))
          refine r_ rfl rfl rfl (h_ j_ rfl rfl rfl l_) rfl (r_ rfl rfl rfl (h_ o_ rfl rfl rfl y_) rfl (r_ rfl rfl rfl (n_ 2 H_ rfl rfl rfl) rfl (O_ (L_ 18 rfl (by kernel_rfl) (i_ rfl rfl (K_ (bO_ (Fc.a f) [33]) rfl x_ (fun _ _ _ => by exact trivial) rfl fun _ => ?_))))))
          refine d_ (p_ rfl (D_ (fun _ a b => ⟨a, b⟩) (P_ 0 [19, 20, 21] (by kernel_rfl) (fun _ a b => ⟨a, b⟩) ?_)))
          refine az_ rfl rfl rfl (av_ (p := f) (q := (aL_ (Fc.a f) [33])) rfl rfl) rfl fun r4 hr4 => ?_
          refine m_ rfl (v_ rfl rfl) rfl (m_ rfl (e_ rfl) rfl (O_ (T_ (by kernel_rfl) (b_ rfl (u_ ?_)))))
          refine ci_ ?_
          have hres : r4 = true ↔ ga = am_ (Fc.a f) (Fc.r ga) (Fc.lo ga) (Fc.hi ga) ∧ gb = am_ (Fc.a f) (Fc.r ga) (Fc.lo gb) (Fc.hi gb) ∧ (Fc.hi ga < Fc.lo gb ∨ Fc.hi gb < Fc.lo ga) ∧ f = aL_ (Fc.a f) [33] := by
            refine Iff.trans ?_ (and_iff_right hsp0).symm; refine Iff.trans ?_ (and_iff_right hsp1).symm; clear hsp0 hsp1; rw [← hr4]; clear hr4; simp [*]
          exact Y_ aw_ () (s_ rfl (Bool.eq_iff_iff.2 (hres.trans (aR_ wg wh).symm))) x_ (fun _ _ _ => trivial)
      · skip
        refine Z_ at_ rfl fun b4 => ?_
        refine d_ (p_ rfl (D_ (fun _ a b => ⟨a.tail, b⟩) (L_ 14 rfl (by kernel_rfl) (Z_ at_ rfl fun b5 => ?_))))
        refine d_ (p_ rfl (D_ (fun _ a b => ⟨a.tail.tail, b⟩) (L_ 16 rfl (by kernel_rfl) (Q_ 0 ad_ rfl rfl rfl rfl rfl rfl (d_ (p_ rfl (D_ (fun _ a b => ⟨a.tail.tail, b⟩) (L_ 17 rfl (by kernel_rfl) (Q_ 1 ad_ rfl rfl rfl rfl rfl rfl ?_)))))))))
        refine d_ (p_ rfl (D_ (fun _ a b => ⟨a.tail.tail, b⟩) (T_ (by kernel_rfl) (b_ rfl (g_ ?_)))))
        refine aW_ (by kernel_rfl) ?_
        refine P_ 16 [0, 1, 2, 3, 4, 5] (by kernel_rfl) (fun _ a b => ⟨a, b⟩) (m_ rfl (h_ I_ rfl rfl rfl q_) rfl (m_ rfl (n_ 0 B_ rfl rfl rfl) rfl (m_ rfl (h_ I_ rfl rfl rfl q_) rfl (m_ rfl (n_ 1 B_ rfl rfl rfl) rfl ?_))))
        refine bJ_ rfl (au_ rfl rfl) rfl fun r5 hr5 => ?_
        refine m_ rfl (f_ rfl) rfl (O_ ?_)
        cases r5
        · skip
          replace hr5 := of_decide_eq_false hr5
          refine P_ 9 [6, 7, 8, 9, 10, 11, 12] (by kernel_rfl) (fun _ a b => ⟨a, b⟩) (r_ rfl rfl rfl (h_ I_ rfl rfl rfl q_) rfl (r_ rfl rfl rfl (n_ 1 B_ rfl rfl rfl) rfl (r_ rfl rfl rfl (h_ I_ rfl rfl rfl q_) rfl (r_ rfl rfl rfl (n_ 0 B_ rfl rfl rfl) rfl ?_))))
          refine az_ rfl rfl rfl (au_ rfl rfl) rfl fun r6 hr6 => ?_
          refine m_ rfl (t_ rfl rfl) rfl (m_ rfl (f_ rfl) rfl (O_ ?_))
          cases r6
          · skip
            replace hr6 := of_decide_eq_false hr6
            refine P_ 0 [13, 14, 15, 16, 17, 18, 19, 20, 21] (by kernel_rfl) (fun _ a b => ⟨a, b⟩) (z_ rfl rfl rfl rfl rfl (z_ rfl rfl rfl rfl rfl (z_ rfl rfl rfl rfl rfl (z_ rfl rfl rfl rfl rfl (z_ rfl rfl rfl rfl rfl (z_ rfl rfl rfl rfl rfl (z_ rfl rfl rfl rfl rfl (m_ rfl (t_ rfl rfl) rfl (m_ rfl (e_ rfl) rfl ?_)))))))))
            refine O_ (T_ (by kernel_rfl) (b_ rfl (u_ ?_)))
            refine ci_ ?_
            have hres : false = true ↔ ga = am_ (Fc.a f) (Fc.r ga) (Fc.lo ga) (Fc.hi ga) ∧ gb = am_ (Fc.a f) (Fc.r ga) (Fc.lo gb) (Fc.hi gb) ∧ (Fc.hi ga < Fc.lo gb ∨ Fc.hi gb < Fc.lo ga) ∧ f = aL_ (Fc.a f) [33] := by
              refine Iff.trans ?_ (and_iff_right hsp0).symm; refine Iff.trans ?_ (and_iff_right hsp1).symm; clear hsp0 hsp1; simp [*]
            exact Y_ aw_ () (s_ rfl (Bool.eq_iff_iff.2 (hres.trans (aR_ wg wh).symm))) x_ (fun _ _ _ => trivial)
          · skip
            replace hr6 := of_decide_eq_true hr6
            refine P_ 4 [13, 14, 15, 16, 17] (by kernel_rfl) (fun _ a b => ⟨a, b⟩) (r_ rfl rfl rfl (h_ j_ rfl rfl rfl l_) rfl (r_ rfl rfl rfl (M_ 2 U_ l_ rfl rfl rfl) rfl (r_ rfl rfl rfl (h_ j_ rfl rfl rfl l_) rfl (r_ rfl rfl rfl (h_ o_ rfl rfl rfl y_) rfl (r_ rfl rfl rfl (n_ 2 H_ rfl rfl rfl) rfl (O_ (L_ 18 rfl (by kernel_rfl) (i_ rfl rfl (K_ (bO_ (Fc.a f) [33]) rfl x_ (fun _ _ _ => by exact trivial) rfl fun _ => ?_)))))))))
            refine d_ (p_ rfl (D_ (fun _ a b => ⟨a, b⟩) (P_ 0 [19, 20, 21] (by kernel_rfl) (fun _ a b => ⟨a, b⟩) ?_)))
            refine az_ rfl rfl rfl (av_ (p := f) (q := (aL_ (Fc.a f) [33])) rfl rfl) rfl fun r7 hr7 => ?_
            refine m_ rfl (v_ rfl rfl) rfl (m_ rfl (e_ rfl) rfl (O_ (T_ (by kernel_rfl) (b_ rfl (u_ ?_)))))
            refine ci_ ?_
            have hres : r7 = true ↔ ga = am_ (Fc.a f) (Fc.r ga) (Fc.lo ga) (Fc.hi ga) ∧ gb = am_ (Fc.a f) (Fc.r ga) (Fc.lo gb) (Fc.hi gb) ∧ (Fc.hi ga < Fc.lo gb ∨ Fc.hi gb < Fc.lo ga) ∧ f = aL_ (Fc.a f) [33] := by
              refine Iff.trans ?_ (and_iff_right hsp0).symm; refine Iff.trans ?_ (and_iff_right hsp1).symm; clear hsp0 hsp1; rw [← hr7]; clear hr7; simp [*]
            exact Y_ aw_ () (s_ rfl (Bool.eq_iff_iff.2 (hres.trans (aR_ wg wh).symm))) x_ (fun _ _ _ => trivial)
        · skip
          replace hr5 := of_decide_eq_true hr5
          refine P_ 4 [6, 7, 8, 9, 10, 11, 12, 13, 14, 15, 16, 17] (by kernel_rfl) (fun _ a b => ⟨a, b⟩) (z_ rfl rfl rfl rfl rfl (z_ rfl rfl rfl rfl rfl (z_ rfl rfl rfl rfl rfl (z_ rfl rfl rfl rfl rfl (z_ rfl rfl rfl rfl rfl (m_ rfl (v_ rfl rfl) rfl (m_ rfl (f_ rfl) rfl (r_ rfl rfl rfl (h_ j_ rfl rfl rfl l_) rfl (r_ rfl rfl rfl (M_ 2 U_ l_ rfl rfl rfl) rfl ?_)))))))))
          refine r_ rfl rfl rfl (h_ j_ rfl rfl rfl l_) rfl (r_ rfl rfl rfl (h_ o_ rfl rfl rfl y_) rfl (r_ rfl rfl rfl (n_ 2 H_ rfl rfl rfl) rfl (O_ (L_ 18 rfl (by kernel_rfl) (i_ rfl rfl (K_ (bO_ (Fc.a f) [33]) rfl x_ (fun _ _ _ => by exact trivial) rfl fun _ => ?_))))))
          refine d_ (p_ rfl (D_ (fun _ a b => ⟨a, b⟩) (P_ 0 [19, 20, 21] (by kernel_rfl) (fun _ a b => ⟨a, b⟩) ?_)))
          refine az_ rfl rfl rfl (av_ (p := f) (q := (aL_ (Fc.a f) [33])) rfl rfl) rfl fun r8 hr8 => ?_
          refine m_ rfl (v_ rfl rfl) rfl (m_ rfl (e_ rfl) rfl (O_ (T_ (by kernel_rfl) (b_ rfl (u_ ?_)))))
          refine ci_ ?_
          have hres : r8 = true ↔ ga = am_ (Fc.a f) (Fc.r ga) (Fc.lo ga) (Fc.hi ga) ∧ gb = am_ (Fc.a f) (Fc.r ga) (Fc.lo gb) (Fc.hi gb) ∧ (Fc.hi ga < Fc.lo gb ∨ Fc.hi gb < Fc.lo ga) ∧ f = aL_ (Fc.a f) [33] := by
            refine Iff.trans ?_ (and_iff_right hsp0).symm; refine Iff.trans ?_ (and_iff_right hsp1).symm; clear hsp0 hsp1; rw [← hr8]; clear hr8; simp [*]
          exact Y_ aw_ () (s_ rfl (Bool.eq_iff_iff.2 (hres.trans (aR_ wg wh).symm))) x_ (fun _ _ _ => trivial)
    · refine ⟨_, rfl, ?_⟩
      refine Z_ at_ rfl fun b6 => ?_
      refine d_ (p_ rfl (D_ (fun _ a b => ⟨a.tail, b⟩) ?_))
      refine cm_ 13 15 rfl rfl (by kernel_rfl) ?_ ?_
      · skip
        refine ao_ (cx_ (Fc.r ga) kn q hkn es ec hE vb ab pv fv x f ga gb lad lcap) rfl x_ (fun v _ h => by exact ⟨h.1, h.2.1, h.2.2.1, trivial⟩) rfl (fun hb => cA_ ((by rw [Bool.eq_false_iff]; intro hq; exact hb ((aR_ wg wh).1 hq).2.1))) fun ⟨_, hsp1⟩ => ?_
        try dsimp only
        refine d_ (p_ rfl (D_ (fun _ a b => ⟨a.tail, b⟩) (L_ 15 rfl (by kernel_rfl) (Z_ at_ rfl fun b7 => ?_))))
        refine d_ (p_ rfl (D_ (fun _ a b => ⟨a.tail.tail, b⟩) (L_ 16 rfl (by kernel_rfl) (Q_ 1 ad_ rfl rfl rfl rfl rfl rfl (d_ (p_ rfl (D_ (fun _ a b => ⟨a.tail.tail, b⟩) (L_ 17 rfl (by kernel_rfl) (Q_ 0 ad_ rfl rfl rfl rfl rfl rfl ?_)))))))))
        refine d_ (p_ rfl (D_ (fun _ a b => ⟨a.tail.tail, b⟩) (T_ (by kernel_rfl) (b_ rfl (g_ ?_)))))
        refine aW_ (by kernel_rfl) ?_
        refine P_ 16 [0, 1, 2, 3, 4, 5] (by kernel_rfl) (fun _ a b => ⟨a, b⟩) (m_ rfl (h_ I_ rfl rfl rfl q_) rfl (m_ rfl (n_ 1 B_ rfl rfl rfl) rfl (m_ rfl (h_ I_ rfl rfl rfl q_) rfl (m_ rfl (n_ 0 B_ rfl rfl rfl) rfl ?_))))
        refine bJ_ rfl (au_ rfl rfl) rfl fun r9 hr9 => ?_
        refine m_ rfl (f_ rfl) rfl (O_ ?_)
        cases r9
        · skip
          replace hr9 := of_decide_eq_false hr9
          refine P_ 9 [6, 7, 8, 9, 10, 11, 12] (by kernel_rfl) (fun _ a b => ⟨a, b⟩) (r_ rfl rfl rfl (h_ I_ rfl rfl rfl q_) rfl (r_ rfl rfl rfl (n_ 0 B_ rfl rfl rfl) rfl (r_ rfl rfl rfl (h_ I_ rfl rfl rfl q_) rfl (r_ rfl rfl rfl (n_ 1 B_ rfl rfl rfl) rfl ?_))))
          refine az_ rfl rfl rfl (au_ rfl rfl) rfl fun r10 hr10 => ?_
          refine m_ rfl (t_ rfl rfl) rfl (m_ rfl (f_ rfl) rfl (O_ ?_))
          cases r10
          · skip
            replace hr10 := of_decide_eq_false hr10
            refine P_ 0 [13, 14, 15, 16, 17, 18, 19, 20, 21] (by kernel_rfl) (fun _ a b => ⟨a, b⟩) (z_ rfl rfl rfl rfl rfl (z_ rfl rfl rfl rfl rfl (z_ rfl rfl rfl rfl rfl (z_ rfl rfl rfl rfl rfl (z_ rfl rfl rfl rfl rfl (z_ rfl rfl rfl rfl rfl (z_ rfl rfl rfl rfl rfl (m_ rfl (t_ rfl rfl) rfl (m_ rfl (e_ rfl) rfl ?_)))))))))
            refine O_ (T_ (by kernel_rfl) (b_ rfl (u_ ?_)))
            refine ci_ ?_
            have hres : false = true ↔ ga = am_ (Fc.a f) (Fc.r ga) (Fc.lo ga) (Fc.hi ga) ∧ gb = am_ (Fc.a f) (Fc.r ga) (Fc.lo gb) (Fc.hi gb) ∧ (Fc.hi ga < Fc.lo gb ∨ Fc.hi gb < Fc.lo ga) ∧ f = aL_ (Fc.a f) [33] := by
              refine Iff.trans ?_ (and_iff_right hsp0).symm; refine Iff.trans ?_ (and_iff_right hsp1).symm; clear hsp0 hsp1; simp [*]
            exact Y_ aw_ () (s_ rfl (Bool.eq_iff_iff.2 (hres.trans (aR_ wg wh).symm))) x_ (fun _ _ _ => trivial)
          · skip
            replace hr10 := of_decide_eq_true hr10
            refine P_ 4 [13, 14, 15, 16, 17] (by kernel_rfl) (fun _ a b => ⟨a, b⟩) (r_ rfl rfl rfl (h_ j_ rfl rfl rfl l_) rfl (r_ rfl rfl rfl (M_ 2 U_ l_ rfl rfl rfl) rfl (r_ rfl rfl rfl (h_ j_ rfl rfl rfl l_) rfl (r_ rfl rfl rfl (h_ o_ rfl rfl rfl y_) rfl (r_ rfl rfl rfl (n_ 2 H_ rfl rfl rfl) rfl (O_ (L_ 18 rfl (by kernel_rfl) (i_ rfl rfl (K_ (bO_ (Fc.a f) [33]) rfl x_ (fun _ _ _ => by exact trivial) rfl fun _ => ?_)))))))))
            refine d_ (p_ rfl (D_ (fun _ a b => ⟨a, b⟩) (P_ 0 [19, 20, 21] (by kernel_rfl) (fun _ a b => ⟨a, b⟩) ?_)))
            refine az_ rfl rfl rfl (av_ (p := f) (q := (aL_ (Fc.a f) [33])) rfl rfl) rfl fun r11 hr11 => ?_
            refine m_ rfl (v_ rfl rfl) rfl (m_ rfl (e_ rfl) rfl (O_ (T_ (by kernel_rfl) (b_ rfl (u_ ?_)))))
            refine ci_ ?_
            have hres : r11 = true ↔ ga = am_ (Fc.a f) (Fc.r ga) (Fc.lo ga) (Fc.hi ga) ∧ gb = am_ (Fc.a f) (Fc.r ga) (Fc.lo gb) (Fc.hi gb) ∧ (Fc.hi ga < Fc.lo gb ∨ Fc.hi gb < Fc.lo ga) ∧ f = aL_ (Fc.a f) [33] := by
              refine Iff.trans ?_ (and_iff_right hsp0).symm; refine Iff.trans ?_ (and_iff_right hsp1).symm; clear hsp0 hsp1; rw [← hr11]; clear hr11; simp [*]
            exact Y_ aw_ () (s_ rfl (Bool.eq_iff_iff.2 (hres.trans (aR_ wg wh).symm))) x_ (fun _ _ _ => trivial)
        · skip
          replace hr9 := of_decide_eq_true hr9
          refine P_ 4 [6, 7, 8, 9, 10, 11, 12, 13, 14, 15, 16, 17] (by kernel_rfl) (fun _ a b => ⟨a, b⟩) (z_ rfl rfl rfl rfl rfl (z_ rfl rfl rfl rfl rfl (z_ rfl rfl rfl rfl rfl (z_ rfl rfl rfl rfl rfl (z_ rfl rfl rfl rfl rfl (m_ rfl (v_ rfl rfl) rfl (m_ rfl (f_ rfl) rfl (r_ rfl rfl rfl (h_ j_ rfl rfl rfl l_) rfl (r_ rfl rfl rfl (M_ 2 U_ l_ rfl rfl rfl) rfl ?_)))))))))
          refine r_ rfl rfl rfl (h_ j_ rfl rfl rfl l_) rfl (r_ rfl rfl rfl (h_ o_ rfl rfl rfl y_) rfl (r_ rfl rfl rfl (n_ 2 H_ rfl rfl rfl) rfl (O_ (L_ 18 rfl (by kernel_rfl) (i_ rfl rfl (K_ (bO_ (Fc.a f) [33]) rfl x_ (fun _ _ _ => by exact trivial) rfl fun _ => ?_))))))
          refine d_ (p_ rfl (D_ (fun _ a b => ⟨a, b⟩) (P_ 0 [19, 20, 21] (by kernel_rfl) (fun _ a b => ⟨a, b⟩) ?_)))
          refine az_ rfl rfl rfl (av_ (p := f) (q := (aL_ (Fc.a f) [33])) rfl rfl) rfl fun r12 hr12 => ?_
          refine m_ rfl (v_ rfl rfl) rfl (m_ rfl (e_ rfl) rfl (O_ (T_ (by kernel_rfl) (b_ rfl (u_ ?_)))))
          refine ci_ ?_
          have hres : r12 = true ↔ ga = am_ (Fc.a f) (Fc.r ga) (Fc.lo ga) (Fc.hi ga) ∧ gb = am_ (Fc.a f) (Fc.r ga) (Fc.lo gb) (Fc.hi gb) ∧ (Fc.hi ga < Fc.lo gb ∨ Fc.hi gb < Fc.lo ga) ∧ f = aL_ (Fc.a f) [33] := by
            refine Iff.trans ?_ (and_iff_right hsp0).symm; refine Iff.trans ?_ (and_iff_right hsp1).symm; clear hsp0 hsp1; rw [← hr12]; clear hr12; simp [*]
          exact Y_ aw_ () (s_ rfl (Bool.eq_iff_iff.2 (hres.trans (aR_ wg wh).symm))) x_ (fun _ _ _ => trivial)
      · skip
        refine Z_ at_ rfl fun b8 => ?_
        refine d_ (p_ rfl (D_ (fun _ a b => ⟨a.tail.tail, b⟩) (L_ 13 rfl (by kernel_rfl) (ao_ (cx_ (Fc.r ga) kn q hkn es ec hE vb ab pv fv x f ga gb lad lcap) rfl x_ (fun v _ h => by exact ⟨h.1, h.2.1, h.2.2.1, trivial⟩) rfl (fun hb => cA_ ((by rw [Bool.eq_false_iff]; intro hq; exact hb ((aR_ wg wh).1 hq).2.1))) fun ⟨_, hsp1⟩ => ?_))))
        try dsimp only
        refine d_ (p_ rfl (D_ (fun _ a b => ⟨a.tail.tail, b⟩) (L_ 16 rfl (by kernel_rfl) (Q_ 1 ad_ rfl rfl rfl rfl rfl rfl (d_ (p_ rfl (D_ (fun _ a b => ⟨a.tail.tail, b⟩) (L_ 17 rfl (by kernel_rfl) (Q_ 0 ad_ rfl rfl rfl rfl rfl rfl ?_)))))))))
        refine d_ (p_ rfl (D_ (fun _ a b => ⟨a.tail.tail, b⟩) (T_ (by kernel_rfl) (b_ rfl (g_ ?_)))))
        refine aW_ (by kernel_rfl) ?_
        refine P_ 16 [0, 1, 2, 3, 4, 5] (by kernel_rfl) (fun _ a b => ⟨a, b⟩) (m_ rfl (h_ I_ rfl rfl rfl q_) rfl (m_ rfl (n_ 1 B_ rfl rfl rfl) rfl (m_ rfl (h_ I_ rfl rfl rfl q_) rfl (m_ rfl (n_ 0 B_ rfl rfl rfl) rfl ?_))))
        refine bJ_ rfl (au_ rfl rfl) rfl fun r13 hr13 => ?_
        refine m_ rfl (f_ rfl) rfl (O_ ?_)
        cases r13
        · skip
          replace hr13 := of_decide_eq_false hr13
          refine P_ 9 [6, 7, 8, 9, 10, 11, 12] (by kernel_rfl) (fun _ a b => ⟨a, b⟩) (r_ rfl rfl rfl (h_ I_ rfl rfl rfl q_) rfl (r_ rfl rfl rfl (n_ 0 B_ rfl rfl rfl) rfl (r_ rfl rfl rfl (h_ I_ rfl rfl rfl q_) rfl (r_ rfl rfl rfl (n_ 1 B_ rfl rfl rfl) rfl ?_))))
          refine az_ rfl rfl rfl (au_ rfl rfl) rfl fun r14 hr14 => ?_
          refine m_ rfl (t_ rfl rfl) rfl (m_ rfl (f_ rfl) rfl (O_ ?_))
          cases r14
          · skip
            replace hr14 := of_decide_eq_false hr14
            refine P_ 0 [13, 14, 15, 16, 17, 18, 19, 20, 21] (by kernel_rfl) (fun _ a b => ⟨a, b⟩) (z_ rfl rfl rfl rfl rfl (z_ rfl rfl rfl rfl rfl (z_ rfl rfl rfl rfl rfl (z_ rfl rfl rfl rfl rfl (z_ rfl rfl rfl rfl rfl (z_ rfl rfl rfl rfl rfl (z_ rfl rfl rfl rfl rfl (m_ rfl (t_ rfl rfl) rfl (m_ rfl (e_ rfl) rfl ?_)))))))))
            refine O_ (T_ (by kernel_rfl) (b_ rfl (u_ ?_)))
            refine ci_ ?_
            have hres : false = true ↔ ga = am_ (Fc.a f) (Fc.r ga) (Fc.lo ga) (Fc.hi ga) ∧ gb = am_ (Fc.a f) (Fc.r ga) (Fc.lo gb) (Fc.hi gb) ∧ (Fc.hi ga < Fc.lo gb ∨ Fc.hi gb < Fc.lo ga) ∧ f = aL_ (Fc.a f) [33] := by
              refine Iff.trans ?_ (and_iff_right hsp0).symm; refine Iff.trans ?_ (and_iff_right hsp1).symm; clear hsp0 hsp1; simp [*]
            exact Y_ aw_ () (s_ rfl (Bool.eq_iff_iff.2 (hres.trans (aR_ wg wh).symm))) x_ (fun _ _ _ => trivial)
          · skip
            replace hr14 := of_decide_eq_true hr14
            refine P_ 4 [13, 14, 15, 16, 17] (by kernel_rfl) (fun _ a b => ⟨a, b⟩) (r_ rfl rfl rfl (h_ j_ rfl rfl rfl l_) rfl (r_ rfl rfl rfl (M_ 2 U_ l_ rfl rfl rfl) rfl (r_ rfl rfl rfl (h_ j_ rfl rfl rfl l_) rfl (r_ rfl rfl rfl (h_ o_ rfl rfl rfl y_) rfl (r_ rfl rfl rfl (n_ 2 H_ rfl rfl rfl) rfl (O_ (L_ 18 rfl (by kernel_rfl) (i_ rfl rfl (K_ (bO_ (Fc.a f) [33]) rfl x_ (fun _ _ _ => by exact trivial) rfl fun _ => ?_)))))))))
            refine d_ (p_ rfl (D_ (fun _ a b => ⟨a, b⟩) (P_ 0 [19, 20, 21] (by kernel_rfl) (fun _ a b => ⟨a, b⟩) ?_)))
            refine az_ rfl rfl rfl (av_ (p := f) (q := (aL_ (Fc.a f) [33])) rfl rfl) rfl fun r15 hr15 => ?_
            refine m_ rfl (v_ rfl rfl) rfl (m_ rfl (e_ rfl) rfl (O_ (T_ (by kernel_rfl) (b_ rfl (u_ ?_)))))
            refine ci_ ?_
            have hres : r15 = true ↔ ga = am_ (Fc.a f) (Fc.r ga) (Fc.lo ga) (Fc.hi ga) ∧ gb = am_ (Fc.a f) (Fc.r ga) (Fc.lo gb) (Fc.hi gb) ∧ (Fc.hi ga < Fc.lo gb ∨ Fc.hi gb < Fc.lo ga) ∧ f = aL_ (Fc.a f) [33] := by
              refine Iff.trans ?_ (and_iff_right hsp0).symm; refine Iff.trans ?_ (and_iff_right hsp1).symm; clear hsp0 hsp1; rw [← hr15]; clear hr15; simp [*]
            exact Y_ aw_ () (s_ rfl (Bool.eq_iff_iff.2 (hres.trans (aR_ wg wh).symm))) x_ (fun _ _ _ => trivial)
        · skip
          replace hr13 := of_decide_eq_true hr13
          refine P_ 4 [6, 7, 8, 9, 10, 11, 12, 13, 14, 15, 16, 17] (by kernel_rfl) (fun _ a b => ⟨a, b⟩) (z_ rfl rfl rfl rfl rfl (z_ rfl rfl rfl rfl rfl (z_ rfl rfl rfl rfl rfl (z_ rfl rfl rfl rfl rfl (z_ rfl rfl rfl rfl rfl (m_ rfl (v_ rfl rfl) rfl (m_ rfl (f_ rfl) rfl (r_ rfl rfl rfl (h_ j_ rfl rfl rfl l_) rfl (r_ rfl rfl rfl (M_ 2 U_ l_ rfl rfl rfl) rfl ?_)))))))))
          refine r_ rfl rfl rfl (h_ j_ rfl rfl rfl l_) rfl (r_ rfl rfl rfl (h_ o_ rfl rfl rfl y_) rfl (r_ rfl rfl rfl (n_ 2 H_ rfl rfl rfl) rfl (O_ (L_ 18 rfl (by kernel_rfl) (i_ rfl rfl (K_ (bO_ (Fc.a f) [33]) rfl x_ (fun _ _ _ => by exact trivial) rfl fun _ => ?_))))))
          refine d_ (p_ rfl (D_ (fun _ a b => ⟨a, b⟩) (P_ 0 [19, 20, 21] (by kernel_rfl) (fun _ a b => ⟨a, b⟩) ?_)))
          refine az_ rfl rfl rfl (av_ (p := f) (q := (aL_ (Fc.a f) [33])) rfl rfl) rfl fun r16 hr16 => ?_
          refine m_ rfl (v_ rfl rfl) rfl (m_ rfl (e_ rfl) rfl (O_ (T_ (by kernel_rfl) (b_ rfl (u_ ?_)))))
          refine ci_ ?_
          have hres : r16 = true ↔ ga = am_ (Fc.a f) (Fc.r ga) (Fc.lo ga) (Fc.hi ga) ∧ gb = am_ (Fc.a f) (Fc.r ga) (Fc.lo gb) (Fc.hi gb) ∧ (Fc.hi ga < Fc.lo gb ∨ Fc.hi gb < Fc.lo ga) ∧ f = aL_ (Fc.a f) [33] := by
            refine Iff.trans ?_ (and_iff_right hsp0).symm; refine Iff.trans ?_ (and_iff_right hsp1).symm; clear hsp0 hsp1; rw [← hr16]; clear hr16; simp [*]
          exact Y_ aw_ () (s_ rfl (Bool.eq_iff_iff.2 (hres.trans (aR_ wg wh).symm))) x_ (fun _ _ _ => trivial)
    · refine ⟨_, rfl, ?_⟩
      refine Z_ at_ rfl fun b9 => ?_
      refine d_ (p_ rfl (D_ (fun _ a b => ⟨a.tail, b⟩) ?_))
      refine cm_ 13 14 rfl rfl (by kernel_rfl) ?_ ?_
      · skip
        refine ao_ (cx_ (Fc.r ga) kn q hkn es ec hE vb ab pv fv x f ga gb lad lcap) rfl x_ (fun v _ h => by exact ⟨h.1, h.2.1, h.2.2.1, trivial⟩) rfl (fun hb => cA_ ((by rw [Bool.eq_false_iff]; intro hq; exact hb ((aR_ wg wh).1 hq).2.1))) fun ⟨_, hsp1⟩ => ?_
        try dsimp only
        refine d_ (p_ rfl (D_ (fun _ a b => ⟨a.tail, b⟩) (L_ 14 rfl (by kernel_rfl) (Z_ at_ rfl fun b10 => ?_))))
        refine d_ (p_ rfl (D_ (fun _ a b => ⟨a.tail.tail, b⟩) (L_ 16 rfl (by kernel_rfl) (Q_ 0 ad_ rfl rfl rfl rfl rfl rfl (d_ (p_ rfl (D_ (fun _ a b => ⟨a.tail.tail, b⟩) (L_ 17 rfl (by kernel_rfl) (Q_ 1 ad_ rfl rfl rfl rfl rfl rfl ?_)))))))))
        refine d_ (p_ rfl (D_ (fun _ a b => ⟨a.tail.tail, b⟩) (T_ (by kernel_rfl) (b_ rfl (g_ ?_)))))
        refine aW_ (by kernel_rfl) ?_
        refine P_ 16 [0, 1, 2, 3, 4, 5] (by kernel_rfl) (fun _ a b => ⟨a, b⟩) (m_ rfl (h_ I_ rfl rfl rfl q_) rfl (m_ rfl (n_ 0 B_ rfl rfl rfl) rfl (m_ rfl (h_ I_ rfl rfl rfl q_) rfl (m_ rfl (n_ 1 B_ rfl rfl rfl) rfl ?_))))
        refine bJ_ rfl (au_ rfl rfl) rfl fun r17 hr17 => ?_
        refine m_ rfl (f_ rfl) rfl (O_ ?_)
        cases r17
        · skip
          replace hr17 := of_decide_eq_false hr17
          refine P_ 9 [6, 7, 8, 9, 10, 11, 12] (by kernel_rfl) (fun _ a b => ⟨a, b⟩) (r_ rfl rfl rfl (h_ I_ rfl rfl rfl q_) rfl (r_ rfl rfl rfl (n_ 1 B_ rfl rfl rfl) rfl (r_ rfl rfl rfl (h_ I_ rfl rfl rfl q_) rfl (r_ rfl rfl rfl (n_ 0 B_ rfl rfl rfl) rfl ?_))))
          refine az_ rfl rfl rfl (au_ rfl rfl) rfl fun r18 hr18 => ?_
          refine m_ rfl (t_ rfl rfl) rfl (m_ rfl (f_ rfl) rfl (O_ ?_))
          cases r18
          · skip
            replace hr18 := of_decide_eq_false hr18
            refine P_ 0 [13, 14, 15, 16, 17, 18, 19, 20, 21] (by kernel_rfl) (fun _ a b => ⟨a, b⟩) (z_ rfl rfl rfl rfl rfl (z_ rfl rfl rfl rfl rfl (z_ rfl rfl rfl rfl rfl (z_ rfl rfl rfl rfl rfl (z_ rfl rfl rfl rfl rfl (z_ rfl rfl rfl rfl rfl (z_ rfl rfl rfl rfl rfl (m_ rfl (t_ rfl rfl) rfl (m_ rfl (e_ rfl) rfl ?_)))))))))
            refine O_ (T_ (by kernel_rfl) (b_ rfl (u_ ?_)))
            refine ci_ ?_
            have hres : false = true ↔ ga = am_ (Fc.a f) (Fc.r ga) (Fc.lo ga) (Fc.hi ga) ∧ gb = am_ (Fc.a f) (Fc.r ga) (Fc.lo gb) (Fc.hi gb) ∧ (Fc.hi ga < Fc.lo gb ∨ Fc.hi gb < Fc.lo ga) ∧ f = aL_ (Fc.a f) [33] := by
              refine Iff.trans ?_ (and_iff_right hsp0).symm; refine Iff.trans ?_ (and_iff_right hsp1).symm; clear hsp0 hsp1; simp [*]
            exact Y_ aw_ () (s_ rfl (Bool.eq_iff_iff.2 (hres.trans (aR_ wg wh).symm))) x_ (fun _ _ _ => trivial)
          · skip
            replace hr18 := of_decide_eq_true hr18
            refine P_ 4 [13, 14, 15, 16, 17] (by kernel_rfl) (fun _ a b => ⟨a, b⟩) (r_ rfl rfl rfl (h_ j_ rfl rfl rfl l_) rfl (r_ rfl rfl rfl (M_ 2 U_ l_ rfl rfl rfl) rfl (r_ rfl rfl rfl (h_ j_ rfl rfl rfl l_) rfl (r_ rfl rfl rfl (h_ o_ rfl rfl rfl y_) rfl (r_ rfl rfl rfl (n_ 2 H_ rfl rfl rfl) rfl (O_ (L_ 18 rfl (by kernel_rfl) (i_ rfl rfl (K_ (bO_ (Fc.a f) [33]) rfl x_ (fun _ _ _ => by exact trivial) rfl fun _ => ?_)))))))))
            refine d_ (p_ rfl (D_ (fun _ a b => ⟨a, b⟩) (P_ 0 [19, 20, 21] (by kernel_rfl) (fun _ a b => ⟨a, b⟩) ?_)))
            refine az_ rfl rfl rfl (av_ (p := f) (q := (aL_ (Fc.a f) [33])) rfl rfl) rfl fun r19 hr19 => ?_
            refine m_ rfl (v_ rfl rfl) rfl (m_ rfl (e_ rfl) rfl (O_ (T_ (by kernel_rfl) (b_ rfl (u_ ?_)))))
            refine ci_ ?_
            have hres : r19 = true ↔ ga = am_ (Fc.a f) (Fc.r ga) (Fc.lo ga) (Fc.hi ga) ∧ gb = am_ (Fc.a f) (Fc.r ga) (Fc.lo gb) (Fc.hi gb) ∧ (Fc.hi ga < Fc.lo gb ∨ Fc.hi gb < Fc.lo ga) ∧ f = aL_ (Fc.a f) [33] := by
              refine Iff.trans ?_ (and_iff_right hsp0).symm; refine Iff.trans ?_ (and_iff_right hsp1).symm; clear hsp0 hsp1; rw [← hr19]; clear hr19; simp [*]
            exact Y_ aw_ () (s_ rfl (Bool.eq_iff_iff.2 (hres.trans (aR_ wg wh).symm))) x_ (fun _ _ _ => trivial)
        · skip
          replace hr17 := of_decide_eq_true hr17
          refine P_ 4 [6, 7, 8, 9, 10, 11, 12, 13, 14, 15, 16, 17] (by kernel_rfl) (fun _ a b => ⟨a, b⟩) (z_ rfl rfl rfl rfl rfl (z_ rfl rfl rfl rfl rfl (z_ rfl rfl rfl rfl rfl (z_ rfl rfl rfl rfl rfl (z_ rfl rfl rfl rfl rfl (m_ rfl (v_ rfl rfl) rfl (m_ rfl (f_ rfl) rfl (r_ rfl rfl rfl (h_ j_ rfl rfl rfl l_) rfl (r_ rfl rfl rfl (M_ 2 U_ l_ rfl rfl rfl) rfl ?_)))))))))
          refine r_ rfl rfl rfl (h_ j_ rfl rfl rfl l_) rfl (r_ rfl rfl rfl (h_ o_ rfl rfl rfl y_) rfl (r_ rfl rfl rfl (n_ 2 H_ rfl rfl rfl) rfl (O_ (L_ 18 rfl (by kernel_rfl) (i_ rfl rfl (K_ (bO_ (Fc.a f) [33]) rfl x_ (fun _ _ _ => by exact trivial) rfl fun _ => ?_))))))
          refine d_ (p_ rfl (D_ (fun _ a b => ⟨a, b⟩) (P_ 0 [19, 20, 21] (by kernel_rfl) (fun _ a b => ⟨a, b⟩) ?_)))
          refine az_ rfl rfl rfl (av_ (p := f) (q := (aL_ (Fc.a f) [33])) rfl rfl) rfl fun r20 hr20 => ?_
          refine m_ rfl (v_ rfl rfl) rfl (m_ rfl (e_ rfl) rfl (O_ (T_ (by kernel_rfl) (b_ rfl (u_ ?_)))))
          refine ci_ ?_
          have hres : r20 = true ↔ ga = am_ (Fc.a f) (Fc.r ga) (Fc.lo ga) (Fc.hi ga) ∧ gb = am_ (Fc.a f) (Fc.r ga) (Fc.lo gb) (Fc.hi gb) ∧ (Fc.hi ga < Fc.lo gb ∨ Fc.hi gb < Fc.lo ga) ∧ f = aL_ (Fc.a f) [33] := by
            refine Iff.trans ?_ (and_iff_right hsp0).symm; refine Iff.trans ?_ (and_iff_right hsp1).symm; clear hsp0 hsp1; rw [← hr20]; clear hr20; simp [*]
          exact Y_ aw_ () (s_ rfl (Bool.eq_iff_iff.2 (hres.trans (aR_ wg wh).symm))) x_ (fun _ _ _ => trivial)
      · skip
        refine Z_ at_ rfl fun b11 => ?_
        refine d_ (p_ rfl (D_ (fun _ a b => ⟨a.tail.tail, b⟩) (L_ 13 rfl (by kernel_rfl) (ao_ (cx_ (Fc.r ga) kn q hkn es ec hE vb ab pv fv x f ga gb lad lcap) rfl x_ (fun v _ h => by exact ⟨h.1, h.2.1, h.2.2.1, trivial⟩) rfl (fun hb => cA_ ((by rw [Bool.eq_false_iff]; intro hq; exact hb ((aR_ wg wh).1 hq).2.1))) fun ⟨_, hsp1⟩ => ?_))))
        try dsimp only
        refine d_ (p_ rfl (D_ (fun _ a b => ⟨a.tail.tail, b⟩) (L_ 16 rfl (by kernel_rfl) (Q_ 0 ad_ rfl rfl rfl rfl rfl rfl (d_ (p_ rfl (D_ (fun _ a b => ⟨a.tail.tail, b⟩) (L_ 17 rfl (by kernel_rfl) (Q_ 1 ad_ rfl rfl rfl rfl rfl rfl ?_)))))))))
        refine d_ (p_ rfl (D_ (fun _ a b => ⟨a.tail.tail, b⟩) (T_ (by kernel_rfl) (b_ rfl (g_ ?_)))))
        refine aW_ (by kernel_rfl) ?_
        refine P_ 16 [0, 1, 2, 3, 4, 5] (by kernel_rfl) (fun _ a b => ⟨a, b⟩) (m_ rfl (h_ I_ rfl rfl rfl q_) rfl (m_ rfl (n_ 0 B_ rfl rfl rfl) rfl (m_ rfl (h_ I_ rfl rfl rfl q_) rfl (m_ rfl (n_ 1 B_ rfl rfl rfl) rfl ?_))))
        refine bJ_ rfl (au_ rfl rfl) rfl fun r21 hr21 => ?_
        refine m_ rfl (f_ rfl) rfl (O_ ?_)
        cases r21
        · skip
          replace hr21 := of_decide_eq_false hr21
          refine P_ 9 [6, 7, 8, 9, 10, 11, 12] (by kernel_rfl) (fun _ a b => ⟨a, b⟩) (r_ rfl rfl rfl (h_ I_ rfl rfl rfl q_) rfl (r_ rfl rfl rfl (n_ 1 B_ rfl rfl rfl) rfl (r_ rfl rfl rfl (h_ I_ rfl rfl rfl q_) rfl (r_ rfl rfl rfl (n_ 0 B_ rfl rfl rfl) rfl ?_))))
          refine az_ rfl rfl rfl (au_ rfl rfl) rfl fun r22 hr22 => ?_
          refine m_ rfl (t_ rfl rfl) rfl (m_ rfl (f_ rfl) rfl (O_ ?_))
          cases r22
          · skip
            replace hr22 := of_decide_eq_false hr22
            refine P_ 0 [13, 14, 15, 16, 17, 18, 19, 20, 21] (by kernel_rfl) (fun _ a b => ⟨a, b⟩) (z_ rfl rfl rfl rfl rfl (z_ rfl rfl rfl rfl rfl (z_ rfl rfl rfl rfl rfl (z_ rfl rfl rfl rfl rfl (z_ rfl rfl rfl rfl rfl (z_ rfl rfl rfl rfl rfl (z_ rfl rfl rfl rfl rfl (m_ rfl (t_ rfl rfl) rfl (m_ rfl (e_ rfl) rfl ?_)))))))))
            refine O_ (T_ (by kernel_rfl) (b_ rfl (u_ ?_)))
            refine ci_ ?_
            have hres : false = true ↔ ga = am_ (Fc.a f) (Fc.r ga) (Fc.lo ga) (Fc.hi ga) ∧ gb = am_ (Fc.a f) (Fc.r ga) (Fc.lo gb) (Fc.hi gb) ∧ (Fc.hi ga < Fc.lo gb ∨ Fc.hi gb < Fc.lo ga) ∧ f = aL_ (Fc.a f) [33] := by
              refine Iff.trans ?_ (and_iff_right hsp0).symm; refine Iff.trans ?_ (and_iff_right hsp1).symm; clear hsp0 hsp1; simp [*]
            exact Y_ aw_ () (s_ rfl (Bool.eq_iff_iff.2 (hres.trans (aR_ wg wh).symm))) x_ (fun _ _ _ => trivial)
          · skip
            replace hr22 := of_decide_eq_true hr22
            refine P_ 4 [13, 14, 15, 16, 17] (by kernel_rfl) (fun _ a b => ⟨a, b⟩) (r_ rfl rfl rfl (h_ j_ rfl rfl rfl l_) rfl (r_ rfl rfl rfl (M_ 2 U_ l_ rfl rfl rfl) rfl (r_ rfl rfl rfl (h_ j_ rfl rfl rfl l_) rfl (r_ rfl rfl rfl (h_ o_ rfl rfl rfl y_) rfl (r_ rfl rfl rfl (n_ 2 H_ rfl rfl rfl) rfl (O_ (L_ 18 rfl (by kernel_rfl) (i_ rfl rfl (K_ (bO_ (Fc.a f) [33]) rfl x_ (fun _ _ _ => by exact trivial) rfl fun _ => ?_)))))))))
            refine d_ (p_ rfl (D_ (fun _ a b => ⟨a, b⟩) (P_ 0 [19, 20, 21] (by kernel_rfl) (fun _ a b => ⟨a, b⟩) ?_)))
            refine az_ rfl rfl rfl (av_ (p := f) (q := (aL_ (Fc.a f) [33])) rfl rfl) rfl fun r23 hr23 => ?_
            refine m_ rfl (v_ rfl rfl) rfl (m_ rfl (e_ rfl) rfl (O_ (T_ (by kernel_rfl) (b_ rfl (u_ ?_)))))
            refine ci_ ?_
            have hres : r23 = true ↔ ga = am_ (Fc.a f) (Fc.r ga) (Fc.lo ga) (Fc.hi ga) ∧ gb = am_ (Fc.a f) (Fc.r ga) (Fc.lo gb) (Fc.hi gb) ∧ (Fc.hi ga < Fc.lo gb ∨ Fc.hi gb < Fc.lo ga) ∧ f = aL_ (Fc.a f) [33] := by
              refine Iff.trans ?_ (and_iff_right hsp0).symm; refine Iff.trans ?_ (and_iff_right hsp1).symm; clear hsp0 hsp1; rw [← hr23]; clear hr23; simp [*]
            exact Y_ aw_ () (s_ rfl (Bool.eq_iff_iff.2 (hres.trans (aR_ wg wh).symm))) x_ (fun _ _ _ => trivial)
        · skip
          replace hr21 := of_decide_eq_true hr21
          refine P_ 4 [6, 7, 8, 9, 10, 11, 12, 13, 14, 15, 16, 17] (by kernel_rfl) (fun _ a b => ⟨a, b⟩) (z_ rfl rfl rfl rfl rfl (z_ rfl rfl rfl rfl rfl (z_ rfl rfl rfl rfl rfl (z_ rfl rfl rfl rfl rfl (z_ rfl rfl rfl rfl rfl (m_ rfl (v_ rfl rfl) rfl (m_ rfl (f_ rfl) rfl (r_ rfl rfl rfl (h_ j_ rfl rfl rfl l_) rfl (r_ rfl rfl rfl (M_ 2 U_ l_ rfl rfl rfl) rfl ?_)))))))))
          refine r_ rfl rfl rfl (h_ j_ rfl rfl rfl l_) rfl (r_ rfl rfl rfl (h_ o_ rfl rfl rfl y_) rfl (r_ rfl rfl rfl (n_ 2 H_ rfl rfl rfl) rfl (O_ (L_ 18 rfl (by kernel_rfl) (i_ rfl rfl (K_ (bO_ (Fc.a f) [33]) rfl x_ (fun _ _ _ => by exact trivial) rfl fun _ => ?_))))))
          refine d_ (p_ rfl (D_ (fun _ a b => ⟨a, b⟩) (P_ 0 [19, 20, 21] (by kernel_rfl) (fun _ a b => ⟨a, b⟩) ?_)))
          refine az_ rfl rfl rfl (av_ (p := f) (q := (aL_ (Fc.a f) [33])) rfl rfl) rfl fun r24 hr24 => ?_
          refine m_ rfl (v_ rfl rfl) rfl (m_ rfl (e_ rfl) rfl (O_ (T_ (by kernel_rfl) (b_ rfl (u_ ?_)))))
          refine ci_ ?_
          have hres : r24 = true ↔ ga = am_ (Fc.a f) (Fc.r ga) (Fc.lo ga) (Fc.hi ga) ∧ gb = am_ (Fc.a f) (Fc.r ga) (Fc.lo gb) (Fc.hi gb) ∧ (Fc.hi ga < Fc.lo gb ∨ Fc.hi gb < Fc.lo ga) ∧ f = aL_ (Fc.a f) [33] := by
            refine Iff.trans ?_ (and_iff_right hsp0).symm; refine Iff.trans ?_ (and_iff_right hsp1).symm; clear hsp0 hsp1; rw [← hr24]; clear hr24; simp [*]
          exact Y_ aw_ () (s_ rfl (Bool.eq_iff_iff.2 (hres.trans (aR_ wg wh).symm))) x_ (fun _ _ _ => trivial)
  · refine ⟨_, rfl, ?_⟩
    refine Z_ at_ rfl fun b12 => ?_
    refine d_ (p_ rfl (D_ (fun _ a b => ⟨a.tail, b⟩) ?_))
    refine cm_ 6 15 rfl rfl (by kernel_rfl) ?_ ?_
    · skip
      refine ao_ (dW_ (Fc.r ga) kn q hkn es ec hE vb ab pv fv x f ga gb lad lcap) rfl x_ (fun v _ h => by exact ⟨h.1, h.2.1, h.2.2.1, trivial⟩) rfl (fun hb => cA_ ((by rw [Bool.eq_false_iff]; intro hq; exact hb ((aR_ wg wh).1 hq).1))) fun ⟨_, hsp0⟩ => ?_
      try dsimp only
      refine d_ (p_ rfl (D_ (fun _ a b => ⟨a.tail, b⟩) ?_))
      refine cm_ 13 15 rfl rfl (by kernel_rfl) ?_ ?_
      · skip
        refine ao_ (cx_ (Fc.r ga) kn q hkn es ec hE vb ab pv fv x f ga gb lad lcap) rfl x_ (fun v _ h => by exact ⟨h.1, h.2.1, h.2.2.1, trivial⟩) rfl (fun hb => cA_ ((by rw [Bool.eq_false_iff]; intro hq; exact hb ((aR_ wg wh).1 hq).2.1))) fun ⟨_, hsp1⟩ => ?_
        try dsimp only
        refine d_ (p_ rfl (D_ (fun _ a b => ⟨a.tail, b⟩) (L_ 15 rfl (by kernel_rfl) (Z_ at_ rfl fun b13 => ?_))))
        refine d_ (p_ rfl (D_ (fun _ a b => ⟨a.tail.tail, b⟩) (L_ 16 rfl (by kernel_rfl) (Q_ 1 ad_ rfl rfl rfl rfl rfl rfl (d_ (p_ rfl (D_ (fun _ a b => ⟨a.tail.tail, b⟩) (L_ 17 rfl (by kernel_rfl) (Q_ 0 ad_ rfl rfl rfl rfl rfl rfl ?_)))))))))
        refine d_ (p_ rfl (D_ (fun _ a b => ⟨a.tail.tail, b⟩) (T_ (by kernel_rfl) (b_ rfl (g_ ?_)))))
        refine aW_ (by kernel_rfl) ?_
        refine P_ 16 [0, 1, 2, 3, 4, 5] (by kernel_rfl) (fun _ a b => ⟨a, b⟩) (m_ rfl (h_ I_ rfl rfl rfl q_) rfl (m_ rfl (n_ 1 B_ rfl rfl rfl) rfl (m_ rfl (h_ I_ rfl rfl rfl q_) rfl (m_ rfl (n_ 0 B_ rfl rfl rfl) rfl ?_))))
        refine bJ_ rfl (au_ rfl rfl) rfl fun r25 hr25 => ?_
        refine m_ rfl (f_ rfl) rfl (O_ ?_)
        cases r25
        · skip
          replace hr25 := of_decide_eq_false hr25
          refine P_ 9 [6, 7, 8, 9, 10, 11, 12] (by kernel_rfl) (fun _ a b => ⟨a, b⟩) (r_ rfl rfl rfl (h_ I_ rfl rfl rfl q_) rfl (r_ rfl rfl rfl (n_ 0 B_ rfl rfl rfl) rfl (r_ rfl rfl rfl (h_ I_ rfl rfl rfl q_) rfl (r_ rfl rfl rfl (n_ 1 B_ rfl rfl rfl) rfl ?_))))
          refine az_ rfl rfl rfl (au_ rfl rfl) rfl fun r26 hr26 => ?_
          refine m_ rfl (t_ rfl rfl) rfl (m_ rfl (f_ rfl) rfl (O_ ?_))
          cases r26
          · skip
            replace hr26 := of_decide_eq_false hr26
            refine P_ 0 [13, 14, 15, 16, 17, 18, 19, 20, 21] (by kernel_rfl) (fun _ a b => ⟨a, b⟩) (z_ rfl rfl rfl rfl rfl (z_ rfl rfl rfl rfl rfl (z_ rfl rfl rfl rfl rfl (z_ rfl rfl rfl rfl rfl (z_ rfl rfl rfl rfl rfl (z_ rfl rfl rfl rfl rfl (z_ rfl rfl rfl rfl rfl (m_ rfl (t_ rfl rfl) rfl (m_ rfl (e_ rfl) rfl ?_)))))))))
            refine O_ (T_ (by kernel_rfl) (b_ rfl (u_ ?_)))
            refine ci_ ?_
            have hres : false = true ↔ ga = am_ (Fc.a f) (Fc.r ga) (Fc.lo ga) (Fc.hi ga) ∧ gb = am_ (Fc.a f) (Fc.r ga) (Fc.lo gb) (Fc.hi gb) ∧ (Fc.hi ga < Fc.lo gb ∨ Fc.hi gb < Fc.lo ga) ∧ f = aL_ (Fc.a f) [33] := by
              refine Iff.trans ?_ (and_iff_right hsp0).symm; refine Iff.trans ?_ (and_iff_right hsp1).symm; clear hsp0 hsp1; simp [*]
            exact Y_ aw_ () (s_ rfl (Bool.eq_iff_iff.2 (hres.trans (aR_ wg wh).symm))) x_ (fun _ _ _ => trivial)
          · skip
            replace hr26 := of_decide_eq_true hr26
            refine P_ 4 [13, 14, 15, 16, 17] (by kernel_rfl) (fun _ a b => ⟨a, b⟩) (r_ rfl rfl rfl (h_ j_ rfl rfl rfl l_) rfl (r_ rfl rfl rfl (M_ 2 U_ l_ rfl rfl rfl) rfl (r_ rfl rfl rfl (h_ j_ rfl rfl rfl l_) rfl (r_ rfl rfl rfl (h_ o_ rfl rfl rfl y_) rfl (r_ rfl rfl rfl (n_ 2 H_ rfl rfl rfl) rfl (O_ (L_ 18 rfl (by kernel_rfl) (i_ rfl rfl (K_ (bO_ (Fc.a f) [33]) rfl x_ (fun _ _ _ => by exact trivial) rfl fun _ => ?_)))))))))
            refine d_ (p_ rfl (D_ (fun _ a b => ⟨a, b⟩) (P_ 0 [19, 20, 21] (by kernel_rfl) (fun _ a b => ⟨a, b⟩) ?_)))
            refine az_ rfl rfl rfl (av_ (p := f) (q := (aL_ (Fc.a f) [33])) rfl rfl) rfl fun r27 hr27 => ?_
            refine m_ rfl (v_ rfl rfl) rfl (m_ rfl (e_ rfl) rfl (O_ (T_ (by kernel_rfl) (b_ rfl (u_ ?_)))))
            refine ci_ ?_
            have hres : r27 = true ↔ ga = am_ (Fc.a f) (Fc.r ga) (Fc.lo ga) (Fc.hi ga) ∧ gb = am_ (Fc.a f) (Fc.r ga) (Fc.lo gb) (Fc.hi gb) ∧ (Fc.hi ga < Fc.lo gb ∨ Fc.hi gb < Fc.lo ga) ∧ f = aL_ (Fc.a f) [33] := by
              refine Iff.trans ?_ (and_iff_right hsp0).symm; refine Iff.trans ?_ (and_iff_right hsp1).symm; clear hsp0 hsp1; rw [← hr27]; clear hr27; simp [*]
            exact Y_ aw_ () (s_ rfl (Bool.eq_iff_iff.2 (hres.trans (aR_ wg wh).symm))) x_ (fun _ _ _ => trivial)
        · skip
          replace hr25 := of_decide_eq_true hr25
          refine P_ 4 [6, 7, 8, 9, 10, 11, 12, 13, 14, 15, 16, 17] (by kernel_rfl) (fun _ a b => ⟨a, b⟩) (z_ rfl rfl rfl rfl rfl (z_ rfl rfl rfl rfl rfl (z_ rfl rfl rfl rfl rfl (z_ rfl rfl rfl rfl rfl (z_ rfl rfl rfl rfl rfl (m_ rfl (v_ rfl rfl) rfl (m_ rfl (f_ rfl) rfl (r_ rfl rfl rfl (h_ j_ rfl rfl rfl l_) rfl (r_ rfl rfl rfl (M_ 2 U_ l_ rfl rfl rfl) rfl ?_)))))))))
          refine r_ rfl rfl rfl (h_ j_ rfl rfl rfl l_) rfl (r_ rfl rfl rfl (h_ o_ rfl rfl rfl y_) rfl (r_ rfl rfl rfl (n_ 2 H_ rfl rfl rfl) rfl (O_ (L_ 18 rfl (by kernel_rfl) (i_ rfl rfl (K_ (bO_ (Fc.a f) [33]) rfl x_ (fun _ _ _ => by exact trivial) rfl fun _ => ?_))))))
          refine d_ (p_ rfl (D_ (fun _ a b => ⟨a, b⟩) (P_ 0 [19, 20, 21] (by kernel_rfl) (fun _ a b => ⟨a, b⟩) ?_)))
          refine az_ rfl rfl rfl (av_ (p := f) (q := (aL_ (Fc.a f) [33])) rfl rfl) rfl fun r28 hr28 => ?_
          refine m_ rfl (v_ rfl rfl) rfl (m_ rfl (e_ rfl) rfl (O_ (T_ (by kernel_rfl) (b_ rfl (u_ ?_)))))
          refine ci_ ?_
          have hres : r28 = true ↔ ga = am_ (Fc.a f) (Fc.r ga) (Fc.lo ga) (Fc.hi ga) ∧ gb = am_ (Fc.a f) (Fc.r ga) (Fc.lo gb) (Fc.hi gb) ∧ (Fc.hi ga < Fc.lo gb ∨ Fc.hi gb < Fc.lo ga) ∧ f = aL_ (Fc.a f) [33] := by
            refine Iff.trans ?_ (and_iff_right hsp0).symm; refine Iff.trans ?_ (and_iff_right hsp1).symm; clear hsp0 hsp1; rw [← hr28]; clear hr28; simp [*]
          exact Y_ aw_ () (s_ rfl (Bool.eq_iff_iff.2 (hres.trans (aR_ wg wh).symm))) x_ (fun _ _ _ => trivial)
      · skip
        refine Z_ at_ rfl fun b14 => ?_
        refine d_ (p_ rfl (D_ (fun _ a b => ⟨a.tail.tail, b⟩) (L_ 13 rfl (by kernel_rfl) (ao_ (cx_ (Fc.r ga) kn q hkn es ec hE vb ab pv fv x f ga gb lad lcap) rfl x_ (fun v _ h => by exact ⟨h.1, h.2.1, h.2.2.1, trivial⟩) rfl (fun hb => cA_ ((by rw [Bool.eq_false_iff]; intro hq; exact hb ((aR_ wg wh).1 hq).2.1))) fun ⟨_, hsp1⟩ => ?_))))
        try dsimp only
        refine d_ (p_ rfl (D_ (fun _ a b => ⟨a.tail.tail, b⟩) (L_ 16 rfl (by kernel_rfl) (Q_ 1 ad_ rfl rfl rfl rfl rfl rfl (d_ (p_ rfl (D_ (fun _ a b => ⟨a.tail.tail, b⟩) (L_ 17 rfl (by kernel_rfl) (Q_ 0 ad_ rfl rfl rfl rfl rfl rfl ?_)))))))))
        refine d_ (p_ rfl (D_ (fun _ a b => ⟨a.tail.tail, b⟩) (T_ (by kernel_rfl) (b_ rfl (g_ ?_)))))
        refine aW_ (by kernel_rfl) ?_
        refine P_ 16 [0, 1, 2, 3, 4, 5] (by kernel_rfl) (fun _ a b => ⟨a, b⟩) (m_ rfl (h_ I_ rfl rfl rfl q_) rfl (m_ rfl (n_ 1 B_ rfl rfl rfl) rfl (m_ rfl (h_ I_ rfl rfl rfl q_) rfl (m_ rfl (n_ 0 B_ rfl rfl rfl) rfl ?_))))
        refine bJ_ rfl (au_ rfl rfl) rfl fun r29 hr29 => ?_
        refine m_ rfl (f_ rfl) rfl (O_ ?_)
        cases r29
        · skip
          replace hr29 := of_decide_eq_false hr29
          refine P_ 9 [6, 7, 8, 9, 10, 11, 12] (by kernel_rfl) (fun _ a b => ⟨a, b⟩) (r_ rfl rfl rfl (h_ I_ rfl rfl rfl q_) rfl (r_ rfl rfl rfl (n_ 0 B_ rfl rfl rfl) rfl (r_ rfl rfl rfl (h_ I_ rfl rfl rfl q_) rfl (r_ rfl rfl rfl (n_ 1 B_ rfl rfl rfl) rfl ?_))))
          refine az_ rfl rfl rfl (au_ rfl rfl) rfl fun r30 hr30 => ?_
          refine m_ rfl (t_ rfl rfl) rfl (m_ rfl (f_ rfl) rfl (O_ ?_))
          cases r30
          · skip
            replace hr30 := of_decide_eq_false hr30
            refine P_ 0 [13, 14, 15, 16, 17, 18, 19, 20, 21] (by kernel_rfl) (fun _ a b => ⟨a, b⟩) (z_ rfl rfl rfl rfl rfl (z_ rfl rfl rfl rfl rfl (z_ rfl rfl rfl rfl rfl (z_ rfl rfl rfl rfl rfl (z_ rfl rfl rfl rfl rfl (z_ rfl rfl rfl rfl rfl (z_ rfl rfl rfl rfl rfl (m_ rfl (t_ rfl rfl) rfl (m_ rfl (e_ rfl) rfl ?_)))))))))
            refine O_ (T_ (by kernel_rfl) (b_ rfl (u_ ?_)))
            refine ci_ ?_
            have hres : false = true ↔ ga = am_ (Fc.a f) (Fc.r ga) (Fc.lo ga) (Fc.hi ga) ∧ gb = am_ (Fc.a f) (Fc.r ga) (Fc.lo gb) (Fc.hi gb) ∧ (Fc.hi ga < Fc.lo gb ∨ Fc.hi gb < Fc.lo ga) ∧ f = aL_ (Fc.a f) [33] := by
              refine Iff.trans ?_ (and_iff_right hsp0).symm; refine Iff.trans ?_ (and_iff_right hsp1).symm; clear hsp0 hsp1; simp [*]
            exact Y_ aw_ () (s_ rfl (Bool.eq_iff_iff.2 (hres.trans (aR_ wg wh).symm))) x_ (fun _ _ _ => trivial)
          · skip
            replace hr30 := of_decide_eq_true hr30
            refine P_ 4 [13, 14, 15, 16, 17] (by kernel_rfl) (fun _ a b => ⟨a, b⟩) (r_ rfl rfl rfl (h_ j_ rfl rfl rfl l_) rfl (r_ rfl rfl rfl (M_ 2 U_ l_ rfl rfl rfl) rfl (r_ rfl rfl rfl (h_ j_ rfl rfl rfl l_) rfl (r_ rfl rfl rfl (h_ o_ rfl rfl rfl y_) rfl (r_ rfl rfl rfl (n_ 2 H_ rfl rfl rfl) rfl (O_ (L_ 18 rfl (by kernel_rfl) (i_ rfl rfl (K_ (bO_ (Fc.a f) [33]) rfl x_ (fun _ _ _ => by exact trivial) rfl fun _ => ?_)))))))))
            refine d_ (p_ rfl (D_ (fun _ a b => ⟨a, b⟩) (P_ 0 [19, 20, 21] (by kernel_rfl) (fun _ a b => ⟨a, b⟩) ?_)))
            refine az_ rfl rfl rfl (av_ (p := f) (q := (aL_ (Fc.a f) [33])) rfl rfl) rfl fun r31 hr31 => ?_
            refine m_ rfl (v_ rfl rfl) rfl (m_ rfl (e_ rfl) rfl (O_ (T_ (by kernel_rfl) (b_ rfl (u_ ?_)))))
            refine ci_ ?_
            have hres : r31 = true ↔ ga = am_ (Fc.a f) (Fc.r ga) (Fc.lo ga) (Fc.hi ga) ∧ gb = am_ (Fc.a f) (Fc.r ga) (Fc.lo gb) (Fc.hi gb) ∧ (Fc.hi ga < Fc.lo gb ∨ Fc.hi gb < Fc.lo ga) ∧ f = aL_ (Fc.a f) [33] := by
              refine Iff.trans ?_ (and_iff_right hsp0).symm; refine Iff.trans ?_ (and_iff_right hsp1).symm; clear hsp0 hsp1; rw [← hr31]; clear hr31; simp [*]
            exact Y_ aw_ () (s_ rfl (Bool.eq_iff_iff.2 (hres.trans (aR_ wg wh).symm))) x_ (fun _ _ _ => trivial)
        · skip
          replace hr29 := of_decide_eq_true hr29
          refine P_ 4 [6, 7, 8, 9, 10, 11, 12, 13, 14, 15, 16, 17] (by kernel_rfl) (fun _ a b => ⟨a, b⟩) (z_ rfl rfl rfl rfl rfl (z_ rfl rfl rfl rfl rfl (z_ rfl rfl rfl rfl rfl (z_ rfl rfl rfl rfl rfl (z_ rfl rfl rfl rfl rfl (m_ rfl (v_ rfl rfl) rfl (m_ rfl (f_ rfl) rfl (r_ rfl rfl rfl (h_ j_ rfl rfl rfl l_) rfl (r_ rfl rfl rfl (M_ 2 U_ l_ rfl rfl rfl) rfl ?_)))))))))
          refine r_ rfl rfl rfl (h_ j_ rfl rfl rfl l_) rfl (r_ rfl rfl rfl (h_ o_ rfl rfl rfl y_) rfl (r_ rfl rfl rfl (n_ 2 H_ rfl rfl rfl) rfl (O_ (L_ 18 rfl (by kernel_rfl) (i_ rfl rfl (K_ (bO_ (Fc.a f) [33]) rfl x_ (fun _ _ _ => by exact trivial) rfl fun _ => ?_))))))
          refine d_ (p_ rfl (D_ (fun _ a b => ⟨a, b⟩) (P_ 0 [19, 20, 21] (by kernel_rfl) (fun _ a b => ⟨a, b⟩) ?_)))
          refine az_ rfl rfl rfl (av_ (p := f) (q := (aL_ (Fc.a f) [33])) rfl rfl) rfl fun r32 hr32 => ?_
          refine m_ rfl (v_ rfl rfl) rfl (m_ rfl (e_ rfl) rfl (O_ (T_ (by kernel_rfl) (b_ rfl (u_ ?_)))))
          refine ci_ ?_
          have hres : r32 = true ↔ ga = am_ (Fc.a f) (Fc.r ga) (Fc.lo ga) (Fc.hi ga) ∧ gb = am_ (Fc.a f) (Fc.r ga) (Fc.lo gb) (Fc.hi gb) ∧ (Fc.hi ga < Fc.lo gb ∨ Fc.hi gb < Fc.lo ga) ∧ f = aL_ (Fc.a f) [33] := by
            refine Iff.trans ?_ (and_iff_right hsp0).symm; refine Iff.trans ?_ (and_iff_right hsp1).symm; clear hsp0 hsp1; rw [← hr32]; clear hr32; simp [*]
          exact Y_ aw_ () (s_ rfl (Bool.eq_iff_iff.2 (hres.trans (aR_ wg wh).symm))) x_ (fun _ _ _ => trivial)
    · skip
      refine Z_ at_ rfl fun b15 => ?_
      refine d_ (p_ rfl (D_ (fun _ a b => ⟨a.tail.tail, b⟩) (L_ 6 rfl (by kernel_rfl) (ao_ (dW_ (Fc.r ga) kn q hkn es ec hE vb ab pv fv x f ga gb lad lcap) rfl x_ (fun v _ h => by exact ⟨h.1, h.2.1, h.2.2.1, trivial⟩) rfl (fun hb => cA_ ((by rw [Bool.eq_false_iff]; intro hq; exact hb ((aR_ wg wh).1 hq).1))) fun ⟨_, hsp0⟩ => ?_))))
      try dsimp only
      refine d_ (p_ rfl (D_ (fun _ a b => ⟨a.tail.tail, b⟩) (L_ 13 rfl (by kernel_rfl) (ao_ (cx_ (Fc.r ga) kn q hkn es ec hE vb ab pv fv x f ga gb lad lcap) rfl x_ (fun v _ h => by exact ⟨h.1, h.2.1, h.2.2.1, trivial⟩) rfl (fun hb => cA_ ((by rw [Bool.eq_false_iff]; intro hq; exact hb ((aR_ wg wh).1 hq).2.1))) fun ⟨_, hsp1⟩ => ?_))))
      try dsimp only
      refine d_ (p_ rfl (D_ (fun _ a b => ⟨a.tail.tail, b⟩) (L_ 16 rfl (by kernel_rfl) (Q_ 1 ad_ rfl rfl rfl rfl rfl rfl (d_ (p_ rfl (D_ (fun _ a b => ⟨a.tail.tail, b⟩) (L_ 17 rfl (by kernel_rfl) (Q_ 0 ad_ rfl rfl rfl rfl rfl rfl ?_)))))))))
      refine d_ (p_ rfl (D_ (fun _ a b => ⟨a.tail.tail, b⟩) (T_ (by kernel_rfl) (b_ rfl (g_ ?_)))))
      refine aW_ (by kernel_rfl) ?_
      refine P_ 16 [0, 1, 2, 3, 4, 5] (by kernel_rfl) (fun _ a b => ⟨a, b⟩) (m_ rfl (h_ I_ rfl rfl rfl q_) rfl (m_ rfl (n_ 1 B_ rfl rfl rfl) rfl (m_ rfl (h_ I_ rfl rfl rfl q_) rfl (m_ rfl (n_ 0 B_ rfl rfl rfl) rfl ?_))))
      refine bJ_ rfl (au_ rfl rfl) rfl fun r33 hr33 => ?_
      refine m_ rfl (f_ rfl) rfl (O_ ?_)
      cases r33
      · skip
        replace hr33 := of_decide_eq_false hr33
        refine P_ 9 [6, 7, 8, 9, 10, 11, 12] (by kernel_rfl) (fun _ a b => ⟨a, b⟩) (r_ rfl rfl rfl (h_ I_ rfl rfl rfl q_) rfl (r_ rfl rfl rfl (n_ 0 B_ rfl rfl rfl) rfl (r_ rfl rfl rfl (h_ I_ rfl rfl rfl q_) rfl (r_ rfl rfl rfl (n_ 1 B_ rfl rfl rfl) rfl ?_))))
        refine az_ rfl rfl rfl (au_ rfl rfl) rfl fun r34 hr34 => ?_
        refine m_ rfl (t_ rfl rfl) rfl (m_ rfl (f_ rfl) rfl (O_ ?_))
        cases r34
        · skip
          replace hr34 := of_decide_eq_false hr34
          refine P_ 0 [13, 14, 15, 16, 17, 18, 19, 20, 21] (by kernel_rfl) (fun _ a b => ⟨a, b⟩) (z_ rfl rfl rfl rfl rfl (z_ rfl rfl rfl rfl rfl (z_ rfl rfl rfl rfl rfl (z_ rfl rfl rfl rfl rfl (z_ rfl rfl rfl rfl rfl (z_ rfl rfl rfl rfl rfl (z_ rfl rfl rfl rfl rfl (m_ rfl (t_ rfl rfl) rfl (m_ rfl (e_ rfl) rfl ?_)))))))))
          refine O_ (T_ (by kernel_rfl) (b_ rfl (u_ ?_)))
          refine ci_ ?_
          have hres : false = true ↔ ga = am_ (Fc.a f) (Fc.r ga) (Fc.lo ga) (Fc.hi ga) ∧ gb = am_ (Fc.a f) (Fc.r ga) (Fc.lo gb) (Fc.hi gb) ∧ (Fc.hi ga < Fc.lo gb ∨ Fc.hi gb < Fc.lo ga) ∧ f = aL_ (Fc.a f) [33] := by
            refine Iff.trans ?_ (and_iff_right hsp0).symm; refine Iff.trans ?_ (and_iff_right hsp1).symm; clear hsp0 hsp1; simp [*]
          exact Y_ aw_ () (s_ rfl (Bool.eq_iff_iff.2 (hres.trans (aR_ wg wh).symm))) x_ (fun _ _ _ => trivial)
        · skip
          replace hr34 := of_decide_eq_true hr34
          refine P_ 4 [13, 14, 15, 16, 17] (by kernel_rfl) (fun _ a b => ⟨a, b⟩) (r_ rfl rfl rfl (h_ j_ rfl rfl rfl l_) rfl (r_ rfl rfl rfl (M_ 2 U_ l_ rfl rfl rfl) rfl (r_ rfl rfl rfl (h_ j_ rfl rfl rfl l_) rfl (r_ rfl rfl rfl (h_ o_ rfl rfl rfl y_) rfl (r_ rfl rfl rfl (n_ 2 H_ rfl rfl rfl) rfl (O_ (L_ 18 rfl (by kernel_rfl) (i_ rfl rfl (K_ (bO_ (Fc.a f) [33]) rfl x_ (fun _ _ _ => by exact trivial) rfl fun _ => ?_)))))))))
          refine d_ (p_ rfl (D_ (fun _ a b => ⟨a, b⟩) (P_ 0 [19, 20, 21] (by kernel_rfl) (fun _ a b => ⟨a, b⟩) ?_)))
          refine az_ rfl rfl rfl (av_ (p := f) (q := (aL_ (Fc.a f) [33])) rfl rfl) rfl fun r35 hr35 => ?_
          refine m_ rfl (v_ rfl rfl) rfl (m_ rfl (e_ rfl) rfl (O_ (T_ (by kernel_rfl) (b_ rfl (u_ ?_)))))
          refine ci_ ?_
          have hres : r35 = true ↔ ga = am_ (Fc.a f) (Fc.r ga) (Fc.lo ga) (Fc.hi ga) ∧ gb = am_ (Fc.a f) (Fc.r ga) (Fc.lo gb) (Fc.hi gb) ∧ (Fc.hi ga < Fc.lo gb ∨ Fc.hi gb < Fc.lo ga) ∧ f = aL_ (Fc.a f) [33] := by
            refine Iff.trans ?_ (and_iff_right hsp0).symm; refine Iff.trans ?_ (and_iff_right hsp1).symm; clear hsp0 hsp1; rw [← hr35]; clear hr35; simp [*]
          exact Y_ aw_ () (s_ rfl (Bool.eq_iff_iff.2 (hres.trans (aR_ wg wh).symm))) x_ (fun _ _ _ => trivial)
      · skip
        replace hr33 := of_decide_eq_true hr33
        refine P_ 4 [6, 7, 8, 9, 10, 11, 12, 13, 14, 15, 16, 17] (by kernel_rfl) (fun _ a b => ⟨a, b⟩) (z_ rfl rfl rfl rfl rfl (z_ rfl rfl rfl rfl rfl (z_ rfl rfl rfl rfl rfl (z_ rfl rfl rfl rfl rfl (z_ rfl rfl rfl rfl rfl (m_ rfl (v_ rfl rfl) rfl (m_ rfl (f_ rfl) rfl (r_ rfl rfl rfl (h_ j_ rfl rfl rfl l_) rfl (r_ rfl rfl rfl (M_ 2 U_ l_ rfl rfl rfl) rfl ?_)))))))))
        refine r_ rfl rfl rfl (h_ j_ rfl rfl rfl l_) rfl (r_ rfl rfl rfl (h_ o_ rfl rfl rfl y_) rfl (r_ rfl rfl rfl (n_ 2 H_ rfl rfl rfl) rfl (O_ (L_ 18 rfl (by kernel_rfl) (i_ rfl rfl (K_ (bO_ (Fc.a f) [33]) rfl x_ (fun _ _ _ => by exact trivial) rfl fun _ => ?_))))))
        refine d_ (p_ rfl (D_ (fun _ a b => ⟨a, b⟩) (P_ 0 [19, 20, 21] (by kernel_rfl) (fun _ a b => ⟨a, b⟩) ?_)))
        refine az_ rfl rfl rfl (av_ (p := f) (q := (aL_ (Fc.a f) [33])) rfl rfl) rfl fun r36 hr36 => ?_
        refine m_ rfl (v_ rfl rfl) rfl (m_ rfl (e_ rfl) rfl (O_ (T_ (by kernel_rfl) (b_ rfl (u_ ?_)))))
        refine ci_ ?_
        have hres : r36 = true ↔ ga = am_ (Fc.a f) (Fc.r ga) (Fc.lo ga) (Fc.hi ga) ∧ gb = am_ (Fc.a f) (Fc.r ga) (Fc.lo gb) (Fc.hi gb) ∧ (Fc.hi ga < Fc.lo gb ∨ Fc.hi gb < Fc.lo ga) ∧ f = aL_ (Fc.a f) [33] := by
          refine Iff.trans ?_ (and_iff_right hsp0).symm; refine Iff.trans ?_ (and_iff_right hsp1).symm; clear hsp0 hsp1; rw [← hr36]; clear hr36; simp [*]
        exact Y_ aw_ () (s_ rfl (Bool.eq_iff_iff.2 (hres.trans (aR_ wg wh).symm))) x_ (fun _ _ _ => trivial)
  · refine ⟨_, rfl, ?_⟩
    refine Z_ at_ rfl fun b16 => ?_
    refine d_ (p_ rfl (D_ (fun _ a b => ⟨a.tail, b⟩) ?_))
    refine cm_ 6 14 rfl rfl (by kernel_rfl) ?_ ?_
    · skip
      refine ao_ (dW_ (Fc.r ga) kn q hkn es ec hE vb ab pv fv x f ga gb lad lcap) rfl x_ (fun v _ h => by exact ⟨h.1, h.2.1, h.2.2.1, trivial⟩) rfl (fun hb => cA_ ((by rw [Bool.eq_false_iff]; intro hq; exact hb ((aR_ wg wh).1 hq).1))) fun ⟨_, hsp0⟩ => ?_
      try dsimp only
      refine d_ (p_ rfl (D_ (fun _ a b => ⟨a.tail, b⟩) ?_))
      refine cm_ 13 14 rfl rfl (by kernel_rfl) ?_ ?_
      · skip
        refine ao_ (cx_ (Fc.r ga) kn q hkn es ec hE vb ab pv fv x f ga gb lad lcap) rfl x_ (fun v _ h => by exact ⟨h.1, h.2.1, h.2.2.1, trivial⟩) rfl (fun hb => cA_ ((by rw [Bool.eq_false_iff]; intro hq; exact hb ((aR_ wg wh).1 hq).2.1))) fun ⟨_, hsp1⟩ => ?_
        try dsimp only
        refine d_ (p_ rfl (D_ (fun _ a b => ⟨a.tail, b⟩) (L_ 14 rfl (by kernel_rfl) (Z_ at_ rfl fun b17 => ?_))))
        refine d_ (p_ rfl (D_ (fun _ a b => ⟨a.tail.tail, b⟩) (L_ 16 rfl (by kernel_rfl) (Q_ 0 ad_ rfl rfl rfl rfl rfl rfl (d_ (p_ rfl (D_ (fun _ a b => ⟨a.tail.tail, b⟩) (L_ 17 rfl (by kernel_rfl) (Q_ 1 ad_ rfl rfl rfl rfl rfl rfl ?_)))))))))
        refine d_ (p_ rfl (D_ (fun _ a b => ⟨a.tail.tail, b⟩) (T_ (by kernel_rfl) (b_ rfl (g_ ?_)))))
        refine aW_ (by kernel_rfl) ?_
        refine P_ 16 [0, 1, 2, 3, 4, 5] (by kernel_rfl) (fun _ a b => ⟨a, b⟩) (m_ rfl (h_ I_ rfl rfl rfl q_) rfl (m_ rfl (n_ 0 B_ rfl rfl rfl) rfl (m_ rfl (h_ I_ rfl rfl rfl q_) rfl (m_ rfl (n_ 1 B_ rfl rfl rfl) rfl ?_))))
        refine bJ_ rfl (au_ rfl rfl) rfl fun r37 hr37 => ?_
        refine m_ rfl (f_ rfl) rfl (O_ ?_)
        cases r37
        · skip
          replace hr37 := of_decide_eq_false hr37
          refine P_ 9 [6, 7, 8, 9, 10, 11, 12] (by kernel_rfl) (fun _ a b => ⟨a, b⟩) (r_ rfl rfl rfl (h_ I_ rfl rfl rfl q_) rfl (r_ rfl rfl rfl (n_ 1 B_ rfl rfl rfl) rfl (r_ rfl rfl rfl (h_ I_ rfl rfl rfl q_) rfl (r_ rfl rfl rfl (n_ 0 B_ rfl rfl rfl) rfl ?_))))
          refine az_ rfl rfl rfl (au_ rfl rfl) rfl fun r38 hr38 => ?_
          refine m_ rfl (t_ rfl rfl) rfl (m_ rfl (f_ rfl) rfl (O_ ?_))
          cases r38
          · skip
            replace hr38 := of_decide_eq_false hr38
            refine P_ 0 [13, 14, 15, 16, 17, 18, 19, 20, 21] (by kernel_rfl) (fun _ a b => ⟨a, b⟩) (z_ rfl rfl rfl rfl rfl (z_ rfl rfl rfl rfl rfl (z_ rfl rfl rfl rfl rfl (z_ rfl rfl rfl rfl rfl (z_ rfl rfl rfl rfl rfl (z_ rfl rfl rfl rfl rfl (z_ rfl rfl rfl rfl rfl (m_ rfl (t_ rfl rfl) rfl (m_ rfl (e_ rfl) rfl ?_)))))))))
            refine O_ (T_ (by kernel_rfl) (b_ rfl (u_ ?_)))
            refine ci_ ?_
            have hres : false = true ↔ ga = am_ (Fc.a f) (Fc.r ga) (Fc.lo ga) (Fc.hi ga) ∧ gb = am_ (Fc.a f) (Fc.r ga) (Fc.lo gb) (Fc.hi gb) ∧ (Fc.hi ga < Fc.lo gb ∨ Fc.hi gb < Fc.lo ga) ∧ f = aL_ (Fc.a f) [33] := by
              refine Iff.trans ?_ (and_iff_right hsp0).symm; refine Iff.trans ?_ (and_iff_right hsp1).symm; clear hsp0 hsp1; simp [*]
            exact Y_ aw_ () (s_ rfl (Bool.eq_iff_iff.2 (hres.trans (aR_ wg wh).symm))) x_ (fun _ _ _ => trivial)
          · skip
            replace hr38 := of_decide_eq_true hr38
            refine P_ 4 [13, 14, 15, 16, 17] (by kernel_rfl) (fun _ a b => ⟨a, b⟩) (r_ rfl rfl rfl (h_ j_ rfl rfl rfl l_) rfl (r_ rfl rfl rfl (M_ 2 U_ l_ rfl rfl rfl) rfl (r_ rfl rfl rfl (h_ j_ rfl rfl rfl l_) rfl (r_ rfl rfl rfl (h_ o_ rfl rfl rfl y_) rfl (r_ rfl rfl rfl (n_ 2 H_ rfl rfl rfl) rfl (O_ (L_ 18 rfl (by kernel_rfl) (i_ rfl rfl (K_ (bO_ (Fc.a f) [33]) rfl x_ (fun _ _ _ => by exact trivial) rfl fun _ => ?_)))))))))
            refine d_ (p_ rfl (D_ (fun _ a b => ⟨a, b⟩) (P_ 0 [19, 20, 21] (by kernel_rfl) (fun _ a b => ⟨a, b⟩) ?_)))
            refine az_ rfl rfl rfl (av_ (p := f) (q := (aL_ (Fc.a f) [33])) rfl rfl) rfl fun r39 hr39 => ?_
            refine m_ rfl (v_ rfl rfl) rfl (m_ rfl (e_ rfl) rfl (O_ (T_ (by kernel_rfl) (b_ rfl (u_ ?_)))))
            refine ci_ ?_
            have hres : r39 = true ↔ ga = am_ (Fc.a f) (Fc.r ga) (Fc.lo ga) (Fc.hi ga) ∧ gb = am_ (Fc.a f) (Fc.r ga) (Fc.lo gb) (Fc.hi gb) ∧ (Fc.hi ga < Fc.lo gb ∨ Fc.hi gb < Fc.lo ga) ∧ f = aL_ (Fc.a f) [33] := by
              refine Iff.trans ?_ (and_iff_right hsp0).symm; refine Iff.trans ?_ (and_iff_right hsp1).symm; clear hsp0 hsp1; rw [← hr39]; clear hr39; simp [*]
            exact Y_ aw_ () (s_ rfl (Bool.eq_iff_iff.2 (hres.trans (aR_ wg wh).symm))) x_ (fun _ _ _ => trivial)
        · skip
          replace hr37 := of_decide_eq_true hr37
          refine P_ 4 [6, 7, 8, 9, 10, 11, 12, 13, 14, 15, 16, 17] (by kernel_rfl) (fun _ a b => ⟨a, b⟩) (z_ rfl rfl rfl rfl rfl (z_ rfl rfl rfl rfl rfl (z_ rfl rfl rfl rfl rfl (z_ rfl rfl rfl rfl rfl (z_ rfl rfl rfl rfl rfl (m_ rfl (v_ rfl rfl) rfl (m_ rfl (f_ rfl) rfl (r_ rfl rfl rfl (h_ j_ rfl rfl rfl l_) rfl (r_ rfl rfl rfl (M_ 2 U_ l_ rfl rfl rfl) rfl ?_)))))))))
          refine r_ rfl rfl rfl (h_ j_ rfl rfl rfl l_) rfl (r_ rfl rfl rfl (h_ o_ rfl rfl rfl y_) rfl (r_ rfl rfl rfl (n_ 2 H_ rfl rfl rfl) rfl (O_ (L_ 18 rfl (by kernel_rfl) (i_ rfl rfl (K_ (bO_ (Fc.a f) [33]) rfl x_ (fun _ _ _ => by exact trivial) rfl fun _ => ?_))))))
          refine d_ (p_ rfl (D_ (fun _ a b => ⟨a, b⟩) (P_ 0 [19, 20, 21] (by kernel_rfl) (fun _ a b => ⟨a, b⟩) ?_)))
          refine az_ rfl rfl rfl (av_ (p := f) (q := (aL_ (Fc.a f) [33])) rfl rfl) rfl fun r40 hr40 => ?_
          refine m_ rfl (v_ rfl rfl) rfl (m_ rfl (e_ rfl) rfl (O_ (T_ (by kernel_rfl) (b_ rfl (u_ ?_)))))
          refine ci_ ?_
          have hres : r40 = true ↔ ga = am_ (Fc.a f) (Fc.r ga) (Fc.lo ga) (Fc.hi ga) ∧ gb = am_ (Fc.a f) (Fc.r ga) (Fc.lo gb) (Fc.hi gb) ∧ (Fc.hi ga < Fc.lo gb ∨ Fc.hi gb < Fc.lo ga) ∧ f = aL_ (Fc.a f) [33] := by
            refine Iff.trans ?_ (and_iff_right hsp0).symm; refine Iff.trans ?_ (and_iff_right hsp1).symm; clear hsp0 hsp1; rw [← hr40]; clear hr40; simp [*]
          exact Y_ aw_ () (s_ rfl (Bool.eq_iff_iff.2 (hres.trans (aR_ wg wh).symm))) x_ (fun _ _ _ => trivial)
      · skip
        refine Z_ at_ rfl fun b18 => ?_
        refine d_ (p_ rfl (D_ (fun _ a b => ⟨a.tail.tail, b⟩) (L_ 13 rfl (by kernel_rfl) (ao_ (cx_ (Fc.r ga) kn q hkn es ec hE vb ab pv fv x f ga gb lad lcap) rfl x_ (fun v _ h => by exact ⟨h.1, h.2.1, h.2.2.1, trivial⟩) rfl (fun hb => cA_ ((by rw [Bool.eq_false_iff]; intro hq; exact hb ((aR_ wg wh).1 hq).2.1))) fun ⟨_, hsp1⟩ => ?_))))
        try dsimp only
        refine d_ (p_ rfl (D_ (fun _ a b => ⟨a.tail.tail, b⟩) (L_ 16 rfl (by kernel_rfl) (Q_ 0 ad_ rfl rfl rfl rfl rfl rfl (d_ (p_ rfl (D_ (fun _ a b => ⟨a.tail.tail, b⟩) (L_ 17 rfl (by kernel_rfl) (Q_ 1 ad_ rfl rfl rfl rfl rfl rfl ?_)))))))))
        refine d_ (p_ rfl (D_ (fun _ a b => ⟨a.tail.tail, b⟩) (T_ (by kernel_rfl) (b_ rfl (g_ ?_)))))
        refine aW_ (by kernel_rfl) ?_
        refine P_ 16 [0, 1, 2, 3, 4, 5] (by kernel_rfl) (fun _ a b => ⟨a, b⟩) (m_ rfl (h_ I_ rfl rfl rfl q_) rfl (m_ rfl (n_ 0 B_ rfl rfl rfl) rfl (m_ rfl (h_ I_ rfl rfl rfl q_) rfl (m_ rfl (n_ 1 B_ rfl rfl rfl) rfl ?_))))
        refine bJ_ rfl (au_ rfl rfl) rfl fun r41 hr41 => ?_
        refine m_ rfl (f_ rfl) rfl (O_ ?_)
        cases r41
        · skip
          replace hr41 := of_decide_eq_false hr41
          refine P_ 9 [6, 7, 8, 9, 10, 11, 12] (by kernel_rfl) (fun _ a b => ⟨a, b⟩) (r_ rfl rfl rfl (h_ I_ rfl rfl rfl q_) rfl (r_ rfl rfl rfl (n_ 1 B_ rfl rfl rfl) rfl (r_ rfl rfl rfl (h_ I_ rfl rfl rfl q_) rfl (r_ rfl rfl rfl (n_ 0 B_ rfl rfl rfl) rfl ?_))))
          refine az_ rfl rfl rfl (au_ rfl rfl) rfl fun r42 hr42 => ?_
          refine m_ rfl (t_ rfl rfl) rfl (m_ rfl (f_ rfl) rfl (O_ ?_))
          cases r42
          · skip
            replace hr42 := of_decide_eq_false hr42
            refine P_ 0 [13, 14, 15, 16, 17, 18, 19, 20, 21] (by kernel_rfl) (fun _ a b => ⟨a, b⟩) (z_ rfl rfl rfl rfl rfl (z_ rfl rfl rfl rfl rfl (z_ rfl rfl rfl rfl rfl (z_ rfl rfl rfl rfl rfl (z_ rfl rfl rfl rfl rfl (z_ rfl rfl rfl rfl rfl (z_ rfl rfl rfl rfl rfl (m_ rfl (t_ rfl rfl) rfl (m_ rfl (e_ rfl) rfl ?_)))))))))
            refine O_ (T_ (by kernel_rfl) (b_ rfl (u_ ?_)))
            refine ci_ ?_
            have hres : false = true ↔ ga = am_ (Fc.a f) (Fc.r ga) (Fc.lo ga) (Fc.hi ga) ∧ gb = am_ (Fc.a f) (Fc.r ga) (Fc.lo gb) (Fc.hi gb) ∧ (Fc.hi ga < Fc.lo gb ∨ Fc.hi gb < Fc.lo ga) ∧ f = aL_ (Fc.a f) [33] := by
              refine Iff.trans ?_ (and_iff_right hsp0).symm; refine Iff.trans ?_ (and_iff_right hsp1).symm; clear hsp0 hsp1; simp [*]
            exact Y_ aw_ () (s_ rfl (Bool.eq_iff_iff.2 (hres.trans (aR_ wg wh).symm))) x_ (fun _ _ _ => trivial)
          · skip
            replace hr42 := of_decide_eq_true hr42
            refine P_ 4 [13, 14, 15, 16, 17] (by kernel_rfl) (fun _ a b => ⟨a, b⟩) (r_ rfl rfl rfl (h_ j_ rfl rfl rfl l_) rfl (r_ rfl rfl rfl (M_ 2 U_ l_ rfl rfl rfl) rfl (r_ rfl rfl rfl (h_ j_ rfl rfl rfl l_) rfl (r_ rfl rfl rfl (h_ o_ rfl rfl rfl y_) rfl (r_ rfl rfl rfl (n_ 2 H_ rfl rfl rfl) rfl (O_ (L_ 18 rfl (by kernel_rfl) (i_ rfl rfl (K_ (bO_ (Fc.a f) [33]) rfl x_ (fun _ _ _ => by exact trivial) rfl fun _ => ?_)))))))))
            refine d_ (p_ rfl (D_ (fun _ a b => ⟨a, b⟩) (P_ 0 [19, 20, 21] (by kernel_rfl) (fun _ a b => ⟨a, b⟩) ?_)))
            refine az_ rfl rfl rfl (av_ (p := f) (q := (aL_ (Fc.a f) [33])) rfl rfl) rfl fun r43 hr43 => ?_
            refine m_ rfl (v_ rfl rfl) rfl (m_ rfl (e_ rfl) rfl (O_ (T_ (by kernel_rfl) (b_ rfl (u_ ?_)))))
            refine ci_ ?_
            have hres : r43 = true ↔ ga = am_ (Fc.a f) (Fc.r ga) (Fc.lo ga) (Fc.hi ga) ∧ gb = am_ (Fc.a f) (Fc.r ga) (Fc.lo gb) (Fc.hi gb) ∧ (Fc.hi ga < Fc.lo gb ∨ Fc.hi gb < Fc.lo ga) ∧ f = aL_ (Fc.a f) [33] := by
              refine Iff.trans ?_ (and_iff_right hsp0).symm; refine Iff.trans ?_ (and_iff_right hsp1).symm; clear hsp0 hsp1; rw [← hr43]; clear hr43; simp [*]
            exact Y_ aw_ () (s_ rfl (Bool.eq_iff_iff.2 (hres.trans (aR_ wg wh).symm))) x_ (fun _ _ _ => trivial)
        · skip
          replace hr41 := of_decide_eq_true hr41
          refine P_ 4 [6, 7, 8, 9, 10, 11, 12, 13, 14, 15, 16, 17] (by kernel_rfl) (fun _ a b => ⟨a, b⟩) (z_ rfl rfl rfl rfl rfl (z_ rfl rfl rfl rfl rfl (z_ rfl rfl rfl rfl rfl (z_ rfl rfl rfl rfl rfl (z_ rfl rfl rfl rfl rfl (m_ rfl (v_ rfl rfl) rfl (m_ rfl (f_ rfl) rfl (r_ rfl rfl rfl (h_ j_ rfl rfl rfl l_) rfl (r_ rfl rfl rfl (M_ 2 U_ l_ rfl rfl rfl) rfl ?_)))))))))
          refine r_ rfl rfl rfl (h_ j_ rfl rfl rfl l_) rfl (r_ rfl rfl rfl (h_ o_ rfl rfl rfl y_) rfl (r_ rfl rfl rfl (n_ 2 H_ rfl rfl rfl) rfl (O_ (L_ 18 rfl (by kernel_rfl) (i_ rfl rfl (K_ (bO_ (Fc.a f) [33]) rfl x_ (fun _ _ _ => by exact trivial) rfl fun _ => ?_))))))
          refine d_ (p_ rfl (D_ (fun _ a b => ⟨a, b⟩) (P_ 0 [19, 20, 21] (by kernel_rfl) (fun _ a b => ⟨a, b⟩) ?_)))
          refine az_ rfl rfl rfl (av_ (p := f) (q := (aL_ (Fc.a f) [33])) rfl rfl) rfl fun r44 hr44 => ?_
          refine m_ rfl (v_ rfl rfl) rfl (m_ rfl (e_ rfl) rfl (O_ (T_ (by kernel_rfl) (b_ rfl (u_ ?_)))))
          refine ci_ ?_
          have hres : r44 = true ↔ ga = am_ (Fc.a f) (Fc.r ga) (Fc.lo ga) (Fc.hi ga) ∧ gb = am_ (Fc.a f) (Fc.r ga) (Fc.lo gb) (Fc.hi gb) ∧ (Fc.hi ga < Fc.lo gb ∨ Fc.hi gb < Fc.lo ga) ∧ f = aL_ (Fc.a f) [33] := by
            refine Iff.trans ?_ (and_iff_right hsp0).symm; refine Iff.trans ?_ (and_iff_right hsp1).symm; clear hsp0 hsp1; rw [← hr44]; clear hr44; simp [*]
          exact Y_ aw_ () (s_ rfl (Bool.eq_iff_iff.2 (hres.trans (aR_ wg wh).symm))) x_ (fun _ _ _ => trivial)
    · skip
      refine Z_ at_ rfl fun b19 => ?_
      refine d_ (p_ rfl (D_ (fun _ a b => ⟨a.tail.tail, b⟩) (L_ 6 rfl (by kernel_rfl) (ao_ (dW_ (Fc.r ga) kn q hkn es ec hE vb ab pv fv x f ga gb lad lcap) rfl x_ (fun v _ h => by exact ⟨h.1, h.2.1, h.2.2.1, trivial⟩) rfl (fun hb => cA_ ((by rw [Bool.eq_false_iff]; intro hq; exact hb ((aR_ wg wh).1 hq).1))) fun ⟨_, hsp0⟩ => ?_))))
      try dsimp only
      refine d_ (p_ rfl (D_ (fun _ a b => ⟨a.tail.tail, b⟩) (L_ 13 rfl (by kernel_rfl) (ao_ (cx_ (Fc.r ga) kn q hkn es ec hE vb ab pv fv x f ga gb lad lcap) rfl x_ (fun v _ h => by exact ⟨h.1, h.2.1, h.2.2.1, trivial⟩) rfl (fun hb => cA_ ((by rw [Bool.eq_false_iff]; intro hq; exact hb ((aR_ wg wh).1 hq).2.1))) fun ⟨_, hsp1⟩ => ?_))))
      try dsimp only
      refine d_ (p_ rfl (D_ (fun _ a b => ⟨a.tail.tail, b⟩) (L_ 16 rfl (by kernel_rfl) (Q_ 0 ad_ rfl rfl rfl rfl rfl rfl (d_ (p_ rfl (D_ (fun _ a b => ⟨a.tail.tail, b⟩) (L_ 17 rfl (by kernel_rfl) (Q_ 1 ad_ rfl rfl rfl rfl rfl rfl ?_)))))))))
      refine d_ (p_ rfl (D_ (fun _ a b => ⟨a.tail.tail, b⟩) (T_ (by kernel_rfl) (b_ rfl (g_ ?_)))))
      refine aW_ (by kernel_rfl) ?_
      refine P_ 16 [0, 1, 2, 3, 4, 5] (by kernel_rfl) (fun _ a b => ⟨a, b⟩) (m_ rfl (h_ I_ rfl rfl rfl q_) rfl (m_ rfl (n_ 0 B_ rfl rfl rfl) rfl (m_ rfl (h_ I_ rfl rfl rfl q_) rfl (m_ rfl (n_ 1 B_ rfl rfl rfl) rfl ?_))))
      refine bJ_ rfl (au_ rfl rfl) rfl fun r45 hr45 => ?_
      refine m_ rfl (f_ rfl) rfl (O_ ?_)
      cases r45
      · skip
        replace hr45 := of_decide_eq_false hr45
        refine P_ 9 [6, 7, 8, 9, 10, 11, 12] (by kernel_rfl) (fun _ a b => ⟨a, b⟩) (r_ rfl rfl rfl (h_ I_ rfl rfl rfl q_) rfl (r_ rfl rfl rfl (n_ 1 B_ rfl rfl rfl) rfl (r_ rfl rfl rfl (h_ I_ rfl rfl rfl q_) rfl (r_ rfl rfl rfl (n_ 0 B_ rfl rfl rfl) rfl ?_))))
        refine az_ rfl rfl rfl (au_ rfl rfl) rfl fun r46 hr46 => ?_
        refine m_ rfl (t_ rfl rfl) rfl (m_ rfl (f_ rfl) rfl (O_ ?_))
        cases r46
        · skip
          replace hr46 := of_decide_eq_false hr46
          refine P_ 0 [13, 14, 15, 16, 17, 18, 19, 20, 21] (by kernel_rfl) (fun _ a b => ⟨a, b⟩) (z_ rfl rfl rfl rfl rfl (z_ rfl rfl rfl rfl rfl (z_ rfl rfl rfl rfl rfl (z_ rfl rfl rfl rfl rfl (z_ rfl rfl rfl rfl rfl (z_ rfl rfl rfl rfl rfl (z_ rfl rfl rfl rfl rfl (m_ rfl (t_ rfl rfl) rfl (m_ rfl (e_ rfl) rfl ?_)))))))))
          refine O_ (T_ (by kernel_rfl) (b_ rfl (u_ ?_)))
          refine ci_ ?_
          have hres : false = true ↔ ga = am_ (Fc.a f) (Fc.r ga) (Fc.lo ga) (Fc.hi ga) ∧ gb = am_ (Fc.a f) (Fc.r ga) (Fc.lo gb) (Fc.hi gb) ∧ (Fc.hi ga < Fc.lo gb ∨ Fc.hi gb < Fc.lo ga) ∧ f = aL_ (Fc.a f) [33] := by
            refine Iff.trans ?_ (and_iff_right hsp0).symm; refine Iff.trans ?_ (and_iff_right hsp1).symm; clear hsp0 hsp1; simp [*]
          exact Y_ aw_ () (s_ rfl (Bool.eq_iff_iff.2 (hres.trans (aR_ wg wh).symm))) x_ (fun _ _ _ => trivial)
        · skip
          replace hr46 := of_decide_eq_true hr46
          refine P_ 4 [13, 14, 15, 16, 17] (by kernel_rfl) (fun _ a b => ⟨a, b⟩) (r_ rfl rfl rfl (h_ j_ rfl rfl rfl l_) rfl (r_ rfl rfl rfl (M_ 2 U_ l_ rfl rfl rfl) rfl (r_ rfl rfl rfl (h_ j_ rfl rfl rfl l_) rfl (r_ rfl rfl rfl (h_ o_ rfl rfl rfl y_) rfl (r_ rfl rfl rfl (n_ 2 H_ rfl rfl rfl) rfl (O_ (L_ 18 rfl (by kernel_rfl) (i_ rfl rfl (K_ (bO_ (Fc.a f) [33]) rfl x_ (fun _ _ _ => by exact trivial) rfl fun _ => ?_)))))))))
          refine d_ (p_ rfl (D_ (fun _ a b => ⟨a, b⟩) (P_ 0 [19, 20, 21] (by kernel_rfl) (fun _ a b => ⟨a, b⟩) ?_)))
          refine az_ rfl rfl rfl (av_ (p := f) (q := (aL_ (Fc.a f) [33])) rfl rfl) rfl fun r47 hr47 => ?_
          refine m_ rfl (v_ rfl rfl) rfl (m_ rfl (e_ rfl) rfl (O_ (T_ (by kernel_rfl) (b_ rfl (u_ ?_)))))
          refine ci_ ?_
          have hres : r47 = true ↔ ga = am_ (Fc.a f) (Fc.r ga) (Fc.lo ga) (Fc.hi ga) ∧ gb = am_ (Fc.a f) (Fc.r ga) (Fc.lo gb) (Fc.hi gb) ∧ (Fc.hi ga < Fc.lo gb ∨ Fc.hi gb < Fc.lo ga) ∧ f = aL_ (Fc.a f) [33] := by
            refine Iff.trans ?_ (and_iff_right hsp0).symm; refine Iff.trans ?_ (and_iff_right hsp1).symm; clear hsp0 hsp1; rw [← hr47]; clear hr47; simp [*]
          exact Y_ aw_ () (s_ rfl (Bool.eq_iff_iff.2 (hres.trans (aR_ wg wh).symm))) x_ (fun _ _ _ => trivial)
      · skip
        replace hr45 := of_decide_eq_true hr45
        refine P_ 4 [6, 7, 8, 9, 10, 11, 12, 13, 14, 15, 16, 17] (by kernel_rfl) (fun _ a b => ⟨a, b⟩) (z_ rfl rfl rfl rfl rfl (z_ rfl rfl rfl rfl rfl (z_ rfl rfl rfl rfl rfl (z_ rfl rfl rfl rfl rfl (z_ rfl rfl rfl rfl rfl (m_ rfl (v_ rfl rfl) rfl (m_ rfl (f_ rfl) rfl (r_ rfl rfl rfl (h_ j_ rfl rfl rfl l_) rfl (r_ rfl rfl rfl (M_ 2 U_ l_ rfl rfl rfl) rfl ?_)))))))))
        refine r_ rfl rfl rfl (h_ j_ rfl rfl rfl l_) rfl (r_ rfl rfl rfl (h_ o_ rfl rfl rfl y_) rfl (r_ rfl rfl rfl (n_ 2 H_ rfl rfl rfl) rfl (O_ (L_ 18 rfl (by kernel_rfl) (i_ rfl rfl (K_ (bO_ (Fc.a f) [33]) rfl x_ (fun _ _ _ => by exact trivial) rfl fun _ => ?_))))))
        refine d_ (p_ rfl (D_ (fun _ a b => ⟨a, b⟩) (P_ 0 [19, 20, 21] (by kernel_rfl) (fun _ a b => ⟨a, b⟩) ?_)))
        refine az_ rfl rfl rfl (av_ (p := f) (q := (aL_ (Fc.a f) [33])) rfl rfl) rfl fun r48 hr48 => ?_
        refine m_ rfl (v_ rfl rfl) rfl (m_ rfl (e_ rfl) rfl (O_ (T_ (by kernel_rfl) (b_ rfl (u_ ?_)))))
        refine ci_ ?_
        have hres : r48 = true ↔ ga = am_ (Fc.a f) (Fc.r ga) (Fc.lo ga) (Fc.hi ga) ∧ gb = am_ (Fc.a f) (Fc.r ga) (Fc.lo gb) (Fc.hi gb) ∧ (Fc.hi ga < Fc.lo gb ∨ Fc.hi gb < Fc.lo ga) ∧ f = aL_ (Fc.a f) [33] := by
          refine Iff.trans ?_ (and_iff_right hsp0).symm; refine Iff.trans ?_ (and_iff_right hsp1).symm; clear hsp0 hsp1; rw [← hr48]; clear hr48; simp [*]
        exact Y_ aw_ () (s_ rfl (Bool.eq_iff_iff.2 (hres.trans (aR_ wg wh).symm))) x_ (fun _ _ _ => trivial)
set_option maxHeartbeats 1000000 in
theorem og_ (kn : Str → Bool) (q : List Str) (hkn : ∀ s, kn s = true ↔ s ∈ q) (es : Array MapEntry) (ec : Nat) (hE : SetE str es q) (vb ab : Nat) (pv fv : Value) (x : Pc) (f ga : Fc) (lad : Option Addr) (lcap : Nat) (wg : wf2 ga = true) (hxo : -1099511627776 ≤ x.lo ∧ x.lo ≤ x.hi ∧ x.hi ≤ 1099511627776) : TriX Tryz.prog 143 #[.agg #[zp_ vb 0, .int .i64 (Fc.kind f), str (Fc.a f), str (Fc.b f), str (Fc.r f), .int .i64 (Fc.lo f), .int .i64 (Fc.hi f), .slice lad (List.length [ga]) lcap, .int .i64 (Pc.kind x), str (Pc.a x), str (Pc.b x), str (Pc.c x), str (Pc.r x), str (Pc.s x), str (Pc.t x), .int .i64 (Pc.lo x), .int .i64 (Pc.hi x), .int .i64 (Pc.frm x)]] [] [cp_ vb (.cells (dc_ pv ab fv).toArray 83 (0, 0)), cp_ ab (.map es ec), aY_ lad (List.flatMap Fc.cells [ga])] (fun _ : Unit => .bool (kS_ kn x f ga zfc)) (fun _ => []) (fun _ => []) (kS_ kn x f ga zfc = false) := by
  refine bq_ Tryz.func143 rfl rfl Tryz.ntmps143 rfl fun v0 => ?_
  refine g_ (c_ (aM_ rfl rfl fun b1 => ?_))
  refine a_ (e_ rfl) rfl (d_ (b_ rfl (g_ (c_ (a_ (M_ 0 jQ_ hM_ rfl rfl rfl) rfl (a_ (h_ j_ rfl rfl rfl ay_) rfl (a_ (h_ R_ rfl rfl rfl y_) rfl (a_ (n_ 0 H_ rfl rfl rfl) rfl (ao_ (jb_ (Pc.r x) kn q hkn es ec hE vb ab pv fv x f ga lad lcap) rfl x_ (fun v _ h => by exact ⟨h.1, h.2.1, h.2.2.1, trivial⟩) rfl (fun hb => cA_ ((by rw [Bool.eq_false_iff]; intro hq; exact hb ((il_ wg).1 hq).1))) fun ⟨_, hsp0⟩ => ?_)))))))))
  try dsimp only
  refine Z_ at_ rfl fun b2 => ?_
  refine Q_ 0 ad_ rfl rfl rfl rfl rfl rfl (d_ (b_ rfl (g_ ?_)))
  refine aW_ (by kernel_rfl) ?_
  refine P_ 14 [0, 1, 2, 3, 4, 5, 6, 7] (by kernel_rfl) (fun _ a b => ⟨a, b⟩) (m_ rfl (M_ 0 co_ ad_ rfl rfl rfl) rfl (m_ rfl (h_ j_ rfl rfl rfl ay_) rfl (m_ rfl (h_ R_ rfl rfl rfl q_) rfl (m_ rfl (n_ 1 B_ rfl rfl rfl) rfl (m_ rfl (h_ j_ rfl rfl rfl ay_) rfl (m_ rfl (h_ R_ rfl rfl rfl q_) rfl (m_ rfl (n_ 1 B_ rfl rfl rfl) rfl (m_ rfl (ax_ fi_ rfl rfl) rfl (O_ ?_)))))))))
  refine L_ 8 rfl (by kernel_rfl) (ah_ (hC_ (Fc.lo ga) (Fc.hi ga) (Pc.lo x) (Pc.hi x) (dC_ wg (dp_ hsp0).1) hxo) rfl x_ (fun _ _ _ => by exact trivial) rfl fun r1 hr1 => ?_)
  refine d_ (p_ rfl (D_ (fun _ a b => ⟨a, b⟩) (P_ 12 [9] (by kernel_rfl) (fun _ a b => ⟨a, b⟩) (m_ rfl (f_ rfl) rfl (O_ ?_)))))
  cases r1
  · skip
    replace hr1 := of_decide_eq_false hr1
    refine P_ 0 [10, 11, 12, 13, 14, 15, 16, 17, 18, 19, 20, 21] (by kernel_rfl) (fun _ a b => ⟨a, b⟩) (z_ rfl rfl rfl rfl rfl (z_ rfl rfl rfl rfl rfl (z_ rfl rfl rfl rfl rfl (z_ rfl rfl rfl rfl rfl (z_ rfl rfl rfl rfl rfl (z_ rfl rfl rfl rfl rfl (z_ rfl rfl rfl rfl rfl (z_ rfl rfl rfl rfl rfl (z_ rfl rfl rfl rfl rfl ?_)))))))))
    refine z_ rfl rfl rfl rfl rfl (m_ rfl (t_ rfl rfl) rfl (m_ rfl (e_ rfl) rfl (O_ (T_ (by kernel_rfl) (b_ rfl (u_ ?_))))))
    refine ci_ ?_
    have hres : false = true ↔ ga = am_ (Fc.a f) (Pc.r x) (Fc.lo ga) (Fc.hi ga) ∧ (Pc.lo x ≤ Fc.lo ga ∧ Fc.hi ga ≤ Pc.hi x) ∧ f = aL_ (Fc.a f) (Pc.c x) := by
      refine Iff.trans ?_ (and_iff_right hsp0).symm; clear hsp0; simp [*]
    exact Y_ Tryz.results143 () (s_ rfl (Bool.eq_iff_iff.2 (hres.trans (il_ wg).symm))) x_ (fun _ _ _ => trivial)
  · skip
    replace hr1 := of_decide_eq_true hr1
    refine P_ 4 [10, 11, 12, 13, 14, 15, 16, 17] (by kernel_rfl) (fun _ a b => ⟨a, b⟩) (r_ rfl rfl rfl (h_ j_ rfl rfl rfl l_) rfl (r_ rfl rfl rfl (M_ 1 U_ l_ rfl rfl rfl) rfl (r_ rfl rfl rfl (h_ j_ rfl rfl rfl l_) rfl (r_ rfl rfl rfl (h_ o_ rfl rfl rfl y_) rfl (r_ rfl rfl rfl (n_ 1 H_ rfl rfl rfl) rfl (r_ rfl rfl rfl (h_ j_ rfl rfl rfl ay_) rfl (r_ rfl rfl rfl (h_ R_ rfl rfl rfl y_) rfl (r_ rfl rfl rfl (n_ 1 H_ rfl rfl rfl) rfl (O_ ?_)))))))))
    refine L_ 18 rfl (by kernel_rfl) (i_ rfl rfl (K_ (bO_ (Fc.a f) (Pc.c x)) rfl x_ (fun _ _ _ => by exact trivial) rfl fun _ => ?_))
    refine d_ (p_ rfl (D_ (fun _ a b => ⟨a, b⟩) (P_ 0 [19, 20, 21] (by kernel_rfl) (fun _ a b => ⟨a, b⟩) ?_)))
    refine az_ rfl rfl rfl (av_ (p := f) (q := (aL_ (Fc.a f) (Pc.c x))) rfl rfl) rfl fun r2 hr2 => ?_
    refine m_ rfl (v_ rfl rfl) rfl (m_ rfl (e_ rfl) rfl (O_ (T_ (by kernel_rfl) (b_ rfl (u_ ?_)))))
    refine ci_ ?_
    have hres : r2 = true ↔ ga = am_ (Fc.a f) (Pc.r x) (Fc.lo ga) (Fc.hi ga) ∧ (Pc.lo x ≤ Fc.lo ga ∧ Fc.hi ga ≤ Pc.hi x) ∧ f = aL_ (Fc.a f) (Pc.c x) := by
      refine Iff.trans ?_ (and_iff_right hsp0).symm; clear hsp0; rw [← hr2]; clear hr2; simp [*]
    exact Y_ Tryz.results143 () (s_ rfl (Bool.eq_iff_iff.2 (hres.trans (il_ wg).symm))) x_ (fun _ _ _ => trivial)
set_option maxHeartbeats 1000000 in
theorem oe_ (kn : Str → Bool) (q : List Str) (hkn : ∀ s, kn s = true ↔ s ∈ q) (es : Array MapEntry) (ec : Nat) (hE : SetE str es q) (vb ab : Nat) (pv fv : Value) (x : Pc) (f ga : Fc) (lad : Option Addr) (lcap : Nat) (wg : wf2 ga = true) (wf : wf2 f = true) : TriX Tryz.prog 145 #[.agg #[zp_ vb 0, .int .i64 (Fc.kind f), str (Fc.a f), str (Fc.b f), str (Fc.r f), .int .i64 (Fc.lo f), .int .i64 (Fc.hi f), .slice lad (List.length [ga]) lcap, .int .i64 (Pc.kind x), str (Pc.a x), str (Pc.b x), str (Pc.c x), str (Pc.r x), str (Pc.s x), str (Pc.t x), .int .i64 (Pc.lo x), .int .i64 (Pc.hi x), .int .i64 (Pc.frm x)]] [] [cp_ vb (.cells (dc_ pv ab fv).toArray 83 (0, 0)), cp_ ab (.map es ec), aY_ lad (List.flatMap Fc.cells [ga])] (fun _ : Unit => .bool (kR_ kn x f ga zfc)) (fun _ => []) (fun _ => []) (kR_ kn x f ga zfc = false) := by
  refine bq_ Tryz.func145 rfl rfl Tryz.ntmps145 rfl fun v0 => ?_
  refine g_ (c_ (aM_ rfl rfl fun b1 => ?_))
  refine a_ (e_ rfl) rfl (d_ (b_ rfl (g_ (c_ (a_ (M_ 0 jQ_ hM_ rfl rfl rfl) rfl (a_ (h_ j_ rfl rfl rfl l_) rfl (a_ (h_ o_ rfl rfl rfl y_) rfl (a_ (n_ 0 H_ rfl rfl rfl) rfl (ao_ (jb_ (Fc.r f) kn q hkn es ec hE vb ab pv fv x f ga lad lcap) rfl x_ (fun v _ h => by exact ⟨h.1, h.2.1, h.2.2.1, trivial⟩) rfl (fun hb => cA_ ((by rw [Bool.eq_false_iff]; intro hq; exact hb ((ik_ wf wg).1 hq).1))) fun ⟨_, hsp0⟩ => ?_)))))))))
  try dsimp only
  refine Z_ at_ rfl fun b2 => ?_
  refine Q_ 0 ad_ rfl rfl rfl rfl rfl rfl (d_ (b_ rfl (g_ (c_ (a_ (h_ j_ rfl rfl rfl l_) rfl (a_ (h_ o_ rfl rfl rfl q_) rfl (a_ (n_ 1 B_ rfl rfl rfl) rfl (E_ (aG_ rfl rfl) rfl fun r1 hr1 => ?_))))))))
  refine a_ (f_ rfl) rfl ?_
  cases r1
  · skip
    replace hr1 := ne_of_beq_false hr1
    refine k_ rfl rfl rfl rfl (k_ rfl rfl rfl rfl (k_ rfl rfl rfl rfl (k_ rfl rfl rfl rfl (k_ rfl rfl rfl rfl (k_ rfl rfl rfl rfl (k_ rfl rfl rfl rfl (k_ rfl rfl rfl rfl (k_ rfl rfl rfl rfl (a_ (t_ rfl rfl) rfl ?_)))))))))
    refine a_ (e_ rfl) rfl (d_ (b_ rfl (u_ ?_)))
    refine ci_ ?_
    have hres : false = true ↔ ga = am_ (Fc.a f) (Fc.r f) (Fc.lo ga) (Fc.hi ga) ∧ f.kind = 3 ∧ (Fc.lo f ≤ Fc.lo ga ∧ Fc.hi ga ≤ Fc.hi f) := by
      refine Iff.trans ?_ (and_iff_right hsp0).symm; clear hsp0; simp [*]
    exact Y_ Tryz.results145 () (s_ rfl (Bool.eq_iff_iff.2 (hres.trans (ik_ wf wg).symm))) x_ (fun _ _ _ => trivial)
  · skip
    replace hr1 := eq_of_beq hr1
    refine i_ rfl rfl (a_ (M_ 0 co_ ad_ rfl rfl rfl) rfl (i_ rfl rfl (a_ (h_ j_ rfl rfl rfl l_) rfl (i_ rfl rfl (a_ (h_ o_ rfl rfl rfl q_) rfl (i_ rfl rfl (a_ (n_ 1 B_ rfl rfl rfl) rfl (i_ rfl rfl (a_ (h_ j_ rfl rfl rfl l_) rfl ?_)))))))))
    refine i_ rfl rfl (a_ (h_ o_ rfl rfl rfl q_) rfl (i_ rfl rfl (a_ (n_ 1 B_ rfl rfl rfl) rfl (i_ rfl rfl (a_ (ax_ fi_ rfl rfl) rfl (i_ rfl rfl (ah_ (hC_ (Fc.lo ga) (Fc.hi ga) (Fc.lo f) (Fc.hi f) (dC_ wg (dp_ hsp0).1) (dC_ wf (by first | assumption | omega))) rfl x_ (fun _ _ _ => by exact trivial) rfl fun r2 hr2 => ?_)))))))
    refine a_ (v_ rfl rfl) rfl (a_ (e_ rfl) rfl (d_ (b_ rfl (u_ ?_))))
    refine ci_ ?_
    have hres : r2 = true ↔ ga = am_ (Fc.a f) (Fc.r f) (Fc.lo ga) (Fc.hi ga) ∧ f.kind = 3 ∧ (Fc.lo f ≤ Fc.lo ga ∧ Fc.hi ga ≤ Fc.hi f) := by
      refine Iff.trans ?_ (and_iff_right hsp0).symm; clear hsp0; rw [← hr2]; clear hr2; simp [*]
    exact Y_ Tryz.results145 () (s_ rfl (Bool.eq_iff_iff.2 (hres.trans (ik_ wf wg).symm))) x_ (fun _ _ _ => trivial)
end Go.Proofs.YtaffcjgphlhppaaGreatDoor
