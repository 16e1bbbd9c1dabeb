/-
  Part of the proof of the law CheckerGrows over this seat: the small logic, the data, the contracts of functions (no condition).
-/
import Derived.Test.YtaffcjgphlhppaaGreatDoorQCheckerGrows8
set_option linter.unusedVariables false
set_option linter.unusedSimpArgs false
set_option linter.unusedSectionVars false
namespace Go.Proofs.YtaffcjgphlhppaaGreatDoor
open Go Go.Sx Go.Proofs
attribute [local irreducible] Code.wp wpList wpAnyH
open Go.Vs
set_option maxHeartbeats 1000000 in
theorem nc_ (kn : Str → Bool) (q : List Str) (hkn : ∀ s, kn s = true ↔ s ∈ q) (es : Array MapEntry) (ec : Nat) (hE : SetE str es q) (vb ab : Nat) (pv fv : Value) (x : Pc) (f ga gb : Fc) (lad : Option Addr) (lcap : Nat) (wg : wf2 ga = true) (wh : wf2 gb = true) (wf : wf2 f = true) : TriX Tryz.prog 141 #[.agg #[zp_ vb 0, .int .i64 (Fc.kind f), str (Fc.a f), str (Fc.b f), str (Fc.r f), .int .i64 (Fc.lo f), .int .i64 (Fc.hi f), .slice lad (List.length [ga, gb]) lcap, .int .i64 (Pc.kind x), str (Pc.a x), str (Pc.b x), str (Pc.c x), str (Pc.r x), str (Pc.s x), str (Pc.t x), .int .i64 (Pc.lo x), .int .i64 (Pc.hi x), .int .i64 (Pc.frm x)]] [] [bV_ vb (.cells (cC_ pv ab fv).toArray 83 (0, 0)), bV_ ab (.map es ec), aR_ lad (List.flatMap Fc.cells [ga, gb])] (fun _ : Unit => .bool (jX_ kn x f ga gb)) (fun _ => []) (fun _ => []) (jX_ kn x f ga gb = false) := by
 refine bd_ Tryz.func141 rfl rfl Tryz.ntmps141 rfl fun v0 => ?_
 refine g_ (c_ (aL_ rfl rfl fun b1 => ?_))
 refine a_ (e_ rfl) rfl (d_ (b_ rfl (g_ ?_)))
 refine aI_ (by kernel_rfl) ?_
 refine K_ 9 [0, 1, 2, 3, 5, 6, 7, 8] (by kernel_rfl) (fun _ a b => ⟨a, b⟩) (j_ rfl (O_ 0 iX_ hd_ rfl rfl rfl) rfl (j_ rfl (h_ i_ rfl rfl rfl k_) rfl (j_ rfl (h_ o_ rfl rfl rfl x_) rfl (j_ rfl (m_ 0 F_ rfl rfl rfl) rfl (j_ rfl (O_ 0 iX_ hd_ rfl rfl rfl) rfl (j_ rfl (h_ i_ rfl rfl rfl k_) rfl (j_ rfl (h_ o_ rfl rfl rfl x_) rfl (j_ rfl (m_ 0 F_ rfl rfl rfl) rfl (J_ ?_)))))))))
 refine bT_ 4 14 rfl rfl (by kernel_rfl) ?_ ?_
 ·
  refine al_ (dw_ (Fc.r f) kn q hkn es ec hE vb ab pv fv x f ga gb lad lcap) rfl B_ (fun v _ h => by exact ⟨h.1, h.2.1, h.2.2.1, trivial⟩) rfl (fun hb => ce_ ((by rw [Bool.eq_false_iff]; intro hq; exact hb ((cz_ wf wg wh).1 hq).1))) fun ⟨_, hsp0⟩ => ?_
  try dsimp only
  refine d_ (q_ rfl (A_ (fun _ a b => ⟨a, b⟩) ?_))
  refine bT_ 9 14 rfl rfl (by kernel_rfl) ?_ ?_
  ·
   refine al_ (cc_ (Fc.r f) kn q hkn es ec hE vb ab pv fv x f ga gb lad lcap) rfl B_ (fun v _ h => by exact ⟨h.1, h.2.1, h.2.2.1, trivial⟩) rfl (fun hb => ce_ ((by rw [Bool.eq_false_iff]; intro hq; exact hb ((cz_ wf wg wh).1 hq).2.1))) fun ⟨_, hsp1⟩ => ?_
   try dsimp only
   refine d_ (q_ rfl (A_ (fun _ a b => ⟨a, b⟩) ?_))
   refine bT_ 10 14 rfl rfl (by kernel_rfl) ?_ ?_
   ·
    refine P_ (fZ_ (Fc.lo ga, Fc.hi ga) (Fc.lo gb, Fc.hi gb) (db_ wg (cN_ hsp0).1) (db_ wh (cN_ hsp1).1)) rfl B_ (fun _ _ _ => by exact trivial) rfl fun ⟨⟨⟨mlo, mhi⟩, me⟩, hmv⟩ => ?_
    dsimp only
    refine d_ (q_ rfl (A_ (fun _ a b => ⟨a, b⟩) (K_ 3 [11, 12, 13] (by kernel_rfl) (fun _ a b => ⟨a, b⟩) (j_ rfl (f_ rfl) rfl (j_ rfl (aH_ rfl rfl) rfl (j_ rfl (aH_ rfl rfl) rfl (J_ (I_ 14 rfl (by kernel_rfl) (ad_ ao_ rfl fun b2 => ?_)))))))))
    refine d_ (q_ rfl (A_ (fun _ a b => ⟨a.tail, b⟩) (I_ 15 rfl (by kernel_rfl) (X_ 0 Z_ rfl rfl rfl rfl rfl rfl (d_ (q_ rfl (A_ (fun _ a b => ⟨a.tail, b⟩) (K_ 0 [16] (by kernel_rfl) (fun _ a b => ⟨a.tail, b⟩) (j_ rfl (e_ rfl) rfl ?_)))))))))
    refine J_ (S_ (by kernel_rfl) (b_ rfl (g_ ?_)))
    refine aI_ (by kernel_rfl) ?_
    refine K_ 16 [0, 1, 2] (by kernel_rfl) (fun _ a b => ⟨a, b⟩) (j_ rfl (f_ rfl) rfl ?_)
    refine bk_ rfl (aC_ rfl rfl) rfl fun r1 hr1 => ?_
    refine j_ rfl (f_ rfl) rfl (J_ ?_)
    cases r1
    ·
     replace hr1 := ne_of_beq_false hr1
     refine K_ 0 [3, 4, 5, 6, 7, 8, 9, 10, 11, 12, 13, 14, 15, 16, 17, 18] (by kernel_rfl) (fun _ a b => ⟨a, b⟩) (v_ rfl rfl rfl rfl rfl (v_ rfl rfl rfl rfl rfl (v_ rfl rfl rfl rfl rfl (v_ rfl rfl rfl rfl rfl (v_ rfl rfl rfl rfl rfl (v_ rfl rfl rfl rfl rfl (v_ rfl rfl rfl rfl rfl (v_ rfl rfl rfl rfl rfl (v_ rfl rfl rfl rfl rfl ?_)))))))))
     refine v_ rfl rfl rfl rfl rfl (v_ rfl rfl rfl rfl rfl (v_ rfl rfl rfl rfl rfl (v_ rfl rfl rfl rfl rfl (v_ rfl rfl rfl rfl rfl (j_ rfl (t_ rfl rfl) rfl (j_ rfl (e_ rfl) rfl (J_ (S_ (by kernel_rfl) (b_ rfl ?_)))))))))
     refine u_ ?_
     refine bN_ ?_
     have hres : false = true ↔ ga = aj_ (Fc.a f) (Fc.r f) (Fc.lo ga) (Fc.hi ga) ∧ gb = aj_ (Fc.a f) (Fc.r f) (Fc.lo gb) (Fc.hi gb) ∧ max (Fc.lo ga) (Fc.lo gb) ≤ min (Fc.hi ga) (Fc.hi gb) ∧ f = aj_ (Fc.a f) (Fc.r f) (max (Fc.lo ga) (Fc.lo gb)) (min (Fc.hi ga) (Fc.hi gb)) := by
      refine Iff.trans ?_ (and_iff_right hsp0).symm; refine Iff.trans ?_ (and_iff_right hsp1).symm; clear hsp0 hsp1; unfold eb_ at hmv; dsimp only at hmv; split at hmv <;> simp only [Prod.mk.injEq] at hmv <;> obtain ⟨⟨rfl, rfl⟩, rfl⟩ := hmv <;> (first | (simp_all; done) | (exfalso; omega; done) | exact ⟨fun hq => by simp_all, fun hq => absurd hq.1 (by first | assumption | omega)⟩)
     exact Y_ dB_ () (s_ rfl (Bool.eq_iff_iff.2 (hres.trans (cz_ wf wg wh).symm))) B_ (fun _ _ _ => trivial)
    ·
     replace hr1 := eq_of_beq hr1
     refine K_ 4 [3, 4, 5, 6, 7, 8, 9, 10, 11, 12, 13, 14] (by kernel_rfl) (fun _ a b => ⟨a, b⟩) (p_ rfl rfl rfl (h_ i_ rfl rfl rfl k_) rfl (p_ rfl rfl rfl (O_ 1 R_ k_ rfl rfl rfl) rfl (p_ rfl rfl rfl (h_ i_ rfl rfl rfl k_) rfl (p_ rfl rfl rfl (h_ o_ rfl rfl rfl x_) rfl (p_ rfl rfl rfl (m_ 1 F_ rfl rfl rfl) rfl (p_ rfl rfl rfl (h_ i_ rfl rfl rfl k_) rfl (p_ rfl rfl rfl (h_ o_ rfl rfl rfl x_) rfl (p_ rfl rfl rfl (m_ 1 F_ rfl rfl rfl) rfl (p_ rfl rfl rfl (h_ G_ rfl rfl rfl r_) rfl ?_)))))))))
     refine p_ rfl rfl rfl (m_ 0 C_ rfl rfl rfl) rfl (p_ rfl rfl rfl (h_ G_ rfl rfl rfl r_) rfl (p_ rfl rfl rfl (m_ 0 C_ rfl rfl rfl) rfl (J_ (I_ 15 rfl (by kernel_rfl) (l_ rfl rfl (P_ (dL_ (Fc.a f) (Fc.r f) mlo mhi) rfl B_ (fun _ _ _ => by exact trivial) rfl fun _ => ?_))))))
     refine d_ (q_ rfl (A_ (fun _ a b => ⟨a, b⟩) (K_ 0 [16, 17, 18] (by kernel_rfl) (fun _ a b => ⟨a, b⟩) ?_)))
     refine ar_ rfl rfl rfl (ap_ (p := f) (q := (aj_ (Fc.a f) (Fc.r f) mlo mhi)) rfl rfl) rfl fun r2 hr2 => ?_
     refine j_ rfl (z_ rfl rfl) rfl (j_ rfl (e_ rfl) rfl (J_ (S_ (by kernel_rfl) (b_ rfl (u_ ?_)))))
     refine bN_ ?_
     have hres : r2 = true ↔ ga = aj_ (Fc.a f) (Fc.r f) (Fc.lo ga) (Fc.hi ga) ∧ gb = aj_ (Fc.a f) (Fc.r f) (Fc.lo gb) (Fc.hi gb) ∧ max (Fc.lo ga) (Fc.lo gb) ≤ min (Fc.hi ga) (Fc.hi gb) ∧ f = aj_ (Fc.a f) (Fc.r f) (max (Fc.lo ga) (Fc.lo gb)) (min (Fc.hi ga) (Fc.hi gb)) := by
      refine Iff.trans ?_ (and_iff_right hsp0).symm; refine Iff.trans ?_ (and_iff_right hsp1).symm; clear hsp0 hsp1; rw [← hr2]; clear hr2; unfold eb_ at hmv; dsimp only at hmv; split at hmv <;> simp only [Prod.mk.injEq] at hmv <;> obtain ⟨⟨rfl, rfl⟩, rfl⟩ := hmv <;> (first | (simp_all; done) | (exfalso; omega; done) | exact ⟨fun hq => by simp_all, fun hq => absurd hq.1 (by first | assumption | omega)⟩)
     exact Y_ dB_ () (s_ rfl (Bool.eq_iff_iff.2 (hres.trans (cz_ wf wg wh).symm))) B_ (fun _ _ _ => trivial)
   ·
    refine ad_ ao_ rfl fun b3 => ?_
    refine d_ (q_ rfl (A_ (fun _ a b => ⟨a.tail, b⟩) (I_ 10 rfl (by kernel_rfl) (P_ (fZ_ (Fc.lo ga, Fc.hi ga) (Fc.lo gb, Fc.hi gb) (db_ wg (cN_ hsp0).1) (db_ wh (cN_ hsp1).1)) rfl B_ (fun _ _ _ => by exact trivial) rfl fun ⟨⟨⟨mlo, mhi⟩, me⟩, hmv⟩ => ?_))))
    dsimp only
    refine d_ (q_ rfl (A_ (fun _ a b => ⟨a.tail, b⟩) (K_ 2 [11, 12, 13] (by kernel_rfl) (fun _ a b => ⟨a.tail, b⟩) (j_ rfl (f_ rfl) rfl (j_ rfl (aH_ rfl rfl) rfl (j_ rfl (aH_ rfl rfl) rfl (J_ (I_ 15 rfl (by kernel_rfl) (X_ 0 Z_ rfl rfl rfl rfl rfl rfl ?_)))))))))
    refine d_ (q_ rfl (A_ (fun _ a b => ⟨a.tail, b⟩) (K_ 0 [16] (by kernel_rfl) (fun _ a b => ⟨a.tail, b⟩) (j_ rfl (e_ rfl) rfl (J_ (S_ (by kernel_rfl) (b_ rfl (g_ ?_))))))))
    refine aI_ (by kernel_rfl) ?_
    refine K_ 16 [0, 1, 2] (by kernel_rfl) (fun _ a b => ⟨a, b⟩) (j_ rfl (f_ rfl) rfl ?_)
    refine bk_ rfl (aC_ rfl rfl) rfl fun r3 hr3 => ?_
    refine j_ rfl (f_ rfl) rfl (J_ ?_)
    cases r3
    ·
     replace hr3 := ne_of_beq_false hr3
     refine K_ 0 [3, 4, 5, 6, 7, 8, 9, 10, 11, 12, 13, 14, 15, 16, 17, 18] (by kernel_rfl) (fun _ a b => ⟨a, b⟩) (v_ rfl rfl rfl rfl rfl (v_ rfl rfl rfl rfl rfl (v_ rfl rfl rfl rfl rfl (v_ rfl rfl rfl rfl rfl (v_ rfl rfl rfl rfl rfl (v_ rfl rfl rfl rfl rfl (v_ rfl rfl rfl rfl rfl (v_ rfl rfl rfl rfl rfl (v_ rfl rfl rfl rfl rfl ?_)))))))))
     refine v_ rfl rfl rfl rfl rfl (v_ rfl rfl rfl rfl rfl (v_ rfl rfl rfl rfl rfl (v_ rfl rfl rfl rfl rfl (v_ rfl rfl rfl rfl rfl (j_ rfl (t_ rfl rfl) rfl (j_ rfl (e_ rfl) rfl (J_ (S_ (by kernel_rfl) (b_ rfl ?_)))))))))
     refine u_ ?_
     refine bN_ ?_
     have hres : false = true ↔ ga = aj_ (Fc.a f) (Fc.r f) (Fc.lo ga) (Fc.hi ga) ∧ gb = aj_ (Fc.a f) (Fc.r f) (Fc.lo gb) (Fc.hi gb) ∧ max (Fc.lo ga) (Fc.lo gb) ≤ min (Fc.hi ga) (Fc.hi gb) ∧ f = aj_ (Fc.a f) (Fc.r f) (max (Fc.lo ga) (Fc.lo gb)) (min (Fc.hi ga) (Fc.hi gb)) := by
      refine Iff.trans ?_ (and_iff_right hsp0).symm; refine Iff.trans ?_ (and_iff_right hsp1).symm; clear hsp0 hsp1; unfold eb_ at hmv; dsimp only at hmv; split at hmv <;> simp only [Prod.mk.injEq] at hmv <;> obtain ⟨⟨rfl, rfl⟩, rfl⟩ := hmv <;> (first | (simp_all; done) | (exfalso; omega; done) | exact ⟨fun hq => by simp_all, fun hq => absurd hq.1 (by first | assumption | omega)⟩)
     exact Y_ dB_ () (s_ rfl (Bool.eq_iff_iff.2 (hres.trans (cz_ wf wg wh).symm))) B_ (fun _ _ _ => trivial)
    ·
     replace hr3 := eq_of_beq hr3
     refine K_ 4 [3, 4, 5, 6, 7, 8, 9, 10, 11, 12, 13, 14] (by kernel_rfl) (fun _ a b => ⟨a, b⟩) (p_ rfl rfl rfl (h_ i_ rfl rfl rfl k_) rfl (p_ rfl rfl rfl (O_ 1 R_ k_ rfl rfl rfl) rfl (p_ rfl rfl rfl (h_ i_ rfl rfl rfl k_) rfl (p_ rfl rfl rfl (h_ o_ rfl rfl rfl x_) rfl (p_ rfl rfl rfl (m_ 1 F_ rfl rfl rfl) rfl (p_ rfl rfl rfl (h_ i_ rfl rfl rfl k_) rfl (p_ rfl rfl rfl (h_ o_ rfl rfl rfl x_) rfl (p_ rfl rfl rfl (m_ 1 F_ rfl rfl rfl) rfl (p_ rfl rfl rfl (h_ G_ rfl rfl rfl r_) rfl ?_)))))))))
     refine p_ rfl rfl rfl (m_ 0 C_ rfl rfl rfl) rfl (p_ rfl rfl rfl (h_ G_ rfl rfl rfl r_) rfl (p_ rfl rfl rfl (m_ 0 C_ rfl rfl rfl) rfl (J_ (I_ 15 rfl (by kernel_rfl) (l_ rfl rfl (P_ (dL_ (Fc.a f) (Fc.r f) mlo mhi) rfl B_ (fun _ _ _ => by exact trivial) rfl fun _ => ?_))))))
     refine d_ (q_ rfl (A_ (fun _ a b => ⟨a, b⟩) (K_ 0 [16, 17, 18] (by kernel_rfl) (fun _ a b => ⟨a, b⟩) ?_)))
     refine ar_ rfl rfl rfl (ap_ (p := f) (q := (aj_ (Fc.a f) (Fc.r f) mlo mhi)) rfl rfl) rfl fun r4 hr4 => ?_
     refine j_ rfl (z_ rfl rfl) rfl (j_ rfl (e_ rfl) rfl (J_ (S_ (by kernel_rfl) (b_ rfl (u_ ?_)))))
     refine bN_ ?_
     have hres : r4 = true ↔ ga = aj_ (Fc.a f) (Fc.r f) (Fc.lo ga) (Fc.hi ga) ∧ gb = aj_ (Fc.a f) (Fc.r f) (Fc.lo gb) (Fc.hi gb) ∧ max (Fc.lo ga) (Fc.lo gb) ≤ min (Fc.hi ga) (Fc.hi gb) ∧ f = aj_ (Fc.a f) (Fc.r f) (max (Fc.lo ga) (Fc.lo gb)) (min (Fc.hi ga) (Fc.hi gb)) := by
      refine Iff.trans ?_ (and_iff_right hsp0).symm; refine Iff.trans ?_ (and_iff_right hsp1).symm; clear hsp0 hsp1; rw [← hr4]; clear hr4; unfold eb_ at hmv; dsimp only at hmv; split at hmv <;> simp only [Prod.mk.injEq] at hmv <;> obtain ⟨⟨rfl, rfl⟩, rfl⟩ := hmv <;> (first | (simp_all; done) | (exfalso; omega; done) | exact ⟨fun hq => by simp_all, fun hq => absurd hq.1 (by first | assumption | omega)⟩)
     exact Y_ dB_ () (s_ rfl (Bool.eq_iff_iff.2 (hres.trans (cz_ wf wg wh).symm))) B_ (fun _ _ _ => trivial)
  ·
   refine ad_ ao_ rfl fun b4 => ?_
   refine d_ (q_ rfl (A_ (fun _ a b => ⟨a.tail, b⟩) (I_ 9 rfl (by kernel_rfl) (al_ (cc_ (Fc.r f) kn q hkn es ec hE vb ab pv fv x f ga gb lad lcap) rfl B_ (fun v _ h => by exact ⟨h.1, h.2.1, h.2.2.1, trivial⟩) rfl (fun hb => ce_ ((by rw [Bool.eq_false_iff]; intro hq; exact hb ((cz_ wf wg wh).1 hq).2.1))) fun ⟨_, hsp1⟩ => ?_))))
   try dsimp only
   refine d_ (q_ rfl (A_ (fun _ a b => ⟨a.tail, b⟩) (I_ 10 rfl (by kernel_rfl) (P_ (fZ_ (Fc.lo ga, Fc.hi ga) (Fc.lo gb, Fc.hi gb) (db_ wg (cN_ hsp0).1) (db_ wh (cN_ hsp1).1)) rfl B_ (fun _ _ _ => by exact trivial) rfl fun ⟨⟨⟨mlo, mhi⟩, me⟩, hmv⟩ => ?_))))
   dsimp only
   refine d_ (q_ rfl (A_ (fun _ a b => ⟨a.tail, b⟩) (K_ 2 [11, 12, 13] (by kernel_rfl) (fun _ a b => ⟨a.tail, b⟩) (j_ rfl (f_ rfl) rfl (j_ rfl (aH_ rfl rfl) rfl (j_ rfl (aH_ rfl rfl) rfl (J_ (I_ 15 rfl (by kernel_rfl) (X_ 0 Z_ rfl rfl rfl rfl rfl rfl ?_)))))))))
   refine d_ (q_ rfl (A_ (fun _ a b => ⟨a.tail, b⟩) (K_ 0 [16] (by kernel_rfl) (fun _ a b => ⟨a.tail, b⟩) (j_ rfl (e_ rfl) rfl (J_ (S_ (by kernel_rfl) (b_ rfl (g_ ?_))))))))
   refine aI_ (by kernel_rfl) ?_
   refine K_ 16 [0, 1, 2] (by kernel_rfl) (fun _ a b => ⟨a, b⟩) (j_ rfl (f_ rfl) rfl ?_)
   refine bk_ rfl (aC_ rfl rfl) rfl fun r5 hr5 => ?_
   refine j_ rfl (f_ rfl) rfl (J_ ?_)
   cases r5
   ·
    replace hr5 := ne_of_beq_false hr5
    refine K_ 0 [3, 4, 5, 6, 7, 8, 9, 10, 11, 12, 13, 14, 15, 16, 17, 18] (by kernel_rfl) (fun _ a b => ⟨a, b⟩) (v_ rfl rfl rfl rfl rfl (v_ rfl rfl rfl rfl rfl (v_ rfl rfl rfl rfl rfl (v_ rfl rfl rfl rfl rfl (v_ rfl rfl rfl rfl rfl (v_ rfl rfl rfl rfl rfl (v_ rfl rfl rfl rfl rfl (v_ rfl rfl rfl rfl rfl (v_ rfl rfl rfl rfl rfl ?_)))))))))
    refine v_ rfl rfl rfl rfl rfl (v_ rfl rfl rfl rfl rfl (v_ rfl rfl rfl rfl rfl (v_ rfl rfl rfl rfl rfl (v_ rfl rfl rfl rfl rfl (j_ rfl (t_ rfl rfl) rfl (j_ rfl (e_ rfl) rfl (J_ (S_ (by kernel_rfl) (b_ rfl ?_)))))))))
    refine u_ ?_
    refine bN_ ?_
    have hres : false = true ↔ ga = aj_ (Fc.a f) (Fc.r f) (Fc.lo ga) (Fc.hi ga) ∧ gb = aj_ (Fc.a f) (Fc.r f) (Fc.lo gb) (Fc.hi gb) ∧ max (Fc.lo ga) (Fc.lo gb) ≤ min (Fc.hi ga) (Fc.hi gb) ∧ f = aj_ (Fc.a f) (Fc.r f) (max (Fc.lo ga) (Fc.lo gb)) (min (Fc.hi ga) (Fc.hi gb)) := by
     refine Iff.trans ?_ (and_iff_right hsp0).symm; refine Iff.trans ?_ (and_iff_right hsp1).symm; clear hsp0 hsp1; unfold eb_ at hmv; dsimp only at hmv; split at hmv <;> simp only [Prod.mk.injEq] at hmv <;> obtain ⟨⟨rfl, rfl⟩, rfl⟩ := hmv <;> (first | (simp_all; done) | (exfalso; omega; done) | exact ⟨fun hq => by simp_all, fun hq => absurd hq.1 (by first | assumption | omega)⟩)
    exact Y_ dB_ () (s_ rfl (Bool.eq_iff_iff.2 (hres.trans (cz_ wf wg wh).symm))) B_ (fun _ _ _ => trivial)
   ·
    replace hr5 := eq_of_beq hr5
    refine K_ 4 [3, 4, 5, 6, 7, 8, 9, 10, 11, 12, 13, 14] (by kernel_rfl) (fun _ a b => ⟨a, b⟩) (p_ rfl rfl rfl (h_ i_ rfl rfl rfl k_) rfl (p_ rfl rfl rfl (O_ 1 R_ k_ rfl rfl rfl) rfl (p_ rfl rfl rfl (h_ i_ rfl rfl rfl k_) rfl (p_ rfl rfl rfl (h_ o_ rfl rfl rfl x_) rfl (p_ rfl rfl rfl (m_ 1 F_ rfl rfl rfl) rfl (p_ rfl rfl rfl (h_ i_ rfl rfl rfl k_) rfl (p_ rfl rfl rfl (h_ o_ rfl rfl rfl x_) rfl (p_ rfl rfl rfl (m_ 1 F_ rfl rfl rfl) rfl (p_ rfl rfl rfl (h_ G_ rfl rfl rfl r_) rfl ?_)))))))))
    refine p_ rfl rfl rfl (m_ 0 C_ rfl rfl rfl) rfl (p_ rfl rfl rfl (h_ G_ rfl rfl rfl r_) rfl (p_ rfl rfl rfl (m_ 0 C_ rfl rfl rfl) rfl (J_ (I_ 15 rfl (by kernel_rfl) (l_ rfl rfl (P_ (dL_ (Fc.a f) (Fc.r f) mlo mhi) rfl B_ (fun _ _ _ => by exact trivial) rfl fun _ => ?_))))))
    refine d_ (q_ rfl (A_ (fun _ a b => ⟨a, b⟩) (K_ 0 [16, 17, 18] (by kernel_rfl) (fun _ a b => ⟨a, b⟩) ?_)))
    refine ar_ rfl rfl rfl (ap_ (p := f) (q := (aj_ (Fc.a f) (Fc.r f) mlo mhi)) rfl rfl) rfl fun r6 hr6 => ?_
    refine j_ rfl (z_ rfl rfl) rfl (j_ rfl (e_ rfl) rfl (J_ (S_ (by kernel_rfl) (b_ rfl (u_ ?_)))))
    refine bN_ ?_
    have hres : r6 = true ↔ ga = aj_ (Fc.a f) (Fc.r f) (Fc.lo ga) (Fc.hi ga) ∧ gb = aj_ (Fc.a f) (Fc.r f) (Fc.lo gb) (Fc.hi gb) ∧ max (Fc.lo ga) (Fc.lo gb) ≤ min (Fc.hi ga) (Fc.hi gb) ∧ f = aj_ (Fc.a f) (Fc.r f) (max (Fc.lo ga) (Fc.lo gb)) (min (Fc.hi ga) (Fc.hi gb)) := by
     refine Iff.trans ?_ (and_iff_right hsp0).symm; refine Iff.trans ?_ (and_iff_right hsp1).symm; clear hsp0 hsp1; rw [← hr6]; clear hr6; unfold eb_ at hmv; dsimp only at hmv; split at hmv <;> simp only [Prod.mk.injEq] at hmv <;> obtain ⟨⟨rfl, rfl⟩, rfl⟩ := hmv <;> (first | (simp_all; done) | (exfalso; omega; done) | exact ⟨fun hq => by simp_all, fun hq => absurd hq.1 (by first | assumption | omega)⟩)
    exact Y_ dB_ () (s_ rfl (Bool.eq_iff_iff.2 (hres.trans (cz_ wf wg wh).symm))) B_ (fun _ _ _ => trivial)
 ·
  refine ad_ ao_ rfl fun b5 => ?_
  refine d_ (q_ rfl (A_ (fun _ a b => ⟨a.tail, b⟩) (I_ 4 rfl (by kernel_rfl) (al_ (dw_ (Fc.r f) kn q hkn es ec hE vb ab pv fv x f ga gb lad lcap) rfl B_ (fun v _ h => by exact ⟨h.1, h.2.1, h.2.2.1, trivial⟩) rfl (fun hb => ce_ ((by rw [Bool.eq_false_iff]; intro hq; exact hb ((cz_ wf wg wh).1 hq).1))) fun ⟨_, hsp0⟩ => ?_))))
  try dsimp only
  refine d_ (q_ rfl (A_ (fun _ a b => ⟨a.tail, b⟩) (I_ 9 rfl (by kernel_rfl) (al_ (cc_ (Fc.r f) kn q hkn es ec hE vb ab pv fv x f ga gb lad lcap) rfl B_ (fun v _ h => by exact ⟨h.1, h.2.1, h.2.2.1, trivial⟩) rfl (fun hb => ce_ ((by rw [Bool.eq_false_iff]; intro hq; exact hb ((cz_ wf wg wh).1 hq).2.1))) fun ⟨_, hsp1⟩ => ?_))))
  try dsimp only
  refine d_ (q_ rfl (A_ (fun _ a b => ⟨a.tail, b⟩) (I_ 10 rfl (by kernel_rfl) (P_ (fZ_ (Fc.lo ga, Fc.hi ga) (Fc.lo gb, Fc.hi gb) (db_ wg (cN_ hsp0).1) (db_ wh (cN_ hsp1).1)) rfl B_ (fun _ _ _ => by exact trivial) rfl fun ⟨⟨⟨mlo, mhi⟩, me⟩, hmv⟩ => ?_))))
  dsimp only
  refine d_ (q_ rfl (A_ (fun _ a b => ⟨a.tail, b⟩) (K_ 2 [11, 12, 13] (by kernel_rfl) (fun _ a b => ⟨a.tail, b⟩) (j_ rfl (f_ rfl) rfl (j_ rfl (aH_ rfl rfl) rfl (j_ rfl (aH_ rfl rfl) rfl (J_ (I_ 15 rfl (by kernel_rfl) (X_ 0 Z_ rfl rfl rfl rfl rfl rfl ?_)))))))))
  refine d_ (q_ rfl (A_ (fun _ a b => ⟨a.tail, b⟩) (K_ 0 [16] (by kernel_rfl) (fun _ a b => ⟨a.tail, b⟩) (j_ rfl (e_ rfl) rfl (J_ (S_ (by kernel_rfl) (b_ rfl (g_ ?_))))))))
  refine aI_ (by kernel_rfl) ?_
  refine K_ 16 [0, 1, 2] (by kernel_rfl) (fun _ a b => ⟨a, b⟩) (j_ rfl (f_ rfl) rfl ?_)
  refine bk_ rfl (aC_ rfl rfl) rfl fun r7 hr7 => ?_
  refine j_ rfl (f_ rfl) rfl (J_ ?_)
  cases r7
  ·
   replace hr7 := ne_of_beq_false hr7
   refine K_ 0 [3, 4, 5, 6, 7, 8, 9, 10, 11, 12, 13, 14, 15, 16, 17, 18] (by kernel_rfl) (fun _ a b => ⟨a, b⟩) (v_ rfl rfl rfl rfl rfl (v_ rfl rfl rfl rfl rfl (v_ rfl rfl rfl rfl rfl (v_ rfl rfl rfl rfl rfl (v_ rfl rfl rfl rfl rfl (v_ rfl rfl rfl rfl rfl (v_ rfl rfl rfl rfl rfl (v_ rfl rfl rfl rfl rfl (v_ rfl rfl rfl rfl rfl ?_)))))))))
   refine v_ rfl rfl rfl rfl rfl (v_ rfl rfl rfl rfl rfl (v_ rfl rfl rfl rfl rfl (v_ rfl rfl rfl rfl rfl (v_ rfl rfl rfl rfl rfl (j_ rfl (t_ rfl rfl) rfl (j_ rfl (e_ rfl) rfl (J_ (S_ (by kernel_rfl) (b_ rfl ?_)))))))))
   refine u_ ?_
   refine bN_ ?_
   have hres : false = true ↔ ga = aj_ (Fc.a f) (Fc.r f) (Fc.lo ga) (Fc.hi ga) ∧ gb = aj_ (Fc.a f) (Fc.r f) (Fc.lo gb) (Fc.hi gb) ∧ max (Fc.lo ga) (Fc.lo gb) ≤ min (Fc.hi ga) (Fc.hi gb) ∧ f = aj_ (Fc.a f) (Fc.r f) (max (Fc.lo ga) (Fc.lo gb)) (min (Fc.hi ga) (Fc.hi gb)) := by
    refine Iff.trans ?_ (and_iff_right hsp0).symm; refine Iff.trans ?_ (and_iff_right hsp1).symm; clear hsp0 hsp1; unfold eb_ at hmv; dsimp only at hmv; split at hmv <;> simp only [Prod.mk.injEq] at hmv <;> obtain ⟨⟨rfl, rfl⟩, rfl⟩ := hmv <;> (first | (simp_all; done) | (exfalso; omega; done) | exact ⟨fun hq => by simp_all, fun hq => absurd hq.1 (by first | assumption | omega)⟩)
   exact Y_ dB_ () (s_ rfl (Bool.eq_iff_iff.2 (hres.trans (cz_ wf wg wh).symm))) B_ (fun _ _ _ => trivial)
  ·
   replace hr7 := eq_of_beq hr7
   refine K_ 4 [3, 4, 5, 6, 7, 8, 9, 10, 11, 12, 13, 14] (by kernel_rfl) (fun _ a b => ⟨a, b⟩) (p_ rfl rfl rfl (h_ i_ rfl rfl rfl k_) rfl (p_ rfl rfl rfl (O_ 1 R_ k_ rfl rfl rfl) rfl (p_ rfl rfl rfl (h_ i_ rfl rfl rfl k_) rfl (p_ rfl rfl rfl (h_ o_ rfl rfl rfl x_) rfl (p_ rfl rfl rfl (m_ 1 F_ rfl rfl rfl) rfl (p_ rfl rfl rfl (h_ i_ rfl rfl rfl k_) rfl (p_ rfl rfl rfl (h_ o_ rfl rfl rfl x_) rfl (p_ rfl rfl rfl (m_ 1 F_ rfl rfl rfl) rfl (p_ rfl rfl rfl (h_ G_ rfl rfl rfl r_) rfl ?_)))))))))
   refine p_ rfl rfl rfl (m_ 0 C_ rfl rfl rfl) rfl (p_ rfl rfl rfl (h_ G_ rfl rfl rfl r_) rfl (p_ rfl rfl rfl (m_ 0 C_ rfl rfl rfl) rfl (J_ (I_ 15 rfl (by kernel_rfl) (l_ rfl rfl (P_ (dL_ (Fc.a f) (Fc.r f) mlo mhi) rfl B_ (fun _ _ _ => by exact trivial) rfl fun _ => ?_))))))
   refine d_ (q_ rfl (A_ (fun _ a b => ⟨a, b⟩) (K_ 0 [16, 17, 18] (by kernel_rfl) (fun _ a b => ⟨a, b⟩) ?_)))
   refine ar_ rfl rfl rfl (ap_ (p := f) (q := (aj_ (Fc.a f) (Fc.r f) mlo mhi)) rfl rfl) rfl fun r8 hr8 => ?_
   refine j_ rfl (z_ rfl rfl) rfl (j_ rfl (e_ rfl) rfl (J_ (S_ (by kernel_rfl) (b_ rfl (u_ ?_)))))
   refine bN_ ?_
   have hres : r8 = true ↔ ga = aj_ (Fc.a f) (Fc.r f) (Fc.lo ga) (Fc.hi ga) ∧ gb = aj_ (Fc.a f) (Fc.r f) (Fc.lo gb) (Fc.hi gb) ∧ max (Fc.lo ga) (Fc.lo gb) ≤ min (Fc.hi ga) (Fc.hi gb) ∧ f = aj_ (Fc.a f) (Fc.r f) (max (Fc.lo ga) (Fc.lo gb)) (min (Fc.hi ga) (Fc.hi gb)) := by
    refine Iff.trans ?_ (and_iff_right hsp0).symm; refine Iff.trans ?_ (and_iff_right hsp1).symm; clear hsp0 hsp1; rw [← hr8]; clear hr8; unfold eb_ at hmv; dsimp only at hmv; split at hmv <;> simp only [Prod.mk.injEq] at hmv <;> obtain ⟨⟨rfl, rfl⟩, rfl⟩ := hmv <;> (first | (simp_all; done) | (exfalso; omega; done) | exact ⟨fun hq => by simp_all, fun hq => absurd hq.1 (by first | assumption | omega)⟩)
   exact Y_ dB_ () (s_ rfl (Bool.eq_iff_iff.2 (hres.trans (cz_ wf wg wh).symm))) B_ (fun _ _ _ => trivial)
set_option maxHeartbeats 1000000 in
theorem nb_ (kn : Str → Bool) (q : List Str) (hkn : ∀ s, kn s = true ↔ s ∈ q) (es : Array MapEntry) (ec : Nat) (hE : SetE str es q) (vb ab : Nat) (pv fv : Value) (x : Pc) (f ga gb : Fc) (lad : Option Addr) (lcap : Nat) (wg : wf2 ga = true) (wh : wf2 gb = true) : TriX Tryz.prog 142 #[.agg #[zp_ vb 0, .int .i64 (Fc.kind f), str (Fc.a f), str (Fc.b f), str (Fc.r f), .int .i64 (Fc.lo f), .int .i64 (Fc.hi f), .slice lad (List.length [ga, gb]) lcap, .int .i64 (Pc.kind x), str (Pc.a x), str (Pc.b x), str (Pc.c x), str (Pc.r x), str (Pc.s x), str (Pc.t x), .int .i64 (Pc.lo x), .int .i64 (Pc.hi x), .int .i64 (Pc.frm x)]] [] [bV_ vb (.cells (cC_ pv ab fv).toArray 83 (0, 0)), bV_ ab (.map es ec), aR_ lad (List.flatMap Fc.cells [ga, gb])] (fun _ : Unit => .bool (jW_ kn x f ga gb)) (fun _ => []) (fun _ => []) (jW_ kn x f ga gb = false) := by
  refine bd_ Tryz.func142 rfl rfl Tryz.ntmps142 rfl fun v0 => ?_
  refine g_ (c_ (aL_ rfl rfl fun b1 => ?_))
  refine a_ (e_ rfl) rfl (d_ (b_ rfl (g_ ?_)))
  refine aI_ (by kernel_rfl) ?_
  refine K_ 6 [0, 1, 2, 3, 4, 5, 7, 8, 9, 10, 11, 12] (by kernel_rfl) (fun _ a b => ⟨a, b⟩) (j_ rfl (O_ 0 iX_ hd_ rfl rfl rfl) rfl (j_ rfl (h_ i_ rfl rfl rfl aF_) rfl (j_ rfl (m_ 0 bb_ rfl rfl rfl) rfl (j_ rfl (ah_ ag_ k_ rfl rfl (fun v _ h => aN_ (n := 6) Fc.cells_len (by decide) (by exact h.2.2.1) (show [ga, gb][0]? = some _ from rfl)) (by omega) (by first | omega | (simp; done))) rfl (j_ rfl (bL_ o_ rfl rfl rfl x_) rfl (j_ rfl (bj_ (ad := lad) F_ rfl (fun v _ h => by exact h.2.2.1) (ak_ Fc.cells_len (show [ga, gb][0]? = some _ from rfl) 3 _ rfl)) rfl (j_ rfl (O_ 0 iX_ hd_ rfl rfl rfl) rfl (j_ rfl (h_ i_ rfl rfl rfl aF_) rfl (j_ rfl (m_ 0 bb_ rfl rfl rfl) rfl ?_)))))))))
  refine j_ rfl (ah_ ag_ k_ rfl rfl (fun v _ h => aN_ (n := 6) Fc.cells_len (by decide) (by exact h.2.2.1) (show [ga, gb][0]? = some _ from rfl)) (by omega) (by first | omega | (simp; done))) rfl (j_ rfl (bL_ o_ rfl rfl rfl x_) rfl (j_ rfl (bj_ (ad := lad) F_ rfl (fun v _ h => by exact h.2.2.1) (ak_ Fc.cells_len (show [ga, gb][0]? = some _ from rfl) 3 _ rfl)) rfl (J_ (hJ_ [6, 14, 15] (by kernel_rfl) (by simp) ?_))))
  intro i hi; simp only [List.mem_cons, List.not_mem_nil, or_false] at hi; rcases hi with rfl | rfl | rfl
  · refine ⟨_, rfl, ?_⟩
    refine al_ (dw_ (Fc.r ga) kn q hkn es ec hE vb ab pv fv x f ga gb lad lcap) rfl B_ (fun v _ h => by exact ⟨h.1, h.2.1, h.2.2.1, trivial⟩) rfl (fun hb => ce_ ((by rw [Bool.eq_false_iff]; intro hq; exact hb ((aJ_ wg wh).1 hq).1))) fun ⟨_, hsp0⟩ => ?_
    try dsimp only
    refine d_ (q_ rfl (A_ (fun _ a b => ⟨a, b⟩) (hJ_ [13, 14, 15] (by kernel_rfl) (by simp) ?_)))
    intro i hi; simp only [List.mem_cons, List.not_mem_nil, or_false] at hi; rcases hi with rfl | rfl | rfl
    · refine ⟨_, rfl, ?_⟩
      refine al_ (cc_ (Fc.r ga) kn q hkn es ec hE vb ab pv fv x f ga gb lad lcap) rfl B_ (fun v _ h => by exact ⟨h.1, h.2.1, h.2.2.1, trivial⟩) rfl (fun hb => ce_ ((by rw [Bool.eq_false_iff]; intro hq; exact hb ((aJ_ wg wh).1 hq).2.1))) fun ⟨_, hsp1⟩ => ?_
      try dsimp only
      refine d_ (q_ rfl (A_ (fun _ a b => ⟨a, b⟩) ?_))
      refine bT_ 14 15 rfl rfl (by kernel_rfl) ?_ ?_
      · skip
        refine ad_ ao_ rfl fun b2 => ?_
        refine d_ (q_ rfl (A_ (fun _ a b => ⟨a.tail, b⟩) (I_ 15 rfl (by kernel_rfl) (ad_ ao_ rfl fun b3 => ?_))))
        refine d_ (q_ rfl (A_ (fun _ a b => ⟨a.tail.tail, b⟩) (I_ 16 rfl (by kernel_rfl) (X_ 1 Z_ rfl rfl rfl rfl rfl rfl (d_ (q_ rfl (A_ (fun _ a b => ⟨a.tail.tail, b⟩) (I_ 17 rfl (by kernel_rfl) (X_ 0 Z_ rfl rfl rfl rfl rfl rfl ?_)))))))))
        refine d_ (q_ rfl (A_ (fun _ a b => ⟨a.tail.tail, b⟩) (S_ (by kernel_rfl) (b_ rfl (g_ ?_)))))
        refine aI_ (by kernel_rfl) ?_
        refine K_ 16 [0, 1, 2, 3, 4, 5] (by kernel_rfl) (fun _ a b => ⟨a, b⟩) (j_ rfl (h_ G_ rfl rfl rfl r_) rfl (j_ rfl (m_ 1 C_ rfl rfl rfl) rfl (j_ rfl (h_ G_ rfl rfl rfl r_) rfl (j_ rfl (m_ 0 C_ rfl rfl rfl) rfl ?_))))
        refine bk_ rfl (au_ rfl rfl) rfl fun r1 hr1 => ?_
        refine j_ rfl (f_ rfl) rfl (J_ ?_)
        cases r1
        · skip
          replace hr1 := of_decide_eq_false hr1
          refine K_ 9 [6, 7, 8, 9, 10, 11, 12] (by kernel_rfl) (fun _ a b => ⟨a, b⟩) (p_ rfl rfl rfl (h_ G_ rfl rfl rfl r_) rfl (p_ rfl rfl rfl (m_ 0 C_ rfl rfl rfl) rfl (p_ rfl rfl rfl (h_ G_ rfl rfl rfl r_) rfl (p_ rfl rfl rfl (m_ 1 C_ rfl rfl rfl) rfl ?_))))
          refine ar_ rfl rfl rfl (au_ rfl rfl) rfl fun r2 hr2 => ?_
          refine j_ rfl (t_ rfl rfl) rfl (j_ rfl (f_ rfl) rfl (J_ ?_))
          cases r2
          · skip
            replace hr2 := of_decide_eq_false hr2
            refine K_ 0 [13, 14, 15, 16, 17, 18, 19, 20, 21] (by kernel_rfl) (fun _ a b => ⟨a, b⟩) (v_ rfl rfl rfl rfl rfl (v_ rfl rfl rfl rfl rfl (v_ rfl rfl rfl rfl rfl (v_ rfl rfl rfl rfl rfl (v_ rfl rfl rfl rfl rfl (v_ rfl rfl rfl rfl rfl (v_ rfl rfl rfl rfl rfl (j_ rfl (t_ rfl rfl) rfl (j_ rfl (e_ rfl) rfl ?_)))))))))
            refine J_ (S_ (by kernel_rfl) (b_ rfl (u_ ?_)))
            refine bN_ ?_
            have hres : false = true ↔ ga = aj_ (Fc.a f) (Fc.r ga) (Fc.lo ga) (Fc.hi ga) ∧ gb = aj_ (Fc.a f) (Fc.r ga) (Fc.lo gb) (Fc.hi gb) ∧ (Fc.hi ga < Fc.lo gb ∨ Fc.hi gb < Fc.lo ga) ∧ f = aE_ (Fc.a f) [33] := by
              refine Iff.trans ?_ (and_iff_right hsp0).symm; refine Iff.trans ?_ (and_iff_right hsp1).symm; clear hsp0 hsp1; simp [*]
            exact Y_ aq_ () (s_ rfl (Bool.eq_iff_iff.2 (hres.trans (aJ_ wg wh).symm))) B_ (fun _ _ _ => trivial)
          · skip
            replace hr2 := of_decide_eq_true hr2
            refine K_ 4 [13, 14, 15, 16, 17] (by kernel_rfl) (fun _ a b => ⟨a, b⟩) (p_ rfl rfl rfl (h_ i_ rfl rfl rfl k_) rfl (p_ rfl rfl rfl (O_ 2 R_ k_ rfl rfl rfl) rfl (p_ rfl rfl rfl (h_ i_ rfl rfl rfl k_) rfl (p_ rfl rfl rfl (h_ o_ rfl rfl rfl x_) rfl (p_ rfl rfl rfl (m_ 2 F_ rfl rfl rfl) rfl (J_ (I_ 18 rfl (by kernel_rfl) (l_ rfl rfl (P_ (by_ (Fc.a f) [33]) rfl B_ (fun _ _ _ => by exact trivial) rfl fun _ => ?_)))))))))
            refine d_ (q_ rfl (A_ (fun _ a b => ⟨a, b⟩) (K_ 0 [19, 20, 21] (by kernel_rfl) (fun _ a b => ⟨a, b⟩) ?_)))
            refine ar_ rfl rfl rfl (ap_ (p := f) (q := (aE_ (Fc.a f) [33])) rfl rfl) rfl fun r3 hr3 => ?_
            refine j_ rfl (z_ rfl rfl) rfl (j_ rfl (e_ rfl) rfl (J_ (S_ (by kernel_rfl) (b_ rfl (u_ ?_)))))
            refine bN_ ?_
            have hres : r3 = true ↔ ga = aj_ (Fc.a f) (Fc.r ga) (Fc.lo ga) (Fc.hi ga) ∧ gb = aj_ (Fc.a f) (Fc.r ga) (Fc.lo gb) (Fc.hi gb) ∧ (Fc.hi ga < Fc.lo gb ∨ Fc.hi gb < Fc.lo ga) ∧ f = aE_ (Fc.a f) [33] := by
              refine Iff.trans ?_ (and_iff_right hsp0).symm; refine Iff.trans ?_ (and_iff_right hsp1).symm; clear hsp0 hsp1; rw [← hr3]; clear hr3; simp [*]
            exact Y_ aq_ () (s_ rfl (Bool.eq_iff_iff.2 (hres.trans (aJ_ wg wh).symm))) B_ (fun _ _ _ => trivial)
        · skip
          replace hr1 := of_decide_eq_true hr1
          refine K_ 4 [6, 7, 8, 9, 10, 11, 12, 13, 14, 15, 16, 17] (by kernel_rfl) (fun _ a b => ⟨a, b⟩) (v_ rfl rfl rfl rfl rfl (v_ rfl rfl rfl rfl rfl (v_ rfl rfl rfl rfl rfl (v_ rfl rfl rfl rfl rfl (v_ rfl rfl rfl rfl rfl (j_ rfl (z_ rfl rfl) rfl (j_ rfl (f_ rfl) rfl (p_ rfl rfl rfl (h_ i_ rfl rfl rfl k_) rfl (p_ rfl rfl rfl (O_ 2 R_ k_ rfl rfl rfl) rfl ?_)))))))))
          refine p_ rfl rfl rfl (h_ i_ rfl rfl rfl k_) rfl (p_ rfl rfl rfl (h_ o_ rfl rfl rfl x_) rfl (p_ rfl rfl rfl (m_ 2 F_ rfl rfl rfl) rfl (J_ (I_ 18 rfl (by kernel_rfl) (l_ rfl rfl (P_ (by_ (Fc.a f) [33]) rfl B_ (fun _ _ _ => by exact trivial) rfl fun _ => ?_))))))
          refine d_ (q_ rfl (A_ (fun _ a b => ⟨a, b⟩) (K_ 0 [19, 20, 21] (by kernel_rfl) (fun _ a b => ⟨a, b⟩) ?_)))
          refine ar_ rfl rfl rfl (ap_ (p := f) (q := (aE_ (Fc.a f) [33])) rfl rfl) rfl fun r4 hr4 => ?_
          refine j_ rfl (z_ rfl rfl) rfl (j_ rfl (e_ rfl) rfl (J_ (S_ (by kernel_rfl) (b_ rfl (u_ ?_)))))
          refine bN_ ?_
          have hres : r4 = true ↔ ga = aj_ (Fc.a f) (Fc.r ga) (Fc.lo ga) (Fc.hi ga) ∧ gb = aj_ (Fc.a f) (Fc.r ga) (Fc.lo gb) (Fc.hi gb) ∧ (Fc.hi ga < Fc.lo gb ∨ Fc.hi gb < Fc.lo ga) ∧ f = aE_ (Fc.a f) [33] := by
            refine Iff.trans ?_ (and_iff_right hsp0).symm; refine Iff.trans ?_ (and_iff_right hsp1).symm; clear hsp0 hsp1; rw [← hr4]; clear hr4; simp [*]
          exact Y_ aq_ () (s_ rfl (Bool.eq_iff_iff.2 (hres.trans (aJ_ wg wh).symm))) B_ (fun _ _ _ => trivial)
      · skip
        refine ad_ ao_ rfl fun b4 => ?_
        refine d_ (q_ rfl (A_ (fun _ a b => ⟨a.tail, b⟩) (I_ 14 rfl (by kernel_rfl) (ad_ ao_ rfl fun b5 => ?_))))
        refine d_ (q_ rfl (A_ (fun _ a b => ⟨a.tail.tail, b⟩) (I_ 16 rfl (by kernel_rfl) (X_ 0 Z_ rfl rfl rfl rfl rfl rfl (d_ (q_ rfl (A_ (fun _ a b => ⟨a.tail.tail, b⟩) (I_ 17 rfl (by kernel_rfl) (X_ 1 Z_ rfl rfl rfl rfl rfl rfl ?_)))))))))
        refine d_ (q_ rfl (A_ (fun _ a b => ⟨a.tail.tail, b⟩) (S_ (by kernel_rfl) (b_ rfl (g_ ?_)))))
        refine aI_ (by kernel_rfl) ?_
        refine K_ 16 [0, 1, 2, 3, 4, 5] (by kernel_rfl) (fun _ a b => ⟨a, b⟩) (j_ rfl (h_ G_ rfl rfl rfl r_) rfl (j_ rfl (m_ 0 C_ rfl rfl rfl) rfl (j_ rfl (h_ G_ rfl rfl rfl r_) rfl (j_ rfl (m_ 1 C_ rfl rfl rfl) rfl ?_))))
        refine bk_ rfl (au_ rfl rfl) rfl fun r5 hr5 => ?_
        refine j_ rfl (f_ rfl) rfl (J_ ?_)
        cases r5
        · skip
          replace hr5 := of_decide_eq_false hr5
          refine K_ 9 [6, 7, 8, 9, 10, 11, 12] (by kernel_rfl) (fun _ a b => ⟨a, b⟩) (p_ rfl rfl rfl (h_ G_ rfl rfl rfl r_) rfl (p_ rfl rfl rfl (m_ 1 C_ rfl rfl rfl) rfl (p_ rfl rfl rfl (h_ G_ rfl rfl rfl r_) rfl (p_ rfl rfl rfl (m_ 0 C_ rfl rfl rfl) rfl ?_))))
          refine ar_ rfl rfl rfl (au_ rfl rfl) rfl fun r6 hr6 => ?_
          refine j_ rfl (t_ rfl rfl) rfl (j_ rfl (f_ rfl) rfl (J_ ?_))
          cases r6
          · skip
            replace hr6 := of_decide_eq_false hr6
            refine K_ 0 [13, 14, 15, 16, 17, 18, 19, 20, 21] (by kernel_rfl) (fun _ a b => ⟨a, b⟩) (v_ rfl rfl rfl rfl rfl (v_ rfl rfl rfl rfl rfl (v_ rfl rfl rfl rfl rfl (v_ rfl rfl rfl rfl rfl (v_ rfl rfl rfl rfl rfl (v_ rfl rfl rfl rfl rfl (v_ rfl rfl rfl rfl rfl (j_ rfl (t_ rfl rfl) rfl (j_ rfl (e_ rfl) rfl ?_)))))))))
            refine J_ (S_ (by kernel_rfl) (b_ rfl (u_ ?_)))
            refine bN_ ?_
            have hres : false = true ↔ ga = aj_ (Fc.a f) (Fc.r ga) (Fc.lo ga) (Fc.hi ga) ∧ gb = aj_ (Fc.a f) (Fc.r ga) (Fc.lo gb) (Fc.hi gb) ∧ (Fc.hi ga < Fc.lo gb ∨ Fc.hi gb < Fc.lo ga) ∧ f = aE_ (Fc.a f) [33] := by
              refine Iff.trans ?_ (and_iff_right hsp0).symm; refine Iff.trans ?_ (and_iff_right hsp1).symm; clear hsp0 hsp1; simp [*]
            exact Y_ aq_ () (s_ rfl (Bool.eq_iff_iff.2 (hres.trans (aJ_ wg wh).symm))) B_ (fun _ _ _ => trivial)
          · skip
            replace hr6 := of_decide_eq_true hr6
            refine K_ 4 [13, 14, 15, 16, 17] (by kernel_rfl) (fun _ a b => ⟨a, b⟩) (p_ rfl rfl rfl (h_ i_ rfl rfl rfl k_) rfl (p_ rfl rfl rfl (O_ 2 R_ k_ rfl rfl rfl) rfl (p_ rfl rfl rfl (h_ i_ rfl rfl rfl k_) rfl (p_ rfl rfl rfl (h_ o_ rfl rfl rfl x_) rfl (p_ rfl rfl rfl (m_ 2 F_ rfl rfl rfl) rfl (J_ (I_ 18 rfl (by kernel_rfl) (l_ rfl rfl (P_ (by_ (Fc.a f) [33]) rfl B_ (fun _ _ _ => by exact trivial) rfl fun _ => ?_)))))))))
            refine d_ (q_ rfl (A_ (fun _ a b => ⟨a, b⟩) (K_ 0 [19, 20, 21] (by kernel_rfl) (fun _ a b => ⟨a, b⟩) ?_)))
            refine ar_ rfl rfl rfl (ap_ (p := f) (q := (aE_ (Fc.a f) [33])) rfl rfl) rfl fun r7 hr7 => ?_
            refine j_ rfl (z_ rfl rfl) rfl (j_ rfl (e_ rfl) rfl (J_ (S_ (by kernel_rfl) (b_ rfl (u_ ?_)))))
            refine bN_ ?_
            have hres : r7 = true ↔ ga = aj_ (Fc.a f) (Fc.r ga) (Fc.lo ga) (Fc.hi ga) ∧ gb = aj_ (Fc.a f) (Fc.r ga) (Fc.lo gb) (Fc.hi gb) ∧ (Fc.hi ga < Fc.lo gb ∨ Fc.hi gb < Fc.lo ga) ∧ f = aE_ (Fc.a f) [33] := by
              refine Iff.trans ?_ (and_iff_right hsp0).symm; refine Iff.trans ?_ (and_iff_right hsp1).symm; clear hsp0 hsp1; rw [← hr7]; clear hr7; simp [*]
            exact Y_ aq_ () (s_ rfl (Bool.eq_iff_iff.2 (hres.trans (aJ_ wg wh).symm))) B_ (fun _ _ _ => trivial)
        · skip
          replace hr5 := of_decide_eq_true hr5
          refine K_ 4 [6, 7, 8, 9, 10, 11, 12, 13, 14, 15, 16, 17] (by kernel_rfl) (fun _ a b => ⟨a, b⟩) (v_ rfl rfl rfl rfl rfl (v_ rfl rfl rfl rfl rfl (v_ rfl rfl rfl rfl rfl (v_ rfl rfl rfl rfl rfl (v_ rfl rfl rfl rfl rfl (j_ rfl (z_ rfl rfl) rfl (j_ rfl (f_ rfl) rfl (p_ rfl rfl rfl (h_ i_ rfl rfl rfl k_) rfl (p_ rfl rfl rfl (O_ 2 R_ k_ rfl rfl rfl) rfl ?_)))))))))
          refine p_ rfl rfl rfl (h_ i_ rfl rfl rfl k_) rfl (p_ rfl rfl rfl (h_ o_ rfl rfl rfl x_) rfl (p_ rfl rfl rfl (m_ 2 F_ rfl rfl rfl) rfl (J_ (I_ 18 rfl (by kernel_rfl) (l_ rfl rfl (P_ (by_ (Fc.a f) [33]) rfl B_ (fun _ _ _ => by exact trivial) rfl fun _ => ?_))))))
          refine d_ (q_ rfl (A_ (fun _ a b => ⟨a, b⟩) (K_ 0 [19, 20, 21] (by kernel_rfl) (fun _ a b => ⟨a, b⟩) ?_)))
          refine ar_ rfl rfl rfl (ap_ (p := f) (q := (aE_ (Fc.a f) [33])) rfl rfl) rfl fun r8 hr8 => ?_
          refine j_ rfl (z_ rfl rfl) rfl (j_ rfl (e_ rfl) rfl (J_ (S_ (by kernel_rfl) (b_ rfl (u_ ?_)))))
          refine bN_ ?_
          have hres : r8 = true ↔ ga = aj_ (Fc.a f) (Fc.r ga) (Fc.lo ga) (Fc.hi ga) ∧ gb = aj_ (Fc.a f) (Fc.r ga) (Fc.lo gb) (Fc.hi gb) ∧ (Fc.hi ga < Fc.lo gb ∨ Fc.hi gb < Fc.lo ga) ∧ f = aE_ (Fc.a f) [33] := by
            refine Iff.trans ?_ (and_iff_right hsp0).symm; refine Iff.trans ?_ (and_iff_right hsp1).symm; clear hsp0 hsp1; rw [← hr8]; clear hr8; simp [*]
          exact Y_ aq_ () (s_ rfl (Bool.eq_iff_iff.2 (hres.trans (aJ_ wg wh).symm))) B_ (fun _ _ _ => trivial)
    · refine ⟨_, rfl, ?_⟩
      refine ad_ ao_ rfl fun b6 => ?_
      refine d_ (q_ rfl (A_ (fun _ a b => ⟨a.tail, b⟩) ?_))
      refine bT_ 13 15 rfl rfl (by kernel_rfl) ?_ ?_
      · skip
        refine al_ (cc_ (Fc.r ga) kn q hkn es ec hE vb ab pv fv x f ga gb lad lcap) rfl B_ (fun v _ h => by exact ⟨h.1, h.2.1, h.2.2.1, trivial⟩) rfl (fun hb => ce_ ((by rw [Bool.eq_false_iff]; intro hq; exact hb ((aJ_ wg wh).1 hq).2.1))) fun ⟨_, hsp1⟩ => ?_
        try dsimp only
        refine d_ (q_ rfl (A_ (fun _ a b => ⟨a.tail, b⟩) (I_ 15 rfl (by kernel_rfl) (ad_ ao_ rfl fun b7 => ?_))))
        refine d_ (q_ rfl (A_ (fun _ a b => ⟨a.tail.tail, b⟩) (I_ 16 rfl (by kernel_rfl) (X_ 1 Z_ rfl rfl rfl rfl rfl rfl (d_ (q_ rfl (A_ (fun _ a b => ⟨a.tail.tail, b⟩) (I_ 17 rfl (by kernel_rfl) (X_ 0 Z_ rfl rfl rfl rfl rfl rfl ?_)))))))))
        refine d_ (q_ rfl (A_ (fun _ a b => ⟨a.tail.tail, b⟩) (S_ (by kernel_rfl) (b_ rfl (g_ ?_)))))
        refine aI_ (by kernel_rfl) ?_
        refine K_ 16 [0, 1, 2, 3, 4, 5] (by kernel_rfl) (fun _ a b => ⟨a, b⟩) (j_ rfl (h_ G_ rfl rfl rfl r_) rfl (j_ rfl (m_ 1 C_ rfl rfl rfl) rfl (j_ rfl (h_ G_ rfl rfl rfl r_) rfl (j_ rfl (m_ 0 C_ rfl rfl rfl) rfl ?_))))
        refine bk_ rfl (au_ rfl rfl) rfl fun r9 hr9 => ?_
        refine j_ rfl (f_ rfl) rfl (J_ ?_)
        cases r9
        · skip
          replace hr9 := of_decide_eq_false hr9
          refine K_ 9 [6, 7, 8, 9, 10, 11, 12] (by kernel_rfl) (fun _ a b => ⟨a, b⟩) (p_ rfl rfl rfl (h_ G_ rfl rfl rfl r_) rfl (p_ rfl rfl rfl (m_ 0 C_ rfl rfl rfl) rfl (p_ rfl rfl rfl (h_ G_ rfl rfl rfl r_) rfl (p_ rfl rfl rfl (m_ 1 C_ rfl rfl rfl) rfl ?_))))
          refine ar_ rfl rfl rfl (au_ rfl rfl) rfl fun r10 hr10 => ?_
          refine j_ rfl (t_ rfl rfl) rfl (j_ rfl (f_ rfl) rfl (J_ ?_))
          cases r10
          · skip
            replace hr10 := of_decide_eq_false hr10
            refine K_ 0 [13, 14, 15, 16, 17, 18, 19, 20, 21] (by kernel_rfl) (fun _ a b => ⟨a, b⟩) (v_ rfl rfl rfl rfl rfl (v_ rfl rfl rfl rfl rfl (v_ rfl rfl rfl rfl rfl (v_ rfl rfl rfl rfl rfl (v_ rfl rfl rfl rfl rfl (v_ rfl rfl rfl rfl rfl (v_ rfl rfl rfl rfl rfl (j_ rfl (t_ rfl rfl) rfl (j_ rfl (e_ rfl) rfl ?_)))))))))
            refine J_ (S_ (by kernel_rfl) (b_ rfl (u_ ?_)))
            refine bN_ ?_
            have hres : false = true ↔ ga = aj_ (Fc.a f) (Fc.r ga) (Fc.lo ga) (Fc.hi ga) ∧ gb = aj_ (Fc.a f) (Fc.r ga) (Fc.lo gb) (Fc.hi gb) ∧ (Fc.hi ga < Fc.lo gb ∨ Fc.hi gb < Fc.lo ga) ∧ f = aE_ (Fc.a f) [33] := by
              refine Iff.trans ?_ (and_iff_right hsp0).symm; refine Iff.trans ?_ (and_iff_right hsp1).symm; clear hsp0 hsp1; simp [*]
            exact Y_ aq_ () (s_ rfl (Bool.eq_iff_iff.2 (hres.trans (aJ_ wg wh).symm))) B_ (fun _ _ _ => trivial)
          · skip
            replace hr10 := of_decide_eq_true hr10
            refine K_ 4 [13, 14, 15, 16, 17] (by kernel_rfl) (fun _ a b => ⟨a, b⟩) (p_ rfl rfl rfl (h_ i_ rfl rfl rfl k_) rfl (p_ rfl rfl rfl (O_ 2 R_ k_ rfl rfl rfl) rfl (p_ rfl rfl rfl (h_ i_ rfl rfl rfl k_) rfl (p_ rfl rfl rfl (h_ o_ rfl rfl rfl x_) rfl (p_ rfl rfl rfl (m_ 2 F_ rfl rfl rfl) rfl (J_ (I_ 18 rfl (by kernel_rfl) (l_ rfl rfl (P_ (by_ (Fc.a f) [33]) rfl B_ (fun _ _ _ => by exact trivial) rfl fun _ => ?_)))))))))
            refine d_ (q_ rfl (A_ (fun _ a b => ⟨a, b⟩) (K_ 0 [19, 20, 21] (by kernel_rfl) (fun _ a b => ⟨a, b⟩) ?_)))
            refine ar_ rfl rfl rfl (ap_ (p := f) (q := (aE_ (Fc.a f) [33])) rfl rfl) rfl fun r11 hr11 => ?_
            refine j_ rfl (z_ rfl rfl) rfl (j_ rfl (e_ rfl) rfl (J_ (S_ (by kernel_rfl) (b_ rfl (u_ ?_)))))
            refine bN_ ?_
            have hres : r11 = true ↔ ga = aj_ (Fc.a f) (Fc.r ga) (Fc.lo ga) (Fc.hi ga) ∧ gb = aj_ (Fc.a f) (Fc.r ga) (Fc.lo gb) (Fc.hi gb) ∧ (Fc.hi ga < Fc.lo gb ∨ Fc.hi gb < Fc.lo ga) ∧ f = aE_ (Fc.a f) [33] := by
              refine Iff.trans ?_ (and_iff_right hsp0).symm; refine Iff.trans ?_ (and_iff_right hsp1).symm; clear hsp0 hsp1; rw [← hr11]; clear hr11; simp [*]
            exact Y_ aq_ () (s_ rfl (Bool.eq_iff_iff.2 (hres.trans (aJ_ wg wh).symm))) B_ (fun _ _ _ => trivial)
        · skip
          replace hr9 := of_decide_eq_true hr9
          refine K_ 4 [6, 7, 8, 9, 10, 11, 12, 13, 14, 15, 16, 17] (by kernel_rfl) (fun _ a b => ⟨a, b⟩) (v_ rfl rfl rfl rfl rfl (v_ rfl rfl rfl rfl rfl (v_ rfl rfl rfl rfl rfl (v_ rfl rfl rfl rfl rfl (v_ rfl rfl rfl rfl rfl (j_ rfl (z_ rfl rfl) rfl (j_ rfl (f_ rfl) rfl (p_ rfl rfl rfl (h_ i_ rfl rfl rfl k_) rfl (p_ rfl rfl rfl (O_ 2 R_ k_ rfl rfl rfl) rfl ?_)))))))))
          refine p_ rfl rfl rfl (h_ i_ rfl rfl rfl k_) rfl (p_ rfl rfl rfl (h_ o_ rfl rfl rfl x_) rfl (p_ rfl rfl rfl (m_ 2 F_ rfl rfl rfl) rfl (J_ (I_ 18 rfl (by kernel_rfl) (l_ rfl rfl (P_ (by_ (Fc.a f) [33]) rfl B_ (fun _ _ _ => by exact trivial) rfl fun _ => ?_))))))
          refine d_ (q_ rfl (A_ (fun _ a b => ⟨a, b⟩) (K_ 0 [19, 20, 21] (by kernel_rfl) (fun _ a b => ⟨a, b⟩) ?_)))
          refine ar_ rfl rfl rfl (ap_ (p := f) (q := (aE_ (Fc.a f) [33])) rfl rfl) rfl fun r12 hr12 => ?_
          refine j_ rfl (z_ rfl rfl) rfl (j_ rfl (e_ rfl) rfl (J_ (S_ (by kernel_rfl) (b_ rfl (u_ ?_)))))
          refine bN_ ?_
          have hres : r12 = true ↔ ga = aj_ (Fc.a f) (Fc.r ga) (Fc.lo ga) (Fc.hi ga) ∧ gb = aj_ (Fc.a f) (Fc.r ga) (Fc.lo gb) (Fc.hi gb) ∧ (Fc.hi ga < Fc.lo gb ∨ Fc.hi gb < Fc.lo ga) ∧ f = aE_ (Fc.a f) [33] := by
            refine Iff.trans ?_ (and_iff_right hsp0).symm; refine Iff.trans ?_ (and_iff_right hsp1).symm; clear hsp0 hsp1; rw [← hr12]; clear hr12; simp [*]
          exact Y_ aq_ () (s_ rfl (Bool.eq_iff_iff.2 (hres.trans (aJ_ wg wh).symm))) B_ (fun _ _ _ => trivial)
      · skip
        refine ad_ ao_ rfl fun b8 => ?_
        refine d_ (q_ rfl (A_ (fun _ a b => ⟨a.tail.tail, b⟩) (I_ 13 rfl (by kernel_rfl) (al_ (cc_ (Fc.r ga) kn q hkn es ec hE vb ab pv fv x f ga gb lad lcap) rfl B_ (fun v _ h => by exact ⟨h.1, h.2.1, h.2.2.1, trivial⟩) rfl (fun hb => ce_ ((by rw [Bool.eq_false_iff]; intro hq; exact hb ((aJ_ wg wh).1 hq).2.1))) fun ⟨_, hsp1⟩ => ?_))))
        try dsimp only
        refine d_ (q_ rfl (A_ (fun _ a b => ⟨a.tail.tail, b⟩) (I_ 16 rfl (by kernel_rfl) (X_ 1 Z_ rfl rfl rfl rfl rfl rfl (d_ (q_ rfl (A_ (fun _ a b => ⟨a.tail.tail, b⟩) (I_ 17 rfl (by kernel_rfl) (X_ 0 Z_ rfl rfl rfl rfl rfl rfl ?_)))))))))
        refine d_ (q_ rfl (A_ (fun _ a b => ⟨a.tail.tail, b⟩) (S_ (by kernel_rfl) (b_ rfl (g_ ?_)))))
        refine aI_ (by kernel_rfl) ?_
        refine K_ 16 [0, 1, 2, 3, 4, 5] (by kernel_rfl) (fun _ a b => ⟨a, b⟩) (j_ rfl (h_ G_ rfl rfl rfl r_) rfl (j_ rfl (m_ 1 C_ rfl rfl rfl) rfl (j_ rfl (h_ G_ rfl rfl rfl r_) rfl (j_ rfl (m_ 0 C_ rfl rfl rfl) rfl ?_))))
        refine bk_ rfl (au_ rfl rfl) rfl fun r13 hr13 => ?_
        refine j_ rfl (f_ rfl) rfl (J_ ?_)
        cases r13
        · skip
          replace hr13 := of_decide_eq_false hr13
          refine K_ 9 [6, 7, 8, 9, 10, 11, 12] (by kernel_rfl) (fun _ a b => ⟨a, b⟩) (p_ rfl rfl rfl (h_ G_ rfl rfl rfl r_) rfl (p_ rfl rfl rfl (m_ 0 C_ rfl rfl rfl) rfl (p_ rfl rfl rfl (h_ G_ rfl rfl rfl r_) rfl (p_ rfl rfl rfl (m_ 1 C_ rfl rfl rfl) rfl ?_))))
          refine ar_ rfl rfl rfl (au_ rfl rfl) rfl fun r14 hr14 => ?_
          refine j_ rfl (t_ rfl rfl) rfl (j_ rfl (f_ rfl) rfl (J_ ?_))
          cases r14
          · skip
            replace hr14 := of_decide_eq_false hr14
            refine K_ 0 [13, 14, 15, 16, 17, 18, 19, 20, 21] (by kernel_rfl) (fun _ a b => ⟨a, b⟩) (v_ rfl rfl rfl rfl rfl (v_ rfl rfl rfl rfl rfl (v_ rfl rfl rfl rfl rfl (v_ rfl rfl rfl rfl rfl (v_ rfl rfl rfl rfl rfl (v_ rfl rfl rfl rfl rfl (v_ rfl rfl rfl rfl rfl (j_ rfl (t_ rfl rfl) rfl (j_ rfl (e_ rfl) rfl ?_)))))))))
            refine J_ (S_ (by kernel_rfl) (b_ rfl (u_ ?_)))
            refine bN_ ?_
            have hres : false = true ↔ ga = aj_ (Fc.a f) (Fc.r ga) (Fc.lo ga) (Fc.hi ga) ∧ gb = aj_ (Fc.a f) (Fc.r ga) (Fc.lo gb) (Fc.hi gb) ∧ (Fc.hi ga < Fc.lo gb ∨ Fc.hi gb < Fc.lo ga) ∧ f = aE_ (Fc.a f) [33] := by
              refine Iff.trans ?_ (and_iff_right hsp0).symm; refine Iff.trans ?_ (and_iff_right hsp1).symm; clear hsp0 hsp1; simp [*]
            exact Y_ aq_ () (s_ rfl (Bool.eq_iff_iff.2 (hres.trans (aJ_ wg wh).symm))) B_ (fun _ _ _ => trivial)
          · skip
            replace hr14 := of_decide_eq_true hr14
            refine K_ 4 [13, 14, 15, 16, 17] (by kernel_rfl) (fun _ a b => ⟨a, b⟩) (p_ rfl rfl rfl (h_ i_ rfl rfl rfl k_) rfl (p_ rfl rfl rfl (O_ 2 R_ k_ rfl rfl rfl) rfl (p_ rfl rfl rfl (h_ i_ rfl rfl rfl k_) rfl (p_ rfl rfl rfl (h_ o_ rfl rfl rfl x_) rfl (p_ rfl rfl rfl (m_ 2 F_ rfl rfl rfl) rfl (J_ (I_ 18 rfl (by kernel_rfl) (l_ rfl rfl (P_ (by_ (Fc.a f) [33]) rfl B_ (fun _ _ _ => by exact trivial) rfl fun _ => ?_)))))))))
            refine d_ (q_ rfl (A_ (fun _ a b => ⟨a, b⟩) (K_ 0 [19, 20, 21] (by kernel_rfl) (fun _ a b => ⟨a, b⟩) ?_)))
            refine ar_ rfl rfl rfl (ap_ (p := f) (q := (aE_ (Fc.a f) [33])) rfl rfl) rfl fun r15 hr15 => ?_
            refine j_ rfl (z_ rfl rfl) rfl (j_ rfl (e_ rfl) rfl (J_ (S_ (by kernel_rfl) (b_ rfl (u_ ?_)))))
            refine bN_ ?_
            have hres : r15 = true ↔ ga = aj_ (Fc.a f) (Fc.r ga) (Fc.lo ga) (Fc.hi ga) ∧ gb = aj_ (Fc.a f) (Fc.r ga) (Fc.lo gb) (Fc.hi gb) ∧ (Fc.hi ga < Fc.lo gb ∨ Fc.hi gb < Fc.lo ga) ∧ f = aE_ (Fc.a f) [33] := by
              refine Iff.trans ?_ (and_iff_right hsp0).symm; refine Iff.trans ?_ (and_iff_right hsp1).symm; clear hsp0 hsp1; rw [← hr15]; clear hr15; simp [*]
            exact Y_ aq_ () (s_ rfl (Bool.eq_iff_iff.2 (hres.trans (aJ_ wg wh).symm))) B_ (fun _ _ _ => trivial)
        · skip
          replace hr13 := of_decide_eq_true hr13
          refine K_ 4 [6, 7, 8, 9, 10, 11, 12, 13, 14, 15, 16, 17] (by kernel_rfl) (fun _ a b => ⟨a, b⟩) (v_ rfl rfl rfl rfl rfl (v_ rfl rfl rfl rfl rfl (v_ rfl rfl rfl rfl rfl (v_ rfl rfl rfl rfl rfl (v_ rfl rfl rfl rfl rfl (j_ rfl (z_ rfl rfl) rfl (j_ rfl (f_ rfl) rfl (p_ rfl rfl rfl (h_ i_ rfl rfl rfl k_) rfl (p_ rfl rfl rfl (O_ 2 R_ k_ rfl rfl rfl) rfl ?_)))))))))
          refine p_ rfl rfl rfl (h_ i_ rfl rfl rfl k_) rfl (p_ rfl rfl rfl (h_ o_ rfl rfl rfl x_) rfl (p_ rfl rfl rfl (m_ 2 F_ rfl rfl rfl) rfl (J_ (I_ 18 rfl (by kernel_rfl) (l_ rfl rfl (P_ (by_ (Fc.a f) [33]) rfl B_ (fun _ _ _ => by exact trivial) rfl fun _ => ?_))))))
          refine d_ (q_ rfl (A_ (fun _ a b => ⟨a, b⟩) (K_ 0 [19, 20, 21] (by kernel_rfl) (fun _ a b => ⟨a, b⟩) ?_)))
          refine ar_ rfl rfl rfl (ap_ (p := f) (q := (aE_ (Fc.a f) [33])) rfl rfl) rfl fun r16 hr16 => ?_
          refine j_ rfl (z_ rfl rfl) rfl (j_ rfl (e_ rfl) rfl (J_ (S_ (by kernel_rfl) (b_ rfl (u_ ?_)))))
          refine bN_ ?_
          have hres : r16 = true ↔ ga = aj_ (Fc.a f) (Fc.r ga) (Fc.lo ga) (Fc.hi ga) ∧ gb = aj_ (Fc.a f) (Fc.r ga) (Fc.lo gb) (Fc.hi gb) ∧ (Fc.hi ga < Fc.lo gb ∨ Fc.hi gb < Fc.lo ga) ∧ f = aE_ (Fc.a f) [33] := by
            refine Iff.trans ?_ (and_iff_right hsp0).symm; refine Iff.trans ?_ (and_iff_right hsp1).symm; clear hsp0 hsp1; rw [← hr16]; clear hr16; simp [*]
          exact Y_ aq_ () (s_ rfl (Bool.eq_iff_iff.2 (hres.trans (aJ_ wg wh).symm))) B_ (fun _ _ _ => trivial)
    · refine ⟨_, rfl, ?_⟩
      refine ad_ ao_ rfl fun b9 => ?_
      refine d_ (q_ rfl (A_ (fun _ a b => ⟨a.tail, b⟩) ?_))
      refine bT_ 13 14 rfl rfl (by kernel_rfl) ?_ ?_
      · skip
        refine al_ (cc_ (Fc.r ga) kn q hkn es ec hE vb ab pv fv x f ga gb lad lcap) rfl B_ (fun v _ h => by exact ⟨h.1, h.2.1, h.2.2.1, trivial⟩) rfl (fun hb => ce_ ((by rw [Bool.eq_false_iff]; intro hq; exact hb ((aJ_ wg wh).1 hq).2.1))) fun ⟨_, hsp1⟩ => ?_
        try dsimp only
        refine d_ (q_ rfl (A_ (fun _ a b => ⟨a.tail, b⟩) (I_ 14 rfl (by kernel_rfl) (ad_ ao_ rfl fun b10 => ?_))))
        refine d_ (q_ rfl (A_ (fun _ a b => ⟨a.tail.tail, b⟩) (I_ 16 rfl (by kernel_rfl) (X_ 0 Z_ rfl rfl rfl rfl rfl rfl (d_ (q_ rfl (A_ (fun _ a b => ⟨a.tail.tail, b⟩) (I_ 17 rfl (by kernel_rfl) (X_ 1 Z_ rfl rfl rfl rfl rfl rfl ?_)))))))))
        refine d_ (q_ rfl (A_ (fun _ a b => ⟨a.tail.tail, b⟩) (S_ (by kernel_rfl) (b_ rfl (g_ ?_)))))
        refine aI_ (by kernel_rfl) ?_
        refine K_ 16 [0, 1, 2, 3, 4, 5] (by kernel_rfl) (fun _ a b => ⟨a, b⟩) (j_ rfl (h_ G_ rfl rfl rfl r_) rfl (j_ rfl (m_ 0 C_ rfl rfl rfl) rfl (j_ rfl (h_ G_ rfl rfl rfl r_) rfl (j_ rfl (m_ 1 C_ rfl rfl rfl) rfl ?_))))
        refine bk_ rfl (au_ rfl rfl) rfl fun r17 hr17 => ?_
        refine j_ rfl (f_ rfl) rfl (J_ ?_)
        cases r17
        · skip
          replace hr17 := of_decide_eq_false hr17
          refine K_ 9 [6, 7, 8, 9, 10, 11, 12] (by kernel_rfl) (fun _ a b => ⟨a, b⟩) (p_ rfl rfl rfl (h_ G_ rfl rfl rfl r_) rfl (p_ rfl rfl rfl (m_ 1 C_ rfl rfl rfl) rfl (p_ rfl rfl rfl (h_ G_ rfl rfl rfl r_) rfl (p_ rfl rfl rfl (m_ 0 C_ rfl rfl rfl) rfl ?_))))
          refine ar_ rfl rfl rfl (au_ rfl rfl) rfl fun r18 hr18 => ?_
          refine j_ rfl (t_ rfl rfl) rfl (j_ rfl (f_ rfl) rfl (J_ ?_))
          cases r18
          · skip
            replace hr18 := of_decide_eq_false hr18
            refine K_ 0 [13, 14, 15, 16, 17, 18, 19, 20, 21] (by kernel_rfl) (fun _ a b => ⟨a, b⟩) (v_ rfl rfl rfl rfl rfl (v_ rfl rfl rfl rfl rfl (v_ rfl rfl rfl rfl rfl (v_ rfl rfl rfl rfl rfl (v_ rfl rfl rfl rfl rfl (v_ rfl rfl rfl rfl rfl (v_ rfl rfl rfl rfl rfl (j_ rfl (t_ rfl rfl) rfl (j_ rfl (e_ rfl) rfl ?_)))))))))
            refine J_ (S_ (by kernel_rfl) (b_ rfl (u_ ?_)))
            refine bN_ ?_
            have hres : false = true ↔ ga = aj_ (Fc.a f) (Fc.r ga) (Fc.lo ga) (Fc.hi ga) ∧ gb = aj_ (Fc.a f) (Fc.r ga) (Fc.lo gb) (Fc.hi gb) ∧ (Fc.hi ga < Fc.lo gb ∨ Fc.hi gb < Fc.lo ga) ∧ f = aE_ (Fc.a f) [33] := by
              refine Iff.trans ?_ (and_iff_right hsp0).symm; refine Iff.trans ?_ (and_iff_right hsp1).symm; clear hsp0 hsp1; simp [*]
            exact Y_ aq_ () (s_ rfl (Bool.eq_iff_iff.2 (hres.trans (aJ_ wg wh).symm))) B_ (fun _ _ _ => trivial)
          · skip
            replace hr18 := of_decide_eq_true hr18
            refine K_ 4 [13, 14, 15, 16, 17] (by kernel_rfl) (fun _ a b => ⟨a, b⟩) (p_ rfl rfl rfl (h_ i_ rfl rfl rfl k_) rfl (p_ rfl rfl rfl (O_ 2 R_ k_ rfl rfl rfl) rfl (p_ rfl rfl rfl (h_ i_ rfl rfl rfl k_) rfl (p_ rfl rfl rfl (h_ o_ rfl rfl rfl x_) rfl (p_ rfl rfl rfl (m_ 2 F_ rfl rfl rfl) rfl (J_ (I_ 18 rfl (by kernel_rfl) (l_ rfl rfl (P_ (by_ (Fc.a f) [33]) rfl B_ (fun _ _ _ => by exact trivial) rfl fun _ => ?_)))))))))
            refine d_ (q_ rfl (A_ (fun _ a b => ⟨a, b⟩) (K_ 0 [19, 20, 21] (by kernel_rfl) (fun _ a b => ⟨a, b⟩) ?_)))
            refine ar_ rfl rfl rfl (ap_ (p := f) (q := (aE_ (Fc.a f) [33])) rfl rfl) rfl fun r19 hr19 => ?_
            refine j_ rfl (z_ rfl rfl) rfl (j_ rfl (e_ rfl) rfl (J_ (S_ (by kernel_rfl) (b_ rfl (u_ ?_)))))
            refine bN_ ?_
            have hres : r19 = true ↔ ga = aj_ (Fc.a f) (Fc.r ga) (Fc.lo ga) (Fc.hi ga) ∧ gb = aj_ (Fc.a f) (Fc.r ga) (Fc.lo gb) (Fc.hi gb) ∧ (Fc.hi ga < Fc.lo gb ∨ Fc.hi gb < Fc.lo ga) ∧ f = aE_ (Fc.a f) [33] := by
              refine Iff.trans ?_ (and_iff_right hsp0).symm; refine Iff.trans ?_ (and_iff_right hsp1).symm; clear hsp0 hsp1; rw [← hr19]; clear hr19; simp [*]
            exact Y_ aq_ () (s_ rfl (Bool.eq_iff_iff.2 (hres.trans (aJ_ wg wh).symm))) B_ (fun _ _ _ => trivial)
        · skip
          replace hr17 := of_decide_eq_true hr17
          refine K_ 4 [6, 7, 8, 9, 10, 11, 12, 13, 14, 15, 16, 17] (by kernel_rfl) (fun _ a b => ⟨a, b⟩) (v_ rfl rfl rfl rfl rfl (v_ rfl rfl rfl rfl rfl (v_ rfl rfl rfl rfl rfl (v_ rfl rfl rfl rfl rfl (v_ rfl rfl rfl rfl rfl (j_ rfl (z_ rfl rfl) rfl (j_ rfl (f_ rfl) rfl (p_ rfl rfl rfl (h_ i_ rfl rfl rfl k_) rfl (p_ rfl rfl rfl (O_ 2 R_ k_ rfl rfl rfl) rfl ?_)))))))))
          refine p_ rfl rfl rfl (h_ i_ rfl rfl rfl k_) rfl (p_ rfl rfl rfl (h_ o_ rfl rfl rfl x_) rfl (p_ rfl rfl rfl (m_ 2 F_ rfl rfl rfl) rfl (J_ (I_ 18 rfl (by kernel_rfl) (l_ rfl rfl (P_ (by_ (Fc.a f) [33]) rfl B_ (fun _ _ _ => by exact trivial) rfl fun _ => ?_))))))
          refine d_ (q_ rfl (A_ (fun _ a b => ⟨a, b⟩) (K_ 0 [19, 20, 21] (by kernel_rfl) (fun _ a b => ⟨a, b⟩) ?_)))
          refine ar_ rfl rfl rfl (ap_ (p := f) (q := (aE_ (Fc.a f) [33])) rfl rfl) rfl fun r20 hr20 => ?_
          refine j_ rfl (z_ rfl rfl) rfl (j_ rfl (e_ rfl) rfl (J_ (S_ (by kernel_rfl) (b_ rfl (u_ ?_)))))
          refine bN_ ?_
          have hres : r20 = true ↔ ga = aj_ (Fc.a f) (Fc.r ga) (Fc.lo ga) (Fc.hi ga) ∧ gb = aj_ (Fc.a f) (Fc.r ga) (Fc.lo gb) (Fc.hi gb) ∧ (Fc.hi ga < Fc.lo gb ∨ Fc.hi gb < Fc.lo ga) ∧ f = aE_ (Fc.a f) [33] := by
            refine Iff.trans ?_ (and_iff_right hsp0).symm; refine Iff.trans ?_ (and_iff_right hsp1).symm; clear hsp0 hsp1; rw [← hr20]; clear hr20; simp [*]
          exact Y_ aq_ () (s_ rfl (Bool.eq_iff_iff.2 (hres.trans (aJ_ wg wh).symm))) B_ (fun _ _ _ => trivial)
      · skip
        refine ad_ ao_ rfl fun b11 => ?_
        refine d_ (q_ rfl (A_ (fun _ a b => ⟨a.tail.tail, b⟩) (I_ 13 rfl (by kernel_rfl) (al_ (cc_ (Fc.r ga) kn q hkn es ec hE vb ab pv fv x f ga gb lad lcap) rfl B_ (fun v _ h => by exact ⟨h.1, h.2.1, h.2.2.1, trivial⟩) rfl (fun hb => ce_ ((by rw [Bool.eq_false_iff]; intro hq; exact hb ((aJ_ wg wh).1 hq).2.1))) fun ⟨_, hsp1⟩ => ?_))))
        try dsimp only
        refine d_ (q_ rfl (A_ (fun _ a b => ⟨a.tail.tail, b⟩) (I_ 16 rfl (by kernel_rfl) (X_ 0 Z_ rfl rfl rfl rfl rfl rfl (d_ (q_ rfl (A_ (fun _ a b => ⟨a.tail.tail, b⟩) (I_ 17 rfl (by kernel_rfl) (X_ 1 Z_ rfl rfl rfl rfl rfl rfl ?_)))))))))
        refine d_ (q_ rfl (A_ (fun _ a b => ⟨a.tail.tail, b⟩) (S_ (by kernel_rfl) (b_ rfl (g_ ?_)))))
        refine aI_ (by kernel_rfl) ?_
        refine K_ 16 [0, 1, 2, 3, 4, 5] (by kernel_rfl) (fun _ a b => ⟨a, b⟩) (j_ rfl (h_ G_ rfl rfl rfl r_) rfl (j_ rfl (m_ 0 C_ rfl rfl rfl) rfl (j_ rfl (h_ G_ rfl rfl rfl r_) rfl (j_ rfl (m_ 1 C_ rfl rfl rfl) rfl ?_))))
        refine bk_ rfl (au_ rfl rfl) rfl fun r21 hr21 => ?_
        refine j_ rfl (f_ rfl) rfl (J_ ?_)
        cases r21
        · skip
          replace hr21 := of_decide_eq_false hr21
          refine K_ 9 [6, 7, 8, 9, 10, 11, 12] (by kernel_rfl) (fun _ a b => ⟨a, b⟩) (p_ rfl rfl rfl (h_ G_ rfl rfl rfl r_) rfl (p_ rfl rfl rfl (m_ 1 C_ rfl rfl rfl) rfl (p_ rfl rfl rfl (h_ G_ rfl rfl rfl r_) rfl (p_ rfl rfl rfl (m_ 0 C_ rfl rfl rfl) rfl ?_))))
          refine ar_ rfl rfl rfl (au_ rfl rfl) rfl fun r22 hr22 => ?_
          refine j_ rfl (t_ rfl rfl) rfl (j_ rfl (f_ rfl) rfl (J_ ?_))
          cases r22
          · skip
            replace hr22 := of_decide_eq_false hr22
            refine K_ 0 [13, 14, 15, 16, 17, 18, 19, 20, 21] (by kernel_rfl) (fun _ a b => ⟨a, b⟩) (v_ rfl rfl rfl rfl rfl (v_ rfl rfl rfl rfl rfl (v_ rfl rfl rfl rfl rfl (v_ rfl rfl rfl rfl rfl (v_ rfl rfl rfl rfl rfl (v_ rfl rfl rfl rfl rfl (v_ rfl rfl rfl rfl rfl (j_ rfl (t_ rfl rfl) rfl (j_ rfl (e_ rfl) rfl ?_)))))))))
            refine J_ (S_ (by kernel_rfl) (b_ rfl (u_ ?_)))
            refine bN_ ?_
            have hres : false = true ↔ ga = aj_ (Fc.a f) (Fc.r ga) (Fc.lo ga) (Fc.hi ga) ∧ gb = aj_ (Fc.a f) (Fc.r ga) (Fc.lo gb) (Fc.hi gb) ∧ (Fc.hi ga < Fc.lo gb ∨ Fc.hi gb < Fc.lo ga) ∧ f = aE_ (Fc.a f) [33] := by
              refine Iff.trans ?_ (and_iff_right hsp0).symm; refine Iff.trans ?_ (and_iff_right hsp1).symm; clear hsp0 hsp1; simp [*]
            exact Y_ aq_ () (s_ rfl (Bool.eq_iff_iff.2 (hres.trans (aJ_ wg wh).symm))) B_ (fun _ _ _ => trivial)
          · skip
            replace hr22 := of_decide_eq_true hr22
            refine K_ 4 [13, 14, 15, 16, 17] (by kernel_rfl) (fun _ a b => ⟨a, b⟩) (p_ rfl rfl rfl (h_ i_ rfl rfl rfl k_) rfl (p_ rfl rfl rfl (O_ 2 R_ k_ rfl rfl rfl) rfl (p_ rfl rfl rfl (h_ i_ rfl rfl rfl k_) rfl (p_ rfl rfl rfl (h_ o_ rfl rfl rfl x_) rfl (p_ rfl rfl rfl (m_ 2 F_ rfl rfl rfl) rfl (J_ (I_ 18 rfl (by kernel_rfl) (l_ rfl rfl (P_ (by_ (Fc.a f) [33]) rfl B_ (fun _ _ _ => by exact trivial) rfl fun _ => ?_)))))))))
            refine d_ (q_ rfl (A_ (fun _ a b => ⟨a, b⟩) (K_ 0 [19, 20, 21] (by kernel_rfl) (fun _ a b => ⟨a, b⟩) ?_)))
            refine ar_ rfl rfl rfl (ap_ (p := f) (q := (aE_ (Fc.a f) [33])) rfl rfl) rfl fun r23 hr23 => ?_
            refine j_ rfl (z_ rfl rfl) rfl (j_ rfl (e_ rfl) rfl (J_ (S_ (by kernel_rfl) (b_ rfl (u_ ?_)))))
            refine bN_ ?_
            have hres : r23 = true ↔ ga = aj_ (Fc.a f) (Fc.r ga) (Fc.lo ga) (Fc.hi ga) ∧ gb = aj_ (Fc.a f) (Fc.r ga) (Fc.lo gb) (Fc.hi gb) ∧ (Fc.hi ga < Fc.lo gb ∨ Fc.hi gb < Fc.lo ga) ∧ f = aE_ (Fc.a f) [33] := by
              refine Iff.trans ?_ (and_iff_right hsp0).symm; refine Iff.trans ?_ (and_iff_right hsp1).symm; clear hsp0 hsp1; rw [← hr23]; clear hr23; simp [*]
            exact Y_ aq_ () (s_ rfl (Bool.eq_iff_iff.2 (hres.trans (aJ_ wg wh).symm))) B_ (fun _ _ _ => trivial)
        · skip
          replace hr21 := of_decide_eq_true hr21
          refine K_ 4 [6, 7, 8, 9, 10, 11, 12, 13, 14, 15, 16, 17] (by kernel_rfl) (fun _ a b => ⟨a, b⟩) (v_ rfl rfl rfl rfl rfl (v_ rfl rfl rfl rfl rfl (v_ rfl rfl rfl rfl rfl (v_ rfl rfl rfl rfl rfl (v_ rfl rfl rfl rfl rfl (j_ rfl (z_ rfl rfl) rfl (j_ rfl (f_ rfl) rfl (p_ rfl rfl rfl (h_ i_ rfl rfl rfl k_) rfl (p_ rfl rfl rfl (O_ 2 R_ k_ rfl rfl rfl) rfl ?_)))))))))
          refine p_ rfl rfl rfl (h_ i_ rfl rfl rfl k_) rfl (p_ rfl rfl rfl (h_ o_ rfl rfl rfl x_) rfl (p_ rfl rfl rfl (m_ 2 F_ rfl rfl rfl) rfl (J_ (I_ 18 rfl (by kernel_rfl) (l_ rfl rfl (P_ (by_ (Fc.a f) [33]) rfl B_ (fun _ _ _ => by exact trivial) rfl fun _ => ?_))))))
          refine d_ (q_ rfl (A_ (fun _ a b => ⟨a, b⟩) (K_ 0 [19, 20, 21] (by kernel_rfl) (fun _ a b => ⟨a, b⟩) ?_)))
          refine ar_ rfl rfl rfl (ap_ (p := f) (q := (aE_ (Fc.a f) [33])) rfl rfl) rfl fun r24 hr24 => ?_
          refine j_ rfl (z_ rfl rfl) rfl (j_ rfl (e_ rfl) rfl (J_ (S_ (by kernel_rfl) (b_ rfl (u_ ?_)))))
          refine bN_ ?_
          have hres : r24 = true ↔ ga = aj_ (Fc.a f) (Fc.r ga) (Fc.lo ga) (Fc.hi ga) ∧ gb = aj_ (Fc.a f) (Fc.r ga) (Fc.lo gb) (Fc.hi gb) ∧ (Fc.hi ga < Fc.lo gb ∨ Fc.hi gb < Fc.lo ga) ∧ f = aE_ (Fc.a f) [33] := by
            refine Iff.trans ?_ (and_iff_right hsp0).symm; refine Iff.trans ?_ (and_iff_right hsp1).symm; clear hsp0 hsp1; rw [← hr24]; clear hr24; simp [*]
          exact Y_ aq_ () (s_ rfl (Bool.eq_iff_iff.2 (hres.trans (aJ_ wg wh).symm))) B_ (fun _ _ _ => trivial)
  · refine ⟨_, rfl, ?_⟩
    refine ad_ ao_ rfl fun b12 => ?_
    refine d_ (q_ rfl (A_ (fun _ a b => ⟨a.tail, b⟩) ?_))
    refine bT_ 6 15 rfl rfl (by kernel_rfl) ?_ ?_
    · skip
      refine al_ (dw_ (Fc.r ga) kn q hkn es ec hE vb ab pv fv x f ga gb lad lcap) rfl B_ (fun v _ h => by exact ⟨h.1, h.2.1, h.2.2.1, trivial⟩) rfl (fun hb => ce_ ((by rw [Bool.eq_false_iff]; intro hq; exact hb ((aJ_ wg wh).1 hq).1))) fun ⟨_, hsp0⟩ => ?_
      try dsimp only
      refine d_ (q_ rfl (A_ (fun _ a b => ⟨a.tail, b⟩) ?_))
      refine bT_ 13 15 rfl rfl (by kernel_rfl) ?_ ?_
      · skip
        refine al_ (cc_ (Fc.r ga) kn q hkn es ec hE vb ab pv fv x f ga gb lad lcap) rfl B_ (fun v _ h => by exact ⟨h.1, h.2.1, h.2.2.1, trivial⟩) rfl (fun hb => ce_ ((by rw [Bool.eq_false_iff]; intro hq; exact hb ((aJ_ wg wh).1 hq).2.1))) fun ⟨_, hsp1⟩ => ?_
        try dsimp only
        refine d_ (q_ rfl (A_ (fun _ a b => ⟨a.tail, b⟩) (I_ 15 rfl (by kernel_rfl) (ad_ ao_ rfl fun b13 => ?_))))
        refine d_ (q_ rfl (A_ (fun _ a b => ⟨a.tail.tail, b⟩) (I_ 16 rfl (by kernel_rfl) (X_ 1 Z_ rfl rfl rfl rfl rfl rfl (d_ (q_ rfl (A_ (fun _ a b => ⟨a.tail.tail, b⟩) (I_ 17 rfl (by kernel_rfl) (X_ 0 Z_ rfl rfl rfl rfl rfl rfl ?_)))))))))
        refine d_ (q_ rfl (A_ (fun _ a b => ⟨a.tail.tail, b⟩) (S_ (by kernel_rfl) (b_ rfl (g_ ?_)))))
        refine aI_ (by kernel_rfl) ?_
        refine K_ 16 [0, 1, 2, 3, 4, 5] (by kernel_rfl) (fun _ a b => ⟨a, b⟩) (j_ rfl (h_ G_ rfl rfl rfl r_) rfl (j_ rfl (m_ 1 C_ rfl rfl rfl) rfl (j_ rfl (h_ G_ rfl rfl rfl r_) rfl (j_ rfl (m_ 0 C_ rfl rfl rfl) rfl ?_))))
        refine bk_ rfl (au_ rfl rfl) rfl fun r25 hr25 => ?_
        refine j_ rfl (f_ rfl) rfl (J_ ?_)
        cases r25
        · skip
          replace hr25 := of_decide_eq_false hr25
          refine K_ 9 [6, 7, 8, 9, 10, 11, 12] (by kernel_rfl) (fun _ a b => ⟨a, b⟩) (p_ rfl rfl rfl (h_ G_ rfl rfl rfl r_) rfl (p_ rfl rfl rfl (m_ 0 C_ rfl rfl rfl) rfl (p_ rfl rfl rfl (h_ G_ rfl rfl rfl r_) rfl (p_ rfl rfl rfl (m_ 1 C_ rfl rfl rfl) rfl ?_))))
          refine ar_ rfl rfl rfl (au_ rfl rfl) rfl fun r26 hr26 => ?_
          refine j_ rfl (t_ rfl rfl) rfl (j_ rfl (f_ rfl) rfl (J_ ?_))
          cases r26
          · skip
            replace hr26 := of_decide_eq_false hr26
            refine K_ 0 [13, 14, 15, 16, 17, 18, 19, 20, 21] (by kernel_rfl) (fun _ a b => ⟨a, b⟩) (v_ rfl rfl rfl rfl rfl (v_ rfl rfl rfl rfl rfl (v_ rfl rfl rfl rfl rfl (v_ rfl rfl rfl rfl rfl (v_ rfl rfl rfl rfl rfl (v_ rfl rfl rfl rfl rfl (v_ rfl rfl rfl rfl rfl (j_ rfl (t_ rfl rfl) rfl (j_ rfl (e_ rfl) rfl ?_)))))))))
            refine J_ (S_ (by kernel_rfl) (b_ rfl (u_ ?_)))
            refine bN_ ?_
            have hres : false = true ↔ ga = aj_ (Fc.a f) (Fc.r ga) (Fc.lo ga) (Fc.hi ga) ∧ gb = aj_ (Fc.a f) (Fc.r ga) (Fc.lo gb) (Fc.hi gb) ∧ (Fc.hi ga < Fc.lo gb ∨ Fc.hi gb < Fc.lo ga) ∧ f = aE_ (Fc.a f) [33] := by
              refine Iff.trans ?_ (and_iff_right hsp0).symm; refine Iff.trans ?_ (and_iff_right hsp1).symm; clear hsp0 hsp1; simp [*]
            exact Y_ aq_ () (s_ rfl (Bool.eq_iff_iff.2 (hres.trans (aJ_ wg wh).symm))) B_ (fun _ _ _ => trivial)
          · skip
            replace hr26 := of_decide_eq_true hr26
            refine K_ 4 [13, 14, 15, 16, 17] (by kernel_rfl) (fun _ a b => ⟨a, b⟩) (p_ rfl rfl rfl (h_ i_ rfl rfl rfl k_) rfl (p_ rfl rfl rfl (O_ 2 R_ k_ rfl rfl rfl) rfl (p_ rfl rfl rfl (h_ i_ rfl rfl rfl k_) rfl (p_ rfl rfl rfl (h_ o_ rfl rfl rfl x_) rfl (p_ rfl rfl rfl (m_ 2 F_ rfl rfl rfl) rfl (J_ (I_ 18 rfl (by kernel_rfl) (l_ rfl rfl (P_ (by_ (Fc.a f) [33]) rfl B_ (fun _ _ _ => by exact trivial) rfl fun _ => ?_)))))))))
            refine d_ (q_ rfl (A_ (fun _ a b => ⟨a, b⟩) (K_ 0 [19, 20, 21] (by kernel_rfl) (fun _ a b => ⟨a, b⟩) ?_)))
            refine ar_ rfl rfl rfl (ap_ (p := f) (q := (aE_ (Fc.a f) [33])) rfl rfl) rfl fun r27 hr27 => ?_
            refine j_ rfl (z_ rfl rfl) rfl (j_ rfl (e_ rfl) rfl (J_ (S_ (by kernel_rfl) (b_ rfl (u_ ?_)))))
            refine bN_ ?_
            have hres : r27 = true ↔ ga = aj_ (Fc.a f) (Fc.r ga) (Fc.lo ga) (Fc.hi ga) ∧ gb = aj_ (Fc.a f) (Fc.r ga) (Fc.lo gb) (Fc.hi gb) ∧ (Fc.hi ga < Fc.lo gb ∨ Fc.hi gb < Fc.lo ga) ∧ f = aE_ (Fc.a f) [33] := by
              refine Iff.trans ?_ (and_iff_right hsp0).symm; refine Iff.trans ?_ (and_iff_right hsp1).symm; clear hsp0 hsp1; rw [← hr27]; clear hr27; simp [*]
            exact Y_ aq_ () (s_ rfl (Bool.eq_iff_iff.2 (hres.trans (aJ_ wg wh).symm))) B_ (fun _ _ _ => trivial)
        · skip
          replace hr25 := of_decide_eq_true hr25
          refine K_ 4 [6, 7, 8, 9, 10, 11, 12, 13, 14, 15, 16, 17] (by kernel_rfl) (fun _ a b => ⟨a, b⟩) (v_ rfl rfl rfl rfl rfl (v_ rfl rfl rfl rfl rfl (v_ rfl rfl rfl rfl rfl (v_ rfl rfl rfl rfl rfl (v_ rfl rfl rfl rfl rfl (j_ rfl (z_ rfl rfl) rfl (j_ rfl (f_ rfl) rfl (p_ rfl rfl rfl (h_ i_ rfl rfl rfl k_) rfl (p_ rfl rfl rfl (O_ 2 R_ k_ rfl rfl rfl) rfl ?_)))))))))
          refine p_ rfl rfl rfl (h_ i_ rfl rfl rfl k_) rfl (p_ rfl rfl rfl (h_ o_ rfl rfl rfl x_) rfl (p_ rfl rfl rfl (m_ 2 F_ rfl rfl rfl) rfl (J_ (I_ 18 rfl (by kernel_rfl) (l_ rfl rfl (P_ (by_ (Fc.a f) [33]) rfl B_ (fun _ _ _ => by exact trivial) rfl fun _ => ?_))))))
          refine d_ (q_ rfl (A_ (fun _ a b => ⟨a, b⟩) (K_ 0 [19, 20, 21] (by kernel_rfl) (fun _ a b => ⟨a, b⟩) ?_)))
          refine ar_ rfl rfl rfl (ap_ (p := f) (q := (aE_ (Fc.a f) [33])) rfl rfl) rfl fun r28 hr28 => ?_
          refine j_ rfl (z_ rfl rfl) rfl (j_ rfl (e_ rfl) rfl (J_ (S_ (by kernel_rfl) (b_ rfl (u_ ?_)))))
          refine bN_ ?_
          have hres : r28 = true ↔ ga = aj_ (Fc.a f) (Fc.r ga) (Fc.lo ga) (Fc.hi ga) ∧ gb = aj_ (Fc.a f) (Fc.r ga) (Fc.lo gb) (Fc.hi gb) ∧ (Fc.hi ga < Fc.lo gb ∨ Fc.hi gb < Fc.lo ga) ∧ f = aE_ (Fc.a f) [33] := by
            refine Iff.trans ?_ (and_iff_right hsp0).symm; refine Iff.trans ?_ (and_iff_right hsp1).symm; clear hsp0 hsp1; rw [← hr28]; clear hr28; simp [*]
          exact Y_ aq_ () (s_ rfl (Bool.eq_iff_iff.2 (hres.trans (aJ_ wg wh).symm))) B_ (fun _ _ _ => trivial)
      · skip
        refine ad_ ao_ rfl fun b14 => ?_
        refine d_ (q_ rfl (A_ (fun _ a b => ⟨a.tail.tail, b⟩) (I_ 13 rfl (by kernel_rfl) (al_ (cc_ (Fc.r ga) kn q hkn es ec hE vb ab pv fv x f ga gb lad lcap) rfl B_ (fun v _ h => by exact ⟨h.1, h.2.1, h.2.2.1, trivial⟩) rfl (fun hb => ce_ ((by rw [Bool.eq_false_iff]; intro hq; exact hb ((aJ_ wg wh).1 hq).2.1))) fun ⟨_, hsp1⟩ => ?_))))
        try dsimp only
        refine d_ (q_ rfl (A_ (fun _ a b => ⟨a.tail.tail, b⟩) (I_ 16 rfl (by kernel_rfl) (X_ 1 Z_ rfl rfl rfl rfl rfl rfl (d_ (q_ rfl (A_ (fun _ a b => ⟨a.tail.tail, b⟩) (I_ 17 rfl (by kernel_rfl) (X_ 0 Z_ rfl rfl rfl rfl rfl rfl ?_)))))))))
        refine d_ (q_ rfl (A_ (fun _ a b => ⟨a.tail.tail, b⟩) (S_ (by kernel_rfl) (b_ rfl (g_ ?_)))))
        refine aI_ (by kernel_rfl) ?_
        refine K_ 16 [0, 1, 2, 3, 4, 5] (by kernel_rfl) (fun _ a b => ⟨a, b⟩) (j_ rfl (h_ G_ rfl rfl rfl r_) rfl (j_ rfl (m_ 1 C_ rfl rfl rfl) rfl (j_ rfl (h_ G_ rfl rfl rfl r_) rfl (j_ rfl (m_ 0 C_ rfl rfl rfl) rfl ?_))))
        refine bk_ rfl (au_ rfl rfl) rfl fun r29 hr29 => ?_
        refine j_ rfl (f_ rfl) rfl (J_ ?_)
        cases r29
        · skip
          replace hr29 := of_decide_eq_false hr29
          refine K_ 9 [6, 7, 8, 9, 10, 11, 12] (by kernel_rfl) (fun _ a b => ⟨a, b⟩) (p_ rfl rfl rfl (h_ G_ rfl rfl rfl r_) rfl (p_ rfl rfl rfl (m_ 0 C_ rfl rfl rfl) rfl (p_ rfl rfl rfl (h_ G_ rfl rfl rfl r_) rfl (p_ rfl rfl rfl (m_ 1 C_ rfl rfl rfl) rfl ?_))))
          refine ar_ rfl rfl rfl (au_ rfl rfl) rfl fun r30 hr30 => ?_
          refine j_ rfl (t_ rfl rfl) rfl (j_ rfl (f_ rfl) rfl (J_ ?_))
          cases r30
          · skip
            replace hr30 := of_decide_eq_false hr30
            refine K_ 0 [13, 14, 15, 16, 17, 18, 19, 20, 21] (by kernel_rfl) (fun _ a b => ⟨a, b⟩) (v_ rfl rfl rfl rfl rfl (v_ rfl rfl rfl rfl rfl (v_ rfl rfl rfl rfl rfl (v_ rfl rfl rfl rfl rfl (v_ rfl rfl rfl rfl rfl (v_ rfl rfl rfl rfl rfl (v_ rfl rfl rfl rfl rfl (j_ rfl (t_ rfl rfl) rfl (j_ rfl (e_ rfl) rfl ?_)))))))))
            refine J_ (S_ (by kernel_rfl) (b_ rfl (u_ ?_)))
            refine bN_ ?_
            have hres : false = true ↔ ga = aj_ (Fc.a f) (Fc.r ga) (Fc.lo ga) (Fc.hi ga) ∧ gb = aj_ (Fc.a f) (Fc.r ga) (Fc.lo gb) (Fc.hi gb) ∧ (Fc.hi ga < Fc.lo gb ∨ Fc.hi gb < Fc.lo ga) ∧ f = aE_ (Fc.a f) [33] := by
              refine Iff.trans ?_ (and_iff_right hsp0).symm; refine Iff.trans ?_ (and_iff_right hsp1).symm; clear hsp0 hsp1; simp [*]
            exact Y_ aq_ () (s_ rfl (Bool.eq_iff_iff.2 (hres.trans (aJ_ wg wh).symm))) B_ (fun _ _ _ => trivial)
          · skip
            replace hr30 := of_decide_eq_true hr30
            refine K_ 4 [13, 14, 15, 16, 17] (by kernel_rfl) (fun _ a b => ⟨a, b⟩) (p_ rfl rfl rfl (h_ i_ rfl rfl rfl k_) rfl (p_ rfl rfl rfl (O_ 2 R_ k_ rfl rfl rfl) rfl (p_ rfl rfl rfl (h_ i_ rfl rfl rfl k_) rfl (p_ rfl rfl rfl (h_ o_ rfl rfl rfl x_) rfl (p_ rfl rfl rfl (m_ 2 F_ rfl rfl rfl) rfl (J_ (I_ 18 rfl (by kernel_rfl) (l_ rfl rfl (P_ (by_ (Fc.a f) [33]) rfl B_ (fun _ _ _ => by exact trivial) rfl fun _ => ?_)))))))))
            refine d_ (q_ rfl (A_ (fun _ a b => ⟨a, b⟩) (K_ 0 [19, 20, 21] (by kernel_rfl) (fun _ a b => ⟨a, b⟩) ?_)))
            refine ar_ rfl rfl rfl (ap_ (p := f) (q := (aE_ (Fc.a f) [33])) rfl rfl) rfl fun r31 hr31 => ?_
            refine j_ rfl (z_ rfl rfl) rfl (j_ rfl (e_ rfl) rfl (J_ (S_ (by kernel_rfl) (b_ rfl (u_ ?_)))))
            refine bN_ ?_
            have hres : r31 = true ↔ ga = aj_ (Fc.a f) (Fc.r ga) (Fc.lo ga) (Fc.hi ga) ∧ gb = aj_ (Fc.a f) (Fc.r ga) (Fc.lo gb) (Fc.hi gb) ∧ (Fc.hi ga < Fc.lo gb ∨ Fc.hi gb < Fc.lo ga) ∧ f = aE_ (Fc.a f) [33] := by
              refine Iff.trans ?_ (and_iff_right hsp0).symm; refine Iff.trans ?_ (and_iff_right hsp1).symm; clear hsp0 hsp1; rw [← hr31]; clear hr31; simp [*]
            exact Y_ aq_ () (s_ rfl (Bool.eq_iff_iff.2 (hres.trans (aJ_ wg wh).symm))) B_ (fun _ _ _ => trivial)
        · skip
          replace hr29 := of_decide_eq_true hr29
          refine K_ 4 [6, 7, 8, 9, 10, 11, 12, 13, 14, 15, 16, 17] (by kernel_rfl) (fun _ a b => ⟨a, b⟩) (v_ rfl rfl rfl rfl rfl (v_ rfl rfl rfl rfl rfl (v_ rfl rfl rfl rfl rfl (v_ rfl rfl rfl rfl rfl (v_ rfl rfl rfl rfl rfl (j_ rfl (z_ rfl rfl) rfl (j_ rfl (f_ rfl) rfl (p_ rfl rfl rfl (h_ i_ rfl rfl rfl k_) rfl (p_ rfl rfl rfl (O_ 2 R_ k_ rfl rfl rfl) rfl ?_)))))))))
          refine p_ rfl rfl rfl (h_ i_ rfl rfl rfl k_) rfl (p_ rfl rfl rfl (h_ o_ rfl rfl rfl x_) rfl (p_ rfl rfl rfl (m_ 2 F_ rfl rfl rfl) rfl (J_ (I_ 18 rfl (by kernel_rfl) (l_ rfl rfl (P_ (by_ (Fc.a f) [33]) rfl B_ (fun _ _ _ => by exact trivial) rfl fun _ => ?_))))))
          refine d_ (q_ rfl (A_ (fun _ a b => ⟨a, b⟩) (K_ 0 [19, 20, 21] (by kernel_rfl) (fun _ a b => ⟨a, b⟩) ?_)))
          refine ar_ rfl rfl rfl (ap_ (p := f) (q := (aE_ (Fc.a f) [33])) rfl rfl) rfl fun r32 hr32 => ?_
          refine j_ rfl (z_ rfl rfl) rfl (j_ rfl (e_ rfl) rfl (J_ (S_ (by kernel_rfl) (b_ rfl (u_ ?_)))))
          refine bN_ ?_
          have hres : r32 = true ↔ ga = aj_ (Fc.a f) (Fc.r ga) (Fc.lo ga) (Fc.hi ga) ∧ gb = aj_ (Fc.a f) (Fc.r ga) (Fc.lo gb) (Fc.hi gb) ∧ (Fc.hi ga < Fc.lo gb ∨ Fc.hi gb < Fc.lo ga) ∧ f = aE_ (Fc.a f) [33] := by
            refine Iff.trans ?_ (and_iff_right hsp0).symm; refine Iff.trans ?_ (and_iff_right hsp1).symm; clear hsp0 hsp1; rw [← hr32]; clear hr32; simp [*]
          exact Y_ aq_ () (s_ rfl (Bool.eq_iff_iff.2 (hres.trans (aJ_ wg wh).symm))) B_ (fun _ _ _ => trivial)
    · skip
      refine ad_ ao_ rfl fun b15 => ?_
      refine d_ (q_ rfl (A_ (fun _ a b => ⟨a.tail.tail, b⟩) (I_ 6 rfl (by kernel_rfl) (al_ (dw_ (Fc.r ga) kn q hkn es ec hE vb ab pv fv x f ga gb lad lcap) rfl B_ (fun v _ h => by exact ⟨h.1, h.2.1, h.2.2.1, trivial⟩) rfl (fun hb => ce_ ((by rw [Bool.eq_false_iff]; intro hq; exact hb ((aJ_ wg wh).1 hq).1))) fun ⟨_, hsp0⟩ => ?_))))
      try dsimp only
      refine d_ (q_ rfl (A_ (fun _ a b => ⟨a.tail.tail, b⟩) (I_ 13 rfl (by kernel_rfl) (al_ (cc_ (Fc.r ga) kn q hkn es ec hE vb ab pv fv x f ga gb lad lcap) rfl B_ (fun v _ h => by exact ⟨h.1, h.2.1, h.2.2.1, trivial⟩) rfl (fun hb => ce_ ((by rw [Bool.eq_false_iff]; intro hq; exact hb ((aJ_ wg wh).1 hq).2.1))) fun ⟨_, hsp1⟩ => ?_))))
      try dsimp only
      refine d_ (q_ rfl (A_ (fun _ a b => ⟨a.tail.tail, b⟩) (I_ 16 rfl (by kernel_rfl) (X_ 1 Z_ rfl rfl rfl rfl rfl rfl (d_ (q_ rfl (A_ (fun _ a b => ⟨a.tail.tail, b⟩) (I_ 17 rfl (by kernel_rfl) (X_ 0 Z_ rfl rfl rfl rfl rfl rfl ?_)))))))))
      refine d_ (q_ rfl (A_ (fun _ a b => ⟨a.tail.tail, b⟩) (S_ (by kernel_rfl) (b_ rfl (g_ ?_)))))
      refine aI_ (by kernel_rfl) ?_
      refine K_ 16 [0, 1, 2, 3, 4, 5] (by kernel_rfl) (fun _ a b => ⟨a, b⟩) (j_ rfl (h_ G_ rfl rfl rfl r_) rfl (j_ rfl (m_ 1 C_ rfl rfl rfl) rfl (j_ rfl (h_ G_ rfl rfl rfl r_) rfl (j_ rfl (m_ 0 C_ rfl rfl rfl) rfl ?_))))
      refine bk_ rfl (au_ rfl rfl) rfl fun r33 hr33 => ?_
      refine j_ rfl (f_ rfl) rfl (J_ ?_)
      cases r33
      · skip
        replace hr33 := of_decide_eq_false hr33
        refine K_ 9 [6, 7, 8, 9, 10, 11, 12] (by kernel_rfl) (fun _ a b => ⟨a, b⟩) (p_ rfl rfl rfl (h_ G_ rfl rfl rfl r_) rfl (p_ rfl rfl rfl (m_ 0 C_ rfl rfl rfl) rfl (p_ rfl rfl rfl (h_ G_ rfl rfl rfl r_) rfl (p_ rfl rfl rfl (m_ 1 C_ rfl rfl rfl) rfl ?_))))
        refine ar_ rfl rfl rfl (au_ rfl rfl) rfl fun r34 hr34 => ?_
        refine j_ rfl (t_ rfl rfl) rfl (j_ rfl (f_ rfl) rfl (J_ ?_))
        cases r34
        · skip
          replace hr34 := of_decide_eq_false hr34
          refine K_ 0 [13, 14, 15, 16, 17, 18, 19, 20, 21] (by kernel_rfl) (fun _ a b => ⟨a, b⟩) (v_ rfl rfl rfl rfl rfl (v_ rfl rfl rfl rfl rfl (v_ rfl rfl rfl rfl rfl (v_ rfl rfl rfl rfl rfl (v_ rfl rfl rfl rfl rfl (v_ rfl rfl rfl rfl rfl (v_ rfl rfl rfl rfl rfl (j_ rfl (t_ rfl rfl) rfl (j_ rfl (e_ rfl) rfl ?_)))))))))
          refine J_ (S_ (by kernel_rfl) (b_ rfl (u_ ?_)))
          refine bN_ ?_
          have hres : false = true ↔ ga = aj_ (Fc.a f) (Fc.r ga) (Fc.lo ga) (Fc.hi ga) ∧ gb = aj_ (Fc.a f) (Fc.r ga) (Fc.lo gb) (Fc.hi gb) ∧ (Fc.hi ga < Fc.lo gb ∨ Fc.hi gb < Fc.lo ga) ∧ f = aE_ (Fc.a f) [33] := by
            refine Iff.trans ?_ (and_iff_right hsp0).symm; refine Iff.trans ?_ (and_iff_right hsp1).symm; clear hsp0 hsp1; simp [*]
          exact Y_ aq_ () (s_ rfl (Bool.eq_iff_iff.2 (hres.trans (aJ_ wg wh).symm))) B_ (fun _ _ _ => trivial)
        · skip
          replace hr34 := of_decide_eq_true hr34
          refine K_ 4 [13, 14, 15, 16, 17] (by kernel_rfl) (fun _ a b => ⟨a, b⟩) (p_ rfl rfl rfl (h_ i_ rfl rfl rfl k_) rfl (p_ rfl rfl rfl (O_ 2 R_ k_ rfl rfl rfl) rfl (p_ rfl rfl rfl (h_ i_ rfl rfl rfl k_) rfl (p_ rfl rfl rfl (h_ o_ rfl rfl rfl x_) rfl (p_ rfl rfl rfl (m_ 2 F_ rfl rfl rfl) rfl (J_ (I_ 18 rfl (by kernel_rfl) (l_ rfl rfl (P_ (by_ (Fc.a f) [33]) rfl B_ (fun _ _ _ => by exact trivial) rfl fun _ => ?_)))))))))
          refine d_ (q_ rfl (A_ (fun _ a b => ⟨a, b⟩) (K_ 0 [19, 20, 21] (by kernel_rfl) (fun _ a b => ⟨a, b⟩) ?_)))
          refine ar_ rfl rfl rfl (ap_ (p := f) (q := (aE_ (Fc.a f) [33])) rfl rfl) rfl fun r35 hr35 => ?_
          refine j_ rfl (z_ rfl rfl) rfl (j_ rfl (e_ rfl) rfl (J_ (S_ (by kernel_rfl) (b_ rfl (u_ ?_)))))
          refine bN_ ?_
          have hres : r35 = true ↔ ga = aj_ (Fc.a f) (Fc.r ga) (Fc.lo ga) (Fc.hi ga) ∧ gb = aj_ (Fc.a f) (Fc.r ga) (Fc.lo gb) (Fc.hi gb) ∧ (Fc.hi ga < Fc.lo gb ∨ Fc.hi gb < Fc.lo ga) ∧ f = aE_ (Fc.a f) [33] := by
            refine Iff.trans ?_ (and_iff_right hsp0).symm; refine Iff.trans ?_ (and_iff_right hsp1).symm; clear hsp0 hsp1; rw [← hr35]; clear hr35; simp [*]
          exact Y_ aq_ () (s_ rfl (Bool.eq_iff_iff.2 (hres.trans (aJ_ wg wh).symm))) B_ (fun _ _ _ => trivial)
      · skip
        replace hr33 := of_decide_eq_true hr33
        refine K_ 4 [6, 7, 8, 9, 10, 11, 12, 13, 14, 15, 16, 17] (by kernel_rfl) (fun _ a b => ⟨a, b⟩) (v_ rfl rfl rfl rfl rfl (v_ rfl rfl rfl rfl rfl (v_ rfl rfl rfl rfl rfl (v_ rfl rfl rfl rfl rfl (v_ rfl rfl rfl rfl rfl (j_ rfl (z_ rfl rfl) rfl (j_ rfl (f_ rfl) rfl (p_ rfl rfl rfl (h_ i_ rfl rfl rfl k_) rfl (p_ rfl rfl rfl (O_ 2 R_ k_ rfl rfl rfl) rfl ?_)))))))))
        refine p_ rfl rfl rfl (h_ i_ rfl rfl rfl k_) rfl (p_ rfl rfl rfl (h_ o_ rfl rfl rfl x_) rfl (p_ rfl rfl rfl (m_ 2 F_ rfl rfl rfl) rfl (J_ (I_ 18 rfl (by kernel_rfl) (l_ rfl rfl (P_ (by_ (Fc.a f) [33]) rfl B_ (fun _ _ _ => by exact trivial) rfl fun _ => ?_))))))
        refine d_ (q_ rfl (A_ (fun _ a b => ⟨a, b⟩) (K_ 0 [19, 20, 21] (by kernel_rfl) (fun _ a b => ⟨a, b⟩) ?_)))
        refine ar_ rfl rfl rfl (ap_ (p := f) (q := (aE_ (Fc.a f) [33])) rfl rfl) rfl fun r36 hr36 => ?_
        refine j_ rfl (z_ rfl rfl) rfl (j_ rfl (e_ rfl) rfl (J_ (S_ (by kernel_rfl) (b_ rfl (u_ ?_)))))
        refine bN_ ?_
        have hres : r36 = true ↔ ga = aj_ (Fc.a f) (Fc.r ga) (Fc.lo ga) (Fc.hi ga) ∧ gb = aj_ (Fc.a f) (Fc.r ga) (Fc.lo gb) (Fc.hi gb) ∧ (Fc.hi ga < Fc.lo gb ∨ Fc.hi gb < Fc.lo ga) ∧ f = aE_ (Fc.a f) [33] := by
          refine Iff.trans ?_ (and_iff_right hsp0).symm; refine Iff.trans ?_ (and_iff_right hsp1).symm; clear hsp0 hsp1; rw [← hr36]; clear hr36; simp [*]
        exact Y_ aq_ () (s_ rfl (Bool.eq_iff_iff.2 (hres.trans (aJ_ wg wh).symm))) B_ (fun _ _ _ => trivial)
  · refine ⟨_, rfl, ?_⟩
    refine ad_ ao_ rfl fun b16 => ?_
    refine d_ (q_ rfl (A_ (fun _ a b => ⟨a.tail, b⟩) ?_))
    refine bT_ 6 14 rfl rfl (by kernel_rfl) ?_ ?_
    · skip
      refine al_ (dw_ (Fc.r ga) kn q hkn es ec hE vb ab pv fv x f ga gb lad lcap) rfl B_ (fun v _ h => by exact ⟨h.1, h.2.1, h.2.2.1, trivial⟩) rfl (fun hb => ce_ ((by rw [Bool.eq_false_iff]; intro hq; exact hb ((aJ_ wg wh).1 hq).1))) fun ⟨_, hsp0⟩ => ?_
      try dsimp only
      refine d_ (q_ rfl (A_ (fun _ a b => ⟨a.tail, b⟩) ?_))
      refine bT_ 13 14 rfl rfl (by kernel_rfl) ?_ ?_
      · skip
        refine al_ (cc_ (Fc.r ga) kn q hkn es ec hE vb ab pv fv x f ga gb lad lcap) rfl B_ (fun v _ h => by exact ⟨h.1, h.2.1, h.2.2.1, trivial⟩) rfl (fun hb => ce_ ((by rw [Bool.eq_false_iff]; intro hq; exact hb ((aJ_ wg wh).1 hq).2.1))) fun ⟨_, hsp1⟩ => ?_
        try dsimp only
        refine d_ (q_ rfl (A_ (fun _ a b => ⟨a.tail, b⟩) (I_ 14 rfl (by kernel_rfl) (ad_ ao_ rfl fun b17 => ?_))))
        refine d_ (q_ rfl (A_ (fun _ a b => ⟨a.tail.tail, b⟩) (I_ 16 rfl (by kernel_rfl) (X_ 0 Z_ rfl rfl rfl rfl rfl rfl (d_ (q_ rfl (A_ (fun _ a b => ⟨a.tail.tail, b⟩) (I_ 17 rfl (by kernel_rfl) (X_ 1 Z_ rfl rfl rfl rfl rfl rfl ?_)))))))))
        refine d_ (q_ rfl (A_ (fun _ a b => ⟨a.tail.tail, b⟩) (S_ (by kernel_rfl) (b_ rfl (g_ ?_)))))
        refine aI_ (by kernel_rfl) ?_
        refine K_ 16 [0, 1, 2, 3, 4, 5] (by kernel_rfl) (fun _ a b => ⟨a, b⟩) (j_ rfl (h_ G_ rfl rfl rfl r_) rfl (j_ rfl (m_ 0 C_ rfl rfl rfl) rfl (j_ rfl (h_ G_ rfl rfl rfl r_) rfl (j_ rfl (m_ 1 C_ rfl rfl rfl) rfl ?_))))
        refine bk_ rfl (au_ rfl rfl) rfl fun r37 hr37 => ?_
        refine j_ rfl (f_ rfl) rfl (J_ ?_)
        cases r37
        · skip
          replace hr37 := of_decide_eq_false hr37
          refine K_ 9 [6, 7, 8, 9, 10, 11, 12] (by kernel_rfl) (fun _ a b => ⟨a, b⟩) (p_ rfl rfl rfl (h_ G_ rfl rfl rfl r_) rfl (p_ rfl rfl rfl (m_ 1 C_ rfl rfl rfl) rfl (p_ rfl rfl rfl (h_ G_ rfl rfl rfl r_) rfl (p_ rfl rfl rfl (m_ 0 C_ rfl rfl rfl) rfl ?_))))
          refine ar_ rfl rfl rfl (au_ rfl rfl) rfl fun r38 hr38 => ?_
          refine j_ rfl (t_ rfl rfl) rfl (j_ rfl (f_ rfl) rfl (J_ ?_))
          cases r38
          · skip
            replace hr38 := of_decide_eq_false hr38
            refine K_ 0 [13, 14, 15, 16, 17, 18, 19, 20, 21] (by kernel_rfl) (fun _ a b => ⟨a, b⟩) (v_ rfl rfl rfl rfl rfl (v_ rfl rfl rfl rfl rfl (v_ rfl rfl rfl rfl rfl (v_ rfl rfl rfl rfl rfl (v_ rfl rfl rfl rfl rfl (v_ rfl rfl rfl rfl rfl (v_ rfl rfl rfl rfl rfl (j_ rfl (t_ rfl rfl) rfl (j_ rfl (e_ rfl) rfl ?_)))))))))
            refine J_ (S_ (by kernel_rfl) (b_ rfl (u_ ?_)))
            refine bN_ ?_
            have hres : false = true ↔ ga = aj_ (Fc.a f) (Fc.r ga) (Fc.lo ga) (Fc.hi ga) ∧ gb = aj_ (Fc.a f) (Fc.r ga) (Fc.lo gb) (Fc.hi gb) ∧ (Fc.hi ga < Fc.lo gb ∨ Fc.hi gb < Fc.lo ga) ∧ f = aE_ (Fc.a f) [33] := by
              refine Iff.trans ?_ (and_iff_right hsp0).symm; refine Iff.trans ?_ (and_iff_right hsp1).symm; clear hsp0 hsp1; simp [*]
            exact Y_ aq_ () (s_ rfl (Bool.eq_iff_iff.2 (hres.trans (aJ_ wg wh).symm))) B_ (fun _ _ _ => trivial)
          · skip
            replace hr38 := of_decide_eq_true hr38
            refine K_ 4 [13, 14, 15, 16, 17] (by kernel_rfl) (fun _ a b => ⟨a, b⟩) (p_ rfl rfl rfl (h_ i_ rfl rfl rfl k_) rfl (p_ rfl rfl rfl (O_ 2 R_ k_ rfl rfl rfl) rfl (p_ rfl rfl rfl (h_ i_ rfl rfl rfl k_) rfl (p_ rfl rfl rfl (h_ o_ rfl rfl rfl x_) rfl (p_ rfl rfl rfl (m_ 2 F_ rfl rfl rfl) rfl (J_ (I_ 18 rfl (by kernel_rfl) (l_ rfl rfl (P_ (by_ (Fc.a f) [33]) rfl B_ (fun _ _ _ => by exact trivial) rfl fun _ => ?_)))))))))
            refine d_ (q_ rfl (A_ (fun _ a b => ⟨a, b⟩) (K_ 0 [19, 20, 21] (by kernel_rfl) (fun _ a b => ⟨a, b⟩) ?_)))
            refine ar_ rfl rfl rfl (ap_ (p := f) (q := (aE_ (Fc.a f) [33])) rfl rfl) rfl fun r39 hr39 => ?_
            refine j_ rfl (z_ rfl rfl) rfl (j_ rfl (e_ rfl) rfl (J_ (S_ (by kernel_rfl) (b_ rfl (u_ ?_)))))
            refine bN_ ?_
            have hres : r39 = true ↔ ga = aj_ (Fc.a f) (Fc.r ga) (Fc.lo ga) (Fc.hi ga) ∧ gb = aj_ (Fc.a f) (Fc.r ga) (Fc.lo gb) (Fc.hi gb) ∧ (Fc.hi ga < Fc.lo gb ∨ Fc.hi gb < Fc.lo ga) ∧ f = aE_ (Fc.a f) [33] := by
              refine Iff.trans ?_ (and_iff_right hsp0).symm; refine Iff.trans ?_ (and_iff_right hsp1).symm; clear hsp0 hsp1; rw [← hr39]; clear hr39; simp [*]
            exact Y_ aq_ () (s_ rfl (Bool.eq_iff_iff.2 (hres.trans (aJ_ wg wh).symm))) B_ (fun _ _ _ => trivial)
        · skip
          replace hr37 := of_decide_eq_true hr37
          refine K_ 4 [6, 7, 8, 9, 10, 11, 12, 13, 14, 15, 16, 17] (by kernel_rfl) (fun _ a b => ⟨a, b⟩) (v_ rfl rfl rfl rfl rfl (v_ rfl rfl rfl rfl rfl (v_ rfl rfl rfl rfl rfl (v_ rfl rfl rfl rfl rfl (v_ rfl rfl rfl rfl rfl (j_ rfl (z_ rfl rfl) rfl (j_ rfl (f_ rfl) rfl (p_ rfl rfl rfl (h_ i_ rfl rfl rfl k_) rfl (p_ rfl rfl rfl (O_ 2 R_ k_ rfl rfl rfl) rfl ?_)))))))))
          refine p_ rfl rfl rfl (h_ i_ rfl rfl rfl k_) rfl (p_ rfl rfl rfl (h_ o_ rfl rfl rfl x_) rfl (p_ rfl rfl rfl (m_ 2 F_ rfl rfl rfl) rfl (J_ (I_ 18 rfl (by kernel_rfl) (l_ rfl rfl (P_ (by_ (Fc.a f) [33]) rfl B_ (fun _ _ _ => by exact trivial) rfl fun _ => ?_))))))
          refine d_ (q_ rfl (A_ (fun _ a b => ⟨a, b⟩) (K_ 0 [19, 20, 21] (by kernel_rfl) (fun _ a b => ⟨a, b⟩) ?_)))
          refine ar_ rfl rfl rfl (ap_ (p := f) (q := (aE_ (Fc.a f) [33])) rfl rfl) rfl fun r40 hr40 => ?_
          refine j_ rfl (z_ rfl rfl) rfl (j_ rfl (e_ rfl) rfl (J_ (S_ (by kernel_rfl) (b_ rfl (u_ ?_)))))
          refine bN_ ?_
          have hres : r40 = true ↔ ga = aj_ (Fc.a f) (Fc.r ga) (Fc.lo ga) (Fc.hi ga) ∧ gb = aj_ (Fc.a f) (Fc.r ga) (Fc.lo gb) (Fc.hi gb) ∧ (Fc.hi ga < Fc.lo gb ∨ Fc.hi gb < Fc.lo ga) ∧ f = aE_ (Fc.a f) [33] := by
            refine Iff.trans ?_ (and_iff_right hsp0).symm; refine Iff.trans ?_ (and_iff_right hsp1).symm; clear hsp0 hsp1; rw [← hr40]; clear hr40; simp [*]
          exact Y_ aq_ () (s_ rfl (Bool.eq_iff_iff.2 (hres.trans (aJ_ wg wh).symm))) B_ (fun _ _ _ => trivial)
      · skip
        refine ad_ ao_ rfl fun b18 => ?_
        refine d_ (q_ rfl (A_ (fun _ a b => ⟨a.tail.tail, b⟩) (I_ 13 rfl (by kernel_rfl) (al_ (cc_ (Fc.r ga) kn q hkn es ec hE vb ab pv fv x f ga gb lad lcap) rfl B_ (fun v _ h => by exact ⟨h.1, h.2.1, h.2.2.1, trivial⟩) rfl (fun hb => ce_ ((by rw [Bool.eq_false_iff]; intro hq; exact hb ((aJ_ wg wh).1 hq).2.1))) fun ⟨_, hsp1⟩ => ?_))))
        try dsimp only
        refine d_ (q_ rfl (A_ (fun _ a b => ⟨a.tail.tail, b⟩) (I_ 16 rfl (by kernel_rfl) (X_ 0 Z_ rfl rfl rfl rfl rfl rfl (d_ (q_ rfl (A_ (fun _ a b => ⟨a.tail.tail, b⟩) (I_ 17 rfl (by kernel_rfl) (X_ 1 Z_ rfl rfl rfl rfl rfl rfl ?_)))))))))
        refine d_ (q_ rfl (A_ (fun _ a b => ⟨a.tail.tail, b⟩) (S_ (by kernel_rfl) (b_ rfl (g_ ?_)))))
        refine aI_ (by kernel_rfl) ?_
        refine K_ 16 [0, 1, 2, 3, 4, 5] (by kernel_rfl) (fun _ a b => ⟨a, b⟩) (j_ rfl (h_ G_ rfl rfl rfl r_) rfl (j_ rfl (m_ 0 C_ rfl rfl rfl) rfl (j_ rfl (h_ G_ rfl rfl rfl r_) rfl (j_ rfl (m_ 1 C_ rfl rfl rfl) rfl ?_))))
        refine bk_ rfl (au_ rfl rfl) rfl fun r41 hr41 => ?_
        refine j_ rfl (f_ rfl) rfl (J_ ?_)
        cases r41
        · skip
          replace hr41 := of_decide_eq_false hr41
          refine K_ 9 [6, 7, 8, 9, 10, 11, 12] (by kernel_rfl) (fun _ a b => ⟨a, b⟩) (p_ rfl rfl rfl (h_ G_ rfl rfl rfl r_) rfl (p_ rfl rfl rfl (m_ 1 C_ rfl rfl rfl) rfl (p_ rfl rfl rfl (h_ G_ rfl rfl rfl r_) rfl (p_ rfl rfl rfl (m_ 0 C_ rfl rfl rfl) rfl ?_))))
          refine ar_ rfl rfl rfl (au_ rfl rfl) rfl fun r42 hr42 => ?_
          refine j_ rfl (t_ rfl rfl) rfl (j_ rfl (f_ rfl) rfl (J_ ?_))
          cases r42
          · skip
            replace hr42 := of_decide_eq_false hr42
            refine K_ 0 [13, 14, 15, 16, 17, 18, 19, 20, 21] (by kernel_rfl) (fun _ a b => ⟨a, b⟩) (v_ rfl rfl rfl rfl rfl (v_ rfl rfl rfl rfl rfl (v_ rfl rfl rfl rfl rfl (v_ rfl rfl rfl rfl rfl (v_ rfl rfl rfl rfl rfl (v_ rfl rfl rfl rfl rfl (v_ rfl rfl rfl rfl rfl (j_ rfl (t_ rfl rfl) rfl (j_ rfl (e_ rfl) rfl ?_)))))))))
            refine J_ (S_ (by kernel_rfl) (b_ rfl (u_ ?_)))
            refine bN_ ?_
            have hres : false = true ↔ ga = aj_ (Fc.a f) (Fc.r ga) (Fc.lo ga) (Fc.hi ga) ∧ gb = aj_ (Fc.a f) (Fc.r ga) (Fc.lo gb) (Fc.hi gb) ∧ (Fc.hi ga < Fc.lo gb ∨ Fc.hi gb < Fc.lo ga) ∧ f = aE_ (Fc.a f) [33] := by
              refine Iff.trans ?_ (and_iff_right hsp0).symm; refine Iff.trans ?_ (and_iff_right hsp1).symm; clear hsp0 hsp1; simp [*]
            exact Y_ aq_ () (s_ rfl (Bool.eq_iff_iff.2 (hres.trans (aJ_ wg wh).symm))) B_ (fun _ _ _ => trivial)
          · skip
            replace hr42 := of_decide_eq_true hr42
            refine K_ 4 [13, 14, 15, 16, 17] (by kernel_rfl) (fun _ a b => ⟨a, b⟩) (p_ rfl rfl rfl (h_ i_ rfl rfl rfl k_) rfl (p_ rfl rfl rfl (O_ 2 R_ k_ rfl rfl rfl) rfl (p_ rfl rfl rfl (h_ i_ rfl rfl rfl k_) rfl (p_ rfl rfl rfl (h_ o_ rfl rfl rfl x_) rfl (p_ rfl rfl rfl (m_ 2 F_ rfl rfl rfl) rfl (J_ (I_ 18 rfl (by kernel_rfl) (l_ rfl rfl (P_ (by_ (Fc.a f) [33]) rfl B_ (fun _ _ _ => by exact trivial) rfl fun _ => ?_)))))))))
            refine d_ (q_ rfl (A_ (fun _ a b => ⟨a, b⟩) (K_ 0 [19, 20, 21] (by kernel_rfl) (fun _ a b => ⟨a, b⟩) ?_)))
            refine ar_ rfl rfl rfl (ap_ (p := f) (q := (aE_ (Fc.a f) [33])) rfl rfl) rfl fun r43 hr43 => ?_
            refine j_ rfl (z_ rfl rfl) rfl (j_ rfl (e_ rfl) rfl (J_ (S_ (by kernel_rfl) (b_ rfl (u_ ?_)))))
            refine bN_ ?_
            have hres : r43 = true ↔ ga = aj_ (Fc.a f) (Fc.r ga) (Fc.lo ga) (Fc.hi ga) ∧ gb = aj_ (Fc.a f) (Fc.r ga) (Fc.lo gb) (Fc.hi gb) ∧ (Fc.hi ga < Fc.lo gb ∨ Fc.hi gb < Fc.lo ga) ∧ f = aE_ (Fc.a f) [33] := by
              refine Iff.trans ?_ (and_iff_right hsp0).symm; refine Iff.trans ?_ (and_iff_right hsp1).symm; clear hsp0 hsp1; rw [← hr43]; clear hr43; simp [*]
            exact Y_ aq_ () (s_ rfl (Bool.eq_iff_iff.2 (hres.trans (aJ_ wg wh).symm))) B_ (fun _ _ _ => trivial)
        · skip
          replace hr41 := of_decide_eq_true hr41
          refine K_ 4 [6, 7, 8, 9, 10, 11, 12, 13, 14, 15, 16, 17] (by kernel_rfl) (fun _ a b => ⟨a, b⟩) (v_ rfl rfl rfl rfl rfl (v_ rfl rfl rfl rfl rfl (v_ rfl rfl rfl rfl rfl (v_ rfl rfl rfl rfl rfl (v_ rfl rfl rfl rfl rfl (j_ rfl (z_ rfl rfl) rfl (j_ rfl (f_ rfl) rfl (p_ rfl rfl rfl (h_ i_ rfl rfl rfl k_) rfl (p_ rfl rfl rfl (O_ 2 R_ k_ rfl rfl rfl) rfl ?_)))))))))
          refine p_ rfl rfl rfl (h_ i_ rfl rfl rfl k_) rfl (p_ rfl rfl rfl (h_ o_ rfl rfl rfl x_) rfl (p_ rfl rfl rfl (m_ 2 F_ rfl rfl rfl) rfl (J_ (I_ 18 rfl (by kernel_rfl) (l_ rfl rfl (P_ (by_ (Fc.a f) [33]) rfl B_ (fun _ _ _ => by exact trivial) rfl fun _ => ?_))))))
          refine d_ (q_ rfl (A_ (fun _ a b => ⟨a, b⟩) (K_ 0 [19, 20, 21] (by kernel_rfl) (fun _ a b => ⟨a, b⟩) ?_)))
          refine ar_ rfl rfl rfl (ap_ (p := f) (q := (aE_ (Fc.a f) [33])) rfl rfl) rfl fun r44 hr44 => ?_
          refine j_ rfl (z_ rfl rfl) rfl (j_ rfl (e_ rfl) rfl (J_ (S_ (by kernel_rfl) (b_ rfl (u_ ?_)))))
          refine bN_ ?_
          have hres : r44 = true ↔ ga = aj_ (Fc.a f) (Fc.r ga) (Fc.lo ga) (Fc.hi ga) ∧ gb = aj_ (Fc.a f) (Fc.r ga) (Fc.lo gb) (Fc.hi gb) ∧ (Fc.hi ga < Fc.lo gb ∨ Fc.hi gb < Fc.lo ga) ∧ f = aE_ (Fc.a f) [33] := by
            refine Iff.trans ?_ (and_iff_right hsp0).symm; refine Iff.trans ?_ (and_iff_right hsp1).symm; clear hsp0 hsp1; rw [← hr44]; clear hr44; simp [*]
          exact Y_ aq_ () (s_ rfl (Bool.eq_iff_iff.2 (hres.trans (aJ_ wg wh).symm))) B_ (fun _ _ _ => trivial)
    · skip
      refine ad_ ao_ rfl fun b19 => ?_
      refine d_ (q_ rfl (A_ (fun _ a b => ⟨a.tail.tail, b⟩) (I_ 6 rfl (by kernel_rfl) (al_ (dw_ (Fc.r ga) kn q hkn es ec hE vb ab pv fv x f ga gb lad lcap) rfl B_ (fun v _ h => by exact ⟨h.1, h.2.1, h.2.2.1, trivial⟩) rfl (fun hb => ce_ ((by rw [Bool.eq_false_iff]; intro hq; exact hb ((aJ_ wg wh).1 hq).1))) fun ⟨_, hsp0⟩ => ?_))))
      try dsimp only
      refine d_ (q_ rfl (A_ (fun _ a b => ⟨a.tail.tail, b⟩) (I_ 13 rfl (by kernel_rfl) (al_ (cc_ (Fc.r ga) kn q hkn es ec hE vb ab pv fv x f ga gb lad lcap) rfl B_ (fun v _ h => by exact ⟨h.1, h.2.1, h.2.2.1, trivial⟩) rfl (fun hb => ce_ ((by rw [Bool.eq_false_iff]; intro hq; exact hb ((aJ_ wg wh).1 hq).2.1))) fun ⟨_, hsp1⟩ => ?_))))
      try dsimp only
      refine d_ (q_ rfl (A_ (fun _ a b => ⟨a.tail.tail, b⟩) (I_ 16 rfl (by kernel_rfl) (X_ 0 Z_ rfl rfl rfl rfl rfl rfl (d_ (q_ rfl (A_ (fun _ a b => ⟨a.tail.tail, b⟩) (I_ 17 rfl (by kernel_rfl) (X_ 1 Z_ rfl rfl rfl rfl rfl rfl ?_)))))))))
      refine d_ (q_ rfl (A_ (fun _ a b => ⟨a.tail.tail, b⟩) (S_ (by kernel_rfl) (b_ rfl (g_ ?_)))))
      refine aI_ (by kernel_rfl) ?_
      refine K_ 16 [0, 1, 2, 3, 4, 5] (by kernel_rfl) (fun _ a b => ⟨a, b⟩) (j_ rfl (h_ G_ rfl rfl rfl r_) rfl (j_ rfl (m_ 0 C_ rfl rfl rfl) rfl (j_ rfl (h_ G_ rfl rfl rfl r_) rfl (j_ rfl (m_ 1 C_ rfl rfl rfl) rfl ?_))))
      refine bk_ rfl (au_ rfl rfl) rfl fun r45 hr45 => ?_
      refine j_ rfl (f_ rfl) rfl (J_ ?_)
      cases r45
      · skip
        replace hr45 := of_decide_eq_false hr45
        refine K_ 9 [6, 7, 8, 9, 10, 11, 12] (by kernel_rfl) (fun _ a b => ⟨a, b⟩) (p_ rfl rfl rfl (h_ G_ rfl rfl rfl r_) rfl (p_ rfl rfl rfl (m_ 1 C_ rfl rfl rfl) rfl (p_ rfl rfl rfl (h_ G_ rfl rfl rfl r_) rfl (p_ rfl rfl rfl (m_ 0 C_ rfl rfl rfl) rfl ?_))))
        refine ar_ rfl rfl rfl (au_ rfl rfl) rfl fun r46 hr46 => ?_
        refine j_ rfl (t_ rfl rfl) rfl (j_ rfl (f_ rfl) rfl (J_ ?_))
        cases r46
        · skip
          replace hr46 := of_decide_eq_false hr46
          refine K_ 0 [13, 14, 15, 16, 17, 18, 19, 20, 21] (by kernel_rfl) (fun _ a b => ⟨a, b⟩) (v_ rfl rfl rfl rfl rfl (v_ rfl rfl rfl rfl rfl (v_ rfl rfl rfl rfl rfl (v_ rfl rfl rfl rfl rfl (v_ rfl rfl rfl rfl rfl (v_ rfl rfl rfl rfl rfl (v_ rfl rfl rfl rfl rfl (j_ rfl (t_ rfl rfl) rfl (j_ rfl (e_ rfl) rfl ?_)))))))))
          refine J_ (S_ (by kernel_rfl) (b_ rfl (u_ ?_)))
          refine bN_ ?_
          have hres : false = true ↔ ga = aj_ (Fc.a f) (Fc.r ga) (Fc.lo ga) (Fc.hi ga) ∧ gb = aj_ (Fc.a f) (Fc.r ga) (Fc.lo gb) (Fc.hi gb) ∧ (Fc.hi ga < Fc.lo gb ∨ Fc.hi gb < Fc.lo ga) ∧ f = aE_ (Fc.a f) [33] := by
            refine Iff.trans ?_ (and_iff_right hsp0).symm; refine Iff.trans ?_ (and_iff_right hsp1).symm; clear hsp0 hsp1; simp [*]
          exact Y_ aq_ () (s_ rfl (Bool.eq_iff_iff.2 (hres.trans (aJ_ wg wh).symm))) B_ (fun _ _ _ => trivial)
        · skip
          replace hr46 := of_decide_eq_true hr46
          refine K_ 4 [13, 14, 15, 16, 17] (by kernel_rfl) (fun _ a b => ⟨a, b⟩) (p_ rfl rfl rfl (h_ i_ rfl rfl rfl k_) rfl (p_ rfl rfl rfl (O_ 2 R_ k_ rfl rfl rfl) rfl (p_ rfl rfl rfl (h_ i_ rfl rfl rfl k_) rfl (p_ rfl rfl rfl (h_ o_ rfl rfl rfl x_) rfl (p_ rfl rfl rfl (m_ 2 F_ rfl rfl rfl) rfl (J_ (I_ 18 rfl (by kernel_rfl) (l_ rfl rfl (P_ (by_ (Fc.a f) [33]) rfl B_ (fun _ _ _ => by exact trivial) rfl fun _ => ?_)))))))))
          refine d_ (q_ rfl (A_ (fun _ a b => ⟨a, b⟩) (K_ 0 [19, 20, 21] (by kernel_rfl) (fun _ a b => ⟨a, b⟩) ?_)))
          refine ar_ rfl rfl rfl (ap_ (p := f) (q := (aE_ (Fc.a f) [33])) rfl rfl) rfl fun r47 hr47 => ?_
          refine j_ rfl (z_ rfl rfl) rfl (j_ rfl (e_ rfl) rfl (J_ (S_ (by kernel_rfl) (b_ rfl (u_ ?_)))))
          refine bN_ ?_
          have hres : r47 = true ↔ ga = aj_ (Fc.a f) (Fc.r ga) (Fc.lo ga) (Fc.hi ga) ∧ gb = aj_ (Fc.a f) (Fc.r ga) (Fc.lo gb) (Fc.hi gb) ∧ (Fc.hi ga < Fc.lo gb ∨ Fc.hi gb < Fc.lo ga) ∧ f = aE_ (Fc.a f) [33] := by
            refine Iff.trans ?_ (and_iff_right hsp0).symm; refine Iff.trans ?_ (and_iff_right hsp1).symm; clear hsp0 hsp1; rw [← hr47]; clear hr47; simp [*]
          exact Y_ aq_ () (s_ rfl (Bool.eq_iff_iff.2 (hres.trans (aJ_ wg wh).symm))) B_ (fun _ _ _ => trivial)
      · skip
        replace hr45 := of_decide_eq_true hr45
        refine K_ 4 [6, 7, 8, 9, 10, 11, 12, 13, 14, 15, 16, 17] (by kernel_rfl) (fun _ a b => ⟨a, b⟩) (v_ rfl rfl rfl rfl rfl (v_ rfl rfl rfl rfl rfl (v_ rfl rfl rfl rfl rfl (v_ rfl rfl rfl rfl rfl (v_ rfl rfl rfl rfl rfl (j_ rfl (z_ rfl rfl) rfl (j_ rfl (f_ rfl) rfl (p_ rfl rfl rfl (h_ i_ rfl rfl rfl k_) rfl (p_ rfl rfl rfl (O_ 2 R_ k_ rfl rfl rfl) rfl ?_)))))))))
        refine p_ rfl rfl rfl (h_ i_ rfl rfl rfl k_) rfl (p_ rfl rfl rfl (h_ o_ rfl rfl rfl x_) rfl (p_ rfl rfl rfl (m_ 2 F_ rfl rfl rfl) rfl (J_ (I_ 18 rfl (by kernel_rfl) (l_ rfl rfl (P_ (by_ (Fc.a f) [33]) rfl B_ (fun _ _ _ => by exact trivial) rfl fun _ => ?_))))))
        refine d_ (q_ rfl (A_ (fun _ a b => ⟨a, b⟩) (K_ 0 [19, 20, 21] (by kernel_rfl) (fun _ a b => ⟨a, b⟩) ?_)))
        refine ar_ rfl rfl rfl (ap_ (p := f) (q := (aE_ (Fc.a f) [33])) rfl rfl) rfl fun r48 hr48 => ?_
        refine j_ rfl (z_ rfl rfl) rfl (j_ rfl (e_ rfl) rfl (J_ (S_ (by kernel_rfl) (b_ rfl (u_ ?_)))))
        refine bN_ ?_
        have hres : r48 = true ↔ ga = aj_ (Fc.a f) (Fc.r ga) (Fc.lo ga) (Fc.hi ga) ∧ gb = aj_ (Fc.a f) (Fc.r ga) (Fc.lo gb) (Fc.hi gb) ∧ (Fc.hi ga < Fc.lo gb ∨ Fc.hi gb < Fc.lo ga) ∧ f = aE_ (Fc.a f) [33] := by
          refine Iff.trans ?_ (and_iff_right hsp0).symm; refine Iff.trans ?_ (and_iff_right hsp1).symm; clear hsp0 hsp1; rw [← hr48]; clear hr48; simp [*]
        exact Y_ aq_ () (s_ rfl (Bool.eq_iff_iff.2 (hres.trans (aJ_ wg wh).symm))) B_ (fun _ _ _ => trivial)
set_option maxHeartbeats 1000000 in
theorem na_ (kn : Str → Bool) (q : List Str) (hkn : ∀ s, kn s = true ↔ s ∈ q) (es : Array MapEntry) (ec : Nat) (hE : SetE str es q) (vb ab : Nat) (pv fv : Value) (x : Pc) (f ga : Fc) (lad : Option Addr) (lcap : Nat) (wg : wf2 ga = true) (hxo : -1099511627776 ≤ x.lo ∧ x.lo ≤ x.hi ∧ x.hi ≤ 1099511627776) : TriX Tryz.prog 143 #[.agg #[zp_ vb 0, .int .i64 (Fc.kind f), str (Fc.a f), str (Fc.b f), str (Fc.r f), .int .i64 (Fc.lo f), .int .i64 (Fc.hi f), .slice lad (List.length [ga]) lcap, .int .i64 (Pc.kind x), str (Pc.a x), str (Pc.b x), str (Pc.c x), str (Pc.r x), str (Pc.s x), str (Pc.t x), .int .i64 (Pc.lo x), .int .i64 (Pc.hi x), .int .i64 (Pc.frm x)]] [] [bV_ vb (.cells (cC_ pv ab fv).toArray 83 (0, 0)), bV_ ab (.map es ec), aR_ lad (List.flatMap Fc.cells [ga])] (fun _ : Unit => .bool (jV_ kn x f ga zfc)) (fun _ => []) (fun _ => []) (jV_ kn x f ga zfc = false) := by
  refine bd_ Tryz.func143 rfl rfl Tryz.ntmps143 rfl fun v0 => ?_
  refine g_ (c_ (aL_ rfl rfl fun b1 => ?_))
  refine a_ (e_ rfl) rfl (d_ (b_ rfl (g_ (c_ (a_ (O_ 0 iX_ hd_ rfl rfl rfl) rfl (a_ (h_ i_ rfl rfl rfl ai_) rfl (a_ (h_ M_ rfl rfl rfl x_) rfl (a_ (m_ 0 F_ rfl rfl rfl) rfl (al_ (im_ (Pc.r x) kn q hkn es ec hE vb ab pv fv x f ga lad lcap) rfl B_ (fun v _ h => by exact ⟨h.1, h.2.1, h.2.2.1, trivial⟩) rfl (fun hb => ce_ ((by rw [Bool.eq_false_iff]; intro hq; exact hb ((hD_ wg).1 hq).1))) fun ⟨_, hsp0⟩ => ?_)))))))))
  try dsimp only
  refine ad_ ao_ rfl fun b2 => ?_
  refine X_ 0 Z_ rfl rfl rfl rfl rfl rfl (d_ (b_ rfl (g_ ?_)))
  refine aI_ (by kernel_rfl) ?_
  refine K_ 14 [0, 1, 2, 3, 4, 5, 6, 7] (by kernel_rfl) (fun _ a b => ⟨a, b⟩) (j_ rfl (O_ 0 bU_ Z_ rfl rfl rfl) rfl (j_ rfl (h_ i_ rfl rfl rfl ai_) rfl (j_ rfl (h_ M_ rfl rfl rfl r_) rfl (j_ rfl (m_ 1 C_ rfl rfl rfl) rfl (j_ rfl (h_ i_ rfl rfl rfl ai_) rfl (j_ rfl (h_ M_ rfl rfl rfl r_) rfl (j_ rfl (m_ 1 C_ rfl rfl rfl) rfl (j_ rfl (ax_ eH_ rfl rfl) rfl (J_ ?_)))))))))
  refine I_ 8 rfl (by kernel_rfl) (af_ (gV_ (Fc.lo ga) (Fc.hi ga) (Pc.lo x) (Pc.hi x) (db_ wg (cN_ hsp0).1) hxo) rfl B_ (fun _ _ _ => by exact trivial) rfl fun r1 hr1 => ?_)
  refine d_ (q_ rfl (A_ (fun _ a b => ⟨a, b⟩) (K_ 12 [9] (by kernel_rfl) (fun _ a b => ⟨a, b⟩) (j_ rfl (f_ rfl) rfl (J_ ?_)))))
  cases r1
  · skip
    replace hr1 := of_decide_eq_false hr1
    refine K_ 0 [10, 11, 12, 13, 14, 15, 16, 17, 18, 19, 20, 21] (by kernel_rfl) (fun _ a b => ⟨a, b⟩) (v_ rfl rfl rfl rfl rfl (v_ rfl rfl rfl rfl rfl (v_ rfl rfl rfl rfl rfl (v_ rfl rfl rfl rfl rfl (v_ rfl rfl rfl rfl rfl (v_ rfl rfl rfl rfl rfl (v_ rfl rfl rfl rfl rfl (v_ rfl rfl rfl rfl rfl (v_ rfl rfl rfl rfl rfl ?_)))))))))
    refine v_ rfl rfl rfl rfl rfl (j_ rfl (t_ rfl rfl) rfl (j_ rfl (e_ rfl) rfl (J_ (S_ (by kernel_rfl) (b_ rfl (u_ ?_))))))
    refine bN_ ?_
    have hres : false = true ↔ ga = aj_ (Fc.a f) (Pc.r x) (Fc.lo ga) (Fc.hi ga) ∧ (Pc.lo x ≤ Fc.lo ga ∧ Fc.hi ga ≤ Pc.hi x) ∧ f = aE_ (Fc.a f) (Pc.c x) := by
      refine Iff.trans ?_ (and_iff_right hsp0).symm; clear hsp0; simp [*]
    exact Y_ Tryz.results143 () (s_ rfl (Bool.eq_iff_iff.2 (hres.trans (hD_ wg).symm))) B_ (fun _ _ _ => trivial)
  · skip
    replace hr1 := of_decide_eq_true hr1
    refine K_ 4 [10, 11, 12, 13, 14, 15, 16, 17] (by kernel_rfl) (fun _ a b => ⟨a, b⟩) (p_ rfl rfl rfl (h_ i_ rfl rfl rfl k_) rfl (p_ rfl rfl rfl (O_ 1 R_ k_ rfl rfl rfl) rfl (p_ rfl rfl rfl (h_ i_ rfl rfl rfl k_) rfl (p_ rfl rfl rfl (h_ o_ rfl rfl rfl x_) rfl (p_ rfl rfl rfl (m_ 1 F_ rfl rfl rfl) rfl (p_ rfl rfl rfl (h_ i_ rfl rfl rfl ai_) rfl (p_ rfl rfl rfl (h_ M_ rfl rfl rfl x_) rfl (p_ rfl rfl rfl (m_ 1 F_ rfl rfl rfl) rfl (J_ ?_)))))))))
    refine I_ 18 rfl (by kernel_rfl) (l_ rfl rfl (P_ (by_ (Fc.a f) (Pc.c x)) rfl B_ (fun _ _ _ => by exact trivial) rfl fun _ => ?_))
    refine d_ (q_ rfl (A_ (fun _ a b => ⟨a, b⟩) (K_ 0 [19, 20, 21] (by kernel_rfl) (fun _ a b => ⟨a, b⟩) ?_)))
    refine ar_ rfl rfl rfl (ap_ (p := f) (q := (aE_ (Fc.a f) (Pc.c x))) rfl rfl) rfl fun r2 hr2 => ?_
    refine j_ rfl (z_ rfl rfl) rfl (j_ rfl (e_ rfl) rfl (J_ (S_ (by kernel_rfl) (b_ rfl (u_ ?_)))))
    refine bN_ ?_
    have hres : r2 = true ↔ ga = aj_ (Fc.a f) (Pc.r x) (Fc.lo ga) (Fc.hi ga) ∧ (Pc.lo x ≤ Fc.lo ga ∧ Fc.hi ga ≤ Pc.hi x) ∧ f = aE_ (Fc.a f) (Pc.c x) := by
      refine Iff.trans ?_ (and_iff_right hsp0).symm; clear hsp0; rw [← hr2]; clear hr2; simp [*]
    exact Y_ Tryz.results143 () (s_ rfl (Bool.eq_iff_iff.2 (hres.trans (hD_ wg).symm))) B_ (fun _ _ _ => trivial)
set_option maxHeartbeats 1000000 in
theorem mY_ (kn : Str → Bool) (q : List Str) (hkn : ∀ s, kn s = true ↔ s ∈ q) (es : Array MapEntry) (ec : Nat) (hE : SetE str es q) (vb ab : Nat) (pv fv : Value) (x : Pc) (f ga : Fc) (lad : Option Addr) (lcap : Nat) (wg : wf2 ga = true) (wf : wf2 f = true) : TriX Tryz.prog 145 #[.agg #[zp_ vb 0, .int .i64 (Fc.kind f), str (Fc.a f), str (Fc.b f), str (Fc.r f), .int .i64 (Fc.lo f), .int .i64 (Fc.hi f), .slice lad (List.length [ga]) lcap, .int .i64 (Pc.kind x), str (Pc.a x), str (Pc.b x), str (Pc.c x), str (Pc.r x), str (Pc.s x), str (Pc.t x), .int .i64 (Pc.lo x), .int .i64 (Pc.hi x), .int .i64 (Pc.frm x)]] [] [bV_ vb (.cells (cC_ pv ab fv).toArray 83 (0, 0)), bV_ ab (.map es ec), aR_ lad (List.flatMap Fc.cells [ga])] (fun _ : Unit => .bool (jU_ kn x f ga zfc)) (fun _ => []) (fun _ => []) (jU_ kn x f ga zfc = false) := by
  refine bd_ Tryz.func145 rfl rfl Tryz.ntmps145 rfl fun v0 => ?_
  refine g_ (c_ (aL_ rfl rfl fun b1 => ?_))
  refine a_ (e_ rfl) rfl (d_ (b_ rfl (g_ (c_ (a_ (O_ 0 iX_ hd_ rfl rfl rfl) rfl (a_ (h_ i_ rfl rfl rfl k_) rfl (a_ (h_ o_ rfl rfl rfl x_) rfl (a_ (m_ 0 F_ rfl rfl rfl) rfl (al_ (im_ (Fc.r f) kn q hkn es ec hE vb ab pv fv x f ga lad lcap) rfl B_ (fun v _ h => by exact ⟨h.1, h.2.1, h.2.2.1, trivial⟩) rfl (fun hb => ce_ ((by rw [Bool.eq_false_iff]; intro hq; exact hb ((hC_ wf wg).1 hq).1))) fun ⟨_, hsp0⟩ => ?_)))))))))
  try dsimp only
  refine ad_ ao_ rfl fun b2 => ?_
  refine X_ 0 Z_ rfl rfl rfl rfl rfl rfl (d_ (b_ rfl (g_ (c_ (a_ (h_ i_ rfl rfl rfl k_) rfl (a_ (h_ o_ rfl rfl rfl r_) rfl (a_ (m_ 1 C_ rfl rfl rfl) rfl (E_ (aC_ rfl rfl) rfl fun r1 hr1 => ?_))))))))
  refine a_ (f_ rfl) rfl ?_
  cases r1
  · skip
    replace hr1 := ne_of_beq_false hr1
    refine n_ rfl rfl rfl rfl (n_ rfl rfl rfl rfl (n_ rfl rfl rfl rfl (n_ rfl rfl rfl rfl (n_ rfl rfl rfl rfl (n_ rfl rfl rfl rfl (n_ rfl rfl rfl rfl (n_ rfl rfl rfl rfl (n_ rfl rfl rfl rfl (a_ (t_ rfl rfl) rfl ?_)))))))))
    refine a_ (e_ rfl) rfl (d_ (b_ rfl (u_ ?_)))
    refine bN_ ?_
    have hres : false = true ↔ ga = aj_ (Fc.a f) (Fc.r f) (Fc.lo ga) (Fc.hi ga) ∧ f.kind = 3 ∧ (Fc.lo f ≤ Fc.lo ga ∧ Fc.hi ga ≤ Fc.hi f) := by
      refine Iff.trans ?_ (and_iff_right hsp0).symm; clear hsp0; simp [*]
    exact Y_ Tryz.results145 () (s_ rfl (Bool.eq_iff_iff.2 (hres.trans (hC_ wf wg).symm))) B_ (fun _ _ _ => trivial)
  · skip
    replace hr1 := eq_of_beq hr1
    refine l_ rfl rfl (a_ (O_ 0 bU_ Z_ rfl rfl rfl) rfl (l_ rfl rfl (a_ (h_ i_ rfl rfl rfl k_) rfl (l_ rfl rfl (a_ (h_ o_ rfl rfl rfl r_) rfl (l_ rfl rfl (a_ (m_ 1 C_ rfl rfl rfl) rfl (l_ rfl rfl (a_ (h_ i_ rfl rfl rfl k_) rfl ?_)))))))))
    refine l_ rfl rfl (a_ (h_ o_ rfl rfl rfl r_) rfl (l_ rfl rfl (a_ (m_ 1 C_ rfl rfl rfl) rfl (l_ rfl rfl (a_ (ax_ eH_ rfl rfl) rfl (l_ rfl rfl (af_ (gV_ (Fc.lo ga) (Fc.hi ga) (Fc.lo f) (Fc.hi f) (db_ wg (cN_ hsp0).1) (db_ wf (by first | assumption | omega))) rfl B_ (fun _ _ _ => by exact trivial) rfl fun r2 hr2 => ?_)))))))
    refine a_ (z_ rfl rfl) rfl (a_ (e_ rfl) rfl (d_ (b_ rfl (u_ ?_))))
    refine bN_ ?_
    have hres : r2 = true ↔ ga = aj_ (Fc.a f) (Fc.r f) (Fc.lo ga) (Fc.hi ga) ∧ f.kind = 3 ∧ (Fc.lo f ≤ Fc.lo ga ∧ Fc.hi ga ≤ Fc.hi f) := by
      refine Iff.trans ?_ (and_iff_right hsp0).symm; clear hsp0; rw [← hr2]; clear hr2; simp [*]
    exact Y_ Tryz.results145 () (s_ rfl (Bool.eq_iff_iff.2 (hres.trans (hC_ wf wg).symm))) B_ (fun _ _ _ => trivial)
end Go.Proofs.YtaffcjgphlhppaaGreatDoor
