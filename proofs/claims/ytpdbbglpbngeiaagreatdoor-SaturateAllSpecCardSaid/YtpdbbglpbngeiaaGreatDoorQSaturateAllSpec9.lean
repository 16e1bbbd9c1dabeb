/-
  Part of the proof of the law SaturateAllSpec over this seat: the small logic, the data, the contracts of functions (no condition).
-/
import Derived.Test.YtpdbbglpbngeiaaGreatDoorQSaturateAllSpec8
set_option linter.unusedVariables false
set_option linter.unusedSimpArgs false
set_option linter.unusedSectionVars false
namespace Go.Proofs.YtpdbbglpbngeiaaGreatDoor
open Go Go.Sx Go.Proofs
attribute [local irreducible] Code.wp wpList wpAnyH
open Go.Vs
theorem on_ (p : List Pc) (pad : Option Addr) (pcap : Nat) (hsm : ∀ x ∈ p, x.sm) (hp : p.length ≤ 100) : Tri Tryz.prog 17 #[.slice pad (List.length p) pcap] [] [aD_ pad (List.flatMap Pc.cells p)] (fun b : Bool => .bool b) (fun _ => []) (fun _ => []) := by
  refine S_ Tryz.func17 rfl rfl Tryz.ntmps17 rfl fun v0 => ?_
  refine h_ (d_ (a_ (g_ rfl) rfl (e_ (b_ rfl (h_ (d_ (a_ (f_ rfl) rfl (W_ (mB_ p pad pcap 1000 hsm (by omega)) rfl J_ (fun v _ h => by exact ⟨h.1, trivial⟩) rfl fun ⟨⟨c1, e1⟩, hA1⟩ => ?_))))))))
  dsimp only
  dsimp only at hA1
  refine a_ (f_ rfl) rfl (a_ (av_ rfl rfl) rfl (a_ (av_ rfl rfl) rfl (ar_ cn_ rfl fun b1 => ?_)))
  refine V_ 0 ak_ rfl rfl rfl rfl rfl rfl (a_ (g_ rfl) rfl (e_ (b_ rfl (h_ (d_ (a_ (f_ rfl) rfl (y_ (cz_ rfl rfl) rfl fun r1 hr1 => ?_)))))))
  refine a_ (g_ rfl) rfl (e_ (b_ rfl (H_ ?_)))
  exact at_ Tryz.results17 r1 rfl J_ (fun _ _ _ => trivial)
set_option maxHeartbeats 1000000 in
theorem oX_ (p : List Pc) (pad : Option Addr) (pcap : Nat) (bu : Int) (hp : p.length ≤ 1099511627744) (hbig : ∀ x ∈ p, x.big) : Tri Tryz.prog 3 #[.slice pad (List.length p) pcap, .int .i64 bu] [] [aD_ pad (List.flatMap Pc.cells p), hc_] (fun _ : Unit => .bool true) (fun _ => []) (fun _ => []) := by
 refine S_ Tryz.func3 rfl rfl Tryz.ntmps3 rfl fun v0 => ?_
 refine h_ (d_ (a_ (g_ rfl) rfl (e_ (b_ rfl (h_ (h_ (d_ (W_ (oY_) rfl J_ (fun v _ h => by exact ⟨h.2.1, trivial⟩) rfl fun _ => ?_))))))))
 refine a_ (bV_ rfl) rfl (e_ (b_ rfl (v_ rfl (E_ (b_ rfl (h_ (h_ (d_ (a_ (f_ rfl) rfl ?_)))))))))
 refine W_ (qO_ p pad pcap hp hbig) rfl J_ (fun v _ h => by exact ⟨h.1, trivial⟩) rfl fun ⟨sb, hsb⟩ => ?_
 dsimp only
 refine a_ (bV_ rfl) rfl (a_ (f_ rfl) rfl ?_)
 cases sb
 ·
  refine t_ rfl rfl rfl rfl (t_ rfl rfl rfl rfl (t_ rfl rfl rfl rfl (t_ rfl rfl rfl rfl (t_ rfl rfl rfl rfl (t_ rfl rfl rfl rfl (t_ rfl rfl rfl rfl (a_ (F_ rfl rfl) rfl (e_ (b_ rfl ?_)))))))))
  refine u_ rfl (h_ (d_ (a_ (g_ rfl) rfl (e_ (b_ rfl (H_ ?_))))))
  exact at_ Tryz.results3 () rfl J_ (fun _ _ _ => trivial)
 ·
  obtain ⟨hl40, hsm⟩ := hsb rfl
  refine r_ rfl rfl (a_ (f_ rfl) rfl (r_ rfl rfl (y_ (cg_ rfl rfl) rfl fun r1 hr1 => ?_)))
  refine r_ rfl rfl (a_ (f_ rfl) rfl ?_)
  cases r1
  ·
   replace hr1 := of_decide_eq_false hr1
   refine t_ rfl rfl rfl rfl (t_ rfl rfl rfl rfl (t_ rfl rfl rfl rfl (r_ rfl rfl (a_ (C_ rfl rfl) rfl (a_ (C_ rfl rfl) rfl (e_ (b_ rfl (v_ rfl (E_ ?_)))))))))
   refine b_ rfl (h_ (d_ (a_ (f_ rfl) rfl (a_ (f_ rfl) rfl (W_ (mm_ p pad pcap bu hsm (by omega)) rfl J_ (fun v _ h => by exact ⟨h.1, h.2.1, trivial⟩) rfl fun ⟨⟨c1, e1⟩, hA1⟩ => ?_)))))
   dsimp only
   dsimp only at hA1
   refine a_ (f_ rfl) rfl (a_ (av_ rfl rfl) rfl (a_ (av_ rfl rfl) rfl (ar_ cn_ rfl fun b1 => ?_)))
   refine V_ 0 ak_ rfl rfl rfl rfl rfl rfl (a_ (g_ rfl) rfl (e_ (b_ rfl (h_ (d_ (a_ (f_ rfl) rfl (a_ (f_ rfl) rfl (W_ (mB_ p pad pcap bu hsm (by omega)) rfl J_ (fun v _ h => by exact ⟨h.2.2.1, trivial⟩) rfl fun ⟨⟨c2, e2⟩, hA2⟩ => ?_))))))))
   dsimp only
   dsimp only at hA2
   obtain ⟨hs1, hs2, hs3⟩ := kz_ hA1 hA2
   have hl1 := hA1.len
   have hl2 := hA2.len
   refine a_ (f_ rfl) rfl (a_ (av_ rfl rfl) rfl (a_ (av_ rfl rfl) rfl (ar_ cn_ rfl fun b2 => ?_)))
   refine V_ 0 ak_ rfl rfl rfl rfl rfl rfl (a_ (g_ rfl) rfl (e_ (b_ rfl (h_ (d_ (a_ (Y_ 1 aX_ ak_ rfl rfl rfl) rfl (a_ (Y_ 0 aX_ ak_ rfl rfl rfl) rfl (ax_ (nf_ c1 c2 (by omega) (by omega) (by omega) (by omega)) rfl J_ (fun v _ h => by exact ⟨h.2.2.1, h.2.2.2.1, h.1, h.2.1, trivial⟩) rfl fun r2 hr2 => ?_))))))))
   refine a_ (f_ rfl) rfl ?_
   cases r2
   ·
    simp at hr2
    simp [hs1, hs2] at hr2
   ·
    simp at hr2
    refine r_ rfl rfl (a_ (f_ rfl) rfl (r_ rfl rfl (a_ (f_ rfl) rfl (r_ rfl rfl (y_ (aG_ rfl rfl) rfl fun r3 hr3 => ?_)))))
    refine a_ (F_ rfl rfl) rfl (a_ (g_ rfl) rfl (e_ (b_ rfl (H_ ?_))))
    exact at_ Tryz.results3 () (z_ rfl (by rw [← hr3]; exact beq_iff_eq.2 (by first | assumption | rfl))) J_ (fun _ _ _ => trivial)
  ·
   replace hr1 := of_decide_eq_true hr1
   refine r_ rfl rfl (a_ (f_ rfl) rfl (r_ rfl rfl (W_ (on_ p pad pcap hsm (by omega)) rfl J_ (fun v _ h => by exact ⟨h.1, trivial⟩) rfl fun lb => ?_)))
   refine r_ rfl rfl (a_ (bV_ rfl) rfl (r_ rfl rfl (a_ (F_ rfl rfl) rfl (a_ (C_ rfl rfl) rfl (e_ (b_ rfl ?_))))))
   cases lb
   ·
    refine u_ rfl (h_ (d_ (a_ (g_ rfl) rfl (e_ (b_ rfl (H_ ?_))))))
    exact at_ Tryz.results3 () rfl J_ (fun _ _ _ => trivial)
   ·
    refine v_ rfl (E_ (b_ rfl (h_ (d_ (a_ (f_ rfl) rfl (a_ (f_ rfl) rfl (W_ (mm_ p pad pcap bu hsm (by omega)) rfl J_ (fun v _ h => by exact ⟨h.1, h.2.1, trivial⟩) rfl fun ⟨⟨c1, e1⟩, hA1⟩ => ?_)))))))
    dsimp only
    dsimp only at hA1
    refine a_ (f_ rfl) rfl (a_ (av_ rfl rfl) rfl (a_ (av_ rfl rfl) rfl (ar_ cn_ rfl fun b3 => ?_)))
    refine V_ 0 ak_ rfl rfl rfl rfl rfl rfl (a_ (g_ rfl) rfl (e_ (b_ rfl (h_ (d_ (a_ (f_ rfl) rfl (a_ (f_ rfl) rfl (W_ (mB_ p pad pcap bu hsm (by omega)) rfl J_ (fun v _ h => by exact ⟨h.2.2.1, trivial⟩) rfl fun ⟨⟨c2, e2⟩, hA2⟩ => ?_))))))))
    dsimp only
    dsimp only at hA2
    obtain ⟨hs1, hs2, hs3⟩ := kz_ hA1 hA2
    have hl1 := hA1.len
    have hl2 := hA2.len
    refine a_ (f_ rfl) rfl (a_ (av_ rfl rfl) rfl (a_ (av_ rfl rfl) rfl (ar_ cn_ rfl fun b4 => ?_)))
    refine V_ 0 ak_ rfl rfl rfl rfl rfl rfl (a_ (g_ rfl) rfl (e_ (b_ rfl (h_ (d_ (a_ (Y_ 1 aX_ ak_ rfl rfl rfl) rfl (a_ (Y_ 0 aX_ ak_ rfl rfl rfl) rfl (ax_ (nf_ c1 c2 (by omega) (by omega) (by omega) (by omega)) rfl J_ (fun v _ h => by exact ⟨h.2.2.1, h.2.2.2.1, h.1, h.2.1, trivial⟩) rfl fun r4 hr4 => ?_))))))))
    refine a_ (f_ rfl) rfl ?_
    cases r4
    ·
     simp at hr4
     simp [hs1, hs2] at hr4
    ·
     simp at hr4
     refine r_ rfl rfl (a_ (f_ rfl) rfl (r_ rfl rfl (a_ (f_ rfl) rfl (r_ rfl rfl (y_ (aG_ rfl rfl) rfl fun r5 hr5 => ?_)))))
     refine a_ (F_ rfl rfl) rfl (a_ (g_ rfl) rfl (e_ (b_ rfl (H_ ?_))))
     exact at_ Tryz.results3 () (z_ rfl (by rw [← hr5]; exact beq_iff_eq.2 (by first | assumption | rfl))) J_ (fun _ _ _ => trivial)
end Go.Proofs.YtpdbbglpbngeiaaGreatDoor
