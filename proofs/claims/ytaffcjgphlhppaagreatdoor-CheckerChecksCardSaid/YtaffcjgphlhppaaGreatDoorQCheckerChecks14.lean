/-
  Part of the proof of the law CheckerChecks over this seat: the small logic, the data, the contracts of functions (no condition).
-/
import Derived.Test.YtaffcjgphlhppaaGreatDoorQCheckerChecks13
import Derived.Test.YtaffcjgphlhppaaGreatDoorQCheckerChecks8
set_option linter.unusedVariables false
set_option linter.unusedSimpArgs false
set_option linter.unusedSectionVars false
namespace Go.Proofs.YtaffcjgphlhppaaGreatDoor
open Go Go.Sx Go.Proofs
attribute [local irreducible] Code.wp wpList wpAnyH
open Go.Vs
theorem lm_ {α : Type} {l : List α} {i : Nat} {x : α} {P : α → Prop} (h : ∀ z ∈ List.take i l, P z) (hx : l[i]? = some x) (hp : P x) : ∀ z ∈ List.take (i + 1) l, P z := fun z hz => by
  rw [List.take_add_one, hx] at hz
  rcases List.mem_append.1 hz with hz | hz
  · exact h z hz
  · simp only [Option.toList_some, List.mem_singleton] at hz; subst hz; exact hp
theorem in_ (a b : Str) : Fn0 Tryz.prog 29 #[str a, str b] (Fc.val (aJ_ a b)) := by
  refine V_ Tryz.func29 rfl rfl Tryz.ntmps29 rfl fun v0 => ?_
  refine g_ (c_ (am_ bc_ rfl fun b1 => ?_))
  refine d_ (b_ rfl (g_ (c_ (a_ (f_ rfl) rfl (a_ (f_ rfl) rfl (a_ (ax_ dK_ rfl rfl) rfl (W_ 0 n_ rfl rfl rfl rfl rfl rfl (d_ (b_ rfl ?_)))))))))
  refine y_ ?_
  exact fI_ () (fun aa v h1 h2 => co_ (us := Fc.cells (aJ_ a b)) 0 Tryz.results29 N_ n_ rfl rfl rfl aa v h1 h2) D_ (fun _ _ _ => trivial)
theorem jf_ (a r b : Str) : Fn0 Tryz.prog 28 #[str a, str r, str b] (Fc.val (bw_ a r b)) := by
  refine V_ Tryz.func28 rfl rfl Tryz.ntmps28 rfl fun v0 => ?_
  refine g_ (c_ (am_ bc_ rfl fun b1 => ?_))
  refine d_ (b_ rfl (g_ (c_ (a_ (f_ rfl) rfl (a_ (f_ rfl) rfl (a_ (f_ rfl) rfl (a_ (ax_ dK_ rfl rfl) rfl (W_ 0 n_ rfl rfl rfl rfl rfl rfl (d_ ?_)))))))))
  refine b_ rfl (y_ ?_)
  exact fI_ () (fun aa v h1 h2 => co_ (us := Fc.cells (bw_ a r b)) 0 Tryz.results28 N_ n_ rfl rfl rfl aa v h1 h2) D_ (fun _ _ _ => trivial)
theorem nA_ : gW_ Tryz.prog 36 [(0, 1), (1, 6), (7, 1), (8, 1)] [.int .i64 0, .int .i64 0, str [], str [], str [], .int .i64 0, .int .i64 0, .int .i64 0, .slice none 0 0] := ⟨_, bx_, K_, fun w => by simp [w_, n_, aY_]⟩
theorem gy_ (k : Int) (f : Fc) (l : List Int) (fad : Option Addr) (fcap : Nat) (fs : List Fc) (gad : Option Addr) (gcap : Nat) (w : Int) (hfl : fs.length ≤ 10000000) (hfr : l.length ≤ 1000000) (hfs : ∀ x ∈ fs, x.sml) (hsf : f.sml) (hw : (if dH_ [] fs (Stp.mk k f (-1) none 0 l) = true then 0 else 120) = w) : Tri Tryz.prog 30 #[.int .i64 k, Fc.val f, .slice fad (List.length l) fcap, .slice gad (List.length fs) gcap, .int .i64 w] [] [aW_ fad (List.flatMap df_ l), aW_ gad (List.flatMap Fc.cells fs), jA_] (fun _ : Unit => .bool true) (fun _ => []) (fun _ => []) := by
  refine V_ Tryz.func30 rfl rfl Tryz.ntmps30 rfl fun v0 => ?_
  refine g_ (c_ (aO_ rfl rfl fun b1 => ?_))
  refine a_ (e_ rfl) rfl (d_ (b_ rfl (g_ (c_ (a_ (f_ rfl) rfl (a_ (f_ rfl) rfl (a_ (M_ 0 N_ n_ rfl rfl rfl) rfl (a_ (f_ rfl) rfl (a_ (ax_ nA_ rfl rfl) rfl ?_)))))))))
  refine S_ (step_c [] none 0 fs gad gcap (Stp.mk k f (-1) fad fcap l) (by decide) (fun x hx => by simp at hx) hfl hfr hfs hsf) rfl D_ (fun v _ h => by exact ⟨.inl rfl, h.2.1, h.1, h.2.2.1, trivial⟩) rfl fun ⟨e1, he1⟩ => ?_
  dsimp only
  have hE1 : e1 = w := by rcases he1 with ⟨q, _⟩ | ⟨_, q⟩; exact absurd (by decide +kernel) q; exact q.trans hw
  refine a_ (f_ rfl) rfl (C_ (ab_ rfl rfl) rfl fun r1 hr1 => ?_)
  refine a_ (e_ rfl) rfl (d_ (b_ rfl (y_ ?_)))
  exact U_ Tryz.results30 () (q_ rfl (by rw [← hr1]; simp [hE1])) D_ (fun _ _ _ => trivial)
theorem pe_ (p : List Pc) (pad : Option Addr) (pcap : Nat) (hp : p.length ≤ 1099511627744) (hbig : ∀ x ∈ p, x.lim) : Tri Tryz.prog 10 #[.slice pad (List.length p) pcap] [] [aW_ pad (List.flatMap Pc.cells p)] (fun b : {b : Bool // b = true → p.length ≤ 60 ∧ ∀ x ∈ p, x.sm} => .bool b.1) (fun _ => []) (fun _ => []) := by
 refine V_ Tryz.func10 rfl rfl Tryz.ntmps10 rfl fun v0 => ?_
 refine g_ (c_ (a_ (e_ rfl) rfl (d_ (b_ rfl (g_ (g_ (c_ (a_ (f_ rfl) rfl (a_ (aC_ aG_ rfl) rfl ?_)))))))))
 refine C_ (bD_ rfl rfl) rfl fun r1 hr1 => ?_
 refine d_ (b_ rfl ?_)
 cases r1
 ·
  replace hr1 := of_decide_eq_false hr1
  refine B_ rfl (J_ (b_ rfl (g_ (g_ (c_ (a_ (e_ rfl) rfl (d_ (b_ rfl (ae_ ?_)))))))))
  refine bF_ (ι := {y : Nat // y ≤ List.length p ∧ (∀ z ∈ List.take y p, z.sm)}) (fun y => [(0, .slice pad (List.length p) pcap), (2, .bool false), (3, .int .i64 (y.1 : Int))]) (fun y => ([])) (fun y => [aW_ pad (List.flatMap Pc.cells p)]) (fun y => List.length p - y.1) ⟨(0 : Nat), by simp, by simp⟩ ⟨rfl, rfl, rfl, trivial⟩ D_ (fun _ _ h => h) ?_
  rintro ⟨i, hi_i, hall⟩
  dsimp only at hi_i hall ⊢
  refine g_ (g_ (c_ (a_ (f_ rfl) rfl (a_ (f_ rfl) rfl (a_ (aC_ aG_ rfl) rfl (C_ (as_ rfl rfl) rfl fun r2 hr2 => ?_))))))
  refine d_ (b_ rfl ?_)
  cases r2
  ·
   replace hr2 := of_decide_eq_false hr2
   refine B_ rfl (bd_ rfl (b_ rfl (g_ (c_ (a_ (e_ rfl) rfl (d_ (b_ rfl (y_ ?_))))))))
   exact U_ Tryz.results10 ⟨true, fun _ => ⟨by omega, by rwa [List.take_of_length_le (by omega)] at hall⟩⟩ rfl D_ (fun _ _ _ => trivial)
  ·
   replace hr2 := of_decide_eq_true hr2
   have hlx1 : i < List.length p := by omega
   obtain ⟨x1, hx1⟩ : ∃ e0, p[i]? = some e0 := ⟨_, List.getElem?_eq_getElem hlx1⟩
   have hmx1 : x1 ∈ p := List.mem_of_getElem? hx1
   obtain ⟨q1, q2, q3, q4, q5, q6⟩ := hbig x1 hmx1
   refine v_ rfl (J_ (b_ rfl (g_ (ae_ (g_ ?_)))))
   refine aw_ (by kernel_rfl) ?_
   refine I_ 0 [0, 1, 2, 3, 4, 5, 6, 7, 8, 9, 10, 11, 12, 13, 14, 15, 16, 17, 18, 19, 20, 21, 22, 23, 24, 25, 26, 27, 28, 29, 30, 31, 32, 33, 34, 35, 36, 37, 38, 39, 40, 41] (by kernel_rfl) (fun _ a b => ⟨aI_ a, b⟩) (l_ rfl (f_ rfl) rfl (l_ rfl (f_ rfl) rfl (l_ rfl (ag_ aG_ Y_ rfl rfl (fun v _ h => aH_ (n := 10) Pc.cells_len (by decide) (by exact h.1) hx1) (by omega) (by first | omega | (simp; done))) rfl (l_ rfl (bR_ r_ rfl rfl rfl o_) rfl (l_ rfl (bb_ (ad := pad) x_ rfl (fun v _ h => by exact h.1) (ak_ Pc.cells_len hx1 1 _ rfl)) rfl (l_ rfl (bu_ Q_ rfl) rfl (l_ rfl (f_ rfl) rfl (l_ rfl (f_ rfl) rfl (l_ rfl (ag_ aG_ Y_ rfl rfl (fun v _ h => aH_ (n := 10) Pc.cells_len (by decide) (by exact h.1) hx1) (by omega) (by first | omega | (simp; done))) rfl ?_)))))))))
   refine l_ rfl (bR_ r_ rfl rfl rfl o_) rfl (l_ rfl (bb_ (ad := pad) x_ rfl (fun v _ h => by exact h.1) (ak_ Pc.cells_len hx1 2 _ rfl)) rfl (l_ rfl (bu_ Q_ rfl) rfl (l_ rfl (ac_ rfl rfl rfl (aE_ (by omega) (by omega))) rfl (l_ rfl (f_ rfl) rfl (l_ rfl (f_ rfl) rfl (l_ rfl (ag_ aG_ Y_ rfl rfl (fun v _ h => aH_ (n := 10) Pc.cells_len (by decide) (by exact h.1) hx1) (by omega) (by first | omega | (simp; done))) rfl (l_ rfl (bR_ r_ rfl rfl rfl o_) rfl (l_ rfl (bb_ (ad := pad) x_ rfl (fun v _ h => by exact h.1) (ak_ Pc.cells_len hx1 3 _ rfl)) rfl (l_ rfl (bu_ Q_ rfl) rfl ?_)))))))))
   refine l_ rfl (ac_ rfl rfl rfl (aE_ (by omega) (by omega))) rfl (l_ rfl (f_ rfl) rfl (l_ rfl (f_ rfl) rfl (l_ rfl (ag_ aG_ Y_ rfl rfl (fun v _ h => aH_ (n := 10) Pc.cells_len (by decide) (by exact h.1) hx1) (by omega) (by first | omega | (simp; done))) rfl (l_ rfl (bR_ r_ rfl rfl rfl o_) rfl (l_ rfl (bb_ (ad := pad) x_ rfl (fun v _ h => by exact h.1) (ak_ Pc.cells_len hx1 4 _ rfl)) rfl (l_ rfl (bu_ Q_ rfl) rfl (l_ rfl (ac_ rfl rfl rfl (aE_ (by omega) (by omega))) rfl (l_ rfl (f_ rfl) rfl (l_ rfl (f_ rfl) rfl ?_)))))))))
   refine l_ rfl (ag_ aG_ Y_ rfl rfl (fun v _ h => aH_ (n := 10) Pc.cells_len (by decide) (by exact h.1) hx1) (by omega) (by first | omega | (simp; done))) rfl (l_ rfl (bR_ r_ rfl rfl rfl o_) rfl (l_ rfl (bb_ (ad := pad) x_ rfl (fun v _ h => by exact h.1) (ak_ Pc.cells_len hx1 5 _ rfl)) rfl (l_ rfl (bu_ Q_ rfl) rfl (l_ rfl (ac_ rfl rfl rfl (aE_ (by omega) (by omega))) rfl (l_ rfl (f_ rfl) rfl (l_ rfl (f_ rfl) rfl (l_ rfl (ag_ aG_ Y_ rfl rfl (fun v _ h => aH_ (n := 10) Pc.cells_len (by decide) (by exact h.1) hx1) (by omega) (by first | omega | (simp; done))) rfl (l_ rfl (bR_ r_ rfl rfl rfl o_) rfl (l_ rfl (bb_ (ad := pad) x_ rfl (fun v _ h => by exact h.1) (ak_ Pc.cells_len hx1 6 _ rfl)) rfl ?_)))))))))
   refine l_ rfl (bu_ Q_ rfl) rfl (l_ rfl (ac_ rfl rfl rfl (aE_ (by omega) (by omega))) rfl ?_)
   refine bf_ rfl (bD_ rfl rfl) rfl fun r3 hr3 => ?_
   refine H_ (R_ (by kernel_rfl) (b_ rfl ?_))
   cases r3
   ·
    replace hr3 := of_decide_eq_false hr3
    refine B_ rfl (J_ (b_ rfl (c_ (a_ (f_ rfl) rfl (a_ (ac_ rfl rfl rfl (aE_ (by omega) (by omega))) rfl (a_ (e_ rfl) rfl (d_ (z_ rfl ?_))))))))
    exact aP_ ⟨i + 1, hlx1, lm_ hall hx1 ⟨by omega, by omega, by omega, by omega, by omega, by omega⟩⟩ (by dsimp only; omega) ⟨rfl, rfl, rfl, trivial⟩ D_ (fun _ _ h => h)
   ·
    replace hr3 := of_decide_eq_true hr3
    refine v_ rfl (g_ (c_ (a_ (e_ rfl) rfl (d_ (b_ rfl (y_ ?_))))))
    exact U_ Tryz.results10 ⟨false, fun h => by cases h⟩ rfl D_ (fun _ _ _ => trivial)
 ·
  replace hr1 := of_decide_eq_true hr1
  refine v_ rfl (g_ (c_ (a_ (e_ rfl) rfl (d_ (b_ rfl (y_ ?_))))))
  exact U_ Tryz.results10 ⟨false, fun h => by cases h⟩ rfl D_ (fun _ _ _ => trivial)
theorem pK_ (l : List Stp) (ad : Option Addr) (cap : Nat) (hl : l.length ≤ 1256584717424) (hbig : ∀ s ∈ l, s.fact.lim) : Tri Tryz.prog 11 #[.agg #[.slice ad (List.length l) cap]] [] [aW_ ad (List.flatMap Stp.cells l), da_ l] (fun b : {b : Bool // b = true → l.length ≤ 60 ∧ ∀ s ∈ l, s.few} => .bool b.1) (fun _ => []) (fun _ => []) := by
 refine V_ Tryz.func11 rfl rfl Tryz.ntmps11 rfl fun v0 => ?_
 refine g_ (c_ (aO_ rfl rfl fun b1 => ?_))
 refine a_ (e_ rfl) rfl (d_ (b_ rfl (g_ (g_ (c_ (a_ (h_ aj_ rfl rfl rfl at_) rfl (a_ (m_ 0 be_ rfl rfl rfl) rfl (a_ (aC_ ao_ rfl) rfl (C_ (bD_ rfl rfl) rfl fun r1 hr1 => ?_)))))))))
 refine d_ (b_ rfl ?_)
 cases r1
 ·
  replace hr1 := of_decide_eq_false hr1
  refine B_ rfl (J_ (b_ rfl (g_ (g_ (c_ (a_ (e_ rfl) rfl (d_ (b_ rfl (ae_ ?_)))))))))
  refine bF_ (ι := {y : Nat // y ≤ List.length l ∧ (∀ z ∈ List.take y l, Stp.few z)}) (fun y => [(1, zp_ b1 0), (2, .bool false), (3, .int .i64 (y.1 : Int))]) (fun y => ((b1, .cells #[.slice ad (List.length l) cap] 27 (0, 0)) :: [])) (fun y => [aW_ ad (List.flatMap Stp.cells l), da_ l]) (fun y => List.length l - y.1) ⟨(0 : Nat), by simp, by simp⟩ ⟨rfl, rfl, rfl, trivial⟩ G_ (fun _ _ h => h) ?_
  rintro ⟨i, hi_i, hall⟩
  dsimp only at hi_i hall ⊢
  refine g_ (g_ (c_ (a_ (f_ rfl) rfl (a_ (h_ aj_ rfl rfl rfl at_) rfl (a_ (m_ 0 be_ rfl rfl rfl) rfl (a_ (aC_ ao_ rfl) rfl (C_ (as_ rfl rfl) rfl fun r2 hr2 => ?_)))))))
  refine d_ (b_ rfl ?_)
  cases r2
  ·
   replace hr2 := of_decide_eq_false hr2
   refine B_ rfl (bd_ rfl (b_ rfl (g_ (c_ (a_ (e_ rfl) rfl (d_ (b_ rfl (y_ ?_))))))))
   exact U_ Tryz.results11 ⟨true, fun _ => ⟨by omega, by rwa [List.take_of_length_le (by omega)] at hall⟩⟩ rfl D_ (fun _ _ _ => trivial)
  ·
   replace hr2 := of_decide_eq_true hr2
   have hlx1 : i < List.length l := by omega
   obtain ⟨x1, hx1⟩ : ∃ e0, l[i]? = some e0 := ⟨_, List.getElem?_eq_getElem hlx1⟩
   have hmx1 : x1 ∈ l := List.mem_of_getElem? hx1
   obtain ⟨q1, q2, q3⟩ := hbig x1 hmx1
   refine v_ rfl (J_ (b_ rfl (g_ (ae_ (g_ (c_ (a_ (h_ aj_ rfl rfl rfl at_) rfl (a_ (m_ 0 be_ rfl rfl rfl) rfl (a_ (f_ rfl) rfl ?_)))))))))
   refine a_ (ag_ ao_ aD_ rfl rfl (fun v _ h => aH_ (n := 9) Stp.cells_len (by decide) (by exact h.1) hx1) (by omega) (by first | omega | (simp; done))) rfl (a_ (aM_ (ad := ad) (us := Stp.cells x1) cH_ aD_ rfl (fun v _ h => by exact h.1) (Stp.cells_len _) (ak_ Stp.cells_len hx1)) rfl (am_ bx_ rfl fun b2 => ?_))
   refine W_ 0 aD_ rfl rfl rfl rfl rfl rfl (d_ (b_ rfl (g_ (c_ (a_ (h_ K_ rfl rfl rfl aY_) rfl (a_ (m_ 0 bv_ rfl rfl rfl) rfl (a_ (aC_ an_ rfl) rfl (C_ (bD_ rfl rfl) rfl fun r3 hr3 => ?_))))))))
   refine a_ (f_ rfl) rfl ?_
   cases r3
   ·
    replace hr3 := of_decide_eq_false hr3
    refine i_ rfl rfl (a_ (h_ K_ rfl rfl rfl n_) rfl (i_ rfl rfl (a_ (h_ k_ rfl rfl rfl o_) rfl (i_ rfl rfl (a_ (m_ 0 x_ rfl rfl rfl) rfl (i_ rfl rfl (a_ (bu_ Q_ rfl) rfl (i_ rfl rfl (a_ (h_ K_ rfl rfl rfl n_) rfl ?_)))))))))
    refine i_ rfl rfl (a_ (h_ k_ rfl rfl rfl o_) rfl (i_ rfl rfl (a_ (m_ 0 x_ rfl rfl rfl) rfl (i_ rfl rfl (a_ (bu_ Q_ rfl) rfl (i_ rfl rfl (a_ (ac_ rfl rfl rfl (aE_ (by omega) (by omega))) rfl (i_ rfl rfl (a_ (h_ K_ rfl rfl rfl n_) rfl ?_)))))))))
    refine i_ rfl rfl (a_ (h_ k_ rfl rfl rfl o_) rfl (i_ rfl rfl (a_ (m_ 0 x_ rfl rfl rfl) rfl (i_ rfl rfl (a_ (bu_ Q_ rfl) rfl (i_ rfl rfl (a_ (ac_ rfl rfl rfl (aE_ (by omega) (by omega))) rfl (i_ rfl rfl (C_ (bD_ rfl rfl) rfl fun r4 hr4 => ?_)))))))))
    refine a_ (p_ rfl rfl) rfl (d_ (b_ rfl ?_))
    cases r4
    ·
     replace hr4 := of_decide_eq_false hr4
     refine B_ rfl (J_ (b_ rfl (c_ (a_ (f_ rfl) rfl (a_ (ac_ rfl rfl rfl (aE_ (by omega) (by omega))) rfl (a_ (e_ rfl) rfl (d_ (z_ rfl ?_))))))))
     exact aP_ ⟨i + 1, hlx1, lm_ hall hx1 ⟨by omega, by omega⟩⟩ (by dsimp only; omega) ⟨rfl, rfl, rfl, trivial⟩ (O_ G_) (fun _ _ h => h)
    ·
     replace hr4 := of_decide_eq_true hr4
     refine v_ rfl (g_ (c_ (a_ (e_ rfl) rfl (d_ (b_ rfl (y_ ?_))))))
     exact U_ Tryz.results11 ⟨false, fun h => by cases h⟩ rfl D_ (fun _ _ _ => trivial)
   ·
    replace hr3 := of_decide_eq_true hr3
    refine j_ rfl rfl rfl rfl (j_ rfl rfl rfl rfl (j_ rfl rfl rfl rfl (j_ rfl rfl rfl rfl (j_ rfl rfl rfl rfl (j_ rfl rfl rfl rfl (j_ rfl rfl rfl rfl (j_ rfl rfl rfl rfl (j_ rfl rfl rfl rfl (j_ rfl rfl rfl rfl ?_)))))))))
    refine j_ rfl rfl rfl rfl (j_ rfl rfl rfl rfl (j_ rfl rfl rfl rfl (j_ rfl rfl rfl rfl (j_ rfl rfl rfl rfl (a_ (A_ rfl rfl) rfl (d_ (b_ rfl (v_ rfl (g_ ?_)))))))))
    refine c_ (a_ (e_ rfl) rfl (d_ (b_ rfl (y_ ?_))))
    exact U_ Tryz.results11 ⟨false, fun h => by cases h⟩ rfl D_ (fun _ _ _ => trivial)
 ·
  replace hr1 := of_decide_eq_true hr1
  refine v_ rfl (g_ (c_ (a_ (e_ rfl) rfl (d_ (b_ rfl (y_ ?_))))))
  exact U_ Tryz.results11 ⟨false, fun h => by cases h⟩ rfl D_ (fun _ _ _ => trivial)
theorem pj_ (Y : List Stp) (yad : Option Addr) (ycap : Nat) (Z : List Stp) (zad : Option Addr) (zcap : Nat) (hS : SameS Y Z) (hl : Y.length ≤ 1000000) (hfl : ∀ s ∈ Y, s.frm.length ≤ 1000000) : Tri Tryz.prog 18 #[.agg #[.slice yad (List.length Y) ycap], .agg #[.slice zad (List.length Z) zcap]] [] [aW_ yad (List.flatMap Stp.cells Y), da_ Y, aW_ zad (List.flatMap Stp.cells Z), da_ Z] (fun _ : Unit => .bool true) (fun _ => []) (fun _ => []) := by
 refine V_ Tryz.func18 rfl rfl Tryz.ntmps18 rfl fun v0 => ?_
 have hlen := hS.len
 refine g_ (c_ (aO_ rfl rfl fun b1 => ?_))
 refine aO_ rfl rfl fun b2 => ?_
 refine a_ (e_ rfl) rfl (d_ (b_ rfl (g_ (g_ (c_ (a_ (h_ aj_ rfl rfl rfl at_) rfl (a_ (m_ 1 be_ rfl rfl rfl) rfl (a_ (aC_ ao_ rfl) rfl (a_ (h_ aj_ rfl rfl rfl at_) rfl ?_)))))))))
 refine a_ (m_ 0 be_ rfl rfl rfl) rfl (a_ (aC_ ao_ rfl) rfl (C_ (bA_ rfl rfl) rfl fun r1 hr1 => ?_))
 refine d_ (b_ rfl ?_)
 cases r1
 ·
  replace hr1 := bt_ hr1
  refine B_ rfl (J_ (b_ rfl (g_ (g_ (c_ (a_ (e_ rfl) rfl (d_ (b_ rfl (ae_ ?_)))))))))
  refine bF_ (ι := {y : Nat // y ≤ List.length Y}) (fun y => [(2, zp_ b1 0), (3, zp_ b2 0), (4, .bool false), (5, .int .i64 (y.1 : Int))]) (fun y => ((b2, .cells #[.slice zad (List.length Z) zcap] 27 (0, 0)) :: ((b1, .cells #[.slice yad (List.length Y) ycap] 27 (0, 0)) :: []))) (fun y => [aW_ yad (List.flatMap Stp.cells Y), da_ Y, aW_ zad (List.flatMap Stp.cells Z), da_ Z]) (fun y => List.length Y - y.1) ⟨(0 : Nat), by simp⟩ ⟨rfl, rfl, rfl, rfl, trivial⟩ (T_ G_ G_) (fun _ _ h => h) ?_
  rintro ⟨i, hi_i⟩
  dsimp only at hi_i ⊢
  refine g_ (g_ (c_ (a_ (f_ rfl) rfl (a_ (h_ aj_ rfl rfl rfl at_) rfl (a_ (m_ 1 be_ rfl rfl rfl) rfl (a_ (aC_ ao_ rfl) rfl (C_ (as_ rfl rfl) rfl fun r2 hr2 => ?_)))))))
  refine d_ (b_ rfl ?_)
  cases r2
  ·
   replace hr2 := of_decide_eq_false hr2
   refine B_ rfl (bd_ rfl (b_ rfl (g_ (c_ (a_ (e_ rfl) rfl (d_ (b_ rfl (y_ ?_))))))))
   exact U_ Tryz.results18 () rfl D_ (fun _ _ _ => trivial)
  ·
   replace hr2 := of_decide_eq_true hr2
   have hlx1 : i < List.length Y := by omega
   obtain ⟨x1, hx1⟩ : ∃ e0, Y[i]? = some e0 := ⟨_, List.getElem?_eq_getElem hlx1⟩
   have hmx1 : x1 ∈ Y := List.mem_of_getElem? hx1
   have hlz : i < List.length Z := by have := hS.len; omega
   have hly1 : i < List.length Z := hlz
   obtain ⟨y1, hy1⟩ : ∃ e0, Z[i]? = some e0 := ⟨_, List.getElem?_eq_getElem hly1⟩
   have hmy1 : y1 ∈ Z := List.mem_of_getElem? hy1
   obtain ⟨he1, he2, he3, he4⟩ := hS.eq i x1 y1 hx1 hy1
   have hf1 := hfl x1 hmx1
   refine v_ rfl (J_ (b_ rfl (g_ (ae_ (g_ (c_ (a_ (h_ aj_ rfl rfl rfl at_) rfl (a_ (m_ 1 be_ rfl rfl rfl) rfl (a_ (f_ rfl) rfl ?_)))))))))
   refine a_ (ag_ ao_ aD_ rfl rfl (fun v _ h => aH_ (n := 9) Stp.cells_len (by decide) (by exact h.1) hx1) (by omega) (by first | omega | (simp; done))) rfl (a_ (aM_ (ad := yad) (us := Stp.cells x1) cH_ aD_ rfl (fun v _ h => by exact h.1) (Stp.cells_len _) (ak_ Stp.cells_len hx1)) rfl (am_ bx_ rfl fun b3 => ?_))
   refine W_ 0 aD_ rfl rfl rfl rfl rfl rfl (d_ (b_ rfl (g_ (c_ (a_ (h_ aj_ rfl rfl rfl at_) rfl (a_ (m_ 1 be_ rfl rfl rfl) rfl (a_ (f_ rfl) rfl (a_ (ag_ ao_ aD_ rfl rfl (fun v _ h => aH_ (n := 9) Stp.cells_len (by decide) (by exact h.2.2.1) hy1) (by omega) (by first | omega | (simp; done))) rfl (a_ (aM_ (ad := zad) (us := Stp.cells y1) cH_ aD_ rfl (fun v _ h => by exact h.2.2.1) (Stp.cells_len _) (ak_ Stp.cells_len hy1)) rfl ?_)))))))))
   refine am_ bx_ rfl fun b4 => ?_
   refine W_ 0 aD_ rfl rfl rfl rfl rfl rfl (d_ (b_ rfl (g_ (g_ (c_ (a_ (h_ K_ rfl rfl rfl w_) rfl (a_ (m_ 1 E_ rfl rfl rfl) rfl (a_ (h_ K_ rfl rfl rfl w_) rfl (a_ (m_ 0 E_ rfl rfl rfl) rfl ?_)))))))))
   refine C_ (bA_ rfl rfl) rfl fun r3 hr3 => ?_
   refine a_ (f_ rfl) rfl ?_
   cases r3
   ·
    replace hr3 := bt_ hr3
    refine i_ rfl rfl (a_ (h_ K_ rfl rfl rfl n_) rfl (i_ rfl rfl (a_ (M_ 1 N_ n_ rfl rfl rfl) rfl (i_ rfl rfl (a_ (h_ K_ rfl rfl rfl n_) rfl (i_ rfl rfl (a_ (M_ 0 N_ n_ rfl rfl rfl) rfl (i_ rfl rfl (C_ (gY_ (p := (Stp.fact x1)) (q := (Stp.fact y1)) rfl rfl) rfl fun r4 hr4 => ?_)))))))))
    refine a_ (p_ rfl rfl) rfl (a_ (f_ rfl) rfl ?_)
    cases r4
    ·
     replace hr4 := of_decide_eq_false hr4
     refine i_ rfl rfl (a_ (h_ K_ rfl rfl rfl w_) rfl (i_ rfl rfl (a_ (m_ 1 E_ rfl rfl rfl) rfl (i_ rfl rfl (a_ (h_ K_ rfl rfl rfl w_) rfl (i_ rfl rfl (a_ (m_ 0 E_ rfl rfl rfl) rfl (i_ rfl rfl (C_ (bA_ rfl rfl) rfl fun r5 hr5 => ?_)))))))))
     refine a_ (p_ rfl rfl) rfl (a_ (f_ rfl) rfl ?_)
     cases r5
     ·
      replace hr5 := bt_ hr5
      refine i_ rfl rfl (a_ (h_ K_ rfl rfl rfl aY_) rfl (i_ rfl rfl (a_ (m_ 1 bv_ rfl rfl rfl) rfl (i_ rfl rfl (a_ (aC_ an_ rfl) rfl (i_ rfl rfl (a_ (h_ K_ rfl rfl rfl aY_) rfl (i_ rfl rfl (a_ (m_ 0 bv_ rfl rfl rfl) rfl ?_)))))))))
      refine i_ rfl rfl (a_ (aC_ an_ rfl) rfl (i_ rfl rfl (C_ (bA_ rfl rfl) rfl fun r6 hr6 => ?_)))
      refine a_ (p_ rfl rfl) rfl (d_ (b_ rfl ?_))
      cases r6
      ·
       replace hr6 := bt_ hr6
       refine B_ rfl (J_ (b_ rfl (g_ (c_ (a_ (e_ rfl) rfl (d_ (b_ rfl (ae_ ?_))))))))
       refine bF_ (ι := {y : Nat // y ≤ List.length (Stp.frm x1)}) (fun y => [(2, zp_ b1 0), (3, zp_ b2 0), (4, .bool false), (5, .int .i64 (i : Int)), (6, zp_ b3 0), (7, zp_ b4 0), (8, .int .i64 (y.1 : Int))]) (fun y => ((b4, .cells #[.int .i64 (Stp.rule y1), .int .i64 (Fc.kind (Stp.fact y1)), str (Fc.a (Stp.fact y1)), str (Fc.b (Stp.fact y1)), str (Fc.r (Stp.fact y1)), .int .i64 (Fc.lo (Stp.fact y1)), .int .i64 (Fc.hi (Stp.fact y1)), .int .i64 (Stp.piece y1), .slice (Stp.ad y1) (List.length (Stp.frm y1)) (Stp.cap y1)] 36 (0, 0)) :: ((b3, .cells #[.int .i64 (Stp.rule x1), .int .i64 (Fc.kind (Stp.fact x1)), str (Fc.a (Stp.fact x1)), str (Fc.b (Stp.fact x1)), str (Fc.r (Stp.fact x1)), .int .i64 (Fc.lo (Stp.fact x1)), .int .i64 (Fc.hi (Stp.fact x1)), .int .i64 (Stp.piece x1), .slice (Stp.ad x1) (List.length (Stp.frm x1)) (Stp.cap x1)] 36 (0, 0)) :: ((b2, .cells #[.slice zad (List.length Z) zcap] 27 (0, 0)) :: ((b1, .cells #[.slice yad (List.length Y) ycap] 27 (0, 0)) :: []))))) (fun y => [aW_ yad (List.flatMap Stp.cells Y), da_ Y, aW_ zad (List.flatMap Stp.cells Z), da_ Z]) (fun y => List.length (Stp.frm x1) - y.1) ⟨(0 : Nat), by simp⟩ ⟨rfl, rfl, rfl, rfl, rfl, rfl, rfl, trivial⟩ (T_ G_ (T_ G_ (T_ G_ G_))) (fun _ _ h => h) ?_
       rintro ⟨j, hi_j⟩
       dsimp only at hi_j ⊢
       refine g_ (g_ (c_ (a_ (f_ rfl) rfl (a_ (h_ K_ rfl rfl rfl aY_) rfl (a_ (m_ 1 bv_ rfl rfl rfl) rfl (a_ (aC_ an_ rfl) rfl (C_ (as_ rfl rfl) rfl fun r7 hr7 => ?_)))))))
       refine d_ (b_ rfl ?_)
       cases r7
       ·
        replace hr7 := of_decide_eq_false hr7
        refine B_ rfl (bd_ rfl (b_ rfl (c_ (a_ (f_ rfl) rfl (a_ (ac_ rfl rfl rfl (aE_ (by omega) (by omega))) rfl (a_ (e_ rfl) rfl (d_ (z_ rfl ?_))))))))
        exact aP_ ⟨i + 1, hlx1⟩ (by dsimp only; omega) ⟨rfl, rfl, rfl, rfl, trivial⟩ (T_ (O_ (O_ G_)) (O_ (O_ G_))) (fun _ _ h => h)
       ·
        replace hr7 := of_decide_eq_true hr7
        have hlx2 : j < List.length (Stp.frm x1) := by omega
        obtain ⟨x2, hx2⟩ : ∃ e0, (Stp.frm x1)[j]? = some e0 := ⟨_, List.getElem?_eq_getElem hlx2⟩
        have hmx2 : x2 ∈ (Stp.frm x1) := List.mem_of_getElem? hx2
        have hy2 : (Stp.frm y1)[j]? = some x2 := he4 ▸ hx2
        have hly2 : j < List.length (Stp.frm y1) := by rw [← he4]; omega
        refine v_ rfl (J_ (b_ rfl (g_ (ae_ (g_ ?_)))))
        refine aw_ (by kernel_rfl) ?_
        refine I_ 0 [0, 1, 2, 3, 4, 5, 6, 7, 8, 9, 10] (by kernel_rfl) (fun _ a b => ⟨a, b⟩) (l_ rfl (h_ K_ rfl rfl rfl aY_) rfl (l_ rfl (m_ 1 bv_ rfl rfl rfl) rfl (l_ rfl (f_ rfl) rfl (l_ rfl (ag_ an_ w_ rfl rfl (fun v _ h => aH_ (n := 1) bL_ (by decide) (by exact (h.2.1 x1 hmx1)) hx2) (by omega) (by first | omega | (simp; done))) rfl (l_ rfl (bb_ (ad := (Stp.ad x1)) E_ rfl (fun v _ h => by exact (h.2.1 x1 hmx1)) (ak_ bL_ hx2 0 _ rfl)) rfl (l_ rfl (h_ K_ rfl rfl rfl aY_) rfl (l_ rfl (m_ 0 bv_ rfl rfl rfl) rfl (l_ rfl (f_ rfl) rfl (l_ rfl (ag_ an_ w_ rfl rfl (fun v _ h => aH_ (n := 1) bL_ (by decide) (by exact (h.2.2.2.1 y1 hmy1)) hy2) (by omega) (by first | omega | (simp; done))) rfl ?_)))))))))
        refine l_ rfl (bb_ (ad := (Stp.ad y1)) E_ rfl (fun v _ h => by exact (h.2.2.2.1 y1 hmy1)) (ak_ bL_ hy2 0 _ rfl)) rfl ?_
        refine bf_ rfl (bA_ rfl rfl) rfl fun r8 hr8 => ?_
        refine H_ (R_ (by kernel_rfl) (b_ rfl ?_))
        cases r8
        ·
         replace hr8 := bt_ hr8
         refine B_ rfl (J_ (b_ rfl (c_ (a_ (f_ rfl) rfl (a_ (ac_ rfl rfl rfl (aE_ (by omega) (by omega))) rfl (a_ (e_ rfl) rfl (d_ (z_ rfl ?_))))))))
         exact aP_ ⟨j + 1, hlx2⟩ (by dsimp only; omega) ⟨rfl, rfl, rfl, rfl, rfl, rfl, rfl, trivial⟩ (T_ G_ (T_ G_ (T_ G_ G_))) (fun _ _ h => h)
        ·
         replace hr8 := bs_ hr8
         first | exact absurd he1 hr8 | exact absurd he2 hr8 | exact absurd he3 hr8 | exact absurd rfl hr8 | (exfalso; rw [he4] at hr8; exact hr8 rfl)
      ·
       replace hr6 := bs_ hr6
       first | exact absurd he1 hr6 | exact absurd he2 hr6 | exact absurd he3 hr6 | exact absurd rfl hr6 | (exfalso; rw [he4] at hr6; exact hr6 rfl)
     ·
      replace hr5 := bs_ hr5
      first | exact absurd he1 hr5 | exact absurd he2 hr5 | exact absurd he3 hr5 | exact absurd rfl hr5 | (exfalso; rw [he4] at hr5; exact hr5 rfl)
    ·
     replace hr4 := of_decide_eq_true hr4
     first | exact absurd he1 hr4 | exact absurd he2 hr4 | exact absurd he3 hr4 | exact absurd rfl hr4 | (exfalso; rw [he4] at hr4; exact hr4 rfl)
   ·
    replace hr3 := bs_ hr3
    first | exact absurd he1 hr3 | exact absurd he2 hr3 | exact absurd he3 hr3 | exact absurd rfl hr3 | (exfalso; rw [he4] at hr3; exact hr3 rfl)
 ·
  replace hr1 := bs_ hr1
  exact absurd (congrArg Nat.cast hS.len) hr1
end Go.Proofs.YtaffcjgphlhppaaGreatDoor
namespace Go.Proofs.YtaffcjgphlhppaaGreatDoor
open Go Go.Sx Go.Proofs
attribute [local irreducible] Code.wp wpList wpAnyH
open Go.Vs
theorem ok_ax7 : Ax.ok (Ax.mk 7 false (Con.mk 0 [] 0 0 none 0 []) (Con.mk 0 [] 0 0 none 0 []) none 0 [] [114] [] []) := by constructor <;> simp [Con.ok, Con.ok.oks]
theorem oy_ : Ax.check (Ax.mk 7 false (Con.mk 0 [] 0 0 none 0 []) (Con.mk 0 [] 0 0 none 0 []) none 0 [] [114] [] []) = 0 := by decide +kernel
theorem pq_ {v : Vw} : (Ax.memF (Ax.mk 7 false (Con.mk 0 [] 0 0 none 0 []) (Con.mk 0 [] 0 0 none 0 []) none 0 [] [114] [] [])).p v := ⟨⟨.inl rfl, trivial⟩, ⟨.inl rfl, trivial⟩, .inl rfl⟩
theorem pI_ (x : Ax) (hok : x.ok) (hc : x.check = 0) (hk : x.kind = 7) : Tri Tryz.prog 26 #[Ax.val x] [] [Ax.memF x, ha_] (fun _ : Unit => .tuple #[.slice none 0 0, .slice none 0 0, .int .i64 22]) (fun _ => []) (fun _ => []) := by
 refine V_ Tryz.func26 rfl rfl Tryz.ntmps26 rfl fun v0 => ?_
 refine g_ (c_ (aO_ rfl rfl fun b1 => ?_))
 refine a_ (e_ rfl) rfl (a_ (e_ rfl) rfl (a_ (e_ rfl) rfl (d_ (b_ rfl (g_ (g_ (c_ (a_ (M_ 0 Tryz.isAgg58 Tryz.sizeOf58 rfl rfl rfl) rfl (S_ (jZ_ x hok) rfl D_ (fun v _ h => by exact ⟨h.1, h.2.1, trivial⟩) rfl fun _ => ?_)))))))))
 refine a_ (e_ rfl) rfl (d_ (b_ rfl (g_ (c_ (a_ (f_ rfl) rfl (C_ (bA_ rfl rfl) rfl fun r1 hr1 => ?_))))))
 refine d_ (b_ rfl ?_)
 cases r1
 ·
  replace hr1 := bt_ hr1
  refine B_ rfl (J_ (b_ rfl (g_ (c_ (S_ (ik_ (-1)) rfl D_ (fun _ _ _ => by exact trivial) rfl fun ⟨kb, bm0⟩ => ?_)))))
  dsimp only
  refine bj_ (@List.perm_append_comm _ _ [_]) (a_ (e_ rfl) rfl (d_ (b_ rfl (g_ (c_ (a_ (f_ rfl) rfl (S_ (pd_ kb) rfl D_ (fun _ _ _ => by exact trivial) rfl fun ⟨bk, bl, br⟩ => ?_)))))))
  dsimp only
  refine a_ (f_ rfl) rfl (a_ (aU_ rfl rfl) rfl (a_ (aU_ rfl rfl) rfl (a_ (e_ rfl) rfl (a_ (e_ rfl) rfl (d_ (b_ rfl (g_ (c_ (a_ (e_ rfl) rfl ?_)))))))))
  refine d_ (b_ rfl (g_ (g_ (c_ (a_ (h_ Z_ rfl rfl rfl w_) rfl (a_ (m_ 0 E_ rfl rfl rfl) rfl (d_ (b_ rfl (ae_ ?_)))))))))
  refine g_ (g_ (c_ (C_ (ab_ rfl rfl) rfl fun r2 hr2 => ?_)))
  refine a_ (e_ rfl) rfl (d_ (b_ rfl ?_))
  cases r2
  ·
   replace hr2 := ne_of_beq_false hr2
   refine B_ rfl (c_ (C_ (ab_ rfl rfl) rfl fun r3 hr3 => ?_))
   refine a_ (e_ rfl) rfl (d_ (b_ rfl ?_))
   cases r3
   ·
    replace hr3 := ne_of_beq_false hr3
    refine B_ rfl (g_ (c_ (C_ (ab_ rfl rfl) rfl fun r4 hr4 => ?_)))
    refine a_ (e_ rfl) rfl (d_ (b_ rfl ?_))
    cases r4
    ·
     replace hr4 := ne_of_beq_false hr4
     refine B_ rfl (g_ (c_ (C_ (ab_ rfl rfl) rfl fun r5 hr5 => ?_)))
     refine a_ (e_ rfl) rfl (d_ (b_ rfl ?_))
     cases r5
     ·
      replace hr5 := ne_of_beq_false hr5
      refine B_ rfl (g_ (c_ (C_ (ab_ rfl rfl) rfl fun r6 hr6 => ?_)))
      refine a_ (e_ rfl) rfl (d_ (b_ rfl ?_))
      cases r6
      ·
       replace hr6 := ne_of_beq_false hr6
       refine B_ rfl (g_ (c_ (C_ (ab_ rfl rfl) rfl fun r7 hr7 => ?_)))
       refine a_ (e_ rfl) rfl (d_ (b_ rfl ?_))
       cases r7
       ·
        replace hr7 := ne_of_beq_false hr7
        refine B_ rfl (g_ (c_ (a_ (e_ rfl) rfl (a_ (e_ rfl) rfl (a_ (e_ rfl) rfl (d_ (b_ rfl (y_ ?_))))))))
        exact nQ_ Tryz.results26 () rfl rfl rfl rfl D_ (fun _ _ _ => trivial)
       ·
        replace hr7 := eq_of_beq hr7
        exfalso; omega
      ·
       replace hr6 := eq_of_beq hr6
       exfalso; omega
     ·
      replace hr5 := eq_of_beq hr5
      exfalso; omega
    ·
     replace hr4 := eq_of_beq hr4
     exfalso; omega
   ·
    replace hr3 := eq_of_beq hr3
    exfalso; omega
  ·
   replace hr2 := eq_of_beq hr2
   exfalso; omega
 ·
  replace hr1 := bs_ hr1
  exact absurd hc hr1
theorem mR_ : Tri Tryz.prog 25 #[.slice none 0 0] [] [] (fun _ : Unit => .tuple #[.slice none 0 0, .int .i64 0]) (fun _ => []) (fun _ => []) := by
  refine V_ Tryz.func25 rfl rfl Tryz.ntmps25 rfl fun v0 => ?_
  refine g_ (c_ (a_ (e_ rfl) rfl (a_ (e_ rfl) rfl (d_ (b_ rfl (g_ (g_ (c_ (a_ (f_ rfl) rfl ?_)))))))))
  refine a_ (aC_ Tryz.runUnderlying53 rfl) rfl (a_ (bP_ (bD_ rfl rfl) (show _ = Value.bool false from congrArg Value.bool (by decide))) rfl (d_ (b_ rfl (B_ rfl (J_ (b_ rfl (g_ (g_ (c_ ?_)))))))))
  refine a_ (f_ rfl) rfl (a_ (aC_ Tryz.runUnderlying53 rfl) rfl (a_ (f_ rfl) rfl (d_ (b_ rfl (ae_ ?_)))))
  refine bF_ (ι := {y : Nat // y ≤ List.length ([] : List Ax)}) (fun y => [(0, .slice none 0 0), (2, .slice none 0 0), (3, .int .i64 0), (13, .slice none 0 0), (14, .int .i64 0), (15, .int .i64 (y.1 : Int))]) (fun y => ([])) (fun y => []) (fun y => List.length ([] : List Ax) - y.1) ⟨(0 : Nat), by simp⟩ ⟨rfl, rfl, rfl, rfl, rfl, rfl, trivial⟩ D_ (fun _ _ _ => trivial) ?_
  rintro ⟨i, hi_i⟩
  dsimp only at hi_i ⊢
  refine g_ (c_ (C_ (as_ rfl rfl) rfl fun r1 hr1 => ?_))
  refine d_ (b_ rfl (g_ ?_))
  cases r1
  · skip
    replace hr1 := of_decide_eq_false hr1
    refine B_ rfl (bd_ rfl (b_ rfl (g_ (g_ (c_ (a_ (f_ rfl) rfl (a_ (aC_ Tryz.runUnderlying53 rfl) rfl (a_ (f_ rfl) rfl (d_ ?_)))))))))
    refine b_ rfl (ae_ ?_)
    refine bF_ (ι := {y : Nat // y ≤ List.length ([] : List Ax)}) (fun y => [(0, .slice none 0 0), (2, .slice none 0 0), (3, .int .i64 0), (25, .slice none 0 0), (26, .int .i64 0), (27, .int .i64 (y.1 : Int))]) (fun y => ([])) (fun y => []) (fun y => List.length ([] : List Ax) - y.1) ⟨(0 : Nat), by simp⟩ ⟨rfl, rfl, rfl, rfl, rfl, rfl, trivial⟩ D_ (fun _ _ _ => trivial) ?_
    rintro ⟨j, hi_j⟩
    dsimp only at hi_j ⊢
    refine g_ (c_ (C_ (as_ rfl rfl) rfl fun r2 hr2 => ?_))
    refine d_ (b_ rfl (g_ ?_))
    cases r2
    · skip
      replace hr2 := of_decide_eq_false hr2
      refine B_ rfl (bd_ rfl (b_ rfl (g_ (c_ (a_ (f_ rfl) rfl (a_ (e_ rfl) rfl (a_ (e_ rfl) rfl (d_ (b_ rfl ?_)))))))))
      refine y_ ?_
      exact ph_ Tryz.results25 () rfl rfl rfl D_ (fun _ _ _ => trivial)
    · skip
      replace hr2 := of_decide_eq_true hr2
      exfalso; omega
  · skip
    replace hr1 := of_decide_eq_true hr1
    exfalso; omega
theorem src0_c (x : Ax) (hok : x.ok) (hc : x.check = 0) (hk : x.kind = 7) : Tri Tryz.prog 24 #[.slice none 0 0, Ax.val x, .slice none 0 0] [] [Ax.memF x, ha_] (fun _ : Unit => .int .i64 22) (fun _ => []) (fun _ => []) := by
  refine V_ Tryz.func24 rfl rfl Tryz.ntmps24 rfl fun v0 => ?_
  refine g_ (c_ (aO_ rfl rfl fun b1 => ?_))
  refine a_ (e_ rfl) rfl (d_ (b_ rfl (g_ (c_ (a_ (f_ rfl) rfl (S_ (mR_) rfl D_ (fun _ _ _ => by exact trivial) rfl fun _ => ?_))))))
  refine a_ (f_ rfl) rfl (a_ (aU_ rfl rfl) rfl (a_ (aU_ rfl rfl) rfl (a_ (e_ rfl) rfl (a_ (e_ rfl) rfl (d_ (b_ rfl (g_ (g_ (c_ ?_)))))))))
  refine a_ (f_ rfl) rfl (a_ (bP_ (bA_ rfl rfl) (show _ = Value.bool false from congrArg Value.bool (by decide))) rfl (d_ (b_ rfl (B_ rfl (J_ (b_ rfl (g_ (c_ (a_ (M_ 0 Tryz.isAgg58 Tryz.sizeOf58 rfl rfl rfl) rfl ?_)))))))))
  refine S_ (pI_ x hok hc hk) rfl D_ (fun v _ h => by exact ⟨h.1, h.2.1, trivial⟩) rfl fun _ => ?_
  refine a_ (f_ rfl) rfl (a_ (aU_ rfl rfl) rfl (a_ (aU_ rfl rfl) rfl (a_ (aU_ rfl rfl) rfl (a_ (e_ rfl) rfl (a_ (e_ rfl) rfl (a_ (e_ rfl) rfl (d_ (b_ rfl (g_ ?_)))))))))
  refine g_ (c_ (a_ (f_ rfl) rfl (a_ (bP_ (bA_ rfl rfl) (show _ = Value.bool true from congrArg Value.bool (by decide))) rfl (d_ (b_ rfl (v_ rfl (g_ (c_ (a_ (f_ rfl) rfl ?_)))))))))
  refine a_ (e_ rfl) rfl (d_ (b_ rfl (y_ ?_)))
  exact U_ Tryz.results24 () rfl D_ (fun _ _ _ => trivial)
theorem oB_ (l : List Stp) (ad : Option Addr) (cap : Nat) (L : Str) (e : Int) (hE : fi_ l = (L, e)) (hll : l.length ≤ 10000000) (hfr : ∀ s ∈ l, s.frm.length ≤ 1000000) (hsf : ∀ s ∈ l, s.fact.sml) : Tri Tryz.prog 15 #[.agg #[.slice ad l.length cap]] [] [aW_ ad (List.flatMap Stp.cells l), da_ l] (fun y : {y : Value × Hp // bE_ 5 1 y.1 (List.length L) (List.flatMap u8C L) y.2} => .tuple #[y.1.1, .int .i64 e]) (fun y => y.1.2) (fun _ => []) := by
  have h := oz_ l ad cap hll hfr hsf
  rw [hE] at h
  exact h
def fb_ : Stp := (Stp.mk 1 (aJ_ [42] [42]) (-1) none 0 [])
theorem sn_e0 : fi_ [] = ([0, 0, 0, 0], 0) := by decide +kernel
theorem pW_ : fi_ [fb_] = ((fi_ [fb_]).1, 0) := by
  have : (fi_ [fb_]).2 = 0 := by decide +kernel
  rw [← this]
theorem sn_d1 {Y : List Stp} {e : Int} (h : oL_ (fi_ [fb_]).1 Y e) : e = 0 ∧ SameS Y [fb_] := by
  have hd := pP_ pW_ (by intro s hs; rw [List.mem_singleton] at hs; subst hs; decide)
  rcases h with ⟨h1, h2⟩ | ⟨h1, _⟩
  · rw [hd, Option.some.injEq] at h1; exact ⟨h2, nJ_ h1.symm⟩
  · rw [hd] at h1; cases h1
theorem sn_d0 {Y : List Stp} {e : Int} (h : oL_ [0] Y e) : e = 120 := by
  rcases h with ⟨h1, h2⟩ | ⟨_, _, h⟩
  · rw [show lM_ [0] = none from rfl] at h1; cases h1
  · exact h
theorem sn_c1 {e : Int} (h : lW_ [] (aJ_ [42] [42]) [fb_] e) : e = 0 := by
  refine hl_ h (.inr (.inr ⟨by decide +kernel, by decide, .inl ⟨fun j s hj => ?_, ⟨fb_, rfl, rfl⟩, rfl⟩⟩))
  match j with
  | 0 => simp only [List.getElem?_cons_zero, Option.some.injEq] at hj; subst hj; decide +kernel
  | j + 1 => simp at hj
theorem sn_c2 {e : Int} (h : lW_ [] (aJ_ [42] [42]) [] e) : e = 120 :=
  hl_ h (.inr (.inr ⟨by decide +kernel, by decide, .inr ⟨fun q => (by obtain ⟨_, t, ht, _⟩ := q; simp at ht), rfl⟩⟩))
theorem fR_ {l : List Fc} (h : l.all (fun f => Nat.ble f.a.length 17592186044414 && (Nat.ble f.b.length 17592186044414 && Nat.ble f.r.length 17592186044414)) = true) : ∀ x ∈ l, x.sml := fun x hx => by
  have := List.all_eq_true.1 h x hx
  simp only [Bool.and_eq_true, Nat.ble_eq] at this
  exact ⟨this.1, this.2.1, this.2.2⟩
theorem hQ_ {v : Vw} : (da_ [fb_]).p v := fun x hx => by rw [List.mem_singleton] at hx; subst hx; exact .inl rfl
theorem nI_ {Y Z : List Stp} (h : SameS Y Z) {n : Nat} (hz : ∀ s ∈ Z, s.frm.length ≤ n) : ∀ s ∈ Y, s.frm.length ≤ n := fun s hs => by
  obtain ⟨i, hi⟩ := List.getElem?_of_mem hs
  have hl := (List.getElem?_eq_some_iff.1 hi).1
  have hz' := List.getElem?_eq_getElem (show i < Z.length by have := h.len; omega)
  rw [(h.eq i s _ hi hz').2.2.2]
  exact hz _ (List.getElem_mem _)
theorem strt58 : gW_ Tryz.prog 58 [(0, 1), (1, 1), (2, 5), (7, 5), (12, 1), (13, 1), (14, 1), (15, 1)] [.int .i64 0, .bool false, .int .i64 0, str [], .int .i64 0, .int .i64 0, .slice none 0 0, .int .i64 0, str [], .int .i64 0, .int .i64 0, .slice none 0 0, .slice none 0 0, str [], str [], str []] := ⟨_, Tryz.zeroValue58, Z_, fun w => by simp [w_, bl_, o_, Tryz.sizeOf46, aa_]⟩
theorem lr_ : gW_ Tryz.prog 27 [(0, 1)] [.slice none 0 0] := ⟨_, gi_, aj_, fun w => by simp [at_]⟩
set_option maxHeartbeats 1000000 in
theorem nH_ : Tri Tryz.prog 9 #[] [] [jA_, ha_] (fun _ : Unit => .bool true) (fun _ => []) (fun _ => []) := by
 refine V_ Tryz.func9 rfl rfl Tryz.ntmps9 rfl fun v0 => ?_
 refine g_ (c_ (a_ (e_ rfl) rfl (d_ (b_ rfl (g_ (c_ (S_ (jf_ [65] [114] [66]) rfl D_ (fun _ _ _ => by exact trivial) rfl fun _ => ?_)))))))
 refine S_ (in_ [66] [33]) rfl D_ (fun _ _ _ => by exact trivial) rfl fun _ => ?_
 refine bk_ ad_ n_ bc_ rfl rfl rfl rfl rfl rfl fun b1 => ?_
 refine bS_ (List.flatMap Fc.cells [(bw_ [65] [114] [66]), (aJ_ [66] [33])]) G_ rfl ?_
 refine a_ (e_ rfl) rfl (d_ (b_ rfl (g_ (g_ (c_ (S_ (in_ [65] [33]) rfl D_ (fun _ _ _ => by exact trivial) rfl fun _ => ?_))))))
 refine bk_ an_ w_ db_ rfl rfl rfl rfl rfl rfl fun b2 => ?_
 refine bS_ (List.flatMap df_ [0, 1]) G_ rfl ?_
 refine a_ (f_ rfl) rfl (S_ (gy_ 9 (aJ_ [65] [33]) [0, 1] (some ⟨b2, 0, none⟩) 2 [(bw_ [65] [114] [66]), (aJ_ [66] [33])] (some ⟨b1, 0, none⟩) 2 0 (by decide) (by decide) (fR_ (by decide +kernel)) (by decide) (by decide +kernel)) rfl D_ (fun v _ h => by exact ⟨h.1, h.2.1, h.2.2.1, trivial⟩) rfl fun _ => ?_)
 refine a_ (bq_ rfl) rfl (a_ (f_ rfl) rfl (i_ rfl rfl (S_ (in_ [65] [33]) rfl D_ (fun _ _ _ => by exact trivial) rfl fun _ => ?_)))
 refine i_ rfl rfl (bk_ an_ w_ db_ rfl rfl rfl rfl rfl rfl fun b3 => ?_)
 refine bS_ (List.flatMap df_ [1, 0]) G_ rfl ?_
 refine i_ rfl rfl (a_ (f_ rfl) rfl (i_ rfl rfl (S_ (gy_ 9 (aJ_ [65] [33]) [1, 0] (some ⟨b3, 0, none⟩) 2 [(bw_ [65] [114] [66]), (aJ_ [66] [33])] (some ⟨b1, 0, none⟩) 2 120 (by decide) (by decide) (fR_ (by decide +kernel)) (by decide) (by decide +kernel)) rfl D_ (fun v _ h => by exact ⟨h.1, h.2.2.1, h.2.2.2.1, trivial⟩) rfl fun _ => ?_)))
 refine i_ rfl rfl (a_ (bq_ rfl) rfl (a_ (p_ rfl rfl) rfl (a_ (f_ rfl) rfl (i_ rfl rfl (S_ (jf_ [65] [114] [65]) rfl D_ (fun _ _ _ => by exact trivial) rfl fun _ => ?_)))))
 refine i_ rfl rfl (bk_ an_ w_ db_ rfl rfl rfl rfl rfl rfl fun b4 => ?_)
 refine bS_ (List.flatMap df_ [0]) G_ rfl ?_
 refine i_ rfl rfl (S_ (in_ [65] [33]) rfl D_ (fun _ _ _ => by exact trivial) rfl fun _ => ?_)
 refine i_ rfl rfl (bk_ ad_ n_ bc_ rfl rfl rfl rfl rfl rfl fun b5 => ?_)
 refine bS_ (List.flatMap Fc.cells [(aJ_ [65] [33])]) G_ rfl ?_
 refine i_ rfl rfl (S_ (gy_ 15 (bw_ [65] [114] [65]) [0] (some ⟨b4, 0, none⟩) 1 [(aJ_ [65] [33])] (some ⟨b5, 0, none⟩) 1 0 (by decide) (by decide) (fR_ (by decide +kernel)) (by decide) (by decide +kernel)) rfl D_ (fun v _ h => by exact ⟨h.2.1, h.1, h.2.2.2.2.2.1, trivial⟩) rfl fun _ => ?_)
 refine i_ rfl rfl (a_ (bq_ rfl) rfl (a_ (p_ rfl rfl) rfl (d_ (b_ rfl (B_ rfl (J_ (b_ rfl (g_ (c_ ?_)))))))))
 refine a_ (ax_ dK_ rfl rfl) rfl (am_ bc_ rfl fun b6 => ?_)
 refine W_ 0 n_ rfl rfl rfl rfl rfl rfl (d_ (b_ rfl (g_ (c_ (a_ (ax_ dK_ rfl rfl) rfl (am_ bc_ rfl fun b7 => ?_))))))
 refine W_ 0 n_ rfl rfl rfl rfl rfl rfl (d_ (b_ rfl (g_ (g_ (c_ (a_ (M_ 0 N_ n_ rfl rfl rfl) rfl (bk_ an_ w_ db_ rfl rfl rfl rfl rfl rfl fun b8 => ?_)))))))
 refine bS_ (List.flatMap df_ [0]) G_ rfl ?_
 refine a_ (M_ 1 N_ n_ rfl rfl rfl) rfl (bk_ ad_ n_ bc_ rfl rfl rfl rfl rfl rfl fun b9 => ?_)
 refine bS_ (List.flatMap Fc.cells [(Fc.mk 3 [65] [] [102] 3 5)]) G_ rfl ?_
 refine S_ (gy_ 16 (Fc.mk 3 [65] [] [102] 0 9) [0] (some ⟨b8, 0, none⟩) 1 [(Fc.mk 3 [65] [] [102] 3 5)] (some ⟨b9, 0, none⟩) 1 0 (by decide) (by decide) (fR_ (by decide +kernel)) (by decide) (by decide +kernel)) rfl D_ (fun v _ h => by exact ⟨h.2.1, h.1, h.2.2.2.2.2.2.2.1, trivial⟩) rfl fun _ => ?_
 refine a_ (bq_ rfl) rfl (a_ (f_ rfl) rfl (i_ rfl rfl (a_ (M_ 1 N_ n_ rfl rfl rfl) rfl (i_ rfl rfl (bk_ an_ w_ db_ rfl rfl rfl rfl rfl rfl fun b10 => ?_)))))
 refine bS_ (List.flatMap df_ [0]) G_ rfl ?_
 refine i_ rfl rfl (a_ (M_ 0 N_ n_ rfl rfl rfl) rfl (i_ rfl rfl (bk_ ad_ n_ bc_ rfl rfl rfl rfl rfl rfl fun b11 => ?_)))
 refine bS_ (List.flatMap Fc.cells [(Fc.mk 3 [65] [] [102] 0 9)]) G_ rfl ?_
 refine i_ rfl rfl (S_ (gy_ 16 (Fc.mk 3 [65] [] [102] 3 5) [0] (some ⟨b10, 0, none⟩) 1 [(Fc.mk 3 [65] [] [102] 0 9)] (some ⟨b11, 0, none⟩) 1 120 (by decide) (by decide) (fR_ (by decide +kernel)) (by decide) (by decide +kernel)) rfl D_ (fun v _ h => by exact ⟨h.2.1, h.1, h.2.2.2.2.2.2.2.2.2.1, trivial⟩) rfl fun _ => ?_)
 refine i_ rfl rfl (a_ (bq_ rfl) rfl (a_ (p_ rfl rfl) rfl (d_ (b_ rfl (B_ rfl (J_ (b_ rfl (g_ (c_ ?_)))))))))
 refine S_ (in_ [42] [42]) rfl D_ (fun _ _ _ => by exact trivial) rfl fun _ => ?_
 refine a_ (ax_ nA_ rfl rfl) rfl (bk_ ao_ aD_ bx_ rfl rfl rfl rfl rfl rfl fun b12 => ?_)
 refine bS_ (List.flatMap Stp.cells [(Stp.mk 1 (aJ_ [42] [42]) (-1) none 0 ([] : List Int))]) G_ rfl ?_
 refine a_ (ax_ lr_ rfl rfl) rfl (am_ gi_ rfl fun b13 => ?_)
 refine W_ 0 ck_ rfl rfl rfl rfl rfl rfl (d_ (b_ rfl (g_ (c_ (a_ (ax_ lr_ rfl rfl) rfl (S_ (oB_ [] none 0 [0, 0, 0, 0] 0 sn_e0 (by decide) (by decide) (by decide)) rfl D_ (fun v _ h => by exact ⟨(.inl rfl), fW_, trivial⟩) rfl fun ⟨⟨sve1, He1⟩, he1⟩ => ?_))))))
 dsimp only
 refine bj_ qc_ (ef_ he1 fa_ fun ea1 ec1 hea1 hcea1 hmea1 hzea1 => ?_)
 subst hea1
 refine a_ (f_ rfl) rfl (a_ (aU_ rfl rfl) rfl (a_ (aU_ rfl rfl) rfl (a_ (e_ rfl) rfl (a_ (e_ rfl) rfl (d_ (b_ rfl (g_ (c_ (a_ (M_ 0 dX_ ck_ rfl rfl rfl) rfl ?_)))))))))
 refine S_ (oB_ [fb_] (some ⟨b12, 0, none⟩) 1 (fi_ [fb_]).1 0 pW_ (by decide) (by decide) (by decide)) rfl D_ (fun v _ h => by exact ⟨h.2.1, hQ_, trivial⟩) rfl fun ⟨⟨sve2, He2⟩, he2⟩ => ?_
 dsimp only
 refine bj_ qc_ (ef_ he2 fa_ fun ea2 ec2 hea2 hcea2 hmea2 hzea2 => ?_)
 subst hea2
 refine a_ (f_ rfl) rfl (a_ (aU_ rfl rfl) rfl (a_ (aU_ rfl rfl) rfl (a_ (e_ rfl) rfl (a_ (e_ rfl) rfl (d_ (b_ rfl (g_ (c_ (a_ (f_ rfl) rfl ?_)))))))))
 refine S_ (lh_ ((fi_ [fb_]).1) ea2 ec2 ⟨hcea2, hmea2, hzea2⟩) rfl D_ (fun v _ h => by exact ⟨h.1, trivial⟩) rfl fun ⟨⟨⟨Y1, ya1, yc1⟩, ye1⟩, hD1, hY1, hM1, hZ1⟩ => ?_
 dsimp only
 dsimp only at hD1 hY1 hM1 hZ1
 obtain ⟨rfl, hS1⟩ := sn_d1 hD1; have hl1 := hS1.len
 refine a_ (f_ rfl) rfl (a_ (aU_ rfl rfl) rfl (a_ (aU_ rfl rfl) rfl (am_ gi_ rfl fun b14 => ?_)))
 refine W_ 0 ck_ rfl rfl rfl rfl rfl rfl (a_ (e_ rfl) rfl (d_ (b_ rfl (g_ (c_ (bk_ bJ_ fG_ Tryz.zeroValue5 rfl rfl rfl rfl rfl rfl fun b15 => ?_))))))
 refine bS_ (List.flatMap u8C [(0 : UInt8)]) G_ rfl ?_
 refine S_ (lh_ [(0 : UInt8)] (some ⟨b15, 0, none⟩) 1 ⟨Nat.le_refl _, (show 1 ≤ maxLen by decide), fun q => by cases q⟩) rfl D_ (fun v _ h => by exact ⟨h.1, trivial⟩) rfl fun ⟨⟨⟨Y2, ya2, yc2⟩, ye2⟩, hD2, hY2, hM2, hZ2⟩ => ?_
 dsimp only
 dsimp only at hD2 hY2 hM2 hZ2
 obtain rfl := sn_d0 hD2
 refine a_ (f_ rfl) rfl (a_ (aU_ rfl rfl) rfl (a_ (aU_ rfl rfl) rfl (am_ gi_ rfl fun b16 => ?_)))
 refine W_ 0 ck_ rfl rfl rfl rfl rfl rfl (a_ (e_ rfl) rfl (d_ (b_ rfl (g_ (g_ ?_)))))
 refine aw_ (by kernel_rfl) ?_
 refine I_ 36 [1] (by kernel_rfl) (fun _ a b => ⟨a, b⟩) (l_ rfl (M_ 2 dX_ ck_ rfl rfl rfl) rfl (H_ (P_ 0 rfl (by kernel_rfl) (S_ (in_ [42] [42]) rfl D_ (fun _ _ _ => by exact trivial) rfl fun _ => ?_))))
 refine d_ (z_ rfl (F_ (fun _ a b => ⟨a, b⟩) (P_ 2 rfl (by kernel_rfl) (S_ (hm_ [] none 0 (aJ_ [42] [42]) [fb_] (some ⟨b12, 0, none⟩) 1 (by decide) (fun x hx => by simp at hx) (by decide) (by decide) (by decide)) rfl D_ (fun v _ h => by exact ⟨.inl rfl, h.2.2.2.2.2.2.2.1, hQ_, h.2.2.2.2.2.2.2.2.2.2.2.2.2.2.2.2.2.1, trivial⟩) rfl fun ⟨ce1, hC1⟩ => ?_))))
 dsimp only
 try dsimp only at hC1
 obtain rfl := sn_c1 hC1
 refine d_ (z_ rfl (F_ (fun _ a b => ⟨a, b⟩) (I_ 31 [3, 4, 6] (by kernel_rfl) (fun _ a b => ⟨a, b⟩) (l_ rfl (bP_ (bA_ rfl rfl) (show _ = Value.bool false from congrArg Value.bool (by decide))) rfl (l_ rfl (f_ rfl) rfl (u_ rfl rfl rfl (ax_ lr_ rfl rfl) rfl (H_ (P_ 5 rfl (by kernel_rfl) (i_ rfl rfl ?_)))))))))
 refine S_ (in_ [42] [42]) rfl D_ (fun _ _ _ => by exact trivial) rfl fun _ => ?_
 refine d_ (z_ rfl (F_ (fun _ a b => ⟨a, b⟩) (P_ 7 rfl (by kernel_rfl) (i_ rfl rfl (S_ (hm_ [] none 0 (aJ_ [42] [42]) [] none 0 (by decide) (fun x hx => by simp at hx) (by decide) (by decide) (by decide)) rfl D_ (fun v _ h => by exact ⟨.inl rfl, (.inl rfl), fW_, h.2.2.2.2.2.2.2.2.2.2.2.2.2.2.2.2.2.1, trivial⟩) rfl fun ⟨ce2, hC2⟩ => ?_)))))
 dsimp only
 try dsimp only at hC2
 obtain rfl := sn_c2 hC2
 refine d_ (z_ rfl (F_ (fun _ a b => ⟨a, b⟩) (I_ 21 [8, 9, 10, 11, 12, 13, 14, 15] (by kernel_rfl) (fun _ a b => ⟨a, b⟩) (u_ rfl rfl rfl (bP_ (bA_ rfl rfl) (show _ = Value.bool false from congrArg Value.bool (by decide))) rfl (l_ rfl (p_ rfl rfl) rfl (l_ rfl (f_ rfl) rfl (u_ rfl rfl rfl (f_ rfl) rfl (u_ rfl rfl rfl (lY_ iN_ kk_ bT_ rfl (fun v _ h => by exact h.2.2.2.2.2.2.1)) rfl ?_))))))))
 refine ai_ rfl rfl rfl (fD_ rfl rfl) rfl fun r1 hr1 => ?_
 refine l_ rfl (p_ rfl rfl) rfl (l_ rfl (f_ rfl) rfl (H_ ?_))
 cases r1
 ·
  replace hr1 := bt_ hr1
  refine I_ 11 [16, 17, 18, 19, 20, 21, 22, 23, 24, 25] (by kernel_rfl) (fun _ a b => ⟨a, b⟩) (u_ rfl rfl rfl (f_ rfl) rfl (u_ rfl rfl rfl (bP_ (bA_ rfl rfl) (show _ = Value.bool false from congrArg Value.bool (by decide))) rfl (l_ rfl (p_ rfl rfl) rfl (l_ rfl (f_ rfl) rfl (u_ rfl rfl rfl (f_ rfl) rfl (u_ rfl rfl rfl (bP_ (bA_ rfl rfl) (show _ = Value.bool false from congrArg Value.bool (by decide))) rfl (l_ rfl (p_ rfl rfl) rfl (l_ rfl (f_ rfl) rfl (u_ rfl rfl rfl (M_ 1 dX_ ck_ rfl rfl rfl) rfl ?_)))))))))
  refine u_ rfl rfl rfl (M_ 2 dX_ ck_ rfl rfl rfl) rfl (H_ (P_ 26 rfl (by kernel_rfl) (i_ rfl rfl (S_ (pj_ Y1 ya1 yc1 [fb_] (some ⟨b12, 0, none⟩) 1 hS1 (by rw [hl1]; decide) (fun s hs => nI_ hS1 (by decide) s hs)) rfl D_ (fun v _ h => by exact ⟨h.2.2.2.1, h.2.2.2.2.1, h.2.2.2.2.2.2.2.1, hQ_, trivial⟩) rfl fun _ => ?_))))
  refine d_ (z_ rfl (F_ (fun _ a b => ⟨a, b⟩) (I_ 0 [27, 28, 29, 30, 31, 32, 33, 34, 35, 36] (by kernel_rfl) (fun _ a b => ⟨a, b⟩) (u_ rfl rfl rfl (bq_ rfl) rfl (l_ rfl (p_ rfl rfl) rfl (l_ rfl (f_ rfl) rfl (u_ rfl rfl rfl (f_ rfl) rfl (u_ rfl rfl rfl (bP_ (bA_ rfl rfl) (show _ = Value.bool false from congrArg Value.bool (by decide))) rfl (l_ rfl (p_ rfl rfl) rfl ?_)))))))))
  refine l_ rfl (f_ rfl) rfl (u_ rfl rfl rfl (f_ rfl) rfl (u_ rfl rfl rfl (bP_ (bA_ rfl rfl) (show _ = Value.bool false from congrArg Value.bool (by decide))) rfl (l_ rfl (p_ rfl rfl) rfl (H_ (R_ (by kernel_rfl) (b_ rfl (B_ rfl (J_ (b_ rfl ?_)))))))))
  refine g_ (c_ (a_ (ax_ strt58 rfl rfl) rfl (S_ (src0_c (Ax.mk 7 false (Con.mk 0 [] 0 0 none 0 []) (Con.mk 0 [] 0 0 none 0 []) none 0 [] [114] [] []) ok_ax7 oy_ rfl) rfl D_ (fun v _ h => by exact ⟨pq_, h.2.2.2.2.2.2.2.2.2.2.2.2.2.2.2.2.2.2.1, trivial⟩) rfl fun _ => ?_)))
  refine a_ (bP_ (ab_ rfl rfl) (show _ = Value.bool true from congrArg Value.bool (by decide))) rfl (a_ (e_ rfl) rfl (d_ (b_ rfl (y_ ?_))))
  exact U_ Tryz.results9 () rfl D_ (fun _ _ _ => trivial)
 ·
  replace hr1 := bs_ hr1
  exact absurd rfl hr1
end Go.Proofs.YtaffcjgphlhppaaGreatDoor
